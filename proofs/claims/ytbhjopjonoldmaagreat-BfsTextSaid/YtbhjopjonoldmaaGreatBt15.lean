/- Facts: selfstab/types.Of. Printed by wip/facts.py. -/
import Derived.Test.YtbhjopjonoldmaaGreatBt14
namespace Go.Proofs.YtbhjopjonoldmaaGreat
namespace Ev
open Go
set_option maxRecDepth 1000000
def Bt15_0 : Fact := ⟨145, [.slice (some ⟨945, 0, none⟩) 9 CU, .slice (some ⟨1733, 0, none⟩) 2 2, .bool false], 1738, [⟨945, 169, 2, [.int .i64 41, .int .i64 0, .int .i64 10, .int .i64 0, .int .i64 42, .int .i64 0, .int .i64 36, .int .i64 0, .int .i64 5, .int .i64 0, .int .i64 1, .int .i64 0, .int .i64 36, .int .i64 0, .int .i64 5, .int .i64 1, .int .i64 4, .int .i64 0]⟩, ⟨1733, 3, 1, [.int .i64 1, .int .i64 3]⟩], .tuple #[.int .i64 2, .int .i64 0], 1829, [], 1738⟩
def Bt15_1 : Fact := ⟨145, [.slice (some ⟨957, 0, none⟩) 1 1, .slice (some ⟨1733, 0, none⟩) 2 2, .bool false], 1830, [⟨957, 169, 2, [.int .i64 1, .int .i64 0]⟩, ⟨1733, 3, 1, [.int .i64 1, .int .i64 3]⟩], .tuple #[.int .i64 1, .int .i64 0], 1841, [], 1830⟩
def Bt15_2 : Fact := ⟨145, [.slice (some ⟨975, 0, none⟩) 1 1, .slice (some ⟨1733, 0, none⟩) 2 2, .bool false], 1842, [⟨975, 169, 2, [.int .i64 4, .int .i64 0]⟩, ⟨1733, 3, 1, [.int .i64 1, .int .i64 3]⟩], .tuple #[.int .i64 3, .int .i64 0], 1853, [], 1842⟩
def Bt15L : List Fact := [Bt15_0, Bt15_1, Bt15_2]
theorem Bt15L_ok : AllOk Bt15L := AllOk.seq Bt14A_ok (by kernel_rfl)
def Bt15A : List Fact := Bt15L ++ Bt14A
theorem Bt15A_ok : AllOk Bt15A := Bt15L_ok.append Bt14A_ok
end Ev
end Go.Proofs.YtbhjopjonoldmaaGreat
