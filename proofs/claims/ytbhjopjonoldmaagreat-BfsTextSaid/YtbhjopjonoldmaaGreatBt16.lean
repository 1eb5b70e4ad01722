/- Facts: selfstab/types.Of. Printed by wip/facts.py. -/
import Derived.Test.YtbhjopjonoldmaaGreatBt15
namespace Go.Proofs.YtbhjopjonoldmaaGreat
namespace Ev
open Go
set_option maxRecDepth 1000000
def Bt16_0 : Fact := ⟨145, [.slice (some ⟨1222, 0, none⟩) 23 CU, .slice (some ⟨1733, 0, none⟩) 2 2, .bool false], 1855, [⟨1222, 169, 2, [.int .i64 41, .int .i64 0, .int .i64 19, .int .i64 0, .int .i64 10, .int .i64 0, .int .i64 42, .int .i64 0, .int .i64 36, .int .i64 0, .int .i64 5, .int .i64 0, .int .i64 43, .int .i64 0, .int .i64 37, .int .i64 0, .int .i64 24, .int .i64 0, .int .i64 12, .int .i64 0, .int .i64 6, .int .i64 0, .int .i64 33, .int .i64 0, .int .i64 24, .int .i64 0, .int .i64 12, .int .i64 0, .int .i64 1, .int .i64 1, .int .i64 6, .int .i64 0, .int .i64 36, .int .i64 0, .int .i64 5, .int .i64 1, .int .i64 23, .int .i64 0, .int .i64 35, .int .i64 0, .int .i64 12, .int .i64 0, .int .i64 24, .int .i64 0, .int .i64 12, .int .i64 0]⟩, ⟨1733, 3, 1, [.int .i64 1, .int .i64 3]⟩], .tuple #[.int .i64 2, .int .i64 0], 2086, [], 1855⟩
def Bt16_1 : Fact := ⟨145, [.slice (some ⟨1332, 0, none⟩) 10 CU, .slice (some ⟨1733, 0, none⟩) 2 2, .bool false], 2087, [⟨1332, 169, 2, [.int .i64 43, .int .i64 0, .int .i64 37, .int .i64 0, .int .i64 24, .int .i64 0, .int .i64 12, .int .i64 0, .int .i64 6, .int .i64 0, .int .i64 33, .int .i64 0, .int .i64 24, .int .i64 0, .int .i64 12, .int .i64 0, .int .i64 1, .int .i64 1, .int .i64 6, .int .i64 0]⟩, ⟨1733, 3, 1, [.int .i64 1, .int .i64 3]⟩], .tuple #[.int .i64 1, .int .i64 0], 2188, [], 2087⟩
def Bt16_2 : Fact := ⟨145, [.slice (some ⟨1404, 0, none⟩) 5 CU, .slice (some ⟨1733, 0, none⟩) 2 2, .bool false], 2189, [⟨1404, 169, 2, [.int .i64 23, .int .i64 0, .int .i64 35, .int .i64 0, .int .i64 12, .int .i64 0, .int .i64 24, .int .i64 0, .int .i64 12, .int .i64 0]⟩, ⟨1733, 3, 1, [.int .i64 1, .int .i64 3]⟩], .tuple #[.int .i64 3, .int .i64 0], 2240, [], 2189⟩
def Bt16L : List Fact := [Bt16_0, Bt16_1, Bt16_2]
theorem Bt16L_ok : AllOk Bt16L := AllOk.seq Bt15A_ok (by kernel_rfl)
def Bt16A : List Fact := Bt16L ++ Bt15A
theorem Bt16A_ok : AllOk Bt16A := Bt16L_ok.append Bt15A_ok
end Ev
end Go.Proofs.YtbhjopjonoldmaaGreat
