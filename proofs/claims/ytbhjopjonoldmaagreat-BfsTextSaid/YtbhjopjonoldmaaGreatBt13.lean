/- Facts: selfstab/types.formed. Printed by wip/facts.py. -/
import Derived.Test.YtbhjopjonoldmaaGreatBt12
namespace Go.Proofs.YtbhjopjonoldmaaGreat
namespace Ev
open Go
set_option maxRecDepth 1000000
def Bt13_0 : Fact := ⟨85, [.agg #[.string (by8 [116, 111, 112]), .slice (some ⟨945, 0, none⟩) 9 CU, .slice (some ⟨982, 0, none⟩) 2 CU], .int .i64 2], 1429, [⟨945, 169, 2, [.int .i64 41, .int .i64 0, .int .i64 10, .int .i64 0, .int .i64 42, .int .i64 0, .int .i64 36, .int .i64 0, .int .i64 5, .int .i64 0, .int .i64 1, .int .i64 0, .int .i64 36, .int .i64 0, .int .i64 5, .int .i64 1, .int .i64 4, .int .i64 0]⟩, ⟨957, 169, 2, [.int .i64 1, .int .i64 0]⟩, ⟨975, 169, 2, [.int .i64 4, .int .i64 0]⟩, ⟨982, 138, 2, [.int .i64 0, .slice (some ⟨957, 0, none⟩) 1 1, .int .i64 1, .slice (some ⟨975, 0, none⟩) 1 1]⟩], .bool true, 1499, [], 1429⟩
def Bt13L : List Fact := [Bt13_0]
theorem Bt13L_ok : AllOk Bt13L := AllOk.seq Bt12A_ok (by kernel_rfl)
def Bt13A : List Fact := Bt13L ++ Bt12A
theorem Bt13A_ok : AllOk Bt13A := Bt13L_ok.append Bt12A_ok
end Ev
end Go.Proofs.YtbhjopjonoldmaaGreat
