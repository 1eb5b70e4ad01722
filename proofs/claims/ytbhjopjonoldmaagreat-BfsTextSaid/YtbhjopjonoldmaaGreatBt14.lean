/- Facts: selfstab/types.formed. Printed by wip/facts.py. -/
import Derived.Test.YtbhjopjonoldmaaGreatBt13
namespace Go.Proofs.YtbhjopjonoldmaaGreat
namespace Ev
open Go
set_option maxRecDepth 1000000
def Bt14_0 : Fact := ⟨85, [.agg #[.string (by8 [108, 111, 119]), .slice (some ⟨1222, 0, none⟩) 23 CU, .slice (some ⟨1411, 0, none⟩) 2 CU], .int .i64 2], 1500, [⟨1222, 169, 2, [.int .i64 41, .int .i64 0, .int .i64 19, .int .i64 0, .int .i64 10, .int .i64 0, .int .i64 42, .int .i64 0, .int .i64 36, .int .i64 0, .int .i64 5, .int .i64 0, .int .i64 43, .int .i64 0, .int .i64 37, .int .i64 0, .int .i64 24, .int .i64 0, .int .i64 12, .int .i64 0, .int .i64 6, .int .i64 0, .int .i64 33, .int .i64 0, .int .i64 24, .int .i64 0, .int .i64 12, .int .i64 0, .int .i64 1, .int .i64 1, .int .i64 6, .int .i64 0, .int .i64 36, .int .i64 0, .int .i64 5, .int .i64 1, .int .i64 23, .int .i64 0, .int .i64 35, .int .i64 0, .int .i64 12, .int .i64 0, .int .i64 24, .int .i64 0, .int .i64 12, .int .i64 0]⟩, ⟨1332, 169, 2, [.int .i64 43, .int .i64 0, .int .i64 37, .int .i64 0, .int .i64 24, .int .i64 0, .int .i64 12, .int .i64 0, .int .i64 6, .int .i64 0, .int .i64 33, .int .i64 0, .int .i64 24, .int .i64 0, .int .i64 12, .int .i64 0, .int .i64 1, .int .i64 1, .int .i64 6, .int .i64 0]⟩, ⟨1404, 169, 2, [.int .i64 23, .int .i64 0, .int .i64 35, .int .i64 0, .int .i64 12, .int .i64 0, .int .i64 24, .int .i64 0, .int .i64 12, .int .i64 0]⟩, ⟨1411, 138, 2, [.int .i64 0, .slice (some ⟨1332, 0, none⟩) 10 CU, .int .i64 1, .slice (some ⟨1404, 0, none⟩) 5 CU]⟩], .bool true, 1732, [], 1500⟩
def Bt14L : List Fact := [Bt14_0]
theorem Bt14L_ok : AllOk Bt14L := AllOk.seq Bt13A_ok (by kernel_rfl)
def Bt14A : List Fact := Bt14L ++ Bt13A
theorem Bt14A_ok : AllOk Bt14A := Bt14L_ok.append Bt13A_ok
end Ev
end Go.Proofs.YtbhjopjonoldmaaGreat
