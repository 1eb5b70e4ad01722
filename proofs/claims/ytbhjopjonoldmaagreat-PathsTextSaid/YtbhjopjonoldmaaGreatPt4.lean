/- Facts. Printed by wip/facts3.py. -/
import Derived.Test.YtbhjopjonoldmaaGreatPtC
import Derived.Test.YtbhjopjonoldmaaGreatPt2
namespace Go.Proofs.YtbhjopjonoldmaaGreat
namespace Ev
open Go
set_option maxRecDepth 1000000
/- selfstab/types.typed -/
def Ptg14_0 : Fact := ⟨87, [.agg #[.string (by8 [108, 111, 119]), .slice (some ⟨1546, 0, none⟩) 33 CU, .slice (some ⟨1808, 0, none⟩) 2 CU], .slice (some ⟨2250, 0, none⟩) 2 2], 2371, [⟨1546, 169, 2, Ptrow3⟩, ⟨1697, 169, 2, [.int .i64 43, .int .i64 0, .int .i64 37, .int .i64 0, .int .i64 24, .int .i64 0, .int .i64 33, .int .i64 0, .int .i64 12, .int .i64 0, .int .i64 16, .int .i64 0, .int .i64 30, .int .i64 0, .int .i64 1, .int .i64 15, .int .i64 6, .int .i64 0, .int .i64 24, .int .i64 0, .int .i64 33, .int .i64 0, .int .i64 12, .int .i64 0, .int .i64 16, .int .i64 0, .int .i64 30, .int .i64 0, .int .i64 1, .int .i64 15, .int .i64 6, .int .i64 0]⟩, ⟨1801, 169, 2, [.int .i64 23, .int .i64 0, .int .i64 35, .int .i64 0, .int .i64 33, .int .i64 0, .int .i64 12, .int .i64 0, .int .i64 16, .int .i64 0, .int .i64 24, .int .i64 0, .int .i64 33, .int .i64 0, .int .i64 12, .int .i64 0, .int .i64 16, .int .i64 0]⟩, ⟨1808, 138, 2, [.int .i64 0, .slice (some ⟨1697, 0, none⟩) 16 CU, .int .i64 1, .slice (some ⟨1801, 0, none⟩) 9 CU]⟩, ⟨2250, 3, 1, [.int .i64 1, .int .i64 3]⟩], .bool true, 2957, [], 2371⟩
def Ptg14L : List Fact := [Ptg14_0]
theorem Ptg14L_ok : AllOk Ptg14L := AllOk.seq (AllOk.cons (Ptg13L_ok _ (List.Mem.head _)) AllOk.nil) (by kernel_rfl)
end Ev
end Go.Proofs.YtbhjopjonoldmaaGreat
