/- Facts. Printed by wip/facts3.py. -/
import Derived.Test.YtbhjopjonoldmaaGreatPtC
import Derived.Test.YtbhjopjonoldmaaGreatPt3
import Derived.Test.YtbhjopjonoldmaaGreatPt4
import Derived.Test.YtbhjopjonoldmaaGreatPt5
namespace Go.Proofs.YtbhjopjonoldmaaGreat
namespace Ev
open Go
set_option maxRecDepth 1000000
/- selfstab/program.Parse -/
def Ptg15_0 : Fact := ⟨10, [.string Pttxt0], 0, [], .tuple #[.agg #[.string (by8 [112, 97, 116, 104, 115]), .slice (some ⟨1117, 0, none⟩) 2 CU, .slice (some ⟨1812, 0, none⟩) 2 CU], .int .i64 0, .int .i64 0], 2957, [⟨1117, 33, 6, [.string (by8 [100]), .int .i64 1, .int .i64 0, .int .i64 0, .int .i64 15, .int .i64 0, .string (by8 [112]), .int .i64 3, .int .i64 0, .int .i64 0, .int .i64 0, .int .i64 0]⟩, ⟨1196, 169, 2, [.int .i64 41, .int .i64 0, .int .i64 10, .int .i64 0, .int .i64 42, .int .i64 0, .int .i64 36, .int .i64 0, .int .i64 5, .int .i64 0, .int .i64 1, .int .i64 0, .int .i64 36, .int .i64 0, .int .i64 5, .int .i64 1, .int .i64 4, .int .i64 0]⟩, ⟨1208, 169, 2, [.int .i64 1, .int .i64 0]⟩, ⟨1226, 169, 2, [.int .i64 4, .int .i64 0]⟩, ⟨1233, 138, 2, [.int .i64 0, .slice (some ⟨1208, 0, none⟩) 1 1, .int .i64 1, .slice (some ⟨1226, 0, none⟩) 1 1]⟩, ⟨1546, 169, 2, Ptrow3⟩, ⟨1697, 169, 2, [.int .i64 43, .int .i64 0, .int .i64 37, .int .i64 0, .int .i64 24, .int .i64 0, .int .i64 33, .int .i64 0, .int .i64 12, .int .i64 0, .int .i64 16, .int .i64 0, .int .i64 30, .int .i64 0, .int .i64 1, .int .i64 15, .int .i64 6, .int .i64 0, .int .i64 24, .int .i64 0, .int .i64 33, .int .i64 0, .int .i64 12, .int .i64 0, .int .i64 16, .int .i64 0, .int .i64 30, .int .i64 0, .int .i64 1, .int .i64 15, .int .i64 6, .int .i64 0]⟩, ⟨1801, 169, 2, [.int .i64 23, .int .i64 0, .int .i64 35, .int .i64 0, .int .i64 33, .int .i64 0, .int .i64 12, .int .i64 0, .int .i64 16, .int .i64 0, .int .i64 24, .int .i64 0, .int .i64 33, .int .i64 0, .int .i64 12, .int .i64 0, .int .i64 16, .int .i64 0]⟩, ⟨1808, 138, 2, [.int .i64 0, .slice (some ⟨1697, 0, none⟩) 16 CU, .int .i64 1, .slice (some ⟨1801, 0, none⟩) 9 CU]⟩, ⟨1812, 93, 3, [.string (by8 [116, 111, 112]), .slice (some ⟨1196, 0, none⟩) 9 CU, .slice (some ⟨1233, 0, none⟩) 2 CU, .string (by8 [108, 111, 119]), .slice (some ⟨1546, 0, none⟩) 33 CU, .slice (some ⟨1808, 0, none⟩) 2 CU]⟩], 0⟩
def Ptg15L : List Fact := [Ptg15_0]
theorem Ptg15L_ok : AllOk Ptg15L := AllOk.seq (AllOk.cons (Ptg3L_ok _ (List.Mem.head _)) (AllOk.cons (Ptg10L_ok _ (List.Mem.head _)) (AllOk.cons (Ptg12L_ok _ (List.Mem.head _)) (AllOk.cons (Ptg14L_ok _ (List.Mem.head _)) AllOk.nil)))) (by kernel_rfl)
end Ev
end Go.Proofs.YtbhjopjonoldmaaGreat
