/- Facts. Printed by wip/facts3.py. -/
import Derived.Test.YtbhjopjonoldmaaGreatCtC
import Derived.Test.YtbhjopjonoldmaaGreatCt1
import Derived.Test.YtbhjopjonoldmaaGreatCt2
namespace Go.Proofs.YtbhjopjonoldmaaGreat
namespace Ev
open Go
set_option maxRecDepth 1000000
/- selfstab/program.Parse -/
def Ctg6_0 : Fact := ⟨10, [.string Cttxt0], 0, [], .tuple #[.agg #[.string (by8 [99, 101, 110, 116, 101, 114]), .slice (some ⟨531, 0, none⟩) 1 CU, .slice (some ⟨874, 0, none⟩) 1 CU], .int .i64 0, .int .i64 0], 1407, [⟨531, 33, 6, [.string (by8 [104]), .int .i64 1, .int .i64 0, .int .i64 0, .int .i64 1, .int .i64 0]⟩, ⟨705, 169, 2, [.int .i64 36, .int .i64 0, .int .i64 5, .int .i64 0, .int .i64 43, .int .i64 0, .int .i64 37, .int .i64 0, .int .i64 9, .int .i64 0, .int .i64 1, .int .i64 2, .int .i64 1, .int .i64 0, .int .i64 43, .int .i64 0, .int .i64 37, .int .i64 0, .int .i64 28, .int .i64 0, .int .i64 12, .int .i64 0, .int .i64 6, .int .i64 0, .int .i64 33, .int .i64 0, .int .i64 28, .int .i64 0, .int .i64 12, .int .i64 0, .int .i64 1, .int .i64 1, .int .i64 6, .int .i64 0]⟩, ⟨861, 169, 2, [.int .i64 43, .int .i64 0, .int .i64 37, .int .i64 0, .int .i64 9, .int .i64 0, .int .i64 1, .int .i64 2, .int .i64 1, .int .i64 0, .int .i64 43, .int .i64 0, .int .i64 37, .int .i64 0, .int .i64 28, .int .i64 0, .int .i64 12, .int .i64 0, .int .i64 6, .int .i64 0, .int .i64 33, .int .i64 0, .int .i64 28, .int .i64 0, .int .i64 12, .int .i64 0, .int .i64 1, .int .i64 1, .int .i64 6, .int .i64 0]⟩, ⟨870, 138, 2, [.int .i64 0, .slice (some ⟨861, 0, none⟩) 15 CU]⟩, ⟨874, 93, 3, [.string (by8 [102, 105, 120]), .slice (some ⟨705, 0, none⟩) 17 CU, .slice (some ⟨870, 0, none⟩) 1 CU]⟩], 0⟩
def Ctg6L : List Fact := [Ctg6_0]
theorem Ctg6L_ok : AllOk Ctg6L := AllOk.seq (AllOk.cons (Ctg1L_ok _ (List.Mem.head _)) (AllOk.cons (Ctg4L_ok _ (List.Mem.head _)) (AllOk.cons (Ctg5L_ok _ (List.Mem.head _)) AllOk.nil))) (by kernel_rfl)
end Ev
end Go.Proofs.YtbhjopjonoldmaaGreat
