/- Facts. Printed by wip/facts3.py. -/
import Derived.Test.YtbhjopjonoldmaaGreatCtC
namespace Go.Proofs.YtbhjopjonoldmaaGreat
namespace Ev
open Go
set_option maxRecDepth 1000000
/- selfstab/types.typed -/
def Ctg5_0 : Fact := ⟨87, [.agg #[.string (by8 [102, 105, 120]), .slice (some ⟨705, 0, none⟩) 17 CU, .slice (some ⟨870, 0, none⟩) 1 CU], .slice (some ⟨1080, 0, none⟩) 1 1], 1083, [⟨705, 169, 2, [.int .i64 36, .int .i64 0, .int .i64 5, .int .i64 0, .int .i64 43, .int .i64 0, .int .i64 37, .int .i64 0, .int .i64 9, .int .i64 0, .int .i64 1, .int .i64 2, .int .i64 1, .int .i64 0, .int .i64 43, .int .i64 0, .int .i64 37, .int .i64 0, .int .i64 28, .int .i64 0, .int .i64 12, .int .i64 0, .int .i64 6, .int .i64 0, .int .i64 33, .int .i64 0, .int .i64 28, .int .i64 0, .int .i64 12, .int .i64 0, .int .i64 1, .int .i64 1, .int .i64 6, .int .i64 0]⟩, ⟨861, 169, 2, [.int .i64 43, .int .i64 0, .int .i64 37, .int .i64 0, .int .i64 9, .int .i64 0, .int .i64 1, .int .i64 2, .int .i64 1, .int .i64 0, .int .i64 43, .int .i64 0, .int .i64 37, .int .i64 0, .int .i64 28, .int .i64 0, .int .i64 12, .int .i64 0, .int .i64 6, .int .i64 0, .int .i64 33, .int .i64 0, .int .i64 28, .int .i64 0, .int .i64 12, .int .i64 0, .int .i64 1, .int .i64 1, .int .i64 6, .int .i64 0]⟩, ⟨870, 138, 2, [.int .i64 0, .slice (some ⟨861, 0, none⟩) 15 CU]⟩, ⟨1080, 3, 1, [.int .i64 1]⟩], .bool true, 1407, [], 1083⟩
def Ctg5L : List Fact := [Ctg5_0]
theorem Ctg5L_ok : AllOk Ctg5L := AllOk.seq AllOk.nil (by kernel_rfl)
/- selfstab/selfstablaw27.known -/
def Ctg7_0 : Fact := ⟨26, [], 1410, [], .bool true, 1737, [], 1410⟩
def Ctg7L : List Fact := [Ctg7_0]
theorem Ctg7L_ok : AllOk Ctg7L := AllOk.seq AllOk.nil (by kernel_rfl)
end Ev
end Go.Proofs.YtbhjopjonoldmaaGreat
