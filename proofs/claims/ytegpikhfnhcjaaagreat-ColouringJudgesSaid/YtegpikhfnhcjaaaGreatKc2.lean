/- Facts. Printed by wip/facts4.py. -/
import Derived.Test.YtegpikhfnhcjaaaGreatKcC
import Derived.Test.YtegpikhfnhcjaaaGreatKc1
namespace Go.Proofs.YtegpikhfnhcjaaaGreat
namespace Ev
open Go
set_option maxRecDepth 1000000
def Kcm0 : Fact := Kcg1_12.move [275, 321, 357, 364, 368] 498
theorem Kcm0_ok : FactOk Tryz.prog Kcm0 := fact_move (AllOk.at_ Kcg1L_ok 12 rfl) (by kernel_rfl)
/- selfstab/types.Valid -/
def Kcg2_0 : Fact := ⟨75, [.agg #[.string (by8 [99, 111, 108, 111, 117, 114, 105, 110, 103]), .slice (some ⟨275, 0, none⟩) 1 CU, .slice (some ⟨368, 0, none⟩) 1 CU]], 497, [⟨275, 71, 6, [.string (by8 [99]), .int .i64 1, .int .i64 0, .int .i64 0, .int .i64 1, .int .i64 0]⟩, Kcb1, Kcb2, Kcb3, ⟨368, 126, 3, [.string (by8 [102, 105, 120]), .slice (some ⟨321, 0, none⟩) 4 CU, .slice (some ⟨364, 0, none⟩) 1 CU]⟩], .bool true, 614, [], 497⟩
/- selfstab/domain.Fits -/
def Kcg2_1 : Fact := ⟨48, [.agg #[.string (by8 [99, 111, 108, 111, 117, 114, 105, 110, 103]), .slice (some ⟨275, 0, none⟩) 1 CU, .slice (some ⟨368, 0, none⟩) 1 CU], .agg #[.slice (some ⟨14, 0, none⟩) 3 CU, .slice (some ⟨7, 0, none⟩) 3 3]], 495, [Kcb4, Kcb5, Kcb6, Kcb7, Kcb8, ⟨275, 71, 6, [.string (by8 [99]), .int .i64 1, .int .i64 0, .int .i64 0, .int .i64 1, .int .i64 0]⟩, Kcb1, Kcb2, Kcb3, ⟨368, 126, 3, [.string (by8 [102, 105, 120]), .slice (some ⟨321, 0, none⟩) 4 CU, .slice (some ⟨364, 0, none⟩) 1 CU]⟩], .int .i64 0, 623, [], 495⟩
/- selfstab/memory.Check -/
def Kcg2_2 : Fact := ⟨27, [.agg #[.string (by8 [99, 111, 108, 111, 117, 114, 105, 110, 103]), .slice (some ⟨275, 0, none⟩) 1 CU, .slice (some ⟨368, 0, none⟩) 1 CU], .agg #[.slice (some ⟨14, 0, none⟩) 3 CU, .slice (some ⟨7, 0, none⟩) 3 3], .slice (some ⟨490, 0, none⟩) 3 3], 493, [Kcb4, Kcb5, Kcb6, Kcb7, Kcb8, ⟨275, 71, 6, [.string (by8 [99]), .int .i64 1, .int .i64 0, .int .i64 0, .int .i64 1, .int .i64 0]⟩, Kcb1, Kcb2, Kcb3, ⟨368, 126, 3, [.string (by8 [102, 105, 120]), .slice (some ⟨321, 0, none⟩) 4 CU, .slice (some ⟨364, 0, none⟩) 1 CU]⟩, ⟨487, 3, 1, [.int .i64 1]⟩, ⟨488, 3, 1, [.int .i64 1]⟩, ⟨489, 3, 1, [.int .i64 1]⟩, Kcb9], .int .i64 0, 650, [], 493⟩
/- selfstab/step.Step -/
def Kcg2_3 : Fact := ⟨17, [.agg #[.string (by8 [99, 111, 108, 111, 117, 114, 105, 110, 103]), .slice (some ⟨275, 0, none⟩) 1 CU, .slice (some ⟨368, 0, none⟩) 1 CU], .agg #[.slice (some ⟨14, 0, none⟩) 3 CU, .slice (some ⟨7, 0, none⟩) 3 3], .slice (some ⟨490, 0, none⟩) 3 3, .int .u32 1], 491, [Kcb4, Kcb5, Kcb6, Kcb7, Kcb8, ⟨275, 71, 6, [.string (by8 [99]), .int .i64 1, .int .i64 0, .int .i64 0, .int .i64 1, .int .i64 0]⟩, Kcb1, Kcb2, Kcb3, ⟨368, 126, 3, [.string (by8 [102, 105, 120]), .slice (some ⟨321, 0, none⟩) 4 CU, .slice (some ⟨364, 0, none⟩) 1 CU]⟩, ⟨487, 3, 1, [.int .i64 1]⟩, ⟨488, 3, 1, [.int .i64 1]⟩, ⟨489, 3, 1, [.int .i64 1]⟩, Kcb9], .tuple #[.slice (some ⟨758, 0, none⟩) 3 3, .int .i64 0], 785, [Kcb10, ⟨760, 3, 1, [.int .i64 1]⟩, ⟨761, 3, 1, [.int .i64 1]⟩, ⟨775, 3, 1, [.int .i64 0]⟩], 491⟩
def Kcg2L : List Fact := [Kcg2_0, Kcg2_1, Kcg2_2, Kcg2_3]
theorem Kcg2L_ok : AllOk Kcg2L := AllOk.seq (AllOk.cons (f := Kcm0) Kcm0_ok AllOk.nil) (by kernel_rfl)
end Ev
end Go.Proofs.YtegpikhfnhcjaaaGreat
