/- Facts. Printed by wip/facts4.py. -/
import Derived.Test.YtegpikhfnhcjaaaGreatKcC
import Derived.Test.YtegpikhfnhcjaaaGreatKc2
namespace Go.Proofs.YtegpikhfnhcjaaaGreat
namespace Ev
open Go
set_option maxRecDepth 1000000
def Kcm1 : Fact := Kcg2_1.move [7, 14, 31, 43, 45, 275, 321, 357, 364, 368] 789
theorem Kcm1_ok : FactOk Tryz.prog Kcm1 := fact_move (AllOk.at_ Kcg2L_ok 1 rfl) (by kernel_rfl)
/- selfstab/memory.Check -/
def Kcg3_0 : Fact := ⟨27, [.agg #[.string (by8 [99, 111, 108, 111, 117, 114, 105, 110, 103]), .slice (some ⟨275, 0, none⟩) 1 CU, .slice (some ⟨368, 0, none⟩) 1 CU], .agg #[.slice (some ⟨14, 0, none⟩) 3 CU, .slice (some ⟨7, 0, none⟩) 3 3], .slice (some ⟨758, 0, none⟩) 3 3], 787, [Kcb4, Kcb5, Kcb6, Kcb7, Kcb8, ⟨275, 71, 6, [.string (by8 [99]), .int .i64 1, .int .i64 0, .int .i64 0, .int .i64 1, .int .i64 0]⟩, Kcb1, Kcb2, Kcb3, ⟨368, 126, 3, [.string (by8 [102, 105, 120]), .slice (some ⟨321, 0, none⟩) 4 CU, .slice (some ⟨364, 0, none⟩) 1 CU]⟩, Kcb10, ⟨760, 3, 1, [.int .i64 1]⟩, ⟨761, 3, 1, [.int .i64 1]⟩, ⟨775, 3, 1, [.int .i64 0]⟩], .int .i64 0, 944, [], 787⟩
/- selfstab/step.Step -/
def Kcg3_1 : Fact := ⟨17, [.agg #[.string (by8 [99, 111, 108, 111, 117, 114, 105, 110, 103]), .slice (some ⟨275, 0, none⟩) 1 CU, .slice (some ⟨368, 0, none⟩) 1 CU], .agg #[.slice (some ⟨14, 0, none⟩) 3 CU, .slice (some ⟨7, 0, none⟩) 3 3], .slice (some ⟨758, 0, none⟩) 3 3, .int .u32 2], 785, [Kcb4, Kcb5, Kcb6, Kcb7, Kcb8, ⟨275, 71, 6, [.string (by8 [99]), .int .i64 1, .int .i64 0, .int .i64 0, .int .i64 1, .int .i64 0]⟩, Kcb1, Kcb2, Kcb3, ⟨368, 126, 3, [.string (by8 [102, 105, 120]), .slice (some ⟨321, 0, none⟩) 4 CU, .slice (some ⟨364, 0, none⟩) 1 CU]⟩, Kcb10, ⟨760, 3, 1, [.int .i64 1]⟩, ⟨761, 3, 1, [.int .i64 1]⟩, ⟨775, 3, 1, [.int .i64 0]⟩], .tuple #[.slice (some ⟨1052, 0, none⟩) 3 3, .int .i64 0], 1079, [⟨1052, 22, 1, [.slice (some ⟨1053, 0, none⟩) 1 CU, .slice (some ⟨1069, 0, none⟩) 1 CU, .slice (some ⟨1055, 0, none⟩) 1 CU]⟩, ⟨1053, 3, 1, [.int .i64 0]⟩, ⟨1055, 3, 1, [.int .i64 1]⟩, ⟨1069, 3, 1, [.int .i64 2]⟩], 785⟩
def Kcg3L : List Fact := [Kcg3_0, Kcg3_1]
theorem Kcg3L_ok : AllOk Kcg3L := AllOk.seq (AllOk.cons (f := Kcm1) Kcm1_ok AllOk.nil) (by kernel_rfl)
end Ev
end Go.Proofs.YtegpikhfnhcjaaaGreat
