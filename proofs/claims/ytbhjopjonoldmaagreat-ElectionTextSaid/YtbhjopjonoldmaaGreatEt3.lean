/- Facts. Printed by wip/facts3.py. -/
import Derived.Test.YtbhjopjonoldmaaGreatEtC
namespace Go.Proofs.YtbhjopjonoldmaaGreat
namespace Ev
open Go
set_option maxRecDepth 1000000
/- selfstab/types.typed -/
def Etg12_0 : Fact := ⟨87, [.agg #[.string (by8 [102, 105, 120]), .slice (some ⟨1235, 0, none⟩) 17 CU, .slice (some ⟨1400, 0, none⟩) 1 CU], .slice (some ⟨2208, 0, none⟩) 2 2], 2212, [⟨1235, 169, 2, [.int .i64 36, .int .i64 0, .int .i64 5, .int .i64 0, .int .i64 43, .int .i64 0, .int .i64 37, .int .i64 0, .int .i64 9, .int .i64 0, .int .i64 1, .int .i64 2, .int .i64 1, .int .i64 0, .int .i64 43, .int .i64 0, .int .i64 37, .int .i64 0, .int .i64 28, .int .i64 0, .int .i64 12, .int .i64 0, .int .i64 6, .int .i64 0, .int .i64 33, .int .i64 0, .int .i64 28, .int .i64 0, .int .i64 12, .int .i64 0, .int .i64 1, .int .i64 1, .int .i64 6, .int .i64 0]⟩, ⟨1391, 169, 2, [.int .i64 43, .int .i64 0, .int .i64 37, .int .i64 0, .int .i64 9, .int .i64 0, .int .i64 1, .int .i64 2, .int .i64 1, .int .i64 0, .int .i64 43, .int .i64 0, .int .i64 37, .int .i64 0, .int .i64 28, .int .i64 0, .int .i64 12, .int .i64 0, .int .i64 6, .int .i64 0, .int .i64 33, .int .i64 0, .int .i64 28, .int .i64 0, .int .i64 12, .int .i64 0, .int .i64 1, .int .i64 1, .int .i64 6, .int .i64 0]⟩, ⟨1400, 138, 2, [.int .i64 0, .slice (some ⟨1391, 0, none⟩) 15 CU]⟩, ⟨2208, 3, 1, [.int .i64 1, .int .i64 2]⟩], .bool true, 2536, [], 2212⟩
def Etg12L : List Fact := [Etg12_0]
theorem Etg12L_ok : AllOk Etg12L := AllOk.seq AllOk.nil (by kernel_rfl)
/- selfstab/types.typed -/
def Etg13_0 : Fact := ⟨87, [.agg #[.string (by8 [116, 105, 101]), .slice (some ⟨1744, 0, none⟩) 17 CU, .slice (some ⟨1770, 0, none⟩) 1 CU], .slice (some ⟨2208, 0, none⟩) 2 2], 2707, [⟨1744, 169, 2, [.int .i64 41, .int .i64 0, .int .i64 41, .int .i64 0, .int .i64 37, .int .i64 0, .int .i64 5, .int .i64 0, .int .i64 6, .int .i64 0, .int .i64 20, .int .i64 0, .int .i64 38, .int .i64 0, .int .i64 12, .int .i64 0, .int .i64 5, .int .i64 0, .int .i64 21, .int .i64 0, .int .i64 41, .int .i64 0, .int .i64 35, .int .i64 0, .int .i64 12, .int .i64 0, .int .i64 5, .int .i64 0, .int .i64 35, .int .i64 0, .int .i64 12, .int .i64 1, .int .i64 5, .int .i64 1]⟩, ⟨1763, 169, 2, [.int .i64 19, .int .i64 0, .int .i64 5, .int .i64 1]⟩, ⟨1770, 138, 2, [.int .i64 1, .slice (some ⟨1763, 0, none⟩) 2 CU]⟩, ⟨2208, 3, 1, [.int .i64 1, .int .i64 2]⟩], .bool true, 2901, [], 2707⟩
def Etg13L : List Fact := [Etg13_0]
theorem Etg13L_ok : AllOk Etg13L := AllOk.seq AllOk.nil (by kernel_rfl)
/- selfstab/lexer.next -/
def Etg16_0 : Fact := ⟨73, [.string Ettxt0, .int .i64 56], 3036, [], .tuple #[.agg #[.int .i64 3, .int .i64 56, .int .i64 57, .int .i64 0], .int .i64 0], 3040, [], 3036⟩
/- selfstab/lexer.next -/
def Etg16_1 : Fact := ⟨73, [.string Ettxt0, .int .i64 60], 3049, [], .tuple #[.agg #[.int .i64 3, .int .i64 60, .int .i64 62, .int .i64 0], .int .i64 0], 3053, [], 3049⟩
/- selfstab/lexer.next -/
def Etg16_2 : Fact := ⟨73, [.string Ettxt0, .int .i64 63], 3056, [], .tuple #[.agg #[.int .i64 3, .int .i64 63, .int .i64 64, .int .i64 0], .int .i64 0], 3060, [], 3056⟩
/- selfstab/lexer.next -/
def Etg16_3 : Fact := ⟨73, [.string Ettxt0, .int .i64 64], 3063, [], .tuple #[.agg #[.int .i64 1, .int .i64 64, .int .i64 67, .int .i64 0], .int .i64 0], 3066, [], 3063⟩
/- selfstab/lexer.next -/
def Etg16_4 : Fact := ⟨73, [.string Ettxt0, .int .i64 68], 3069, [], .tuple #[.agg #[.int .i64 3, .int .i64 68, .int .i64 69, .int .i64 0], .int .i64 0], 3073, [], 3069⟩
/- selfstab/lexer.next -/
def Etg16_5 : Fact := ⟨73, [.string Ettxt0, .int .i64 72], 3082, [], .tuple #[.agg #[.int .i64 3, .int .i64 72, .int .i64 73, .int .i64 0], .int .i64 0], 3086, [], 3082⟩
/- selfstab/lexer.next -/
def Etg16_6 : Fact := ⟨73, [.string Ettxt0, .int .i64 76], 3095, [], .tuple #[.agg #[.int .i64 3, .int .i64 76, .int .i64 77, .int .i64 0], .int .i64 0], 3099, [], 3095⟩
/- selfstab/lexer.next -/
def Etg16_7 : Fact := ⟨73, [.string Ettxt0, .int .i64 78], 3102, [], .tuple #[.agg #[.int .i64 3, .int .i64 78, .int .i64 79, .int .i64 0], .int .i64 0], 3106, [], 3102⟩
/- selfstab/lexer.next -/
def Etg16_8 : Fact := ⟨73, [.string Ettxt0, .int .i64 79], 3109, [], .tuple #[.agg #[.int .i64 1, .int .i64 79, .int .i64 85, .int .i64 0], .int .i64 0], 3112, [], 3109⟩
/- selfstab/lexer.next -/
def Etg16_9 : Fact := ⟨73, [.string Ettxt0, .int .i64 85], 3115, [], .tuple #[.agg #[.int .i64 3, .int .i64 85, .int .i64 86, .int .i64 0], .int .i64 0], 3119, [], 3115⟩
/- selfstab/lexer.next -/
def Etg16_10 : Fact := ⟨73, [.string Ettxt0, .int .i64 87], 3128, [], .tuple #[.agg #[.int .i64 3, .int .i64 87, .int .i64 88, .int .i64 0], .int .i64 0], 3132, [], 3128⟩
/- selfstab/lexer.next -/
def Etg16_11 : Fact := ⟨73, [.string Ettxt0, .int .i64 89], 3141, [], .tuple #[.agg #[.int .i64 3, .int .i64 89, .int .i64 90, .int .i64 0], .int .i64 0], 3145, [], 3141⟩
/- selfstab/lexer.next -/
def Etg16_12 : Fact := ⟨73, [.string Ettxt0, .int .i64 91], 3148, [], .tuple #[.agg #[.int .i64 3, .int .i64 91, .int .i64 92, .int .i64 0], .int .i64 0], 3152, [], 3148⟩
/- selfstab/lexer.next -/
def Etg16_13 : Fact := ⟨73, [.string Ettxt0, .int .i64 95], 3161, [], .tuple #[.agg #[.int .i64 3, .int .i64 95, .int .i64 96, .int .i64 0], .int .i64 0], 3165, [], 3161⟩
/- selfstab/lexer.next -/
def Etg16_14 : Fact := ⟨73, [.string Ettxt0, .int .i64 97], 3168, [], .tuple #[.agg #[.int .i64 1, .int .i64 97, .int .i64 103, .int .i64 0], .int .i64 0], 3171, [], 3168⟩
/- selfstab/lexer.next -/
def Etg16_15 : Fact := ⟨73, [.string Ettxt0, .int .i64 103], 3174, [], .tuple #[.agg #[.int .i64 3, .int .i64 103, .int .i64 104, .int .i64 0], .int .i64 0], 3178, [], 3174⟩
/- selfstab/lexer.next -/
def Etg16_16 : Fact := ⟨73, [.string Ettxt0, .int .i64 105], 3187, [], .tuple #[.agg #[.int .i64 3, .int .i64 105, .int .i64 106, .int .i64 0], .int .i64 0], 3191, [], 3187⟩
/- selfstab/lexer.next -/
def Etg16_17 : Fact := ⟨73, [.string Ettxt0, .int .i64 107], 3200, [], .tuple #[.agg #[.int .i64 3, .int .i64 107, .int .i64 108, .int .i64 0], .int .i64 0], 3204, [], 3200⟩
/- selfstab/lexer.next -/
def Etg16_18 : Fact := ⟨73, [.string Ettxt0, .int .i64 109], 3207, [], .tuple #[.agg #[.int .i64 3, .int .i64 109, .int .i64 110, .int .i64 0], .int .i64 0], 3211, [], 3207⟩
/- selfstab/lexer.next -/
def Etg16_19 : Fact := ⟨73, [.string Ettxt0, .int .i64 113], 3220, [], .tuple #[.agg #[.int .i64 3, .int .i64 113, .int .i64 114, .int .i64 0], .int .i64 0], 3224, [], 3220⟩
/- selfstab/lexer.next -/
def Etg16_20 : Fact := ⟨73, [.string Ettxt0, .int .i64 116], 3233, [], .tuple #[.agg #[.int .i64 3, .int .i64 116, .int .i64 117, .int .i64 0], .int .i64 0], 3237, [], 3233⟩
/- selfstab/lexer.next -/
def Etg16_21 : Fact := ⟨73, [.string Ettxt0, .int .i64 117], 3240, [], .tuple #[.agg #[.int .i64 3, .int .i64 117, .int .i64 118, .int .i64 0], .int .i64 0], 3244, [], 3240⟩
/- selfstab/lexer.next -/
def Etg16_22 : Fact := ⟨73, [.string Ettxt0, .int .i64 124], 3260, [], .tuple #[.agg #[.int .i64 3, .int .i64 124, .int .i64 126, .int .i64 0], .int .i64 0], 3264, [], 3260⟩
/- selfstab/lexer.next -/
def Etg16_23 : Fact := ⟨73, [.string Ettxt0, .int .i64 127], 3267, [], .tuple #[.agg #[.int .i64 3, .int .i64 127, .int .i64 128, .int .i64 0], .int .i64 0], 3271, [], 3267⟩
/- selfstab/lexer.next -/
def Etg16_24 : Fact := ⟨73, [.string Ettxt0, .int .i64 128], 3274, [], .tuple #[.agg #[.int .i64 1, .int .i64 128, .int .i64 131, .int .i64 0], .int .i64 0], 3277, [], 3274⟩
/- selfstab/lexer.next -/
def Etg16_25 : Fact := ⟨73, [.string Ettxt0, .int .i64 132], 3280, [], .tuple #[.agg #[.int .i64 3, .int .i64 132, .int .i64 133, .int .i64 0], .int .i64 0], 3284, [], 3280⟩
/- selfstab/lexer.next -/
def Etg16_26 : Fact := ⟨73, [.string Ettxt0, .int .i64 136], 3293, [], .tuple #[.agg #[.int .i64 3, .int .i64 136, .int .i64 137, .int .i64 0], .int .i64 0], 3297, [], 3293⟩
/- selfstab/lexer.next -/
def Etg16_27 : Fact := ⟨73, [.string Ettxt0, .int .i64 140], 3306, [], .tuple #[.agg #[.int .i64 3, .int .i64 140, .int .i64 141, .int .i64 0], .int .i64 0], 3310, [], 3306⟩
/- selfstab/lexer.next -/
def Etg16_28 : Fact := ⟨73, [.string Ettxt0, .int .i64 142], 3313, [], .tuple #[.agg #[.int .i64 3, .int .i64 142, .int .i64 143, .int .i64 0], .int .i64 0], 3317, [], 3313⟩
/- selfstab/lexer.next -/
def Etg16_29 : Fact := ⟨73, [.string Ettxt0, .int .i64 143], 3320, [], .tuple #[.agg #[.int .i64 1, .int .i64 143, .int .i64 149, .int .i64 0], .int .i64 0], 3323, [], 3320⟩
/- selfstab/lexer.next -/
def Etg16_30 : Fact := ⟨73, [.string Ettxt0, .int .i64 149], 3326, [], .tuple #[.agg #[.int .i64 3, .int .i64 149, .int .i64 150, .int .i64 0], .int .i64 0], 3330, [], 3326⟩
/- selfstab/lexer.next -/
def Etg16_31 : Fact := ⟨73, [.string Ettxt0, .int .i64 151], 3339, [], .tuple #[.agg #[.int .i64 3, .int .i64 151, .int .i64 152, .int .i64 0], .int .i64 0], 3343, [], 3339⟩
/- selfstab/lexer.next -/
def Etg16_32 : Fact := ⟨73, [.string Ettxt0, .int .i64 153], 3352, [], .tuple #[.agg #[.int .i64 3, .int .i64 153, .int .i64 154, .int .i64 0], .int .i64 0], 3356, [], 3352⟩
/- selfstab/lexer.next -/
def Etg16_33 : Fact := ⟨73, [.string Ettxt0, .int .i64 155], 3359, [], .tuple #[.agg #[.int .i64 3, .int .i64 155, .int .i64 156, .int .i64 0], .int .i64 0], 3363, [], 3359⟩
/- selfstab/lexer.next -/
def Etg16_34 : Fact := ⟨73, [.string Ettxt0, .int .i64 159], 3372, [], .tuple #[.agg #[.int .i64 3, .int .i64 159, .int .i64 160, .int .i64 0], .int .i64 0], 3376, [], 3372⟩
/- selfstab/lexer.next -/
def Etg16_35 : Fact := ⟨73, [.string Ettxt0, .int .i64 161], 3379, [], .tuple #[.agg #[.int .i64 1, .int .i64 161, .int .i64 167, .int .i64 0], .int .i64 0], 3382, [], 3379⟩
/- selfstab/lexer.next -/
def Etg16_36 : Fact := ⟨73, [.string Ettxt0, .int .i64 167], 3385, [], .tuple #[.agg #[.int .i64 3, .int .i64 167, .int .i64 168, .int .i64 0], .int .i64 0], 3389, [], 3385⟩
/- selfstab/lexer.next -/
def Etg16_37 : Fact := ⟨73, [.string Ettxt0, .int .i64 169], 3398, [], .tuple #[.agg #[.int .i64 3, .int .i64 169, .int .i64 170, .int .i64 0], .int .i64 0], 3402, [], 3398⟩
/- selfstab/lexer.next -/
def Etg16_38 : Fact := ⟨73, [.string Ettxt0, .int .i64 171], 3411, [], .tuple #[.agg #[.int .i64 3, .int .i64 171, .int .i64 172, .int .i64 0], .int .i64 0], 3415, [], 3411⟩
def Etg16L : List Fact := [Etg16_0, Etg16_1, Etg16_2, Etg16_3, Etg16_4, Etg16_5, Etg16_6, Etg16_7, Etg16_8, Etg16_9, Etg16_10, Etg16_11, Etg16_12, Etg16_13, Etg16_14, Etg16_15, Etg16_16, Etg16_17, Etg16_18, Etg16_19, Etg16_20, Etg16_21, Etg16_22, Etg16_23, Etg16_24, Etg16_25, Etg16_26, Etg16_27, Etg16_28, Etg16_29, Etg16_30, Etg16_31, Etg16_32, Etg16_33, Etg16_34, Etg16_35, Etg16_36, Etg16_37, Etg16_38]
theorem Etg16L_ok : AllOk Etg16L := AllOk.seq AllOk.nil (by kernel_rfl)
end Ev
end Go.Proofs.YtbhjopjonoldmaaGreat
