/- Facts. Printed by wip/facts3.py. -/
import Derived.Test.YtbhjopjonoldmaaGreatEtC
namespace Go.Proofs.YtbhjopjonoldmaaGreat
namespace Ev
open Go
set_option maxRecDepth 1000000
/- selfstab/lexer.next -/
def Etg17_0 : Fact := ⟨73, [.string Ettxt0, .int .i64 173], 3418, [], .tuple #[.agg #[.int .i64 3, .int .i64 173, .int .i64 174, .int .i64 0], .int .i64 0], 3422, [], 3418⟩
/- selfstab/lexer.next -/
def Etg17_1 : Fact := ⟨73, [.string Ettxt0, .int .i64 177], 3431, [], .tuple #[.agg #[.int .i64 3, .int .i64 177, .int .i64 178, .int .i64 0], .int .i64 0], 3435, [], 3431⟩
/- selfstab/lexer.next -/
def Etg17_2 : Fact := ⟨73, [.string Ettxt0, .int .i64 180], 3444, [], .tuple #[.agg #[.int .i64 3, .int .i64 180, .int .i64 181, .int .i64 0], .int .i64 0], 3448, [], 3444⟩
/- selfstab/lexer.next -/
def Etg17_3 : Fact := ⟨73, [.string Ettxt0, .int .i64 181], 3451, [], .tuple #[.agg #[.int .i64 3, .int .i64 181, .int .i64 182, .int .i64 0], .int .i64 0], 3455, [], 3451⟩
/- selfstab/lexer.next -/
def Etg17_4 : Fact := ⟨73, [.string Ettxt0, .int .i64 182], 3458, [], .tuple #[.agg #[.int .i64 3, .int .i64 182, .int .i64 183, .int .i64 0], .int .i64 0], 3462, [], 3458⟩
/- selfstab/lexer.next -/
def Etg17_5 : Fact := ⟨73, [.string Ettxt0, .int .i64 184], 3465, [], .tuple #[.agg #[.int .i64 1, .int .i64 184, .int .i64 188, .int .i64 0], .int .i64 0], 3468, [], 3465⟩
/- selfstab/lexer.next -/
def Etg17_6 : Fact := ⟨73, [.string Ettxt0, .int .i64 189], 3471, [], .tuple #[.agg #[.int .i64 1, .int .i64 189, .int .i64 193, .int .i64 0], .int .i64 0], 3474, [], 3471⟩
/- selfstab/lexer.next -/
def Etg17_7 : Fact := ⟨73, [.string Ettxt0, .int .i64 193], 3477, [], .tuple #[.agg #[.int .i64 3, .int .i64 193, .int .i64 194, .int .i64 0], .int .i64 0], 3481, [], 3477⟩
/- selfstab/lexer.next -/
def Etg17_8 : Fact := ⟨73, [.string Ettxt0, .int .i64 197], 3490, [], .tuple #[.agg #[.int .i64 3, .int .i64 197, .int .i64 199, .int .i64 0], .int .i64 0], 3494, [], 3490⟩
/- selfstab/lexer.next -/
def Etg17_9 : Fact := ⟨73, [.string Ettxt0, .int .i64 200], 3497, [], .tuple #[.agg #[.int .i64 3, .int .i64 200, .int .i64 201, .int .i64 0], .int .i64 0], 3501, [], 3497⟩
/- selfstab/lexer.next -/
def Etg17_10 : Fact := ⟨73, [.string Ettxt0, .int .i64 201], 3504, [], .tuple #[.agg #[.int .i64 1, .int .i64 201, .int .i64 204, .int .i64 0], .int .i64 0], 3507, [], 3504⟩
/- selfstab/lexer.next -/
def Etg17_11 : Fact := ⟨73, [.string Ettxt0, .int .i64 204], 3510, [], .tuple #[.agg #[.int .i64 3, .int .i64 204, .int .i64 205, .int .i64 0], .int .i64 0], 3514, [], 3510⟩
/- selfstab/lexer.next -/
def Etg17_12 : Fact := ⟨73, [.string Ettxt0, .int .i64 206], 3523, [], .tuple #[.agg #[.int .i64 3, .int .i64 206, .int .i64 207, .int .i64 0], .int .i64 0], 3527, [], 3523⟩
/- selfstab/lexer.next -/
def Etg17_13 : Fact := ⟨73, [.string Ettxt0, .int .i64 209], 3536, [], .tuple #[.agg #[.int .i64 3, .int .i64 209, .int .i64 211, .int .i64 0], .int .i64 0], 3540, [], 3536⟩
/- selfstab/lexer.next -/
def Etg17_14 : Fact := ⟨73, [.string Ettxt0, .int .i64 213], 3549, [], .tuple #[.agg #[.int .i64 3, .int .i64 213, .int .i64 214, .int .i64 0], .int .i64 0], 3553, [], 3549⟩
/- selfstab/lexer.next -/
def Etg17_15 : Fact := ⟨73, [.string Ettxt0, .int .i64 220], 3569, [], .tuple #[.agg #[.int .i64 3, .int .i64 220, .int .i64 222, .int .i64 0], .int .i64 0], 3573, [], 3569⟩
/- selfstab/lexer.next -/
def Etg17_16 : Fact := ⟨73, [.string Ettxt0, .int .i64 223], 3576, [], .tuple #[.agg #[.int .i64 1, .int .i64 223, .int .i64 228, .int .i64 0], .int .i64 0], 3579, [], 3576⟩
/- selfstab/lexer.next -/
def Etg17_17 : Fact := ⟨73, [.string Ettxt0, .int .i64 228], 3582, [], .tuple #[.agg #[.int .i64 3, .int .i64 228, .int .i64 229, .int .i64 0], .int .i64 0], 3586, [], 3582⟩
/- selfstab/lexer.next -/
def Etg17_18 : Fact := ⟨73, [.string Ettxt0, .int .i64 230], 3589, [], .tuple #[.agg #[.int .i64 1, .int .i64 230, .int .i64 234, .int .i64 0], .int .i64 0], 3592, [], 3589⟩
/- selfstab/lexer.next -/
def Etg17_19 : Fact := ⟨73, [.string Ettxt0, .int .i64 235], 3595, [], .tuple #[.agg #[.int .i64 1, .int .i64 235, .int .i64 239, .int .i64 0], .int .i64 0], 3598, [], 3595⟩
/- selfstab/lexer.next -/
def Etg17_20 : Fact := ⟨73, [.string Ettxt0, .int .i64 239], 3601, [], .tuple #[.agg #[.int .i64 3, .int .i64 239, .int .i64 240, .int .i64 0], .int .i64 0], 3605, [], 3601⟩
/- selfstab/lexer.next -/
def Etg17_21 : Fact := ⟨73, [.string Ettxt0, .int .i64 241], 3608, [], .tuple #[.agg #[.int .i64 3, .int .i64 241, .int .i64 242, .int .i64 0], .int .i64 0], 3612, [], 3608⟩
/- selfstab/lexer.next -/
def Etg17_22 : Fact := ⟨73, [.string Ettxt0, .int .i64 244], 3621, [], .tuple #[.agg #[.int .i64 3, .int .i64 244, .int .i64 246, .int .i64 0], .int .i64 0], 3625, [], 3621⟩
/- selfstab/lexer.next -/
def Etg17_23 : Fact := ⟨73, [.string Ettxt0, .int .i64 250], 3634, [], .tuple #[.agg #[.int .i64 3, .int .i64 250, .int .i64 251, .int .i64 0], .int .i64 0], 3638, [], 3634⟩
/- selfstab/lexer.next -/
def Etg17_24 : Fact := ⟨73, [.string Ettxt0, .int .i64 252], 3647, [], .tuple #[.agg #[.int .i64 3, .int .i64 252, .int .i64 253, .int .i64 0], .int .i64 0], 3651, [], 3647⟩
/- selfstab/lexer.next -/
def Etg17_25 : Fact := ⟨73, [.string Ettxt0, .int .i64 255], 3660, [], .tuple #[.agg #[.int .i64 3, .int .i64 255, .int .i64 256, .int .i64 0], .int .i64 0], 3664, [], 3660⟩
/- selfstab/lexer.next -/
def Etg17_26 : Fact := ⟨73, [.string Ettxt0, .int .i64 258], 3673, [], .tuple #[.agg #[.int .i64 3, .int .i64 258, .int .i64 259, .int .i64 0], .int .i64 0], 3677, [], 3673⟩
/- selfstab/lexer.next -/
def Etg17_27 : Fact := ⟨73, [.string Ettxt0, .int .i64 265], 3693, [], .tuple #[.agg #[.int .i64 3, .int .i64 265, .int .i64 267, .int .i64 0], .int .i64 0], 3697, [], 3693⟩
/- selfstab/lexer.next -/
def Etg17_28 : Fact := ⟨73, [.string Ettxt0, .int .i64 268], 3700, [], .tuple #[.agg #[.int .i64 1, .int .i64 268, .int .i64 272, .int .i64 0], .int .i64 0], 3703, [], 3700⟩
/- selfstab/lexer.next -/
def Etg17_29 : Fact := ⟨73, [.string Ettxt0, .int .i64 272], 3706, [], .tuple #[.agg #[.int .i64 3, .int .i64 272, .int .i64 273, .int .i64 0], .int .i64 0], 3710, [], 3706⟩
/- selfstab/lexer.next -/
def Etg17_30 : Fact := ⟨73, [.string Ettxt0, .int .i64 274], 3713, [], .tuple #[.agg #[.int .i64 1, .int .i64 274, .int .i64 278, .int .i64 0], .int .i64 0], 3716, [], 3713⟩
/- selfstab/lexer.next -/
def Etg17_31 : Fact := ⟨73, [.string Ettxt0, .int .i64 279], 3719, [], .tuple #[.agg #[.int .i64 1, .int .i64 279, .int .i64 282, .int .i64 0], .int .i64 0], 3722, [], 3719⟩
/- selfstab/lexer.next -/
def Etg17_32 : Fact := ⟨73, [.string Ettxt0, .int .i64 282], 3725, [], .tuple #[.agg #[.int .i64 3, .int .i64 282, .int .i64 283, .int .i64 0], .int .i64 0], 3729, [], 3725⟩
/- selfstab/lexer.next -/
def Etg17_33 : Fact := ⟨73, [.string Ettxt0, .int .i64 286], 3738, [], .tuple #[.agg #[.int .i64 3, .int .i64 286, .int .i64 287, .int .i64 0], .int .i64 0], 3742, [], 3738⟩
/- selfstab/lexer.next -/
def Etg17_34 : Fact := ⟨73, [.string Ettxt0, .int .i64 290], 3751, [], .tuple #[.agg #[.int .i64 3, .int .i64 290, .int .i64 292, .int .i64 0], .int .i64 0], 3755, [], 3751⟩
/- selfstab/lexer.next -/
def Etg17_35 : Fact := ⟨73, [.string Ettxt0, .int .i64 296], 3764, [], .tuple #[.agg #[.int .i64 3, .int .i64 296, .int .i64 297, .int .i64 0], .int .i64 0], 3768, [], 3764⟩
/- selfstab/lexer.next -/
def Etg17_36 : Fact := ⟨73, [.string Ettxt0, .int .i64 298], 3777, [], .tuple #[.agg #[.int .i64 3, .int .i64 298, .int .i64 299, .int .i64 0], .int .i64 0], 3781, [], 3777⟩
/- selfstab/lexer.next -/
def Etg17_37 : Fact := ⟨73, [.string Ettxt0, .int .i64 301], 3790, [], .tuple #[.agg #[.int .i64 3, .int .i64 301, .int .i64 303, .int .i64 0], .int .i64 0], 3794, [], 3790⟩
/- selfstab/lexer.next -/
def Etg17_38 : Fact := ⟨73, [.string Ettxt0, .int .i64 305], 3803, [], .tuple #[.agg #[.int .i64 3, .int .i64 305, .int .i64 306, .int .i64 0], .int .i64 0], 3807, [], 3803⟩
/- selfstab/lexer.next -/
def Etg17_39 : Fact := ⟨73, [.string Ettxt0, .int .i64 307], 3810, [], .tuple #[.agg #[.int .i64 3, .int .i64 307, .int .i64 309, .int .i64 0], .int .i64 0], 3814, [], 3810⟩
def Etg17L : List Fact := [Etg17_0, Etg17_1, Etg17_2, Etg17_3, Etg17_4, Etg17_5, Etg17_6, Etg17_7, Etg17_8, Etg17_9, Etg17_10, Etg17_11, Etg17_12, Etg17_13, Etg17_14, Etg17_15, Etg17_16, Etg17_17, Etg17_18, Etg17_19, Etg17_20, Etg17_21, Etg17_22, Etg17_23, Etg17_24, Etg17_25, Etg17_26, Etg17_27, Etg17_28, Etg17_29, Etg17_30, Etg17_31, Etg17_32, Etg17_33, Etg17_34, Etg17_35, Etg17_36, Etg17_37, Etg17_38, Etg17_39]
theorem Etg17L_ok : AllOk Etg17L := AllOk.seq AllOk.nil (by kernel_rfl)
/- selfstab/lexer.next -/
def Etg18_0 : Fact := ⟨73, [.string Ettxt0, .int .i64 310], 3817, [], .tuple #[.agg #[.int .i64 1, .int .i64 310, .int .i64 314, .int .i64 0], .int .i64 0], 3820, [], 3817⟩
/- selfstab/lexer.next -/
def Etg18_1 : Fact := ⟨73, [.string Ettxt0, .int .i64 314], 3823, [], .tuple #[.agg #[.int .i64 3, .int .i64 314, .int .i64 315, .int .i64 0], .int .i64 0], 3827, [], 3823⟩
/- selfstab/lexer.next -/
def Etg18_2 : Fact := ⟨73, [.string Ettxt0, .int .i64 316], 3836, [], .tuple #[.agg #[.int .i64 3, .int .i64 316, .int .i64 317, .int .i64 0], .int .i64 0], 3840, [], 3836⟩
/- selfstab/lexer.next -/
def Etg18_3 : Fact := ⟨73, [.string Ettxt0, .int .i64 319], 3849, [], .tuple #[.agg #[.int .i64 3, .int .i64 319, .int .i64 321, .int .i64 0], .int .i64 0], 3853, [], 3849⟩
/- selfstab/lexer.next -/
def Etg18_4 : Fact := ⟨73, [.string Ettxt0, .int .i64 324], 3862, [], .tuple #[.agg #[.int .i64 3, .int .i64 324, .int .i64 326, .int .i64 0], .int .i64 0], 3866, [], 3862⟩
/- selfstab/lexer.next -/
def Etg18_5 : Fact := ⟨73, [.string Ettxt0, .int .i64 328], 3875, [], .tuple #[.agg #[.int .i64 3, .int .i64 328, .int .i64 329, .int .i64 0], .int .i64 0], 3879, [], 3875⟩
/- selfstab/lexer.next -/
def Etg18_6 : Fact := ⟨73, [.string Ettxt0, .int .i64 331], 3888, [], .tuple #[.agg #[.int .i64 3, .int .i64 331, .int .i64 333, .int .i64 0], .int .i64 0], 3892, [], 3888⟩
/- selfstab/lexer.next -/
def Etg18_7 : Fact := ⟨73, [.string Ettxt0, .int .i64 335], 3901, [], .tuple #[.agg #[.int .i64 3, .int .i64 335, .int .i64 336, .int .i64 0], .int .i64 0], 3905, [], 3901⟩
/- selfstab/lexer.next -/
def Etg18_8 : Fact := ⟨73, [.string Ettxt0, .int .i64 345], 3928, [], .tuple #[.agg #[.int .i64 3, .int .i64 345, .int .i64 346, .int .i64 0], .int .i64 0], 3932, [], 3928⟩
/- selfstab/lexer.next -/
def Etg18_9 : Fact := ⟨73, [.string Ettxt0, .int .i64 347], 3941, [], .tuple #[.agg #[.int .i64 3, .int .i64 347, .int .i64 348, .int .i64 0], .int .i64 0], 3945, [], 3941⟩
def Etg18L : List Fact := [Etg18_0, Etg18_1, Etg18_2, Etg18_3, Etg18_4, Etg18_5, Etg18_6, Etg18_7, Etg18_8, Etg18_9]
theorem Etg18L_ok : AllOk Etg18L := AllOk.seq AllOk.nil (by kernel_rfl)
/- (*selfstab/expr.Reader).Choice -/
def Etg20_0 : Fact := ⟨140, [.pointer (some ⟨3948, 0, none⟩)], 4042, [⟨3947, 77, 4, Etrow1⟩, ⟨3948, 44, 0, [.string Ettxt0, .slice (some ⟨3947, 108, none⟩) 129 CU, .slice (some ⟨3986, 0, none⟩) 2 CU, .string (by8 [101, 108, 101, 99, 116, 105, 111, 110]), .slice (some ⟨3988, 0, none⟩) 2 CU, .slice none 0 0, .slice (some ⟨3995, 0, none⟩) 1 CU]⟩, ⟨3986, 9, 1, [.string (by8 [104]), .string (by8 [108])]⟩, ⟨3988, 33, 6, [.string (by8 [104]), .int .i64 1, .int .i64 0, .int .i64 0, .int .i64 1, .int .i64 0, .string (by8 [108]), .int .i64 2, .int .i64 0, .int .i64 0, .int .i64 0, .int .i64 0]⟩, ⟨3995, 9, 1, [.string (by8 [102, 105, 120])]⟩], .slice (some ⟨4142, 0, none⟩) 10 CU, 4150, [⟨3948, 44, 0, [.string Ettxt0, .slice (some ⟨3947, 192, none⟩) 108 CU, .slice (some ⟨3986, 0, none⟩) 2 CU, .string (by8 [101, 108, 101, 99, 116, 105, 111, 110]), .slice (some ⟨3988, 0, none⟩) 2 CU, .slice none 0 0, .slice (some ⟨3995, 0, none⟩) 1 CU]⟩, ⟨3986, 9, 1, [.string (by8 [104]), .string (by8 [108])]⟩, ⟨3988, 33, 6, [.string (by8 [104]), .int .i64 1, .int .i64 0, .int .i64 0, .int .i64 1, .int .i64 0, .string (by8 [108]), .int .i64 2, .int .i64 0, .int .i64 0, .int .i64 0, .int .i64 0]⟩, ⟨3995, 9, 1, [.string (by8 [102, 105, 120])]⟩, ⟨4142, 169, 2, [.int .i64 43, .int .i64 0, .int .i64 37, .int .i64 0, .int .i64 28, .int .i64 0, .int .i64 12, .int .i64 0, .int .i64 6, .int .i64 0, .int .i64 33, .int .i64 0, .int .i64 28, .int .i64 0, .int .i64 12, .int .i64 0, .int .i64 1, .int .i64 1, .int .i64 6, .int .i64 0]⟩], 3948⟩
def Etg20L : List Fact := [Etg20_0]
theorem Etg20L_ok : AllOk Etg20L := AllOk.seq AllOk.nil (by kernel_rfl)
end Ev
end Go.Proofs.YtbhjopjonoldmaaGreat
