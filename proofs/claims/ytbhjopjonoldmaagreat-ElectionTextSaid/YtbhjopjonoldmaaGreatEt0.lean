/- Facts. Printed by wip/facts3.py. -/
import Derived.Test.YtbhjopjonoldmaaGreatEtC
namespace Go.Proofs.YtbhjopjonoldmaaGreat
namespace Ev
open Go
set_option maxRecDepth 1000000
/- selfstab/lexer.next -/
def Etg0_0 : Fact := ⟨73, [.string Ettxt0, .int .i64 0], 1, [], .tuple #[.agg #[.int .i64 1, .int .i64 0, .int .i64 7, .int .i64 0], .int .i64 0], 4, [], 1⟩
/- selfstab/lexer.next -/
def Etg0_1 : Fact := ⟨73, [.string Ettxt0, .int .i64 8], 7, [], .tuple #[.agg #[.int .i64 1, .int .i64 8, .int .i64 16, .int .i64 0], .int .i64 0], 10, [], 7⟩
/- selfstab/lexer.next -/
def Etg0_2 : Fact := ⟨73, [.string Ettxt0, .int .i64 16], 13, [], .tuple #[.agg #[.int .i64 3, .int .i64 16, .int .i64 17, .int .i64 0], .int .i64 0], 17, [], 13⟩
/- selfstab/lexer.next -/
def Etg0_3 : Fact := ⟨73, [.string Ettxt0, .int .i64 24], 32, [], .tuple #[.agg #[.int .i64 3, .int .i64 24, .int .i64 25, .int .i64 0], .int .i64 0], 36, [], 32⟩
/- selfstab/lexer.next -/
def Etg0_4 : Fact := ⟨73, [.string Ettxt0, .int .i64 32], 58, [], .tuple #[.agg #[.int .i64 3, .int .i64 32, .int .i64 33, .int .i64 0], .int .i64 0], 62, [], 58⟩
/- selfstab/lexer.next -/
def Etg0_5 : Fact := ⟨73, [.string Ettxt0, .int .i64 40], 77, [], .tuple #[.agg #[.int .i64 3, .int .i64 40, .int .i64 41, .int .i64 0], .int .i64 0], 81, [], 77⟩
/- selfstab/lexer.next -/
def Etg0_6 : Fact := ⟨73, [.string Ettxt0, .int .i64 42], 84, [], .tuple #[.agg #[.int .i64 1, .int .i64 42, .int .i64 46, .int .i64 0], .int .i64 0], 87, [], 84⟩
/- selfstab/lexer.next -/
def Etg0_7 : Fact := ⟨73, [.string Ettxt0, .int .i64 46], 90, [], .tuple #[.agg #[.int .i64 3, .int .i64 46, .int .i64 47, .int .i64 0], .int .i64 0], 94, [], 90⟩
/- selfstab/lexer.next -/
def Etg0_8 : Fact := ⟨73, [.string Ettxt0, .int .i64 48], 97, [], .tuple #[.agg #[.int .i64 1, .int .i64 48, .int .i64 52, .int .i64 0], .int .i64 0], 100, [], 97⟩
/- selfstab/lexer.next -/
def Etg0_9 : Fact := ⟨73, [.string Ettxt0, .int .i64 53], 103, [], .tuple #[.agg #[.int .i64 1, .int .i64 53, .int .i64 56, .int .i64 0], .int .i64 0], 106, [], 103⟩
/- selfstab/lexer.next -/
def Etg0_10 : Fact := ⟨73, [.string Ettxt0, .int .i64 56], 109, [], .tuple #[.agg #[.int .i64 3, .int .i64 56, .int .i64 57, .int .i64 0], .int .i64 0], 113, [], 109⟩
/- selfstab/lexer.next -/
def Etg0_11 : Fact := ⟨73, [.string Ettxt0, .int .i64 60], 122, [], .tuple #[.agg #[.int .i64 3, .int .i64 60, .int .i64 62, .int .i64 0], .int .i64 0], 126, [], 122⟩
/- selfstab/lexer.next -/
def Etg0_12 : Fact := ⟨73, [.string Ettxt0, .int .i64 63], 129, [], .tuple #[.agg #[.int .i64 3, .int .i64 63, .int .i64 64, .int .i64 0], .int .i64 0], 133, [], 129⟩
/- selfstab/lexer.next -/
def Etg0_13 : Fact := ⟨73, [.string Ettxt0, .int .i64 64], 136, [], .tuple #[.agg #[.int .i64 1, .int .i64 64, .int .i64 67, .int .i64 0], .int .i64 0], 139, [], 136⟩
/- selfstab/lexer.next -/
def Etg0_14 : Fact := ⟨73, [.string Ettxt0, .int .i64 68], 142, [], .tuple #[.agg #[.int .i64 3, .int .i64 68, .int .i64 69, .int .i64 0], .int .i64 0], 146, [], 142⟩
/- selfstab/lexer.next -/
def Etg0_15 : Fact := ⟨73, [.string Ettxt0, .int .i64 72], 155, [], .tuple #[.agg #[.int .i64 3, .int .i64 72, .int .i64 73, .int .i64 0], .int .i64 0], 159, [], 155⟩
/- selfstab/lexer.next -/
def Etg0_16 : Fact := ⟨73, [.string Ettxt0, .int .i64 76], 168, [], .tuple #[.agg #[.int .i64 3, .int .i64 76, .int .i64 77, .int .i64 0], .int .i64 0], 172, [], 168⟩
/- selfstab/lexer.next -/
def Etg0_17 : Fact := ⟨73, [.string Ettxt0, .int .i64 78], 175, [], .tuple #[.agg #[.int .i64 3, .int .i64 78, .int .i64 79, .int .i64 0], .int .i64 0], 179, [], 175⟩
/- selfstab/lexer.next -/
def Etg0_18 : Fact := ⟨73, [.string Ettxt0, .int .i64 79], 182, [], .tuple #[.agg #[.int .i64 1, .int .i64 79, .int .i64 85, .int .i64 0], .int .i64 0], 185, [], 182⟩
/- selfstab/lexer.next -/
def Etg0_19 : Fact := ⟨73, [.string Ettxt0, .int .i64 85], 188, [], .tuple #[.agg #[.int .i64 3, .int .i64 85, .int .i64 86, .int .i64 0], .int .i64 0], 192, [], 188⟩
/- selfstab/lexer.next -/
def Etg0_20 : Fact := ⟨73, [.string Ettxt0, .int .i64 87], 201, [], .tuple #[.agg #[.int .i64 3, .int .i64 87, .int .i64 88, .int .i64 0], .int .i64 0], 205, [], 201⟩
/- selfstab/lexer.next -/
def Etg0_21 : Fact := ⟨73, [.string Ettxt0, .int .i64 89], 214, [], .tuple #[.agg #[.int .i64 3, .int .i64 89, .int .i64 90, .int .i64 0], .int .i64 0], 218, [], 214⟩
/- selfstab/lexer.next -/
def Etg0_22 : Fact := ⟨73, [.string Ettxt0, .int .i64 91], 221, [], .tuple #[.agg #[.int .i64 3, .int .i64 91, .int .i64 92, .int .i64 0], .int .i64 0], 225, [], 221⟩
/- selfstab/lexer.next -/
def Etg0_23 : Fact := ⟨73, [.string Ettxt0, .int .i64 95], 234, [], .tuple #[.agg #[.int .i64 3, .int .i64 95, .int .i64 96, .int .i64 0], .int .i64 0], 238, [], 234⟩
/- selfstab/lexer.next -/
def Etg0_24 : Fact := ⟨73, [.string Ettxt0, .int .i64 97], 241, [], .tuple #[.agg #[.int .i64 1, .int .i64 97, .int .i64 103, .int .i64 0], .int .i64 0], 244, [], 241⟩
/- selfstab/lexer.next -/
def Etg0_25 : Fact := ⟨73, [.string Ettxt0, .int .i64 103], 247, [], .tuple #[.agg #[.int .i64 3, .int .i64 103, .int .i64 104, .int .i64 0], .int .i64 0], 251, [], 247⟩
/- selfstab/lexer.next -/
def Etg0_26 : Fact := ⟨73, [.string Ettxt0, .int .i64 105], 260, [], .tuple #[.agg #[.int .i64 3, .int .i64 105, .int .i64 106, .int .i64 0], .int .i64 0], 264, [], 260⟩
/- selfstab/lexer.next -/
def Etg0_27 : Fact := ⟨73, [.string Ettxt0, .int .i64 107], 273, [], .tuple #[.agg #[.int .i64 3, .int .i64 107, .int .i64 108, .int .i64 0], .int .i64 0], 277, [], 273⟩
/- selfstab/lexer.next -/
def Etg0_28 : Fact := ⟨73, [.string Ettxt0, .int .i64 109], 280, [], .tuple #[.agg #[.int .i64 3, .int .i64 109, .int .i64 110, .int .i64 0], .int .i64 0], 284, [], 280⟩
/- selfstab/lexer.next -/
def Etg0_29 : Fact := ⟨73, [.string Ettxt0, .int .i64 113], 293, [], .tuple #[.agg #[.int .i64 3, .int .i64 113, .int .i64 114, .int .i64 0], .int .i64 0], 297, [], 293⟩
/- selfstab/lexer.next -/
def Etg0_30 : Fact := ⟨73, [.string Ettxt0, .int .i64 116], 306, [], .tuple #[.agg #[.int .i64 3, .int .i64 116, .int .i64 117, .int .i64 0], .int .i64 0], 310, [], 306⟩
/- selfstab/lexer.next -/
def Etg0_31 : Fact := ⟨73, [.string Ettxt0, .int .i64 117], 313, [], .tuple #[.agg #[.int .i64 3, .int .i64 117, .int .i64 118, .int .i64 0], .int .i64 0], 317, [], 313⟩
/- selfstab/lexer.next -/
def Etg0_32 : Fact := ⟨73, [.string Ettxt0, .int .i64 124], 333, [], .tuple #[.agg #[.int .i64 3, .int .i64 124, .int .i64 126, .int .i64 0], .int .i64 0], 337, [], 333⟩
/- selfstab/lexer.next -/
def Etg0_33 : Fact := ⟨73, [.string Ettxt0, .int .i64 127], 340, [], .tuple #[.agg #[.int .i64 3, .int .i64 127, .int .i64 128, .int .i64 0], .int .i64 0], 344, [], 340⟩
/- selfstab/lexer.next -/
def Etg0_34 : Fact := ⟨73, [.string Ettxt0, .int .i64 128], 347, [], .tuple #[.agg #[.int .i64 1, .int .i64 128, .int .i64 131, .int .i64 0], .int .i64 0], 350, [], 347⟩
/- selfstab/lexer.next -/
def Etg0_35 : Fact := ⟨73, [.string Ettxt0, .int .i64 132], 353, [], .tuple #[.agg #[.int .i64 3, .int .i64 132, .int .i64 133, .int .i64 0], .int .i64 0], 357, [], 353⟩
/- selfstab/lexer.next -/
def Etg0_36 : Fact := ⟨73, [.string Ettxt0, .int .i64 136], 366, [], .tuple #[.agg #[.int .i64 3, .int .i64 136, .int .i64 137, .int .i64 0], .int .i64 0], 370, [], 366⟩
/- selfstab/lexer.next -/
def Etg0_37 : Fact := ⟨73, [.string Ettxt0, .int .i64 140], 379, [], .tuple #[.agg #[.int .i64 3, .int .i64 140, .int .i64 141, .int .i64 0], .int .i64 0], 383, [], 379⟩
/- selfstab/lexer.next -/
def Etg0_38 : Fact := ⟨73, [.string Ettxt0, .int .i64 142], 386, [], .tuple #[.agg #[.int .i64 3, .int .i64 142, .int .i64 143, .int .i64 0], .int .i64 0], 390, [], 386⟩
/- selfstab/lexer.next -/
def Etg0_39 : Fact := ⟨73, [.string Ettxt0, .int .i64 143], 393, [], .tuple #[.agg #[.int .i64 1, .int .i64 143, .int .i64 149, .int .i64 0], .int .i64 0], 396, [], 393⟩
def Etg0L : List Fact := [Etg0_0, Etg0_1, Etg0_2, Etg0_3, Etg0_4, Etg0_5, Etg0_6, Etg0_7, Etg0_8, Etg0_9, Etg0_10, Etg0_11, Etg0_12, Etg0_13, Etg0_14, Etg0_15, Etg0_16, Etg0_17, Etg0_18, Etg0_19, Etg0_20, Etg0_21, Etg0_22, Etg0_23, Etg0_24, Etg0_25, Etg0_26, Etg0_27, Etg0_28, Etg0_29, Etg0_30, Etg0_31, Etg0_32, Etg0_33, Etg0_34, Etg0_35, Etg0_36, Etg0_37, Etg0_38, Etg0_39]
theorem Etg0L_ok : AllOk Etg0L := AllOk.seq AllOk.nil (by kernel_rfl)
/- selfstab/lexer.next -/
def Etg1_0 : Fact := ⟨73, [.string Ettxt0, .int .i64 149], 399, [], .tuple #[.agg #[.int .i64 3, .int .i64 149, .int .i64 150, .int .i64 0], .int .i64 0], 403, [], 399⟩
/- selfstab/lexer.next -/
def Etg1_1 : Fact := ⟨73, [.string Ettxt0, .int .i64 151], 412, [], .tuple #[.agg #[.int .i64 3, .int .i64 151, .int .i64 152, .int .i64 0], .int .i64 0], 416, [], 412⟩
/- selfstab/lexer.next -/
def Etg1_2 : Fact := ⟨73, [.string Ettxt0, .int .i64 153], 425, [], .tuple #[.agg #[.int .i64 3, .int .i64 153, .int .i64 154, .int .i64 0], .int .i64 0], 429, [], 425⟩
/- selfstab/lexer.next -/
def Etg1_3 : Fact := ⟨73, [.string Ettxt0, .int .i64 155], 432, [], .tuple #[.agg #[.int .i64 3, .int .i64 155, .int .i64 156, .int .i64 0], .int .i64 0], 436, [], 432⟩
/- selfstab/lexer.next -/
def Etg1_4 : Fact := ⟨73, [.string Ettxt0, .int .i64 159], 445, [], .tuple #[.agg #[.int .i64 3, .int .i64 159, .int .i64 160, .int .i64 0], .int .i64 0], 449, [], 445⟩
/- selfstab/lexer.next -/
def Etg1_5 : Fact := ⟨73, [.string Ettxt0, .int .i64 161], 452, [], .tuple #[.agg #[.int .i64 1, .int .i64 161, .int .i64 167, .int .i64 0], .int .i64 0], 455, [], 452⟩
/- selfstab/lexer.next -/
def Etg1_6 : Fact := ⟨73, [.string Ettxt0, .int .i64 167], 458, [], .tuple #[.agg #[.int .i64 3, .int .i64 167, .int .i64 168, .int .i64 0], .int .i64 0], 462, [], 458⟩
/- selfstab/lexer.next -/
def Etg1_7 : Fact := ⟨73, [.string Ettxt0, .int .i64 169], 471, [], .tuple #[.agg #[.int .i64 3, .int .i64 169, .int .i64 170, .int .i64 0], .int .i64 0], 475, [], 471⟩
/- selfstab/lexer.next -/
def Etg1_8 : Fact := ⟨73, [.string Ettxt0, .int .i64 171], 484, [], .tuple #[.agg #[.int .i64 3, .int .i64 171, .int .i64 172, .int .i64 0], .int .i64 0], 488, [], 484⟩
/- selfstab/lexer.next -/
def Etg1_9 : Fact := ⟨73, [.string Ettxt0, .int .i64 173], 491, [], .tuple #[.agg #[.int .i64 3, .int .i64 173, .int .i64 174, .int .i64 0], .int .i64 0], 495, [], 491⟩
/- selfstab/lexer.next -/
def Etg1_10 : Fact := ⟨73, [.string Ettxt0, .int .i64 177], 504, [], .tuple #[.agg #[.int .i64 3, .int .i64 177, .int .i64 178, .int .i64 0], .int .i64 0], 508, [], 504⟩
/- selfstab/lexer.next -/
def Etg1_11 : Fact := ⟨73, [.string Ettxt0, .int .i64 180], 517, [], .tuple #[.agg #[.int .i64 3, .int .i64 180, .int .i64 181, .int .i64 0], .int .i64 0], 521, [], 517⟩
/- selfstab/lexer.next -/
def Etg1_12 : Fact := ⟨73, [.string Ettxt0, .int .i64 181], 524, [], .tuple #[.agg #[.int .i64 3, .int .i64 181, .int .i64 182, .int .i64 0], .int .i64 0], 528, [], 524⟩
/- selfstab/lexer.next -/
def Etg1_13 : Fact := ⟨73, [.string Ettxt0, .int .i64 182], 531, [], .tuple #[.agg #[.int .i64 3, .int .i64 182, .int .i64 183, .int .i64 0], .int .i64 0], 535, [], 531⟩
/- selfstab/lexer.next -/
def Etg1_14 : Fact := ⟨73, [.string Ettxt0, .int .i64 184], 538, [], .tuple #[.agg #[.int .i64 1, .int .i64 184, .int .i64 188, .int .i64 0], .int .i64 0], 541, [], 538⟩
/- selfstab/lexer.next -/
def Etg1_15 : Fact := ⟨73, [.string Ettxt0, .int .i64 189], 544, [], .tuple #[.agg #[.int .i64 1, .int .i64 189, .int .i64 193, .int .i64 0], .int .i64 0], 547, [], 544⟩
/- selfstab/lexer.next -/
def Etg1_16 : Fact := ⟨73, [.string Ettxt0, .int .i64 193], 550, [], .tuple #[.agg #[.int .i64 3, .int .i64 193, .int .i64 194, .int .i64 0], .int .i64 0], 554, [], 550⟩
/- selfstab/lexer.next -/
def Etg1_17 : Fact := ⟨73, [.string Ettxt0, .int .i64 197], 563, [], .tuple #[.agg #[.int .i64 3, .int .i64 197, .int .i64 199, .int .i64 0], .int .i64 0], 567, [], 563⟩
/- selfstab/lexer.next -/
def Etg1_18 : Fact := ⟨73, [.string Ettxt0, .int .i64 200], 570, [], .tuple #[.agg #[.int .i64 3, .int .i64 200, .int .i64 201, .int .i64 0], .int .i64 0], 574, [], 570⟩
/- selfstab/lexer.next -/
def Etg1_19 : Fact := ⟨73, [.string Ettxt0, .int .i64 201], 577, [], .tuple #[.agg #[.int .i64 1, .int .i64 201, .int .i64 204, .int .i64 0], .int .i64 0], 580, [], 577⟩
/- selfstab/lexer.next -/
def Etg1_20 : Fact := ⟨73, [.string Ettxt0, .int .i64 204], 583, [], .tuple #[.agg #[.int .i64 3, .int .i64 204, .int .i64 205, .int .i64 0], .int .i64 0], 587, [], 583⟩
/- selfstab/lexer.next -/
def Etg1_21 : Fact := ⟨73, [.string Ettxt0, .int .i64 206], 596, [], .tuple #[.agg #[.int .i64 3, .int .i64 206, .int .i64 207, .int .i64 0], .int .i64 0], 600, [], 596⟩
/- selfstab/lexer.next -/
def Etg1_22 : Fact := ⟨73, [.string Ettxt0, .int .i64 209], 609, [], .tuple #[.agg #[.int .i64 3, .int .i64 209, .int .i64 211, .int .i64 0], .int .i64 0], 613, [], 609⟩
/- selfstab/lexer.next -/
def Etg1_23 : Fact := ⟨73, [.string Ettxt0, .int .i64 213], 622, [], .tuple #[.agg #[.int .i64 3, .int .i64 213, .int .i64 214, .int .i64 0], .int .i64 0], 626, [], 622⟩
/- selfstab/lexer.next -/
def Etg1_24 : Fact := ⟨73, [.string Ettxt0, .int .i64 220], 642, [], .tuple #[.agg #[.int .i64 3, .int .i64 220, .int .i64 222, .int .i64 0], .int .i64 0], 646, [], 642⟩
/- selfstab/lexer.next -/
def Etg1_25 : Fact := ⟨73, [.string Ettxt0, .int .i64 223], 649, [], .tuple #[.agg #[.int .i64 1, .int .i64 223, .int .i64 228, .int .i64 0], .int .i64 0], 652, [], 649⟩
/- selfstab/lexer.next -/
def Etg1_26 : Fact := ⟨73, [.string Ettxt0, .int .i64 228], 655, [], .tuple #[.agg #[.int .i64 3, .int .i64 228, .int .i64 229, .int .i64 0], .int .i64 0], 659, [], 655⟩
/- selfstab/lexer.next -/
def Etg1_27 : Fact := ⟨73, [.string Ettxt0, .int .i64 230], 662, [], .tuple #[.agg #[.int .i64 1, .int .i64 230, .int .i64 234, .int .i64 0], .int .i64 0], 665, [], 662⟩
/- selfstab/lexer.next -/
def Etg1_28 : Fact := ⟨73, [.string Ettxt0, .int .i64 235], 668, [], .tuple #[.agg #[.int .i64 1, .int .i64 235, .int .i64 239, .int .i64 0], .int .i64 0], 671, [], 668⟩
/- selfstab/lexer.next -/
def Etg1_29 : Fact := ⟨73, [.string Ettxt0, .int .i64 239], 674, [], .tuple #[.agg #[.int .i64 3, .int .i64 239, .int .i64 240, .int .i64 0], .int .i64 0], 678, [], 674⟩
/- selfstab/lexer.next -/
def Etg1_30 : Fact := ⟨73, [.string Ettxt0, .int .i64 241], 681, [], .tuple #[.agg #[.int .i64 3, .int .i64 241, .int .i64 242, .int .i64 0], .int .i64 0], 685, [], 681⟩
/- selfstab/lexer.next -/
def Etg1_31 : Fact := ⟨73, [.string Ettxt0, .int .i64 244], 694, [], .tuple #[.agg #[.int .i64 3, .int .i64 244, .int .i64 246, .int .i64 0], .int .i64 0], 698, [], 694⟩
/- selfstab/lexer.next -/
def Etg1_32 : Fact := ⟨73, [.string Ettxt0, .int .i64 247], 701, [], .tuple #[.agg #[.int .i64 1, .int .i64 247, .int .i64 250, .int .i64 0], .int .i64 0], 704, [], 701⟩
/- selfstab/lexer.next -/
def Etg1_33 : Fact := ⟨73, [.string Ettxt0, .int .i64 250], 707, [], .tuple #[.agg #[.int .i64 3, .int .i64 250, .int .i64 251, .int .i64 0], .int .i64 0], 711, [], 707⟩
/- selfstab/lexer.next -/
def Etg1_34 : Fact := ⟨73, [.string Ettxt0, .int .i64 252], 720, [], .tuple #[.agg #[.int .i64 3, .int .i64 252, .int .i64 253, .int .i64 0], .int .i64 0], 724, [], 720⟩
/- selfstab/lexer.next -/
def Etg1_35 : Fact := ⟨73, [.string Ettxt0, .int .i64 255], 733, [], .tuple #[.agg #[.int .i64 3, .int .i64 255, .int .i64 256, .int .i64 0], .int .i64 0], 737, [], 733⟩
/- selfstab/lexer.next -/
def Etg1_36 : Fact := ⟨73, [.string Ettxt0, .int .i64 258], 746, [], .tuple #[.agg #[.int .i64 3, .int .i64 258, .int .i64 259, .int .i64 0], .int .i64 0], 750, [], 746⟩
/- selfstab/lexer.next -/
def Etg1_37 : Fact := ⟨73, [.string Ettxt0, .int .i64 265], 766, [], .tuple #[.agg #[.int .i64 3, .int .i64 265, .int .i64 267, .int .i64 0], .int .i64 0], 770, [], 766⟩
/- selfstab/lexer.next -/
def Etg1_38 : Fact := ⟨73, [.string Ettxt0, .int .i64 268], 773, [], .tuple #[.agg #[.int .i64 1, .int .i64 268, .int .i64 272, .int .i64 0], .int .i64 0], 776, [], 773⟩
/- selfstab/lexer.next -/
def Etg1_39 : Fact := ⟨73, [.string Ettxt0, .int .i64 272], 779, [], .tuple #[.agg #[.int .i64 3, .int .i64 272, .int .i64 273, .int .i64 0], .int .i64 0], 783, [], 779⟩
def Etg1L : List Fact := [Etg1_0, Etg1_1, Etg1_2, Etg1_3, Etg1_4, Etg1_5, Etg1_6, Etg1_7, Etg1_8, Etg1_9, Etg1_10, Etg1_11, Etg1_12, Etg1_13, Etg1_14, Etg1_15, Etg1_16, Etg1_17, Etg1_18, Etg1_19, Etg1_20, Etg1_21, Etg1_22, Etg1_23, Etg1_24, Etg1_25, Etg1_26, Etg1_27, Etg1_28, Etg1_29, Etg1_30, Etg1_31, Etg1_32, Etg1_33, Etg1_34, Etg1_35, Etg1_36, Etg1_37, Etg1_38, Etg1_39]
theorem Etg1L_ok : AllOk Etg1L := AllOk.seq AllOk.nil (by kernel_rfl)
/- selfstab/lexer.next -/
def Etg2_0 : Fact := ⟨73, [.string Ettxt0, .int .i64 274], 786, [], .tuple #[.agg #[.int .i64 1, .int .i64 274, .int .i64 278, .int .i64 0], .int .i64 0], 789, [], 786⟩
/- selfstab/lexer.next -/
def Etg2_1 : Fact := ⟨73, [.string Ettxt0, .int .i64 279], 792, [], .tuple #[.agg #[.int .i64 1, .int .i64 279, .int .i64 282, .int .i64 0], .int .i64 0], 795, [], 792⟩
/- selfstab/lexer.next -/
def Etg2_2 : Fact := ⟨73, [.string Ettxt0, .int .i64 282], 798, [], .tuple #[.agg #[.int .i64 3, .int .i64 282, .int .i64 283, .int .i64 0], .int .i64 0], 802, [], 798⟩
/- selfstab/lexer.next -/
def Etg2_3 : Fact := ⟨73, [.string Ettxt0, .int .i64 286], 811, [], .tuple #[.agg #[.int .i64 3, .int .i64 286, .int .i64 287, .int .i64 0], .int .i64 0], 815, [], 811⟩
/- selfstab/lexer.next -/
def Etg2_4 : Fact := ⟨73, [.string Ettxt0, .int .i64 290], 824, [], .tuple #[.agg #[.int .i64 3, .int .i64 290, .int .i64 292, .int .i64 0], .int .i64 0], 828, [], 824⟩
/- selfstab/lexer.next -/
def Etg2_5 : Fact := ⟨73, [.string Ettxt0, .int .i64 293], 831, [], .tuple #[.agg #[.int .i64 1, .int .i64 293, .int .i64 296, .int .i64 0], .int .i64 0], 834, [], 831⟩
/- selfstab/lexer.next -/
def Etg2_6 : Fact := ⟨73, [.string Ettxt0, .int .i64 296], 837, [], .tuple #[.agg #[.int .i64 3, .int .i64 296, .int .i64 297, .int .i64 0], .int .i64 0], 841, [], 837⟩
/- selfstab/lexer.next -/
def Etg2_7 : Fact := ⟨73, [.string Ettxt0, .int .i64 298], 850, [], .tuple #[.agg #[.int .i64 3, .int .i64 298, .int .i64 299, .int .i64 0], .int .i64 0], 854, [], 850⟩
/- selfstab/lexer.next -/
def Etg2_8 : Fact := ⟨73, [.string Ettxt0, .int .i64 301], 863, [], .tuple #[.agg #[.int .i64 3, .int .i64 301, .int .i64 303, .int .i64 0], .int .i64 0], 867, [], 863⟩
/- selfstab/lexer.next -/
def Etg2_9 : Fact := ⟨73, [.string Ettxt0, .int .i64 305], 876, [], .tuple #[.agg #[.int .i64 3, .int .i64 305, .int .i64 306, .int .i64 0], .int .i64 0], 880, [], 876⟩
/- selfstab/lexer.next -/
def Etg2_10 : Fact := ⟨73, [.string Ettxt0, .int .i64 307], 883, [], .tuple #[.agg #[.int .i64 3, .int .i64 307, .int .i64 309, .int .i64 0], .int .i64 0], 887, [], 883⟩
/- selfstab/lexer.next -/
def Etg2_11 : Fact := ⟨73, [.string Ettxt0, .int .i64 310], 890, [], .tuple #[.agg #[.int .i64 1, .int .i64 310, .int .i64 314, .int .i64 0], .int .i64 0], 893, [], 890⟩
/- selfstab/lexer.next -/
def Etg2_12 : Fact := ⟨73, [.string Ettxt0, .int .i64 314], 896, [], .tuple #[.agg #[.int .i64 3, .int .i64 314, .int .i64 315, .int .i64 0], .int .i64 0], 900, [], 896⟩
/- selfstab/lexer.next -/
def Etg2_13 : Fact := ⟨73, [.string Ettxt0, .int .i64 316], 909, [], .tuple #[.agg #[.int .i64 3, .int .i64 316, .int .i64 317, .int .i64 0], .int .i64 0], 913, [], 909⟩
/- selfstab/lexer.next -/
def Etg2_14 : Fact := ⟨73, [.string Ettxt0, .int .i64 319], 922, [], .tuple #[.agg #[.int .i64 3, .int .i64 319, .int .i64 321, .int .i64 0], .int .i64 0], 926, [], 922⟩
/- selfstab/lexer.next -/
def Etg2_15 : Fact := ⟨73, [.string Ettxt0, .int .i64 324], 935, [], .tuple #[.agg #[.int .i64 3, .int .i64 324, .int .i64 326, .int .i64 0], .int .i64 0], 939, [], 935⟩
/- selfstab/lexer.next -/
def Etg2_16 : Fact := ⟨73, [.string Ettxt0, .int .i64 328], 948, [], .tuple #[.agg #[.int .i64 3, .int .i64 328, .int .i64 329, .int .i64 0], .int .i64 0], 952, [], 948⟩
/- selfstab/lexer.next -/
def Etg2_17 : Fact := ⟨73, [.string Ettxt0, .int .i64 331], 961, [], .tuple #[.agg #[.int .i64 3, .int .i64 331, .int .i64 333, .int .i64 0], .int .i64 0], 965, [], 961⟩
/- selfstab/lexer.next -/
def Etg2_18 : Fact := ⟨73, [.string Ettxt0, .int .i64 335], 974, [], .tuple #[.agg #[.int .i64 3, .int .i64 335, .int .i64 336, .int .i64 0], .int .i64 0], 978, [], 974⟩
/- selfstab/lexer.next -/
def Etg2_19 : Fact := ⟨73, [.string Ettxt0, .int .i64 345], 1001, [], .tuple #[.agg #[.int .i64 3, .int .i64 345, .int .i64 346, .int .i64 0], .int .i64 0], 1005, [], 1001⟩
/- selfstab/lexer.next -/
def Etg2_20 : Fact := ⟨73, [.string Ettxt0, .int .i64 347], 1014, [], .tuple #[.agg #[.int .i64 3, .int .i64 347, .int .i64 348, .int .i64 0], .int .i64 0], 1018, [], 1014⟩
def Etg2L : List Fact := [Etg2_0, Etg2_1, Etg2_2, Etg2_3, Etg2_4, Etg2_5, Etg2_6, Etg2_7, Etg2_8, Etg2_9, Etg2_10, Etg2_11, Etg2_12, Etg2_13, Etg2_14, Etg2_15, Etg2_16, Etg2_17, Etg2_18, Etg2_19, Etg2_20]
theorem Etg2L_ok : AllOk Etg2L := AllOk.seq AllOk.nil (by kernel_rfl)
end Ev
end Go.Proofs.YtbhjopjonoldmaaGreat
