/- Facts. Printed by wip/facts4.py. -/
import Derived.Test.YtdenophkdliinaaGreatEeC
namespace Go.Proofs.YtdenophkdliinaaGreat
namespace Ev
open Go
set_option maxRecDepth 1000000
/- selfstab/lexer.next -/
def Eeg0_0 : Fact := ⟨57, [.string Eetxt0, .int .i64 0], 43, [], .tuple #[.agg #[.int .i64 1, .int .i64 0, .int .i64 7, .int .i64 0], .int .i64 0], 46, [], 43⟩
/- selfstab/lexer.next -/
def Eeg0_1 : Fact := ⟨57, [.string Eetxt0, .int .i64 8], 49, [], .tuple #[.agg #[.int .i64 1, .int .i64 8, .int .i64 16, .int .i64 0], .int .i64 0], 52, [], 49⟩
/- selfstab/lexer.next -/
def Eeg0_2 : Fact := ⟨57, [.string Eetxt0, .int .i64 16], 55, [], .tuple #[.agg #[.int .i64 3, .int .i64 16, .int .i64 17, .int .i64 0], .int .i64 0], 59, [], 55⟩
/- selfstab/lexer.next -/
def Eeg0_3 : Fact := ⟨57, [.string Eetxt0, .int .i64 24], 74, [], .tuple #[.agg #[.int .i64 3, .int .i64 24, .int .i64 25, .int .i64 0], .int .i64 0], 78, [], 74⟩
/- selfstab/lexer.next -/
def Eeg0_4 : Fact := ⟨57, [.string Eetxt0, .int .i64 32], 100, [], .tuple #[.agg #[.int .i64 3, .int .i64 32, .int .i64 33, .int .i64 0], .int .i64 0], 104, [], 100⟩
/- selfstab/lexer.next -/
def Eeg0_5 : Fact := ⟨57, [.string Eetxt0, .int .i64 40], 119, [], .tuple #[.agg #[.int .i64 3, .int .i64 40, .int .i64 41, .int .i64 0], .int .i64 0], 123, [], 119⟩
/- selfstab/lexer.next -/
def Eeg0_6 : Fact := ⟨57, [.string Eetxt0, .int .i64 42], 126, [], .tuple #[.agg #[.int .i64 1, .int .i64 42, .int .i64 46, .int .i64 0], .int .i64 0], 129, [], 126⟩
/- selfstab/lexer.next -/
def Eeg0_7 : Fact := ⟨57, [.string Eetxt0, .int .i64 46], 132, [], .tuple #[.agg #[.int .i64 3, .int .i64 46, .int .i64 47, .int .i64 0], .int .i64 0], 136, [], 132⟩
/- selfstab/lexer.next -/
def Eeg0_8 : Fact := ⟨57, [.string Eetxt0, .int .i64 48], 139, [], .tuple #[.agg #[.int .i64 1, .int .i64 48, .int .i64 52, .int .i64 0], .int .i64 0], 142, [], 139⟩
/- selfstab/lexer.next -/
def Eeg0_9 : Fact := ⟨57, [.string Eetxt0, .int .i64 53], 145, [], .tuple #[.agg #[.int .i64 1, .int .i64 53, .int .i64 56, .int .i64 0], .int .i64 0], 148, [], 145⟩
/- selfstab/lexer.next -/
def Eeg0_10 : Fact := ⟨57, [.string Eetxt0, .int .i64 56], 151, [], .tuple #[.agg #[.int .i64 3, .int .i64 56, .int .i64 57, .int .i64 0], .int .i64 0], 155, [], 151⟩
/- selfstab/lexer.next -/
def Eeg0_11 : Fact := ⟨57, [.string Eetxt0, .int .i64 60], 164, [], .tuple #[.agg #[.int .i64 3, .int .i64 60, .int .i64 62, .int .i64 0], .int .i64 0], 168, [], 164⟩
/- selfstab/lexer.next -/
def Eeg0_12 : Fact := ⟨57, [.string Eetxt0, .int .i64 63], 171, [], .tuple #[.agg #[.int .i64 3, .int .i64 63, .int .i64 64, .int .i64 0], .int .i64 0], 175, [], 171⟩
/- selfstab/lexer.next -/
def Eeg0_13 : Fact := ⟨57, [.string Eetxt0, .int .i64 64], 178, [], .tuple #[.agg #[.int .i64 1, .int .i64 64, .int .i64 67, .int .i64 0], .int .i64 0], 181, [], 178⟩
/- selfstab/lexer.next -/
def Eeg0_14 : Fact := ⟨57, [.string Eetxt0, .int .i64 68], 184, [], .tuple #[.agg #[.int .i64 3, .int .i64 68, .int .i64 69, .int .i64 0], .int .i64 0], 188, [], 184⟩
/- selfstab/lexer.next -/
def Eeg0_15 : Fact := ⟨57, [.string Eetxt0, .int .i64 72], 197, [], .tuple #[.agg #[.int .i64 3, .int .i64 72, .int .i64 73, .int .i64 0], .int .i64 0], 201, [], 197⟩
/- selfstab/lexer.next -/
def Eeg0_16 : Fact := ⟨57, [.string Eetxt0, .int .i64 76], 210, [], .tuple #[.agg #[.int .i64 3, .int .i64 76, .int .i64 77, .int .i64 0], .int .i64 0], 214, [], 210⟩
/- selfstab/lexer.next -/
def Eeg0_17 : Fact := ⟨57, [.string Eetxt0, .int .i64 78], 217, [], .tuple #[.agg #[.int .i64 3, .int .i64 78, .int .i64 79, .int .i64 0], .int .i64 0], 221, [], 217⟩
/- selfstab/lexer.next -/
def Eeg0_18 : Fact := ⟨57, [.string Eetxt0, .int .i64 79], 224, [], .tuple #[.agg #[.int .i64 1, .int .i64 79, .int .i64 85, .int .i64 0], .int .i64 0], 227, [], 224⟩
/- selfstab/lexer.next -/
def Eeg0_19 : Fact := ⟨57, [.string Eetxt0, .int .i64 85], 230, [], .tuple #[.agg #[.int .i64 3, .int .i64 85, .int .i64 86, .int .i64 0], .int .i64 0], 234, [], 230⟩
def Eeg0L : List Fact := [Eeg0_0, Eeg0_1, Eeg0_2, Eeg0_3, Eeg0_4, Eeg0_5, Eeg0_6, Eeg0_7, Eeg0_8, Eeg0_9, Eeg0_10, Eeg0_11, Eeg0_12, Eeg0_13, Eeg0_14, Eeg0_15, Eeg0_16, Eeg0_17, Eeg0_18, Eeg0_19]
theorem Eeg0L_ok : AllOk Eeg0L := AllOk.seq AllOk.nil (by kernel_rfl)
/- selfstab/lexer.next -/
def Eeg1_0 : Fact := ⟨57, [.string Eetxt0, .int .i64 87], 243, [], .tuple #[.agg #[.int .i64 3, .int .i64 87, .int .i64 88, .int .i64 0], .int .i64 0], 247, [], 243⟩
/- selfstab/lexer.next -/
def Eeg1_1 : Fact := ⟨57, [.string Eetxt0, .int .i64 89], 256, [], .tuple #[.agg #[.int .i64 3, .int .i64 89, .int .i64 90, .int .i64 0], .int .i64 0], 260, [], 256⟩
/- selfstab/lexer.next -/
def Eeg1_2 : Fact := ⟨57, [.string Eetxt0, .int .i64 91], 263, [], .tuple #[.agg #[.int .i64 3, .int .i64 91, .int .i64 92, .int .i64 0], .int .i64 0], 267, [], 263⟩
/- selfstab/lexer.next -/
def Eeg1_3 : Fact := ⟨57, [.string Eetxt0, .int .i64 95], 276, [], .tuple #[.agg #[.int .i64 3, .int .i64 95, .int .i64 96, .int .i64 0], .int .i64 0], 280, [], 276⟩
/- selfstab/lexer.next -/
def Eeg1_4 : Fact := ⟨57, [.string Eetxt0, .int .i64 97], 283, [], .tuple #[.agg #[.int .i64 1, .int .i64 97, .int .i64 103, .int .i64 0], .int .i64 0], 286, [], 283⟩
/- selfstab/lexer.next -/
def Eeg1_5 : Fact := ⟨57, [.string Eetxt0, .int .i64 103], 289, [], .tuple #[.agg #[.int .i64 3, .int .i64 103, .int .i64 104, .int .i64 0], .int .i64 0], 293, [], 289⟩
/- selfstab/lexer.next -/
def Eeg1_6 : Fact := ⟨57, [.string Eetxt0, .int .i64 105], 302, [], .tuple #[.agg #[.int .i64 3, .int .i64 105, .int .i64 106, .int .i64 0], .int .i64 0], 306, [], 302⟩
/- selfstab/lexer.next -/
def Eeg1_7 : Fact := ⟨57, [.string Eetxt0, .int .i64 107], 315, [], .tuple #[.agg #[.int .i64 3, .int .i64 107, .int .i64 108, .int .i64 0], .int .i64 0], 319, [], 315⟩
/- selfstab/lexer.next -/
def Eeg1_8 : Fact := ⟨57, [.string Eetxt0, .int .i64 109], 322, [], .tuple #[.agg #[.int .i64 3, .int .i64 109, .int .i64 110, .int .i64 0], .int .i64 0], 326, [], 322⟩
/- selfstab/lexer.next -/
def Eeg1_9 : Fact := ⟨57, [.string Eetxt0, .int .i64 113], 335, [], .tuple #[.agg #[.int .i64 3, .int .i64 113, .int .i64 114, .int .i64 0], .int .i64 0], 339, [], 335⟩
/- selfstab/lexer.next -/
def Eeg1_10 : Fact := ⟨57, [.string Eetxt0, .int .i64 116], 348, [], .tuple #[.agg #[.int .i64 3, .int .i64 116, .int .i64 117, .int .i64 0], .int .i64 0], 352, [], 348⟩
/- selfstab/lexer.next -/
def Eeg1_11 : Fact := ⟨57, [.string Eetxt0, .int .i64 117], 355, [], .tuple #[.agg #[.int .i64 3, .int .i64 117, .int .i64 118, .int .i64 0], .int .i64 0], 359, [], 355⟩
/- selfstab/lexer.next -/
def Eeg1_12 : Fact := ⟨57, [.string Eetxt0, .int .i64 124], 375, [], .tuple #[.agg #[.int .i64 3, .int .i64 124, .int .i64 126, .int .i64 0], .int .i64 0], 379, [], 375⟩
/- selfstab/lexer.next -/
def Eeg1_13 : Fact := ⟨57, [.string Eetxt0, .int .i64 127], 382, [], .tuple #[.agg #[.int .i64 3, .int .i64 127, .int .i64 128, .int .i64 0], .int .i64 0], 386, [], 382⟩
/- selfstab/lexer.next -/
def Eeg1_14 : Fact := ⟨57, [.string Eetxt0, .int .i64 128], 389, [], .tuple #[.agg #[.int .i64 1, .int .i64 128, .int .i64 131, .int .i64 0], .int .i64 0], 392, [], 389⟩
/- selfstab/lexer.next -/
def Eeg1_15 : Fact := ⟨57, [.string Eetxt0, .int .i64 132], 395, [], .tuple #[.agg #[.int .i64 3, .int .i64 132, .int .i64 133, .int .i64 0], .int .i64 0], 399, [], 395⟩
/- selfstab/lexer.next -/
def Eeg1_16 : Fact := ⟨57, [.string Eetxt0, .int .i64 136], 408, [], .tuple #[.agg #[.int .i64 3, .int .i64 136, .int .i64 137, .int .i64 0], .int .i64 0], 412, [], 408⟩
/- selfstab/lexer.next -/
def Eeg1_17 : Fact := ⟨57, [.string Eetxt0, .int .i64 140], 421, [], .tuple #[.agg #[.int .i64 3, .int .i64 140, .int .i64 141, .int .i64 0], .int .i64 0], 425, [], 421⟩
/- selfstab/lexer.next -/
def Eeg1_18 : Fact := ⟨57, [.string Eetxt0, .int .i64 142], 428, [], .tuple #[.agg #[.int .i64 3, .int .i64 142, .int .i64 143, .int .i64 0], .int .i64 0], 432, [], 428⟩
/- selfstab/lexer.next -/
def Eeg1_19 : Fact := ⟨57, [.string Eetxt0, .int .i64 143], 435, [], .tuple #[.agg #[.int .i64 1, .int .i64 143, .int .i64 149, .int .i64 0], .int .i64 0], 438, [], 435⟩
def Eeg1L : List Fact := [Eeg1_0, Eeg1_1, Eeg1_2, Eeg1_3, Eeg1_4, Eeg1_5, Eeg1_6, Eeg1_7, Eeg1_8, Eeg1_9, Eeg1_10, Eeg1_11, Eeg1_12, Eeg1_13, Eeg1_14, Eeg1_15, Eeg1_16, Eeg1_17, Eeg1_18, Eeg1_19]
theorem Eeg1L_ok : AllOk Eeg1L := AllOk.seq AllOk.nil (by kernel_rfl)
/- selfstab/lexer.next -/
def Eeg2_0 : Fact := ⟨57, [.string Eetxt0, .int .i64 149], 441, [], .tuple #[.agg #[.int .i64 3, .int .i64 149, .int .i64 150, .int .i64 0], .int .i64 0], 445, [], 441⟩
/- selfstab/lexer.next -/
def Eeg2_1 : Fact := ⟨57, [.string Eetxt0, .int .i64 151], 454, [], .tuple #[.agg #[.int .i64 3, .int .i64 151, .int .i64 152, .int .i64 0], .int .i64 0], 458, [], 454⟩
/- selfstab/lexer.next -/
def Eeg2_2 : Fact := ⟨57, [.string Eetxt0, .int .i64 153], 467, [], .tuple #[.agg #[.int .i64 3, .int .i64 153, .int .i64 154, .int .i64 0], .int .i64 0], 471, [], 467⟩
/- selfstab/lexer.next -/
def Eeg2_3 : Fact := ⟨57, [.string Eetxt0, .int .i64 155], 474, [], .tuple #[.agg #[.int .i64 3, .int .i64 155, .int .i64 156, .int .i64 0], .int .i64 0], 478, [], 474⟩
/- selfstab/lexer.next -/
def Eeg2_4 : Fact := ⟨57, [.string Eetxt0, .int .i64 159], 487, [], .tuple #[.agg #[.int .i64 3, .int .i64 159, .int .i64 160, .int .i64 0], .int .i64 0], 491, [], 487⟩
/- selfstab/lexer.next -/
def Eeg2_5 : Fact := ⟨57, [.string Eetxt0, .int .i64 161], 494, [], .tuple #[.agg #[.int .i64 1, .int .i64 161, .int .i64 167, .int .i64 0], .int .i64 0], 497, [], 494⟩
/- selfstab/lexer.next -/
def Eeg2_6 : Fact := ⟨57, [.string Eetxt0, .int .i64 167], 500, [], .tuple #[.agg #[.int .i64 3, .int .i64 167, .int .i64 168, .int .i64 0], .int .i64 0], 504, [], 500⟩
/- selfstab/lexer.next -/
def Eeg2_7 : Fact := ⟨57, [.string Eetxt0, .int .i64 169], 513, [], .tuple #[.agg #[.int .i64 3, .int .i64 169, .int .i64 170, .int .i64 0], .int .i64 0], 517, [], 513⟩
/- selfstab/lexer.next -/
def Eeg2_8 : Fact := ⟨57, [.string Eetxt0, .int .i64 171], 526, [], .tuple #[.agg #[.int .i64 3, .int .i64 171, .int .i64 172, .int .i64 0], .int .i64 0], 530, [], 526⟩
/- selfstab/lexer.next -/
def Eeg2_9 : Fact := ⟨57, [.string Eetxt0, .int .i64 173], 533, [], .tuple #[.agg #[.int .i64 3, .int .i64 173, .int .i64 174, .int .i64 0], .int .i64 0], 537, [], 533⟩
/- selfstab/lexer.next -/
def Eeg2_10 : Fact := ⟨57, [.string Eetxt0, .int .i64 177], 546, [], .tuple #[.agg #[.int .i64 3, .int .i64 177, .int .i64 178, .int .i64 0], .int .i64 0], 550, [], 546⟩
/- selfstab/lexer.next -/
def Eeg2_11 : Fact := ⟨57, [.string Eetxt0, .int .i64 180], 559, [], .tuple #[.agg #[.int .i64 3, .int .i64 180, .int .i64 181, .int .i64 0], .int .i64 0], 563, [], 559⟩
/- selfstab/lexer.next -/
def Eeg2_12 : Fact := ⟨57, [.string Eetxt0, .int .i64 181], 566, [], .tuple #[.agg #[.int .i64 3, .int .i64 181, .int .i64 182, .int .i64 0], .int .i64 0], 570, [], 566⟩
/- selfstab/lexer.next -/
def Eeg2_13 : Fact := ⟨57, [.string Eetxt0, .int .i64 182], 573, [], .tuple #[.agg #[.int .i64 3, .int .i64 182, .int .i64 183, .int .i64 0], .int .i64 0], 577, [], 573⟩
/- selfstab/lexer.next -/
def Eeg2_14 : Fact := ⟨57, [.string Eetxt0, .int .i64 184], 580, [], .tuple #[.agg #[.int .i64 1, .int .i64 184, .int .i64 188, .int .i64 0], .int .i64 0], 583, [], 580⟩
/- selfstab/lexer.next -/
def Eeg2_15 : Fact := ⟨57, [.string Eetxt0, .int .i64 189], 586, [], .tuple #[.agg #[.int .i64 1, .int .i64 189, .int .i64 193, .int .i64 0], .int .i64 0], 589, [], 586⟩
/- selfstab/lexer.next -/
def Eeg2_16 : Fact := ⟨57, [.string Eetxt0, .int .i64 193], 592, [], .tuple #[.agg #[.int .i64 3, .int .i64 193, .int .i64 194, .int .i64 0], .int .i64 0], 596, [], 592⟩
/- selfstab/lexer.next -/
def Eeg2_17 : Fact := ⟨57, [.string Eetxt0, .int .i64 197], 605, [], .tuple #[.agg #[.int .i64 3, .int .i64 197, .int .i64 199, .int .i64 0], .int .i64 0], 609, [], 605⟩
/- selfstab/lexer.next -/
def Eeg2_18 : Fact := ⟨57, [.string Eetxt0, .int .i64 200], 612, [], .tuple #[.agg #[.int .i64 3, .int .i64 200, .int .i64 201, .int .i64 0], .int .i64 0], 616, [], 612⟩
/- selfstab/lexer.next -/
def Eeg2_19 : Fact := ⟨57, [.string Eetxt0, .int .i64 201], 619, [], .tuple #[.agg #[.int .i64 1, .int .i64 201, .int .i64 204, .int .i64 0], .int .i64 0], 622, [], 619⟩
def Eeg2L : List Fact := [Eeg2_0, Eeg2_1, Eeg2_2, Eeg2_3, Eeg2_4, Eeg2_5, Eeg2_6, Eeg2_7, Eeg2_8, Eeg2_9, Eeg2_10, Eeg2_11, Eeg2_12, Eeg2_13, Eeg2_14, Eeg2_15, Eeg2_16, Eeg2_17, Eeg2_18, Eeg2_19]
theorem Eeg2L_ok : AllOk Eeg2L := AllOk.seq AllOk.nil (by kernel_rfl)
/- selfstab/lexer.next -/
def Eeg3_0 : Fact := ⟨57, [.string Eetxt0, .int .i64 204], 625, [], .tuple #[.agg #[.int .i64 3, .int .i64 204, .int .i64 205, .int .i64 0], .int .i64 0], 629, [], 625⟩
/- selfstab/lexer.next -/
def Eeg3_1 : Fact := ⟨57, [.string Eetxt0, .int .i64 206], 638, [], .tuple #[.agg #[.int .i64 3, .int .i64 206, .int .i64 207, .int .i64 0], .int .i64 0], 642, [], 638⟩
/- selfstab/lexer.next -/
def Eeg3_2 : Fact := ⟨57, [.string Eetxt0, .int .i64 209], 651, [], .tuple #[.agg #[.int .i64 3, .int .i64 209, .int .i64 211, .int .i64 0], .int .i64 0], 655, [], 651⟩
/- selfstab/lexer.next -/
def Eeg3_3 : Fact := ⟨57, [.string Eetxt0, .int .i64 213], 664, [], .tuple #[.agg #[.int .i64 3, .int .i64 213, .int .i64 214, .int .i64 0], .int .i64 0], 668, [], 664⟩
/- selfstab/lexer.next -/
def Eeg3_4 : Fact := ⟨57, [.string Eetxt0, .int .i64 220], 684, [], .tuple #[.agg #[.int .i64 3, .int .i64 220, .int .i64 222, .int .i64 0], .int .i64 0], 688, [], 684⟩
/- selfstab/lexer.next -/
def Eeg3_5 : Fact := ⟨57, [.string Eetxt0, .int .i64 223], 691, [], .tuple #[.agg #[.int .i64 1, .int .i64 223, .int .i64 228, .int .i64 0], .int .i64 0], 694, [], 691⟩
/- selfstab/lexer.next -/
def Eeg3_6 : Fact := ⟨57, [.string Eetxt0, .int .i64 228], 697, [], .tuple #[.agg #[.int .i64 3, .int .i64 228, .int .i64 229, .int .i64 0], .int .i64 0], 701, [], 697⟩
/- selfstab/lexer.next -/
def Eeg3_7 : Fact := ⟨57, [.string Eetxt0, .int .i64 230], 704, [], .tuple #[.agg #[.int .i64 1, .int .i64 230, .int .i64 234, .int .i64 0], .int .i64 0], 707, [], 704⟩
/- selfstab/lexer.next -/
def Eeg3_8 : Fact := ⟨57, [.string Eetxt0, .int .i64 235], 710, [], .tuple #[.agg #[.int .i64 1, .int .i64 235, .int .i64 239, .int .i64 0], .int .i64 0], 713, [], 710⟩
/- selfstab/lexer.next -/
def Eeg3_9 : Fact := ⟨57, [.string Eetxt0, .int .i64 239], 716, [], .tuple #[.agg #[.int .i64 3, .int .i64 239, .int .i64 240, .int .i64 0], .int .i64 0], 720, [], 716⟩
/- selfstab/lexer.next -/
def Eeg3_10 : Fact := ⟨57, [.string Eetxt0, .int .i64 241], 723, [], .tuple #[.agg #[.int .i64 3, .int .i64 241, .int .i64 242, .int .i64 0], .int .i64 0], 727, [], 723⟩
/- selfstab/lexer.next -/
def Eeg3_11 : Fact := ⟨57, [.string Eetxt0, .int .i64 244], 736, [], .tuple #[.agg #[.int .i64 3, .int .i64 244, .int .i64 246, .int .i64 0], .int .i64 0], 740, [], 736⟩
/- selfstab/lexer.next -/
def Eeg3_12 : Fact := ⟨57, [.string Eetxt0, .int .i64 247], 743, [], .tuple #[.agg #[.int .i64 1, .int .i64 247, .int .i64 250, .int .i64 0], .int .i64 0], 746, [], 743⟩
/- selfstab/lexer.next -/
def Eeg3_13 : Fact := ⟨57, [.string Eetxt0, .int .i64 250], 749, [], .tuple #[.agg #[.int .i64 3, .int .i64 250, .int .i64 251, .int .i64 0], .int .i64 0], 753, [], 749⟩
/- selfstab/lexer.next -/
def Eeg3_14 : Fact := ⟨57, [.string Eetxt0, .int .i64 252], 762, [], .tuple #[.agg #[.int .i64 3, .int .i64 252, .int .i64 253, .int .i64 0], .int .i64 0], 766, [], 762⟩
/- selfstab/lexer.next -/
def Eeg3_15 : Fact := ⟨57, [.string Eetxt0, .int .i64 255], 775, [], .tuple #[.agg #[.int .i64 3, .int .i64 255, .int .i64 256, .int .i64 0], .int .i64 0], 779, [], 775⟩
/- selfstab/lexer.next -/
def Eeg3_16 : Fact := ⟨57, [.string Eetxt0, .int .i64 258], 788, [], .tuple #[.agg #[.int .i64 3, .int .i64 258, .int .i64 259, .int .i64 0], .int .i64 0], 792, [], 788⟩
/- selfstab/lexer.next -/
def Eeg3_17 : Fact := ⟨57, [.string Eetxt0, .int .i64 265], 808, [], .tuple #[.agg #[.int .i64 3, .int .i64 265, .int .i64 267, .int .i64 0], .int .i64 0], 812, [], 808⟩
/- selfstab/lexer.next -/
def Eeg3_18 : Fact := ⟨57, [.string Eetxt0, .int .i64 268], 815, [], .tuple #[.agg #[.int .i64 1, .int .i64 268, .int .i64 272, .int .i64 0], .int .i64 0], 818, [], 815⟩
/- selfstab/lexer.next -/
def Eeg3_19 : Fact := ⟨57, [.string Eetxt0, .int .i64 272], 821, [], .tuple #[.agg #[.int .i64 3, .int .i64 272, .int .i64 273, .int .i64 0], .int .i64 0], 825, [], 821⟩
def Eeg3L : List Fact := [Eeg3_0, Eeg3_1, Eeg3_2, Eeg3_3, Eeg3_4, Eeg3_5, Eeg3_6, Eeg3_7, Eeg3_8, Eeg3_9, Eeg3_10, Eeg3_11, Eeg3_12, Eeg3_13, Eeg3_14, Eeg3_15, Eeg3_16, Eeg3_17, Eeg3_18, Eeg3_19]
theorem Eeg3L_ok : AllOk Eeg3L := AllOk.seq AllOk.nil (by kernel_rfl)
/- selfstab/lexer.next -/
def Eeg4_0 : Fact := ⟨57, [.string Eetxt0, .int .i64 274], 828, [], .tuple #[.agg #[.int .i64 1, .int .i64 274, .int .i64 278, .int .i64 0], .int .i64 0], 831, [], 828⟩
/- selfstab/lexer.next -/
def Eeg4_1 : Fact := ⟨57, [.string Eetxt0, .int .i64 279], 834, [], .tuple #[.agg #[.int .i64 1, .int .i64 279, .int .i64 282, .int .i64 0], .int .i64 0], 837, [], 834⟩
/- selfstab/lexer.next -/
def Eeg4_2 : Fact := ⟨57, [.string Eetxt0, .int .i64 282], 840, [], .tuple #[.agg #[.int .i64 3, .int .i64 282, .int .i64 283, .int .i64 0], .int .i64 0], 844, [], 840⟩
/- selfstab/lexer.next -/
def Eeg4_3 : Fact := ⟨57, [.string Eetxt0, .int .i64 286], 853, [], .tuple #[.agg #[.int .i64 3, .int .i64 286, .int .i64 287, .int .i64 0], .int .i64 0], 857, [], 853⟩
/- selfstab/lexer.next -/
def Eeg4_4 : Fact := ⟨57, [.string Eetxt0, .int .i64 290], 866, [], .tuple #[.agg #[.int .i64 3, .int .i64 290, .int .i64 292, .int .i64 0], .int .i64 0], 870, [], 866⟩
/- selfstab/lexer.next -/
def Eeg4_5 : Fact := ⟨57, [.string Eetxt0, .int .i64 293], 873, [], .tuple #[.agg #[.int .i64 1, .int .i64 293, .int .i64 296, .int .i64 0], .int .i64 0], 876, [], 873⟩
/- selfstab/lexer.next -/
def Eeg4_6 : Fact := ⟨57, [.string Eetxt0, .int .i64 296], 879, [], .tuple #[.agg #[.int .i64 3, .int .i64 296, .int .i64 297, .int .i64 0], .int .i64 0], 883, [], 879⟩
/- selfstab/lexer.next -/
def Eeg4_7 : Fact := ⟨57, [.string Eetxt0, .int .i64 298], 892, [], .tuple #[.agg #[.int .i64 3, .int .i64 298, .int .i64 299, .int .i64 0], .int .i64 0], 896, [], 892⟩
/- selfstab/lexer.next -/
def Eeg4_8 : Fact := ⟨57, [.string Eetxt0, .int .i64 301], 905, [], .tuple #[.agg #[.int .i64 3, .int .i64 301, .int .i64 303, .int .i64 0], .int .i64 0], 909, [], 905⟩
/- selfstab/lexer.next -/
def Eeg4_9 : Fact := ⟨57, [.string Eetxt0, .int .i64 305], 918, [], .tuple #[.agg #[.int .i64 3, .int .i64 305, .int .i64 306, .int .i64 0], .int .i64 0], 922, [], 918⟩
/- selfstab/lexer.next -/
def Eeg4_10 : Fact := ⟨57, [.string Eetxt0, .int .i64 307], 925, [], .tuple #[.agg #[.int .i64 3, .int .i64 307, .int .i64 309, .int .i64 0], .int .i64 0], 929, [], 925⟩
/- selfstab/lexer.next -/
def Eeg4_11 : Fact := ⟨57, [.string Eetxt0, .int .i64 310], 932, [], .tuple #[.agg #[.int .i64 1, .int .i64 310, .int .i64 314, .int .i64 0], .int .i64 0], 935, [], 932⟩
/- selfstab/lexer.next -/
def Eeg4_12 : Fact := ⟨57, [.string Eetxt0, .int .i64 314], 938, [], .tuple #[.agg #[.int .i64 3, .int .i64 314, .int .i64 315, .int .i64 0], .int .i64 0], 942, [], 938⟩
/- selfstab/lexer.next -/
def Eeg4_13 : Fact := ⟨57, [.string Eetxt0, .int .i64 316], 951, [], .tuple #[.agg #[.int .i64 3, .int .i64 316, .int .i64 317, .int .i64 0], .int .i64 0], 955, [], 951⟩
/- selfstab/lexer.next -/
def Eeg4_14 : Fact := ⟨57, [.string Eetxt0, .int .i64 319], 964, [], .tuple #[.agg #[.int .i64 3, .int .i64 319, .int .i64 321, .int .i64 0], .int .i64 0], 968, [], 964⟩
/- selfstab/lexer.next -/
def Eeg4_15 : Fact := ⟨57, [.string Eetxt0, .int .i64 324], 977, [], .tuple #[.agg #[.int .i64 3, .int .i64 324, .int .i64 326, .int .i64 0], .int .i64 0], 981, [], 977⟩
/- selfstab/lexer.next -/
def Eeg4_16 : Fact := ⟨57, [.string Eetxt0, .int .i64 328], 990, [], .tuple #[.agg #[.int .i64 3, .int .i64 328, .int .i64 329, .int .i64 0], .int .i64 0], 994, [], 990⟩
/- selfstab/lexer.next -/
def Eeg4_17 : Fact := ⟨57, [.string Eetxt0, .int .i64 331], 1003, [], .tuple #[.agg #[.int .i64 3, .int .i64 331, .int .i64 333, .int .i64 0], .int .i64 0], 1007, [], 1003⟩
/- selfstab/lexer.next -/
def Eeg4_18 : Fact := ⟨57, [.string Eetxt0, .int .i64 335], 1016, [], .tuple #[.agg #[.int .i64 3, .int .i64 335, .int .i64 336, .int .i64 0], .int .i64 0], 1020, [], 1016⟩
/- selfstab/lexer.next -/
def Eeg4_19 : Fact := ⟨57, [.string Eetxt0, .int .i64 345], 1043, [], .tuple #[.agg #[.int .i64 3, .int .i64 345, .int .i64 346, .int .i64 0], .int .i64 0], 1047, [], 1043⟩
def Eeg4L : List Fact := [Eeg4_0, Eeg4_1, Eeg4_2, Eeg4_3, Eeg4_4, Eeg4_5, Eeg4_6, Eeg4_7, Eeg4_8, Eeg4_9, Eeg4_10, Eeg4_11, Eeg4_12, Eeg4_13, Eeg4_14, Eeg4_15, Eeg4_16, Eeg4_17, Eeg4_18, Eeg4_19]
theorem Eeg4L_ok : AllOk Eeg4L := AllOk.seq AllOk.nil (by kernel_rfl)
/- selfstab/lexer.next -/
def Eeg5_0 : Fact := ⟨57, [.string Eetxt0, .int .i64 347], 1056, [], .tuple #[.agg #[.int .i64 3, .int .i64 347, .int .i64 348, .int .i64 0], .int .i64 0], 1060, [], 1056⟩
def Eeg5L : List Fact := [Eeg5_0]
theorem Eeg5L_ok : AllOk Eeg5L := AllOk.seq AllOk.nil (by kernel_rfl)
end Ev
end Go.Proofs.YtdenophkdliinaaGreat
