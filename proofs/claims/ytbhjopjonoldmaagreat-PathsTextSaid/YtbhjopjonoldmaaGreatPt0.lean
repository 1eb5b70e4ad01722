/- Facts. Printed by wip/facts3.py. -/
import Derived.Test.YtbhjopjonoldmaaGreatPtC
namespace Go.Proofs.YtbhjopjonoldmaaGreat
namespace Ev
open Go
set_option maxRecDepth 1000000
/- selfstab/lexer.next -/
def Ptg0_0 : Fact := ⟨73, [.string Pttxt0, .int .i64 0], 1, [], .tuple #[.agg #[.int .i64 1, .int .i64 0, .int .i64 7, .int .i64 0], .int .i64 0], 4, [], 1⟩
/- selfstab/lexer.next -/
def Ptg0_1 : Fact := ⟨73, [.string Pttxt0, .int .i64 8], 7, [], .tuple #[.agg #[.int .i64 1, .int .i64 8, .int .i64 13, .int .i64 0], .int .i64 0], 10, [], 7⟩
/- selfstab/lexer.next -/
def Ptg0_2 : Fact := ⟨73, [.string Pttxt0, .int .i64 13], 13, [], .tuple #[.agg #[.int .i64 3, .int .i64 13, .int .i64 14, .int .i64 0], .int .i64 0], 17, [], 13⟩
/- selfstab/lexer.next -/
def Ptg0_3 : Fact := ⟨73, [.string Pttxt0, .int .i64 21], 32, [], .tuple #[.agg #[.int .i64 3, .int .i64 21, .int .i64 22, .int .i64 0], .int .i64 0], 36, [], 32⟩
/- selfstab/lexer.next -/
def Ptg0_4 : Fact := ⟨73, [.string Pttxt0, .int .i64 28], 52, [], .tuple #[.agg #[.int .i64 2, .int .i64 28, .int .i64 30, .int .i64 15], .int .i64 0], 55, [], 52⟩
/- selfstab/lexer.next -/
def Ptg0_5 : Fact := ⟨73, [.string Pttxt0, .int .i64 31], 58, [], .tuple #[.agg #[.int .i64 3, .int .i64 31, .int .i64 32, .int .i64 0], .int .i64 0], 62, [], 58⟩
/- selfstab/lexer.next -/
def Ptg0_6 : Fact := ⟨73, [.string Pttxt0, .int .i64 34], 71, [], .tuple #[.agg #[.int .i64 3, .int .i64 34, .int .i64 35, .int .i64 0], .int .i64 0], 75, [], 71⟩
/- selfstab/lexer.next -/
def Ptg0_7 : Fact := ⟨73, [.string Pttxt0, .int .i64 42], 90, [], .tuple #[.agg #[.int .i64 3, .int .i64 42, .int .i64 43, .int .i64 0], .int .i64 0], 94, [], 90⟩
/- selfstab/lexer.next -/
def Ptg0_8 : Fact := ⟨73, [.string Pttxt0, .int .i64 44], 97, [], .tuple #[.agg #[.int .i64 1, .int .i64 44, .int .i64 48, .int .i64 0], .int .i64 0], 100, [], 97⟩
/- selfstab/lexer.next -/
def Ptg0_9 : Fact := ⟨73, [.string Pttxt0, .int .i64 48], 103, [], .tuple #[.agg #[.int .i64 3, .int .i64 48, .int .i64 49, .int .i64 0], .int .i64 0], 107, [], 103⟩
/- selfstab/lexer.next -/
def Ptg0_10 : Fact := ⟨73, [.string Pttxt0, .int .i64 50], 110, [], .tuple #[.agg #[.int .i64 1, .int .i64 50, .int .i64 54, .int .i64 0], .int .i64 0], 113, [], 110⟩
/- selfstab/lexer.next -/
def Ptg0_11 : Fact := ⟨73, [.string Pttxt0, .int .i64 55], 116, [], .tuple #[.agg #[.int .i64 1, .int .i64 55, .int .i64 58, .int .i64 0], .int .i64 0], 119, [], 116⟩
/- selfstab/lexer.next -/
def Ptg0_12 : Fact := ⟨73, [.string Pttxt0, .int .i64 58], 122, [], .tuple #[.agg #[.int .i64 3, .int .i64 58, .int .i64 59, .int .i64 0], .int .i64 0], 126, [], 122⟩
/- selfstab/lexer.next -/
def Ptg0_13 : Fact := ⟨73, [.string Pttxt0, .int .i64 60], 129, [], .tuple #[.agg #[.int .i64 1, .int .i64 60, .int .i64 64, .int .i64 0], .int .i64 0], 132, [], 129⟩
/- selfstab/lexer.next -/
def Ptg0_14 : Fact := ⟨73, [.string Pttxt0, .int .i64 65], 135, [], .tuple #[.agg #[.int .i64 3, .int .i64 65, .int .i64 67, .int .i64 0], .int .i64 0], 139, [], 135⟩
/- selfstab/lexer.next -/
def Ptg0_15 : Fact := ⟨73, [.string Pttxt0, .int .i64 68], 142, [], .tuple #[.agg #[.int .i64 3, .int .i64 68, .int .i64 69, .int .i64 0], .int .i64 0], 146, [], 142⟩
/- selfstab/lexer.next -/
def Ptg0_16 : Fact := ⟨73, [.string Pttxt0, .int .i64 71], 155, [], .tuple #[.agg #[.int .i64 3, .int .i64 71, .int .i64 73, .int .i64 0], .int .i64 0], 159, [], 155⟩
/- selfstab/lexer.next -/
def Ptg0_17 : Fact := ⟨73, [.string Pttxt0, .int .i64 76], 168, [], .tuple #[.agg #[.int .i64 3, .int .i64 76, .int .i64 78, .int .i64 0], .int .i64 0], 172, [], 168⟩
/- selfstab/lexer.next -/
def Ptg0_18 : Fact := ⟨73, [.string Pttxt0, .int .i64 81], 181, [], .tuple #[.agg #[.int .i64 3, .int .i64 81, .int .i64 83, .int .i64 0], .int .i64 0], 185, [], 181⟩
/- selfstab/lexer.next -/
def Ptg0_19 : Fact := ⟨73, [.string Pttxt0, .int .i64 84], 188, [], .tuple #[.agg #[.int .i64 1, .int .i64 84, .int .i64 88, .int .i64 0], .int .i64 0], 191, [], 188⟩
/- selfstab/lexer.next -/
def Ptg0_20 : Fact := ⟨73, [.string Pttxt0, .int .i64 88], 194, [], .tuple #[.agg #[.int .i64 3, .int .i64 88, .int .i64 89, .int .i64 0], .int .i64 0], 198, [], 194⟩
/- selfstab/lexer.next -/
def Ptg0_21 : Fact := ⟨73, [.string Pttxt0, .int .i64 95], 214, [], .tuple #[.agg #[.int .i64 3, .int .i64 95, .int .i64 97, .int .i64 0], .int .i64 0], 218, [], 214⟩
/- selfstab/lexer.next -/
def Ptg0_22 : Fact := ⟨73, [.string Pttxt0, .int .i64 99], 227, [], .tuple #[.agg #[.int .i64 3, .int .i64 99, .int .i64 100, .int .i64 0], .int .i64 0], 231, [], 227⟩
/- selfstab/lexer.next -/
def Ptg0_23 : Fact := ⟨73, [.string Pttxt0, .int .i64 103], 240, [], .tuple #[.agg #[.int .i64 3, .int .i64 103, .int .i64 105, .int .i64 0], .int .i64 0], 244, [], 240⟩
/- selfstab/lexer.next -/
def Ptg0_24 : Fact := ⟨73, [.string Pttxt0, .int .i64 106], 247, [], .tuple #[.agg #[.int .i64 1, .int .i64 106, .int .i64 110, .int .i64 0], .int .i64 0], 250, [], 247⟩
/- selfstab/lexer.next -/
def Ptg0_25 : Fact := ⟨73, [.string Pttxt0, .int .i64 110], 253, [], .tuple #[.agg #[.int .i64 3, .int .i64 110, .int .i64 111, .int .i64 0], .int .i64 0], 257, [], 253⟩
/- selfstab/lexer.next -/
def Ptg0_26 : Fact := ⟨73, [.string Pttxt0, .int .i64 112], 260, [], .tuple #[.agg #[.int .i64 1, .int .i64 112, .int .i64 116, .int .i64 0], .int .i64 0], 263, [], 260⟩
/- selfstab/lexer.next -/
def Ptg0_27 : Fact := ⟨73, [.string Pttxt0, .int .i64 117], 266, [], .tuple #[.agg #[.int .i64 1, .int .i64 117, .int .i64 120, .int .i64 0], .int .i64 0], 269, [], 266⟩
/- selfstab/lexer.next -/
def Ptg0_28 : Fact := ⟨73, [.string Pttxt0, .int .i64 120], 272, [], .tuple #[.agg #[.int .i64 3, .int .i64 120, .int .i64 121, .int .i64 0], .int .i64 0], 276, [], 272⟩
/- selfstab/lexer.next -/
def Ptg0_29 : Fact := ⟨73, [.string Pttxt0, .int .i64 122], 279, [], .tuple #[.agg #[.int .i64 3, .int .i64 122, .int .i64 123, .int .i64 0], .int .i64 0], 283, [], 279⟩
/- selfstab/lexer.next -/
def Ptg0_30 : Fact := ⟨73, [.string Pttxt0, .int .i64 123], 286, [], .tuple #[.agg #[.int .i64 1, .int .i64 123, .int .i64 127, .int .i64 0], .int .i64 0], 289, [], 286⟩
/- selfstab/lexer.next -/
def Ptg0_31 : Fact := ⟨73, [.string Pttxt0, .int .i64 128], 292, [], .tuple #[.agg #[.int .i64 3, .int .i64 128, .int .i64 130, .int .i64 0], .int .i64 0], 296, [], 292⟩
/- selfstab/lexer.next -/
def Ptg0_32 : Fact := ⟨73, [.string Pttxt0, .int .i64 131], 299, [], .tuple #[.agg #[.int .i64 3, .int .i64 131, .int .i64 132, .int .i64 0], .int .i64 0], 303, [], 299⟩
/- selfstab/lexer.next -/
def Ptg0_33 : Fact := ⟨73, [.string Pttxt0, .int .i64 134], 312, [], .tuple #[.agg #[.int .i64 3, .int .i64 134, .int .i64 136, .int .i64 0], .int .i64 0], 316, [], 312⟩
/- selfstab/lexer.next -/
def Ptg0_34 : Fact := ⟨73, [.string Pttxt0, .int .i64 137], 319, [], .tuple #[.agg #[.int .i64 3, .int .i64 137, .int .i64 138, .int .i64 0], .int .i64 0], 323, [], 319⟩
/- selfstab/lexer.next -/
def Ptg0_35 : Fact := ⟨73, [.string Pttxt0, .int .i64 141], 332, [], .tuple #[.agg #[.int .i64 3, .int .i64 141, .int .i64 142, .int .i64 0], .int .i64 0], 336, [], 332⟩
/- selfstab/lexer.next -/
def Ptg0_36 : Fact := ⟨73, [.string Pttxt0, .int .i64 143], 345, [], .tuple #[.agg #[.int .i64 3, .int .i64 143, .int .i64 144, .int .i64 0], .int .i64 0], 349, [], 345⟩
/- selfstab/lexer.next -/
def Ptg0_37 : Fact := ⟨73, [.string Pttxt0, .int .i64 146], 358, [], .tuple #[.agg #[.int .i64 3, .int .i64 146, .int .i64 147, .int .i64 0], .int .i64 0], 362, [], 358⟩
/- selfstab/lexer.next -/
def Ptg0_38 : Fact := ⟨73, [.string Pttxt0, .int .i64 149], 371, [], .tuple #[.agg #[.int .i64 3, .int .i64 149, .int .i64 150, .int .i64 0], .int .i64 0], 375, [], 371⟩
/- selfstab/lexer.next -/
def Ptg0_39 : Fact := ⟨73, [.string Pttxt0, .int .i64 150], 378, [], .tuple #[.agg #[.int .i64 1, .int .i64 150, .int .i64 156, .int .i64 0], .int .i64 0], 381, [], 378⟩
def Ptg0L : List Fact := [Ptg0_0, Ptg0_1, Ptg0_2, Ptg0_3, Ptg0_4, Ptg0_5, Ptg0_6, Ptg0_7, Ptg0_8, Ptg0_9, Ptg0_10, Ptg0_11, Ptg0_12, Ptg0_13, Ptg0_14, Ptg0_15, Ptg0_16, Ptg0_17, Ptg0_18, Ptg0_19, Ptg0_20, Ptg0_21, Ptg0_22, Ptg0_23, Ptg0_24, Ptg0_25, Ptg0_26, Ptg0_27, Ptg0_28, Ptg0_29, Ptg0_30, Ptg0_31, Ptg0_32, Ptg0_33, Ptg0_34, Ptg0_35, Ptg0_36, Ptg0_37, Ptg0_38, Ptg0_39]
theorem Ptg0L_ok : AllOk Ptg0L := AllOk.seq AllOk.nil (by kernel_rfl)
/- selfstab/lexer.next -/
def Ptg1_0 : Fact := ⟨73, [.string Pttxt0, .int .i64 156], 384, [], .tuple #[.agg #[.int .i64 3, .int .i64 156, .int .i64 157, .int .i64 0], .int .i64 0], 388, [], 384⟩
/- selfstab/lexer.next -/
def Ptg1_1 : Fact := ⟨73, [.string Pttxt0, .int .i64 158], 391, [], .tuple #[.agg #[.int .i64 3, .int .i64 158, .int .i64 159, .int .i64 0], .int .i64 0], 395, [], 391⟩
/- selfstab/lexer.next -/
def Ptg1_2 : Fact := ⟨73, [.string Pttxt0, .int .i64 160], 398, [], .tuple #[.agg #[.int .i64 2, .int .i64 160, .int .i64 162, .int .i64 15], .int .i64 0], 401, [], 398⟩
/- selfstab/lexer.next -/
def Ptg1_3 : Fact := ⟨73, [.string Pttxt0, .int .i64 163], 404, [], .tuple #[.agg #[.int .i64 3, .int .i64 163, .int .i64 164, .int .i64 0], .int .i64 0], 408, [], 404⟩
/- selfstab/lexer.next -/
def Ptg1_4 : Fact := ⟨73, [.string Pttxt0, .int .i64 167], 417, [], .tuple #[.agg #[.int .i64 3, .int .i64 167, .int .i64 168, .int .i64 0], .int .i64 0], 421, [], 417⟩
/- selfstab/lexer.next -/
def Ptg1_5 : Fact := ⟨73, [.string Pttxt0, .int .i64 172], 430, [], .tuple #[.agg #[.int .i64 3, .int .i64 172, .int .i64 173, .int .i64 0], .int .i64 0], 434, [], 430⟩
/- selfstab/lexer.next -/
def Ptg1_6 : Fact := ⟨73, [.string Pttxt0, .int .i64 174], 443, [], .tuple #[.agg #[.int .i64 3, .int .i64 174, .int .i64 175, .int .i64 0], .int .i64 0], 447, [], 443⟩
/- selfstab/lexer.next -/
def Ptg1_7 : Fact := ⟨73, [.string Pttxt0, .int .i64 177], 456, [], .tuple #[.agg #[.int .i64 3, .int .i64 177, .int .i64 178, .int .i64 0], .int .i64 0], 460, [], 456⟩
/- selfstab/lexer.next -/
def Ptg1_8 : Fact := ⟨73, [.string Pttxt0, .int .i64 180], 469, [], .tuple #[.agg #[.int .i64 3, .int .i64 180, .int .i64 181, .int .i64 0], .int .i64 0], 473, [], 469⟩
/- selfstab/lexer.next -/
def Ptg1_9 : Fact := ⟨73, [.string Pttxt0, .int .i64 181], 476, [], .tuple #[.agg #[.int .i64 1, .int .i64 181, .int .i64 187, .int .i64 0], .int .i64 0], 479, [], 476⟩
/- selfstab/lexer.next -/
def Ptg1_10 : Fact := ⟨73, [.string Pttxt0, .int .i64 187], 482, [], .tuple #[.agg #[.int .i64 3, .int .i64 187, .int .i64 188, .int .i64 0], .int .i64 0], 486, [], 482⟩
/- selfstab/lexer.next -/
def Ptg1_11 : Fact := ⟨73, [.string Pttxt0, .int .i64 189], 489, [], .tuple #[.agg #[.int .i64 3, .int .i64 189, .int .i64 190, .int .i64 0], .int .i64 0], 493, [], 489⟩
/- selfstab/lexer.next -/
def Ptg1_12 : Fact := ⟨73, [.string Pttxt0, .int .i64 191], 496, [], .tuple #[.agg #[.int .i64 2, .int .i64 191, .int .i64 193, .int .i64 15], .int .i64 0], 499, [], 496⟩
/- selfstab/lexer.next -/
def Ptg1_13 : Fact := ⟨73, [.string Pttxt0, .int .i64 194], 502, [], .tuple #[.agg #[.int .i64 3, .int .i64 194, .int .i64 195, .int .i64 0], .int .i64 0], 506, [], 502⟩
/- selfstab/lexer.next -/
def Ptg1_14 : Fact := ⟨73, [.string Pttxt0, .int .i64 197], 515, [], .tuple #[.agg #[.int .i64 3, .int .i64 197, .int .i64 198, .int .i64 0], .int .i64 0], 519, [], 515⟩
/- selfstab/lexer.next -/
def Ptg1_15 : Fact := ⟨73, [.string Pttxt0, .int .i64 199], 522, [], .tuple #[.agg #[.int .i64 3, .int .i64 199, .int .i64 201, .int .i64 0], .int .i64 0], 526, [], 522⟩
/- selfstab/lexer.next -/
def Ptg1_16 : Fact := ⟨73, [.string Pttxt0, .int .i64 204], 535, [], .tuple #[.agg #[.int .i64 3, .int .i64 204, .int .i64 206, .int .i64 0], .int .i64 0], 539, [], 535⟩
/- selfstab/lexer.next -/
def Ptg1_17 : Fact := ⟨73, [.string Pttxt0, .int .i64 207], 542, [], .tuple #[.agg #[.int .i64 1, .int .i64 207, .int .i64 212, .int .i64 0], .int .i64 0], 545, [], 542⟩
/- selfstab/lexer.next -/
def Ptg1_18 : Fact := ⟨73, [.string Pttxt0, .int .i64 212], 548, [], .tuple #[.agg #[.int .i64 3, .int .i64 212, .int .i64 213, .int .i64 0], .int .i64 0], 552, [], 548⟩
/- selfstab/lexer.next -/
def Ptg1_19 : Fact := ⟨73, [.string Pttxt0, .int .i64 214], 561, [], .tuple #[.agg #[.int .i64 3, .int .i64 214, .int .i64 215, .int .i64 0], .int .i64 0], 565, [], 561⟩
/- selfstab/lexer.next -/
def Ptg1_20 : Fact := ⟨73, [.string Pttxt0, .int .i64 217], 574, [], .tuple #[.agg #[.int .i64 3, .int .i64 217, .int .i64 218, .int .i64 0], .int .i64 0], 578, [], 574⟩
/- selfstab/lexer.next -/
def Ptg1_21 : Fact := ⟨73, [.string Pttxt0, .int .i64 220], 587, [], .tuple #[.agg #[.int .i64 3, .int .i64 220, .int .i64 221, .int .i64 0], .int .i64 0], 591, [], 587⟩
/- selfstab/lexer.next -/
def Ptg1_22 : Fact := ⟨73, [.string Pttxt0, .int .i64 221], 594, [], .tuple #[.agg #[.int .i64 1, .int .i64 221, .int .i64 227, .int .i64 0], .int .i64 0], 597, [], 594⟩
/- selfstab/lexer.next -/
def Ptg1_23 : Fact := ⟨73, [.string Pttxt0, .int .i64 228], 600, [], .tuple #[.agg #[.int .i64 3, .int .i64 228, .int .i64 230, .int .i64 0], .int .i64 0], 604, [], 600⟩
/- selfstab/lexer.next -/
def Ptg1_24 : Fact := ⟨73, [.string Pttxt0, .int .i64 231], 607, [], .tuple #[.agg #[.int .i64 1, .int .i64 231, .int .i64 234, .int .i64 0], .int .i64 0], 610, [], 607⟩
/- selfstab/lexer.next -/
def Ptg1_25 : Fact := ⟨73, [.string Pttxt0, .int .i64 234], 613, [], .tuple #[.agg #[.int .i64 3, .int .i64 234, .int .i64 235, .int .i64 0], .int .i64 0], 617, [], 613⟩
/- selfstab/lexer.next -/
def Ptg1_26 : Fact := ⟨73, [.string Pttxt0, .int .i64 236], 626, [], .tuple #[.agg #[.int .i64 3, .int .i64 236, .int .i64 237, .int .i64 0], .int .i64 0], 630, [], 626⟩
/- selfstab/lexer.next -/
def Ptg1_27 : Fact := ⟨73, [.string Pttxt0, .int .i64 239], 639, [], .tuple #[.agg #[.int .i64 3, .int .i64 239, .int .i64 240, .int .i64 0], .int .i64 0], 643, [], 639⟩
/- selfstab/lexer.next -/
def Ptg1_28 : Fact := ⟨73, [.string Pttxt0, .int .i64 242], 652, [], .tuple #[.agg #[.int .i64 3, .int .i64 242, .int .i64 243, .int .i64 0], .int .i64 0], 656, [], 652⟩
/- selfstab/lexer.next -/
def Ptg1_29 : Fact := ⟨73, [.string Pttxt0, .int .i64 243], 659, [], .tuple #[.agg #[.int .i64 1, .int .i64 243, .int .i64 249, .int .i64 0], .int .i64 0], 662, [], 659⟩
/- selfstab/lexer.next -/
def Ptg1_30 : Fact := ⟨73, [.string Pttxt0, .int .i64 249], 665, [], .tuple #[.agg #[.int .i64 3, .int .i64 249, .int .i64 250, .int .i64 0], .int .i64 0], 669, [], 665⟩
/- selfstab/lexer.next -/
def Ptg1_31 : Fact := ⟨73, [.string Pttxt0, .int .i64 250], 672, [], .tuple #[.agg #[.int .i64 3, .int .i64 250, .int .i64 251, .int .i64 0], .int .i64 0], 676, [], 672⟩
/- selfstab/lexer.next -/
def Ptg1_32 : Fact := ⟨73, [.string Pttxt0, .int .i64 251], 679, [], .tuple #[.agg #[.int .i64 3, .int .i64 251, .int .i64 252, .int .i64 0], .int .i64 0], 683, [], 679⟩
/- selfstab/lexer.next -/
def Ptg1_33 : Fact := ⟨73, [.string Pttxt0, .int .i64 260], 699, [], .tuple #[.agg #[.int .i64 3, .int .i64 260, .int .i64 262, .int .i64 0], .int .i64 0], 703, [], 699⟩
/- selfstab/lexer.next -/
def Ptg1_34 : Fact := ⟨73, [.string Pttxt0, .int .i64 263], 706, [], .tuple #[.agg #[.int .i64 3, .int .i64 263, .int .i64 264, .int .i64 0], .int .i64 0], 710, [], 706⟩
/- selfstab/lexer.next -/
def Ptg1_35 : Fact := ⟨73, [.string Pttxt0, .int .i64 264], 713, [], .tuple #[.agg #[.int .i64 1, .int .i64 264, .int .i64 267, .int .i64 0], .int .i64 0], 716, [], 713⟩
/- selfstab/lexer.next -/
def Ptg1_36 : Fact := ⟨73, [.string Pttxt0, .int .i64 267], 719, [], .tuple #[.agg #[.int .i64 3, .int .i64 267, .int .i64 268, .int .i64 0], .int .i64 0], 723, [], 719⟩
/- selfstab/lexer.next -/
def Ptg1_37 : Fact := ⟨73, [.string Pttxt0, .int .i64 269], 732, [], .tuple #[.agg #[.int .i64 3, .int .i64 269, .int .i64 270, .int .i64 0], .int .i64 0], 736, [], 732⟩
/- selfstab/lexer.next -/
def Ptg1_38 : Fact := ⟨73, [.string Pttxt0, .int .i64 272], 745, [], .tuple #[.agg #[.int .i64 3, .int .i64 272, .int .i64 273, .int .i64 0], .int .i64 0], 749, [], 745⟩
/- selfstab/lexer.next -/
def Ptg1_39 : Fact := ⟨73, [.string Pttxt0, .int .i64 275], 758, [], .tuple #[.agg #[.int .i64 3, .int .i64 275, .int .i64 276, .int .i64 0], .int .i64 0], 762, [], 758⟩
def Ptg1L : List Fact := [Ptg1_0, Ptg1_1, Ptg1_2, Ptg1_3, Ptg1_4, Ptg1_5, Ptg1_6, Ptg1_7, Ptg1_8, Ptg1_9, Ptg1_10, Ptg1_11, Ptg1_12, Ptg1_13, Ptg1_14, Ptg1_15, Ptg1_16, Ptg1_17, Ptg1_18, Ptg1_19, Ptg1_20, Ptg1_21, Ptg1_22, Ptg1_23, Ptg1_24, Ptg1_25, Ptg1_26, Ptg1_27, Ptg1_28, Ptg1_29, Ptg1_30, Ptg1_31, Ptg1_32, Ptg1_33, Ptg1_34, Ptg1_35, Ptg1_36, Ptg1_37, Ptg1_38, Ptg1_39]
theorem Ptg1L_ok : AllOk Ptg1L := AllOk.seq AllOk.nil (by kernel_rfl)
/- selfstab/lexer.next -/
def Ptg2_0 : Fact := ⟨73, [.string Pttxt0, .int .i64 276], 765, [], .tuple #[.agg #[.int .i64 1, .int .i64 276, .int .i64 282, .int .i64 0], .int .i64 0], 768, [], 765⟩
/- selfstab/lexer.next -/
def Ptg2_1 : Fact := ⟨73, [.string Pttxt0, .int .i64 282], 771, [], .tuple #[.agg #[.int .i64 3, .int .i64 282, .int .i64 283, .int .i64 0], .int .i64 0], 775, [], 771⟩
/- selfstab/lexer.next -/
def Ptg2_2 : Fact := ⟨73, [.string Pttxt0, .int .i64 284], 778, [], .tuple #[.agg #[.int .i64 3, .int .i64 284, .int .i64 285, .int .i64 0], .int .i64 0], 782, [], 778⟩
/- selfstab/lexer.next -/
def Ptg2_3 : Fact := ⟨73, [.string Pttxt0, .int .i64 286], 785, [], .tuple #[.agg #[.int .i64 2, .int .i64 286, .int .i64 288, .int .i64 15], .int .i64 0], 788, [], 785⟩
/- selfstab/lexer.next -/
def Ptg2_4 : Fact := ⟨73, [.string Pttxt0, .int .i64 289], 791, [], .tuple #[.agg #[.int .i64 3, .int .i64 289, .int .i64 290, .int .i64 0], .int .i64 0], 795, [], 791⟩
/- selfstab/lexer.next -/
def Ptg2_5 : Fact := ⟨73, [.string Pttxt0, .int .i64 293], 804, [], .tuple #[.agg #[.int .i64 3, .int .i64 293, .int .i64 294, .int .i64 0], .int .i64 0], 808, [], 804⟩
/- selfstab/lexer.next -/
def Ptg2_6 : Fact := ⟨73, [.string Pttxt0, .int .i64 298], 817, [], .tuple #[.agg #[.int .i64 3, .int .i64 298, .int .i64 299, .int .i64 0], .int .i64 0], 821, [], 817⟩
/- selfstab/lexer.next -/
def Ptg2_7 : Fact := ⟨73, [.string Pttxt0, .int .i64 300], 830, [], .tuple #[.agg #[.int .i64 3, .int .i64 300, .int .i64 301, .int .i64 0], .int .i64 0], 834, [], 830⟩
/- selfstab/lexer.next -/
def Ptg2_8 : Fact := ⟨73, [.string Pttxt0, .int .i64 303], 843, [], .tuple #[.agg #[.int .i64 3, .int .i64 303, .int .i64 304, .int .i64 0], .int .i64 0], 847, [], 843⟩
/- selfstab/lexer.next -/
def Ptg2_9 : Fact := ⟨73, [.string Pttxt0, .int .i64 306], 856, [], .tuple #[.agg #[.int .i64 3, .int .i64 306, .int .i64 307, .int .i64 0], .int .i64 0], 860, [], 856⟩
/- selfstab/lexer.next -/
def Ptg2_10 : Fact := ⟨73, [.string Pttxt0, .int .i64 307], 863, [], .tuple #[.agg #[.int .i64 1, .int .i64 307, .int .i64 313, .int .i64 0], .int .i64 0], 866, [], 863⟩
/- selfstab/lexer.next -/
def Ptg2_11 : Fact := ⟨73, [.string Pttxt0, .int .i64 313], 869, [], .tuple #[.agg #[.int .i64 3, .int .i64 313, .int .i64 314, .int .i64 0], .int .i64 0], 873, [], 869⟩
/- selfstab/lexer.next -/
def Ptg2_12 : Fact := ⟨73, [.string Pttxt0, .int .i64 315], 876, [], .tuple #[.agg #[.int .i64 3, .int .i64 315, .int .i64 316, .int .i64 0], .int .i64 0], 880, [], 876⟩
/- selfstab/lexer.next -/
def Ptg2_13 : Fact := ⟨73, [.string Pttxt0, .int .i64 317], 883, [], .tuple #[.agg #[.int .i64 2, .int .i64 317, .int .i64 319, .int .i64 15], .int .i64 0], 886, [], 883⟩
/- selfstab/lexer.next -/
def Ptg2_14 : Fact := ⟨73, [.string Pttxt0, .int .i64 320], 889, [], .tuple #[.agg #[.int .i64 3, .int .i64 320, .int .i64 321, .int .i64 0], .int .i64 0], 893, [], 889⟩
/- selfstab/lexer.next -/
def Ptg2_15 : Fact := ⟨73, [.string Pttxt0, .int .i64 323], 902, [], .tuple #[.agg #[.int .i64 3, .int .i64 323, .int .i64 324, .int .i64 0], .int .i64 0], 906, [], 902⟩
/- selfstab/lexer.next -/
def Ptg2_16 : Fact := ⟨73, [.string Pttxt0, .int .i64 324], 909, [], .tuple #[.agg #[.int .i64 3, .int .i64 324, .int .i64 325, .int .i64 0], .int .i64 0], 913, [], 909⟩
/- selfstab/lexer.next -/
def Ptg2_17 : Fact := ⟨73, [.string Pttxt0, .int .i64 328], 922, [], .tuple #[.agg #[.int .i64 3, .int .i64 328, .int .i64 330, .int .i64 0], .int .i64 0], 926, [], 922⟩
/- selfstab/lexer.next -/
def Ptg2_18 : Fact := ⟨73, [.string Pttxt0, .int .i64 331], 929, [], .tuple #[.agg #[.int .i64 1, .int .i64 331, .int .i64 336, .int .i64 0], .int .i64 0], 932, [], 929⟩
/- selfstab/lexer.next -/
def Ptg2_19 : Fact := ⟨73, [.string Pttxt0, .int .i64 336], 935, [], .tuple #[.agg #[.int .i64 3, .int .i64 336, .int .i64 337, .int .i64 0], .int .i64 0], 939, [], 935⟩
/- selfstab/lexer.next -/
def Ptg2_20 : Fact := ⟨73, [.string Pttxt0, .int .i64 338], 948, [], .tuple #[.agg #[.int .i64 3, .int .i64 338, .int .i64 339, .int .i64 0], .int .i64 0], 952, [], 948⟩
/- selfstab/lexer.next -/
def Ptg2_21 : Fact := ⟨73, [.string Pttxt0, .int .i64 341], 961, [], .tuple #[.agg #[.int .i64 3, .int .i64 341, .int .i64 342, .int .i64 0], .int .i64 0], 965, [], 961⟩
/- selfstab/lexer.next -/
def Ptg2_22 : Fact := ⟨73, [.string Pttxt0, .int .i64 344], 974, [], .tuple #[.agg #[.int .i64 3, .int .i64 344, .int .i64 345, .int .i64 0], .int .i64 0], 978, [], 974⟩
/- selfstab/lexer.next -/
def Ptg2_23 : Fact := ⟨73, [.string Pttxt0, .int .i64 345], 981, [], .tuple #[.agg #[.int .i64 1, .int .i64 345, .int .i64 351, .int .i64 0], .int .i64 0], 984, [], 981⟩
/- selfstab/lexer.next -/
def Ptg2_24 : Fact := ⟨73, [.string Pttxt0, .int .i64 352], 987, [], .tuple #[.agg #[.int .i64 3, .int .i64 352, .int .i64 354, .int .i64 0], .int .i64 0], 991, [], 987⟩
/- selfstab/lexer.next -/
def Ptg2_25 : Fact := ⟨73, [.string Pttxt0, .int .i64 358], 1000, [], .tuple #[.agg #[.int .i64 3, .int .i64 358, .int .i64 359, .int .i64 0], .int .i64 0], 1004, [], 1000⟩
/- selfstab/lexer.next -/
def Ptg2_26 : Fact := ⟨73, [.string Pttxt0, .int .i64 360], 1013, [], .tuple #[.agg #[.int .i64 3, .int .i64 360, .int .i64 361, .int .i64 0], .int .i64 0], 1017, [], 1013⟩
/- selfstab/lexer.next -/
def Ptg2_27 : Fact := ⟨73, [.string Pttxt0, .int .i64 363], 1026, [], .tuple #[.agg #[.int .i64 3, .int .i64 363, .int .i64 364, .int .i64 0], .int .i64 0], 1030, [], 1026⟩
/- selfstab/lexer.next -/
def Ptg2_28 : Fact := ⟨73, [.string Pttxt0, .int .i64 366], 1039, [], .tuple #[.agg #[.int .i64 3, .int .i64 366, .int .i64 367, .int .i64 0], .int .i64 0], 1043, [], 1039⟩
/- selfstab/lexer.next -/
def Ptg2_29 : Fact := ⟨73, [.string Pttxt0, .int .i64 367], 1046, [], .tuple #[.agg #[.int .i64 1, .int .i64 367, .int .i64 373, .int .i64 0], .int .i64 0], 1049, [], 1046⟩
/- selfstab/lexer.next -/
def Ptg2_30 : Fact := ⟨73, [.string Pttxt0, .int .i64 373], 1052, [], .tuple #[.agg #[.int .i64 3, .int .i64 373, .int .i64 374, .int .i64 0], .int .i64 0], 1056, [], 1052⟩
/- selfstab/lexer.next -/
def Ptg2_31 : Fact := ⟨73, [.string Pttxt0, .int .i64 374], 1059, [], .tuple #[.agg #[.int .i64 3, .int .i64 374, .int .i64 375, .int .i64 0], .int .i64 0], 1063, [], 1059⟩
/- selfstab/lexer.next -/
def Ptg2_32 : Fact := ⟨73, [.string Pttxt0, .int .i64 375], 1066, [], .tuple #[.agg #[.int .i64 3, .int .i64 375, .int .i64 376, .int .i64 0], .int .i64 0], 1070, [], 1066⟩
def Ptg2L : List Fact := [Ptg2_0, Ptg2_1, Ptg2_2, Ptg2_3, Ptg2_4, Ptg2_5, Ptg2_6, Ptg2_7, Ptg2_8, Ptg2_9, Ptg2_10, Ptg2_11, Ptg2_12, Ptg2_13, Ptg2_14, Ptg2_15, Ptg2_16, Ptg2_17, Ptg2_18, Ptg2_19, Ptg2_20, Ptg2_21, Ptg2_22, Ptg2_23, Ptg2_24, Ptg2_25, Ptg2_26, Ptg2_27, Ptg2_28, Ptg2_29, Ptg2_30, Ptg2_31, Ptg2_32]
theorem Ptg2L_ok : AllOk Ptg2L := AllOk.seq AllOk.nil (by kernel_rfl)
end Ev
end Go.Proofs.YtbhjopjonoldmaaGreat
