/- Facts. Printed by wip/facts3.py. -/
import Derived.Test.YtbhjopjonoldmaaGreatLtC
namespace Go.Proofs.YtbhjopjonoldmaaGreat
namespace Ev
open Go
set_option maxRecDepth 1000000
/- selfstab/lexer.next -/
def Ltg0_0 : Fact := ⟨73, [.string Lttxt0, .int .i64 0], 1, [], .tuple #[.agg #[.int .i64 1, .int .i64 0, .int .i64 7, .int .i64 0], .int .i64 0], 4, [], 1⟩
/- selfstab/lexer.skip -/
def Ltg0_1 : Fact := ⟨72, [.string Lttxt0, .int .i64 7], 7, [], .int .i64 8, 7, [], 7⟩
/- selfstab/lexer.next -/
def Ltg0_2 : Fact := ⟨73, [.string Lttxt0, .int .i64 8], 7, [], .tuple #[.agg #[.int .i64 1, .int .i64 8, .int .i64 14, .int .i64 0], .int .i64 0], 10, [], 7⟩
/- selfstab/lexer.next -/
def Ltg0_3 : Fact := ⟨73, [.string Lttxt0, .int .i64 14], 13, [], .tuple #[.agg #[.int .i64 3, .int .i64 14, .int .i64 15, .int .i64 0], .int .i64 0], 17, [], 13⟩
/- selfstab/lexer.skip -/
def Ltg0_4 : Fact := ⟨72, [.string Lttxt0, .int .i64 15], 20, [], .int .i64 16, 20, [], 20⟩
/- selfstab/lexer.next -/
def Ltg0_5 : Fact := ⟨73, [.string Lttxt0, .int .i64 16], 20, [], .tuple #[.agg #[.int .i64 1, .int .i64 16, .int .i64 19, .int .i64 0], .int .i64 0], 23, [], 20⟩
/- selfstab/lexer.skip -/
def Ltg0_6 : Fact := ⟨72, [.string Lttxt0, .int .i64 19], 26, [], .int .i64 20, 26, [], 26⟩
/- selfstab/lexer.next -/
def Ltg0_7 : Fact := ⟨73, [.string Lttxt0, .int .i64 20], 26, [], .tuple #[.agg #[.int .i64 1, .int .i64 20, .int .i64 24, .int .i64 0], .int .i64 0], 29, [], 26⟩
/- selfstab/lexer.skip -/
def Ltg0_8 : Fact := ⟨72, [.string Lttxt0, .int .i64 24], 32, [], .int .i64 25, 32, [], 32⟩
/- selfstab/lexer.next -/
def Ltg0_9 : Fact := ⟨73, [.string Lttxt0, .int .i64 25], 32, [], .tuple #[.agg #[.int .i64 3, .int .i64 25, .int .i64 26, .int .i64 0], .int .i64 0], 36, [], 32⟩
/- selfstab/lexer.skip -/
def Ltg0_10 : Fact := ⟨72, [.string Lttxt0, .int .i64 26], 39, [], .int .i64 27, 39, [], 39⟩
/- selfstab/lexer.next -/
def Ltg0_11 : Fact := ⟨73, [.string Lttxt0, .int .i64 27], 39, [], .tuple #[.agg #[.int .i64 2, .int .i64 27, .int .i64 28, .int .i64 0], .int .i64 0], 42, [], 39⟩
/- selfstab/lexer.skip -/
def Ltg0_12 : Fact := ⟨72, [.string Lttxt0, .int .i64 28], 45, [], .int .i64 29, 45, [], 45⟩
/- selfstab/lexer.next -/
def Ltg0_13 : Fact := ⟨73, [.string Lttxt0, .int .i64 29], 45, [], .tuple #[.agg #[.int .i64 3, .int .i64 29, .int .i64 31, .int .i64 0], .int .i64 0], 49, [], 45⟩
/- selfstab/lexer.skip -/
def Ltg0_14 : Fact := ⟨72, [.string Lttxt0, .int .i64 31], 52, [], .int .i64 32, 52, [], 52⟩
/- selfstab/lexer.next -/
def Ltg0_15 : Fact := ⟨73, [.string Lttxt0, .int .i64 32], 52, [], .tuple #[.agg #[.int .i64 1, .int .i64 32, .int .i64 35, .int .i64 0], .int .i64 0], 55, [], 52⟩
/- selfstab/lexer.next -/
def Ltg0_16 : Fact := ⟨73, [.string Lttxt0, .int .i64 35], 58, [], .tuple #[.agg #[.int .i64 3, .int .i64 35, .int .i64 36, .int .i64 0], .int .i64 0], 62, [], 58⟩
/- selfstab/lexer.skip -/
def Ltg0_17 : Fact := ⟨72, [.string Lttxt0, .int .i64 36], 65, [], .int .i64 37, 65, [], 65⟩
/- selfstab/lexer.next -/
def Ltg0_18 : Fact := ⟨73, [.string Lttxt0, .int .i64 37], 65, [], .tuple #[.agg #[.int .i64 1, .int .i64 37, .int .i64 40, .int .i64 0], .int .i64 0], 68, [], 65⟩
/- selfstab/lexer.skip -/
def Ltg0_19 : Fact := ⟨72, [.string Lttxt0, .int .i64 40], 71, [], .int .i64 41, 71, [], 71⟩
def Ltg0L : List Fact := [Ltg0_0, Ltg0_1, Ltg0_2, Ltg0_3, Ltg0_4, Ltg0_5, Ltg0_6, Ltg0_7, Ltg0_8, Ltg0_9, Ltg0_10, Ltg0_11, Ltg0_12, Ltg0_13, Ltg0_14, Ltg0_15, Ltg0_16, Ltg0_17, Ltg0_18, Ltg0_19]
theorem Ltg0L_ok : AllOk Ltg0L := AllOk.seq AllOk.nil (by kernel_rfl)
/- selfstab/lexer.next -/
def Ltg1_0 : Fact := ⟨73, [.string Lttxt0, .int .i64 41], 71, [], .tuple #[.agg #[.int .i64 1, .int .i64 41, .int .i64 42, .int .i64 0], .int .i64 0], 74, [], 71⟩
/- selfstab/lexer.skip -/
def Ltg1_1 : Fact := ⟨72, [.string Lttxt0, .int .i64 42], 77, [], .int .i64 43, 77, [], 77⟩
/- selfstab/lexer.next -/
def Ltg1_2 : Fact := ⟨73, [.string Lttxt0, .int .i64 43], 77, [], .tuple #[.agg #[.int .i64 3, .int .i64 43, .int .i64 44, .int .i64 0], .int .i64 0], 81, [], 77⟩
/- selfstab/lexer.skip -/
def Ltg1_3 : Fact := ⟨72, [.string Lttxt0, .int .i64 44], 84, [], .int .i64 45, 84, [], 84⟩
/- selfstab/lexer.next -/
def Ltg1_4 : Fact := ⟨73, [.string Lttxt0, .int .i64 45], 84, [], .tuple #[.agg #[.int .i64 2, .int .i64 45, .int .i64 46, .int .i64 0], .int .i64 0], 87, [], 84⟩
/- selfstab/lexer.skip -/
def Ltg1_5 : Fact := ⟨72, [.string Lttxt0, .int .i64 46], 90, [], .int .i64 47, 90, [], 90⟩
/- selfstab/lexer.next -/
def Ltg1_6 : Fact := ⟨73, [.string Lttxt0, .int .i64 47], 90, [], .tuple #[.agg #[.int .i64 3, .int .i64 47, .int .i64 49, .int .i64 0], .int .i64 0], 94, [], 90⟩
/- selfstab/lexer.skip -/
def Ltg1_7 : Fact := ⟨72, [.string Lttxt0, .int .i64 49], 97, [], .int .i64 50, 97, [], 97⟩
/- selfstab/lexer.next -/
def Ltg1_8 : Fact := ⟨73, [.string Lttxt0, .int .i64 50], 97, [], .tuple #[.agg #[.int .i64 1, .int .i64 50, .int .i64 51, .int .i64 0], .int .i64 0], 100, [], 97⟩
/- selfstab/lexer.skip -/
def Ltg1_9 : Fact := ⟨72, [.string Lttxt0, .int .i64 51], 103, [], .int .i64 52, 103, [], 103⟩
/- selfstab/lexer.next -/
def Ltg1_10 : Fact := ⟨73, [.string Lttxt0, .int .i64 52], 103, [], .tuple #[.agg #[.int .i64 3, .int .i64 52, .int .i64 53, .int .i64 0], .int .i64 0], 107, [], 103⟩
/- selfstab/lexer.skip -/
def Ltg1_11 : Fact := ⟨72, [.string Lttxt0, .int .i64 53], 110, [], .int .i64 54, 110, [], 110⟩
/- selfstab/lexer.next -/
def Ltg1_12 : Fact := ⟨73, [.string Lttxt0, .int .i64 54], 110, [], .tuple #[.agg #[.int .i64 2, .int .i64 54, .int .i64 55, .int .i64 1], .int .i64 0], 113, [], 110⟩
/- selfstab/lexer.next -/
def Ltg1_13 : Fact := ⟨73, [.string Lttxt0, .int .i64 55], 116, [], .tuple #[.agg #[.int .i64 3, .int .i64 55, .int .i64 56, .int .i64 0], .int .i64 0], 120, [], 116⟩
/- selfstab/lexer.skip -/
def Ltg1_14 : Fact := ⟨72, [.string Lttxt0, .int .i64 56], 123, [], .int .i64 57, 123, [], 123⟩
/- selfstab/lexer.next -/
def Ltg1_15 : Fact := ⟨73, [.string Lttxt0, .int .i64 57], 123, [], .tuple #[.agg #[.int .i64 1, .int .i64 57, .int .i64 60, .int .i64 0], .int .i64 0], 126, [], 123⟩
/- selfstab/lexer.skip -/
def Ltg1_16 : Fact := ⟨72, [.string Lttxt0, .int .i64 60], 129, [], .int .i64 61, 129, [], 129⟩
/- selfstab/lexer.next -/
def Ltg1_17 : Fact := ⟨73, [.string Lttxt0, .int .i64 61], 129, [], .tuple #[.agg #[.int .i64 1, .int .i64 61, .int .i64 62, .int .i64 0], .int .i64 0], 132, [], 129⟩
/- selfstab/lexer.skip -/
def Ltg1_18 : Fact := ⟨72, [.string Lttxt0, .int .i64 62], 135, [], .int .i64 63, 135, [], 135⟩
/- selfstab/lexer.next -/
def Ltg1_19 : Fact := ⟨73, [.string Lttxt0, .int .i64 63], 135, [], .tuple #[.agg #[.int .i64 3, .int .i64 63, .int .i64 64, .int .i64 0], .int .i64 0], 139, [], 135⟩
def Ltg1L : List Fact := [Ltg1_0, Ltg1_1, Ltg1_2, Ltg1_3, Ltg1_4, Ltg1_5, Ltg1_6, Ltg1_7, Ltg1_8, Ltg1_9, Ltg1_10, Ltg1_11, Ltg1_12, Ltg1_13, Ltg1_14, Ltg1_15, Ltg1_16, Ltg1_17, Ltg1_18, Ltg1_19]
theorem Ltg1L_ok : AllOk Ltg1L := AllOk.seq AllOk.nil (by kernel_rfl)
/- selfstab/lexer.skip -/
def Ltg2_0 : Fact := ⟨72, [.string Lttxt0, .int .i64 64], 142, [], .int .i64 65, 142, [], 142⟩
/- selfstab/lexer.next -/
def Ltg2_1 : Fact := ⟨73, [.string Lttxt0, .int .i64 65], 142, [], .tuple #[.agg #[.int .i64 1, .int .i64 65, .int .i64 69, .int .i64 0], .int .i64 0], 145, [], 142⟩
/- selfstab/lexer.next -/
def Ltg2_2 : Fact := ⟨73, [.string Lttxt0, .int .i64 69], 148, [], .tuple #[.agg #[.int .i64 3, .int .i64 69, .int .i64 70, .int .i64 0], .int .i64 0], 152, [], 148⟩
/- selfstab/lexer.skip -/
def Ltg2_3 : Fact := ⟨72, [.string Lttxt0, .int .i64 70], 155, [], .int .i64 71, 155, [], 155⟩
/- selfstab/lexer.next -/
def Ltg2_4 : Fact := ⟨73, [.string Lttxt0, .int .i64 71], 155, [], .tuple #[.agg #[.int .i64 1, .int .i64 71, .int .i64 75, .int .i64 0], .int .i64 0], 158, [], 155⟩
/- selfstab/lexer.skip -/
def Ltg2_5 : Fact := ⟨72, [.string Lttxt0, .int .i64 75], 161, [], .int .i64 76, 161, [], 161⟩
/- selfstab/lexer.next -/
def Ltg2_6 : Fact := ⟨73, [.string Lttxt0, .int .i64 76], 161, [], .tuple #[.agg #[.int .i64 1, .int .i64 76, .int .i64 79, .int .i64 0], .int .i64 0], 164, [], 161⟩
/- selfstab/lexer.next -/
def Ltg2_7 : Fact := ⟨73, [.string Lttxt0, .int .i64 79], 167, [], .tuple #[.agg #[.int .i64 3, .int .i64 79, .int .i64 80, .int .i64 0], .int .i64 0], 171, [], 167⟩
/- selfstab/lexer.skip -/
def Ltg2_8 : Fact := ⟨72, [.string Lttxt0, .int .i64 80], 174, [], .int .i64 81, 174, [], 174⟩
/- selfstab/lexer.next -/
def Ltg2_9 : Fact := ⟨73, [.string Lttxt0, .int .i64 81], 174, [], .tuple #[.agg #[.int .i64 1, .int .i64 81, .int .i64 83, .int .i64 0], .int .i64 0], 177, [], 174⟩
/- selfstab/lexer.skip -/
def Ltg2_10 : Fact := ⟨72, [.string Lttxt0, .int .i64 83], 180, [], .int .i64 84, 180, [], 180⟩
/- selfstab/lexer.next -/
def Ltg2_11 : Fact := ⟨73, [.string Lttxt0, .int .i64 84], 180, [], .tuple #[.agg #[.int .i64 3, .int .i64 84, .int .i64 85, .int .i64 0], .int .i64 0], 184, [], 180⟩
/- selfstab/lexer.skip -/
def Ltg2_12 : Fact := ⟨72, [.string Lttxt0, .int .i64 85], 187, [], .int .i64 86, 187, [], 187⟩
/- selfstab/lexer.next -/
def Ltg2_13 : Fact := ⟨73, [.string Lttxt0, .int .i64 86], 187, [], .tuple #[.agg #[.int .i64 1, .int .i64 86, .int .i64 87, .int .i64 0], .int .i64 0], 190, [], 187⟩
/- selfstab/lexer.skip -/
def Ltg2_14 : Fact := ⟨72, [.string Lttxt0, .int .i64 87], 193, [], .int .i64 88, 193, [], 193⟩
/- selfstab/lexer.next -/
def Ltg2_15 : Fact := ⟨73, [.string Lttxt0, .int .i64 88], 193, [], .tuple #[.agg #[.int .i64 3, .int .i64 88, .int .i64 90, .int .i64 0], .int .i64 0], 197, [], 193⟩
/- selfstab/lexer.skip -/
def Ltg2_16 : Fact := ⟨72, [.string Lttxt0, .int .i64 90], 200, [], .int .i64 91, 200, [], 200⟩
/- selfstab/lexer.next -/
def Ltg2_17 : Fact := ⟨73, [.string Lttxt0, .int .i64 91], 200, [], .tuple #[.agg #[.int .i64 1, .int .i64 91, .int .i64 94, .int .i64 0], .int .i64 0], 203, [], 200⟩
/- selfstab/lexer.next -/
def Ltg2_18 : Fact := ⟨73, [.string Lttxt0, .int .i64 94], 206, [], .tuple #[.agg #[.int .i64 3, .int .i64 94, .int .i64 95, .int .i64 0], .int .i64 0], 210, [], 206⟩
/- selfstab/lexer.next -/
def Ltg2_19 : Fact := ⟨73, [.string Lttxt0, .int .i64 95], 213, [], .tuple #[.agg #[.int .i64 1, .int .i64 95, .int .i64 96, .int .i64 0], .int .i64 0], 216, [], 213⟩
def Ltg2L : List Fact := [Ltg2_0, Ltg2_1, Ltg2_2, Ltg2_3, Ltg2_4, Ltg2_5, Ltg2_6, Ltg2_7, Ltg2_8, Ltg2_9, Ltg2_10, Ltg2_11, Ltg2_12, Ltg2_13, Ltg2_14, Ltg2_15, Ltg2_16, Ltg2_17, Ltg2_18, Ltg2_19]
theorem Ltg2L_ok : AllOk Ltg2L := AllOk.seq AllOk.nil (by kernel_rfl)
/- selfstab/lexer.next -/
def Ltg3_0 : Fact := ⟨73, [.string Lttxt0, .int .i64 96], 219, [], .tuple #[.agg #[.int .i64 3, .int .i64 96, .int .i64 97, .int .i64 0], .int .i64 0], 223, [], 219⟩
/- selfstab/lexer.next -/
def Ltg3_1 : Fact := ⟨73, [.string Lttxt0, .int .i64 97], 226, [], .tuple #[.agg #[.int .i64 1, .int .i64 97, .int .i64 98, .int .i64 0], .int .i64 0], 229, [], 226⟩
/- selfstab/lexer.skip -/
def Ltg3_2 : Fact := ⟨72, [.string Lttxt0, .int .i64 98], 232, [], .int .i64 99, 232, [], 232⟩
/- selfstab/lexer.next -/
def Ltg3_3 : Fact := ⟨73, [.string Lttxt0, .int .i64 99], 232, [], .tuple #[.agg #[.int .i64 3, .int .i64 99, .int .i64 100, .int .i64 0], .int .i64 0], 236, [], 232⟩
/- selfstab/lexer.skip -/
def Ltg3_4 : Fact := ⟨72, [.string Lttxt0, .int .i64 100], 239, [], .int .i64 101, 239, [], 239⟩
/- selfstab/lexer.next -/
def Ltg3_5 : Fact := ⟨73, [.string Lttxt0, .int .i64 101], 239, [], .tuple #[.agg #[.int .i64 2, .int .i64 101, .int .i64 102, .int .i64 1], .int .i64 0], 242, [], 239⟩
/- selfstab/lexer.skip -/
def Ltg3_6 : Fact := ⟨72, [.string Lttxt0, .int .i64 102], 245, [], .int .i64 103, 245, [], 245⟩
/- selfstab/lexer.next -/
def Ltg3_7 : Fact := ⟨73, [.string Lttxt0, .int .i64 103], 245, [], .tuple #[.agg #[.int .i64 3, .int .i64 103, .int .i64 104, .int .i64 0], .int .i64 0], 249, [], 245⟩
/- selfstab/lexer.skip -/
def Ltg3_8 : Fact := ⟨72, [.string Lttxt0, .int .i64 104], 252, [], .int .i64 105, 252, [], 252⟩
/- selfstab/lexer.next -/
def Ltg3_9 : Fact := ⟨73, [.string Lttxt0, .int .i64 105], 252, [], .tuple #[.agg #[.int .i64 1, .int .i64 105, .int .i64 106, .int .i64 0], .int .i64 0], 255, [], 252⟩
/- selfstab/lexer.skip -/
def Ltg3_10 : Fact := ⟨72, [.string Lttxt0, .int .i64 106], 258, [], .int .i64 107, 258, [], 258⟩
/- selfstab/lexer.next -/
def Ltg3_11 : Fact := ⟨73, [.string Lttxt0, .int .i64 107], 258, [], .tuple #[.agg #[.int .i64 3, .int .i64 107, .int .i64 108, .int .i64 0], .int .i64 0], 262, [], 258⟩
/- selfstab/lexer.skip -/
def Ltg3_12 : Fact := ⟨72, [.string Lttxt0, .int .i64 108], 265, [], .int .i64 109, 265, [], 265⟩
/- selfstab/lexer.next -/
def Ltg3_13 : Fact := ⟨73, [.string Lttxt0, .int .i64 109], 265, [], .tuple #[.agg #[.int .i64 1, .int .i64 109, .int .i64 110, .int .i64 0], .int .i64 0], 268, [], 265⟩
/- selfstab/lexer.next -/
def Ltg3_14 : Fact := ⟨73, [.string Lttxt0, .int .i64 110], 271, [], .tuple #[.agg #[.int .i64 3, .int .i64 110, .int .i64 111, .int .i64 0], .int .i64 0], 275, [], 271⟩
/- selfstab/lexer.next -/
def Ltg3_15 : Fact := ⟨73, [.string Lttxt0, .int .i64 111], 278, [], .tuple #[.agg #[.int .i64 1, .int .i64 111, .int .i64 115, .int .i64 0], .int .i64 0], 281, [], 278⟩
/- selfstab/lexer.skip -/
def Ltg3_16 : Fact := ⟨72, [.string Lttxt0, .int .i64 115], 284, [], .int .i64 116, 284, [], 284⟩
/- selfstab/lexer.next -/
def Ltg3_17 : Fact := ⟨73, [.string Lttxt0, .int .i64 116], 284, [], .tuple #[.agg #[.int .i64 3, .int .i64 116, .int .i64 117, .int .i64 0], .int .i64 0], 288, [], 284⟩
/- selfstab/lexer.skip -/
def Ltg3_18 : Fact := ⟨72, [.string Lttxt0, .int .i64 117], 291, [], .int .i64 118, 291, [], 291⟩
/- selfstab/lexer.next -/
def Ltg3_19 : Fact := ⟨73, [.string Lttxt0, .int .i64 118], 291, [], .tuple #[.agg #[.int .i64 1, .int .i64 118, .int .i64 119, .int .i64 0], .int .i64 0], 294, [], 291⟩
def Ltg3L : List Fact := [Ltg3_0, Ltg3_1, Ltg3_2, Ltg3_3, Ltg3_4, Ltg3_5, Ltg3_6, Ltg3_7, Ltg3_8, Ltg3_9, Ltg3_10, Ltg3_11, Ltg3_12, Ltg3_13, Ltg3_14, Ltg3_15, Ltg3_16, Ltg3_17, Ltg3_18, Ltg3_19]
theorem Ltg3L_ok : AllOk Ltg3L := AllOk.seq AllOk.nil (by kernel_rfl)
/- selfstab/lexer.skip -/
def Ltg4_0 : Fact := ⟨72, [.string Lttxt0, .int .i64 119], 297, [], .int .i64 120, 297, [], 297⟩
/- selfstab/lexer.next -/
def Ltg4_1 : Fact := ⟨73, [.string Lttxt0, .int .i64 120], 297, [], .tuple #[.agg #[.int .i64 3, .int .i64 120, .int .i64 121, .int .i64 0], .int .i64 0], 301, [], 297⟩
/- selfstab/lexer.skip -/
def Ltg4_2 : Fact := ⟨72, [.string Lttxt0, .int .i64 121], 304, [], .int .i64 122, 304, [], 304⟩
/- selfstab/lexer.next -/
def Ltg4_3 : Fact := ⟨73, [.string Lttxt0, .int .i64 122], 304, [], .tuple #[.agg #[.int .i64 1, .int .i64 122, .int .i64 123, .int .i64 0], .int .i64 0], 307, [], 304⟩
/- selfstab/lexer.next -/
def Ltg4_4 : Fact := ⟨73, [.string Lttxt0, .int .i64 123], 310, [], .tuple #[.agg #[.int .i64 3, .int .i64 123, .int .i64 124, .int .i64 0], .int .i64 0], 314, [], 310⟩
/- selfstab/lexer.next -/
def Ltg4_5 : Fact := ⟨73, [.string Lttxt0, .int .i64 124], 317, [], .tuple #[.agg #[.int .i64 1, .int .i64 124, .int .i64 125, .int .i64 0], .int .i64 0], 320, [], 317⟩
/- selfstab/lexer.skip -/
def Ltg4_6 : Fact := ⟨72, [.string Lttxt0, .int .i64 125], 323, [], .int .i64 126, 323, [], 323⟩
/- selfstab/lexer.next -/
def Ltg4_7 : Fact := ⟨73, [.string Lttxt0, .int .i64 126], 323, [], .tuple #[.agg #[.int .i64 3, .int .i64 126, .int .i64 127, .int .i64 0], .int .i64 0], 327, [], 323⟩
/- selfstab/lexer.skip -/
def Ltg4_8 : Fact := ⟨72, [.string Lttxt0, .int .i64 127], 330, [], .int .i64 128, 330, [], 330⟩
/- selfstab/lexer.next -/
def Ltg4_9 : Fact := ⟨73, [.string Lttxt0, .int .i64 128], 330, [], .tuple #[.agg #[.int .i64 3, .int .i64 128, .int .i64 129, .int .i64 0], .int .i64 0], 334, [], 330⟩
/- selfstab/lexer.next -/
def Ltg4_10 : Fact := ⟨73, [.string Lttxt0, .int .i64 129], 337, [], .tuple #[.agg #[.int .i64 1, .int .i64 129, .int .i64 132, .int .i64 0], .int .i64 0], 340, [], 337⟩
/- selfstab/lexer.skip -/
def Ltg4_11 : Fact := ⟨72, [.string Lttxt0, .int .i64 132], 343, [], .int .i64 133, 343, [], 343⟩
/- selfstab/lexer.next -/
def Ltg4_12 : Fact := ⟨73, [.string Lttxt0, .int .i64 133], 343, [], .tuple #[.agg #[.int .i64 3, .int .i64 133, .int .i64 134, .int .i64 0], .int .i64 0], 347, [], 343⟩
/- selfstab/lexer.skip -/
def Ltg4_13 : Fact := ⟨72, [.string Lttxt0, .int .i64 134], 350, [], .int .i64 135, 350, [], 350⟩
/- selfstab/lexer.next -/
def Ltg4_14 : Fact := ⟨73, [.string Lttxt0, .int .i64 135], 350, [], .tuple #[.agg #[.int .i64 2, .int .i64 135, .int .i64 136, .int .i64 1], .int .i64 0], 353, [], 350⟩
/- selfstab/lexer.next -/
def Ltg4_15 : Fact := ⟨73, [.string Lttxt0, .int .i64 136], 356, [], .tuple #[.agg #[.int .i64 3, .int .i64 136, .int .i64 137, .int .i64 0], .int .i64 0], 360, [], 356⟩
/- selfstab/lexer.skip -/
def Ltg4_16 : Fact := ⟨72, [.string Lttxt0, .int .i64 137], 363, [], .int .i64 138, 363, [], 363⟩
/- selfstab/lexer.next -/
def Ltg4_17 : Fact := ⟨73, [.string Lttxt0, .int .i64 138], 363, [], .tuple #[.agg #[.int .i64 3, .int .i64 138, .int .i64 139, .int .i64 0], .int .i64 0], 367, [], 363⟩
/- selfstab/lexer.skip -/
def Ltg4_18 : Fact := ⟨72, [.string Lttxt0, .int .i64 139], 370, [], .int .i64 140, 370, [], 370⟩
/- selfstab/lexer.next -/
def Ltg4_19 : Fact := ⟨73, [.string Lttxt0, .int .i64 140], 370, [], .tuple #[.agg #[.int .i64 1, .int .i64 140, .int .i64 141, .int .i64 0], .int .i64 0], 373, [], 370⟩
def Ltg4L : List Fact := [Ltg4_0, Ltg4_1, Ltg4_2, Ltg4_3, Ltg4_4, Ltg4_5, Ltg4_6, Ltg4_7, Ltg4_8, Ltg4_9, Ltg4_10, Ltg4_11, Ltg4_12, Ltg4_13, Ltg4_14, Ltg4_15, Ltg4_16, Ltg4_17, Ltg4_18, Ltg4_19]
theorem Ltg4L_ok : AllOk Ltg4L := AllOk.seq AllOk.nil (by kernel_rfl)
/- selfstab/lexer.next -/
def Ltg5_0 : Fact := ⟨73, [.string Lttxt0, .int .i64 141], 376, [], .tuple #[.agg #[.int .i64 3, .int .i64 141, .int .i64 142, .int .i64 0], .int .i64 0], 380, [], 376⟩
/- selfstab/lexer.skip -/
def Ltg5_1 : Fact := ⟨72, [.string Lttxt0, .int .i64 142], 383, [], .int .i64 143, 383, [], 383⟩
/- selfstab/lexer.next -/
def Ltg5_2 : Fact := ⟨73, [.string Lttxt0, .int .i64 143], 383, [], .tuple #[.agg #[.int .i64 3, .int .i64 143, .int .i64 145, .int .i64 0], .int .i64 0], 387, [], 383⟩
/- selfstab/lexer.skip -/
def Ltg5_3 : Fact := ⟨72, [.string Lttxt0, .int .i64 145], 390, [], .int .i64 146, 390, [], 390⟩
/- selfstab/lexer.next -/
def Ltg5_4 : Fact := ⟨73, [.string Lttxt0, .int .i64 146], 390, [], .tuple #[.agg #[.int .i64 3, .int .i64 146, .int .i64 147, .int .i64 0], .int .i64 0], 394, [], 390⟩
/- selfstab/lexer.next -/
def Ltg5_5 : Fact := ⟨73, [.string Lttxt0, .int .i64 147], 397, [], .tuple #[.agg #[.int .i64 1, .int .i64 147, .int .i64 151, .int .i64 0], .int .i64 0], 400, [], 397⟩
/- selfstab/lexer.skip -/
def Ltg5_6 : Fact := ⟨72, [.string Lttxt0, .int .i64 151], 403, [], .int .i64 152, 403, [], 403⟩
/- selfstab/lexer.next -/
def Ltg5_7 : Fact := ⟨73, [.string Lttxt0, .int .i64 152], 403, [], .tuple #[.agg #[.int .i64 3, .int .i64 152, .int .i64 154, .int .i64 0], .int .i64 0], 407, [], 403⟩
/- selfstab/lexer.skip -/
def Ltg5_8 : Fact := ⟨72, [.string Lttxt0, .int .i64 154], 410, [], .int .i64 155, 410, [], 410⟩
/- selfstab/lexer.next -/
def Ltg5_9 : Fact := ⟨73, [.string Lttxt0, .int .i64 155], 410, [], .tuple #[.agg #[.int .i64 1, .int .i64 155, .int .i64 157, .int .i64 0], .int .i64 0], 413, [], 410⟩
/- selfstab/lexer.skip -/
def Ltg5_10 : Fact := ⟨72, [.string Lttxt0, .int .i64 157], 416, [], .int .i64 158, 416, [], 416⟩
/- selfstab/lexer.next -/
def Ltg5_11 : Fact := ⟨73, [.string Lttxt0, .int .i64 158], 416, [], .tuple #[.agg #[.int .i64 3, .int .i64 158, .int .i64 160, .int .i64 0], .int .i64 0], 420, [], 416⟩
/- selfstab/lexer.skip -/
def Ltg5_12 : Fact := ⟨72, [.string Lttxt0, .int .i64 160], 423, [], .int .i64 161, 423, [], 423⟩
/- selfstab/lexer.next -/
def Ltg5_13 : Fact := ⟨73, [.string Lttxt0, .int .i64 161], 423, [], .tuple #[.agg #[.int .i64 1, .int .i64 161, .int .i64 162, .int .i64 0], .int .i64 0], 426, [], 423⟩
/- selfstab/lexer.skip -/
def Ltg5_14 : Fact := ⟨72, [.string Lttxt0, .int .i64 162], 429, [], .int .i64 163, 429, [], 429⟩
/- selfstab/lexer.next -/
def Ltg5_15 : Fact := ⟨73, [.string Lttxt0, .int .i64 163], 429, [], .tuple #[.agg #[.int .i64 3, .int .i64 163, .int .i64 165, .int .i64 0], .int .i64 0], 433, [], 429⟩
/- selfstab/lexer.skip -/
def Ltg5_16 : Fact := ⟨72, [.string Lttxt0, .int .i64 165], 436, [], .int .i64 166, 436, [], 436⟩
/- selfstab/lexer.next -/
def Ltg5_17 : Fact := ⟨73, [.string Lttxt0, .int .i64 166], 436, [], .tuple #[.agg #[.int .i64 2, .int .i64 166, .int .i64 167, .int .i64 0], .int .i64 0], 439, [], 436⟩
/- selfstab/lexer.skip -/
def Ltg5_18 : Fact := ⟨72, [.string Lttxt0, .int .i64 167], 442, [], .int .i64 168, 442, [], 442⟩
/- selfstab/lexer.next -/
def Ltg5_19 : Fact := ⟨73, [.string Lttxt0, .int .i64 168], 442, [], .tuple #[.agg #[.int .i64 3, .int .i64 168, .int .i64 170, .int .i64 0], .int .i64 0], 446, [], 442⟩
def Ltg5L : List Fact := [Ltg5_0, Ltg5_1, Ltg5_2, Ltg5_3, Ltg5_4, Ltg5_5, Ltg5_6, Ltg5_7, Ltg5_8, Ltg5_9, Ltg5_10, Ltg5_11, Ltg5_12, Ltg5_13, Ltg5_14, Ltg5_15, Ltg5_16, Ltg5_17, Ltg5_18, Ltg5_19]
theorem Ltg5L_ok : AllOk Ltg5L := AllOk.seq AllOk.nil (by kernel_rfl)
/- selfstab/lexer.skip -/
def Ltg6_0 : Fact := ⟨72, [.string Lttxt0, .int .i64 170], 449, [], .int .i64 171, 449, [], 449⟩
/- selfstab/lexer.next -/
def Ltg6_1 : Fact := ⟨73, [.string Lttxt0, .int .i64 171], 449, [], .tuple #[.agg #[.int .i64 1, .int .i64 171, .int .i64 172, .int .i64 0], .int .i64 0], 452, [], 449⟩
/- selfstab/lexer.skip -/
def Ltg6_2 : Fact := ⟨72, [.string Lttxt0, .int .i64 172], 455, [], .int .i64 173, 455, [], 455⟩
/- selfstab/lexer.next -/
def Ltg6_3 : Fact := ⟨73, [.string Lttxt0, .int .i64 173], 455, [], .tuple #[.agg #[.int .i64 3, .int .i64 173, .int .i64 175, .int .i64 0], .int .i64 0], 459, [], 455⟩
/- selfstab/lexer.skip -/
def Ltg6_4 : Fact := ⟨72, [.string Lttxt0, .int .i64 175], 462, [], .int .i64 176, 462, [], 462⟩
/- selfstab/lexer.next -/
def Ltg6_5 : Fact := ⟨73, [.string Lttxt0, .int .i64 176], 462, [], .tuple #[.agg #[.int .i64 1, .int .i64 176, .int .i64 180, .int .i64 0], .int .i64 0], 465, [], 462⟩
/- selfstab/lexer.next -/
def Ltg6_6 : Fact := ⟨73, [.string Lttxt0, .int .i64 180], 468, [], .tuple #[.agg #[.int .i64 3, .int .i64 180, .int .i64 181, .int .i64 0], .int .i64 0], 472, [], 468⟩
/- selfstab/lexer.skip -/
def Ltg6_7 : Fact := ⟨72, [.string Lttxt0, .int .i64 181], 475, [], .int .i64 182, 475, [], 475⟩
/- selfstab/lexer.next -/
def Ltg6_8 : Fact := ⟨73, [.string Lttxt0, .int .i64 182], 475, [], .tuple #[.agg #[.int .i64 3, .int .i64 182, .int .i64 184, .int .i64 0], .int .i64 0], 479, [], 475⟩
/- selfstab/lexer.skip -/
def Ltg6_9 : Fact := ⟨72, [.string Lttxt0, .int .i64 184], 482, [], .int .i64 185, 482, [], 482⟩
/- selfstab/lexer.next -/
def Ltg6_10 : Fact := ⟨73, [.string Lttxt0, .int .i64 185], 482, [], .tuple #[.agg #[.int .i64 1, .int .i64 185, .int .i64 189, .int .i64 0], .int .i64 0], 485, [], 482⟩
/- selfstab/lexer.skip -/
def Ltg6_11 : Fact := ⟨72, [.string Lttxt0, .int .i64 189], 488, [], .int .i64 190, 488, [], 488⟩
/- selfstab/lexer.next -/
def Ltg6_12 : Fact := ⟨73, [.string Lttxt0, .int .i64 190], 488, [], .tuple #[.agg #[.int .i64 3, .int .i64 190, .int .i64 192, .int .i64 0], .int .i64 0], 492, [], 488⟩
/- selfstab/lexer.skip -/
def Ltg6_13 : Fact := ⟨72, [.string Lttxt0, .int .i64 192], 495, [], .int .i64 193, 495, [], 495⟩
/- selfstab/lexer.next -/
def Ltg6_14 : Fact := ⟨73, [.string Lttxt0, .int .i64 193], 495, [], .tuple #[.agg #[.int .i64 1, .int .i64 193, .int .i64 195, .int .i64 0], .int .i64 0], 498, [], 495⟩
/- selfstab/lexer.next -/
def Ltg6_15 : Fact := ⟨73, [.string Lttxt0, .int .i64 195], 501, [], .tuple #[.agg #[.int .i64 3, .int .i64 195, .int .i64 196, .int .i64 0], .int .i64 0], 505, [], 501⟩
/- selfstab/lexer.skip -/
def Ltg6_16 : Fact := ⟨72, [.string Lttxt0, .int .i64 196], 508, [], .int .i64 197, 508, [], 508⟩
/- selfstab/lexer.next -/
def Ltg6_17 : Fact := ⟨73, [.string Lttxt0, .int .i64 197], 508, [], .tuple #[.agg #[.int .i64 1, .int .i64 197, .int .i64 198, .int .i64 0], .int .i64 0], 511, [], 508⟩
/- selfstab/lexer.skip -/
def Ltg6_18 : Fact := ⟨72, [.string Lttxt0, .int .i64 198], 514, [], .int .i64 199, 514, [], 514⟩
/- selfstab/lexer.next -/
def Ltg6_19 : Fact := ⟨73, [.string Lttxt0, .int .i64 199], 514, [], .tuple #[.agg #[.int .i64 3, .int .i64 199, .int .i64 201, .int .i64 0], .int .i64 0], 518, [], 514⟩
def Ltg6L : List Fact := [Ltg6_0, Ltg6_1, Ltg6_2, Ltg6_3, Ltg6_4, Ltg6_5, Ltg6_6, Ltg6_7, Ltg6_8, Ltg6_9, Ltg6_10, Ltg6_11, Ltg6_12, Ltg6_13, Ltg6_14, Ltg6_15, Ltg6_16, Ltg6_17, Ltg6_18, Ltg6_19]
theorem Ltg6L_ok : AllOk Ltg6L := AllOk.seq AllOk.nil (by kernel_rfl)
/- selfstab/lexer.skip -/
def Ltg7_0 : Fact := ⟨72, [.string Lttxt0, .int .i64 201], 521, [], .int .i64 202, 521, [], 521⟩
/- selfstab/lexer.next -/
def Ltg7_1 : Fact := ⟨73, [.string Lttxt0, .int .i64 202], 521, [], .tuple #[.agg #[.int .i64 2, .int .i64 202, .int .i64 203, .int .i64 0], .int .i64 0], 524, [], 521⟩
/- selfstab/lexer.next -/
def Ltg7_2 : Fact := ⟨73, [.string Lttxt0, .int .i64 203], 527, [], .tuple #[.agg #[.int .i64 3, .int .i64 203, .int .i64 204, .int .i64 0], .int .i64 0], 531, [], 527⟩
/- selfstab/lexer.skip -/
def Ltg7_3 : Fact := ⟨72, [.string Lttxt0, .int .i64 204], 534, [], .int .i64 205, 534, [], 534⟩
/- selfstab/lexer.next -/
def Ltg7_4 : Fact := ⟨73, [.string Lttxt0, .int .i64 205], 534, [], .tuple #[.agg #[.int .i64 1, .int .i64 205, .int .i64 206, .int .i64 0], .int .i64 0], 537, [], 534⟩
/- selfstab/lexer.skip -/
def Ltg7_5 : Fact := ⟨72, [.string Lttxt0, .int .i64 206], 540, [], .int .i64 207, 540, [], 540⟩
/- selfstab/lexer.next -/
def Ltg7_6 : Fact := ⟨73, [.string Lttxt0, .int .i64 207], 540, [], .tuple #[.agg #[.int .i64 3, .int .i64 207, .int .i64 209, .int .i64 0], .int .i64 0], 544, [], 540⟩
/- selfstab/lexer.skip -/
def Ltg7_7 : Fact := ⟨72, [.string Lttxt0, .int .i64 209], 547, [], .int .i64 210, 547, [], 547⟩
/- selfstab/lexer.next -/
def Ltg7_8 : Fact := ⟨73, [.string Lttxt0, .int .i64 210], 547, [], .tuple #[.agg #[.int .i64 1, .int .i64 210, .int .i64 214, .int .i64 0], .int .i64 0], 550, [], 547⟩
/- selfstab/lexer.next -/
def Ltg7_9 : Fact := ⟨73, [.string Lttxt0, .int .i64 214], 553, [], .tuple #[.agg #[.int .i64 3, .int .i64 214, .int .i64 215, .int .i64 0], .int .i64 0], 557, [], 553⟩
/- selfstab/lexer.skip -/
def Ltg7_10 : Fact := ⟨72, [.string Lttxt0, .int .i64 215], 560, [], .int .i64 216, 560, [], 560⟩
/- selfstab/lexer.next -/
def Ltg7_11 : Fact := ⟨73, [.string Lttxt0, .int .i64 216], 560, [], .tuple #[.agg #[.int .i64 1, .int .i64 216, .int .i64 220, .int .i64 0], .int .i64 0], 563, [], 560⟩
/- selfstab/lexer.skip -/
def Ltg7_12 : Fact := ⟨72, [.string Lttxt0, .int .i64 220], 566, [], .int .i64 221, 566, [], 566⟩
/- selfstab/lexer.next -/
def Ltg7_13 : Fact := ⟨73, [.string Lttxt0, .int .i64 221], 566, [], .tuple #[.agg #[.int .i64 1, .int .i64 221, .int .i64 225, .int .i64 0], .int .i64 0], 569, [], 566⟩
/- selfstab/lexer.next -/
def Ltg7_14 : Fact := ⟨73, [.string Lttxt0, .int .i64 225], 572, [], .tuple #[.agg #[.int .i64 3, .int .i64 225, .int .i64 226, .int .i64 0], .int .i64 0], 576, [], 572⟩
/- selfstab/lexer.skip -/
def Ltg7_15 : Fact := ⟨72, [.string Lttxt0, .int .i64 226], 579, [], .int .i64 227, 579, [], 579⟩
/- selfstab/lexer.next -/
def Ltg7_16 : Fact := ⟨73, [.string Lttxt0, .int .i64 227], 579, [], .tuple #[.agg #[.int .i64 1, .int .i64 227, .int .i64 229, .int .i64 0], .int .i64 0], 582, [], 579⟩
/- selfstab/lexer.skip -/
def Ltg7_17 : Fact := ⟨72, [.string Lttxt0, .int .i64 229], 585, [], .int .i64 230, 585, [], 585⟩
/- selfstab/lexer.next -/
def Ltg7_18 : Fact := ⟨73, [.string Lttxt0, .int .i64 230], 585, [], .tuple #[.agg #[.int .i64 3, .int .i64 230, .int .i64 231, .int .i64 0], .int .i64 0], 589, [], 585⟩
/- selfstab/lexer.skip -/
def Ltg7_19 : Fact := ⟨72, [.string Lttxt0, .int .i64 231], 592, [], .int .i64 232, 592, [], 592⟩
def Ltg7L : List Fact := [Ltg7_0, Ltg7_1, Ltg7_2, Ltg7_3, Ltg7_4, Ltg7_5, Ltg7_6, Ltg7_7, Ltg7_8, Ltg7_9, Ltg7_10, Ltg7_11, Ltg7_12, Ltg7_13, Ltg7_14, Ltg7_15, Ltg7_16, Ltg7_17, Ltg7_18, Ltg7_19]
theorem Ltg7L_ok : AllOk Ltg7L := AllOk.seq AllOk.nil (by kernel_rfl)
/- selfstab/lexer.next -/
def Ltg8_0 : Fact := ⟨73, [.string Lttxt0, .int .i64 232], 592, [], .tuple #[.agg #[.int .i64 1, .int .i64 232, .int .i64 233, .int .i64 0], .int .i64 0], 595, [], 592⟩
/- selfstab/lexer.skip -/
def Ltg8_1 : Fact := ⟨72, [.string Lttxt0, .int .i64 233], 598, [], .int .i64 234, 598, [], 598⟩
/- selfstab/lexer.next -/
def Ltg8_2 : Fact := ⟨73, [.string Lttxt0, .int .i64 234], 598, [], .tuple #[.agg #[.int .i64 3, .int .i64 234, .int .i64 235, .int .i64 0], .int .i64 0], 602, [], 598⟩
/- selfstab/lexer.skip -/
def Ltg8_3 : Fact := ⟨72, [.string Lttxt0, .int .i64 235], 605, [], .int .i64 236, 605, [], 605⟩
/- selfstab/lexer.next -/
def Ltg8_4 : Fact := ⟨73, [.string Lttxt0, .int .i64 236], 605, [], .tuple #[.agg #[.int .i64 1, .int .i64 236, .int .i64 239, .int .i64 0], .int .i64 0], 608, [], 605⟩
/- selfstab/lexer.next -/
def Ltg8_5 : Fact := ⟨73, [.string Lttxt0, .int .i64 239], 611, [], .tuple #[.agg #[.int .i64 3, .int .i64 239, .int .i64 240, .int .i64 0], .int .i64 0], 615, [], 611⟩
/- selfstab/lexer.next -/
def Ltg8_6 : Fact := ⟨73, [.string Lttxt0, .int .i64 240], 618, [], .tuple #[.agg #[.int .i64 1, .int .i64 240, .int .i64 241, .int .i64 0], .int .i64 0], 621, [], 618⟩
/- selfstab/lexer.next -/
def Ltg8_7 : Fact := ⟨73, [.string Lttxt0, .int .i64 241], 624, [], .tuple #[.agg #[.int .i64 3, .int .i64 241, .int .i64 242, .int .i64 0], .int .i64 0], 628, [], 624⟩
/- selfstab/lexer.next -/
def Ltg8_8 : Fact := ⟨73, [.string Lttxt0, .int .i64 242], 631, [], .tuple #[.agg #[.int .i64 1, .int .i64 242, .int .i64 243, .int .i64 0], .int .i64 0], 634, [], 631⟩
/- selfstab/lexer.skip -/
def Ltg8_9 : Fact := ⟨72, [.string Lttxt0, .int .i64 243], 637, [], .int .i64 244, 637, [], 637⟩
/- selfstab/lexer.next -/
def Ltg8_10 : Fact := ⟨73, [.string Lttxt0, .int .i64 244], 637, [], .tuple #[.agg #[.int .i64 3, .int .i64 244, .int .i64 245, .int .i64 0], .int .i64 0], 641, [], 637⟩
/- selfstab/lexer.skip -/
def Ltg8_11 : Fact := ⟨72, [.string Lttxt0, .int .i64 245], 644, [], .int .i64 246, 644, [], 644⟩
/- selfstab/lexer.next -/
def Ltg8_12 : Fact := ⟨73, [.string Lttxt0, .int .i64 246], 644, [], .tuple #[.agg #[.int .i64 2, .int .i64 246, .int .i64 247, .int .i64 1], .int .i64 0], 647, [], 644⟩
/- selfstab/lexer.skip -/
def Ltg8_13 : Fact := ⟨72, [.string Lttxt0, .int .i64 247], 650, [], .int .i64 248, 650, [], 650⟩
/- selfstab/lexer.next -/
def Ltg8_14 : Fact := ⟨73, [.string Lttxt0, .int .i64 248], 650, [], .tuple #[.agg #[.int .i64 3, .int .i64 248, .int .i64 249, .int .i64 0], .int .i64 0], 654, [], 650⟩
/- selfstab/lexer.skip -/
def Ltg8_15 : Fact := ⟨72, [.string Lttxt0, .int .i64 249], 657, [], .int .i64 250, 657, [], 657⟩
/- selfstab/lexer.next -/
def Ltg8_16 : Fact := ⟨73, [.string Lttxt0, .int .i64 250], 657, [], .tuple #[.agg #[.int .i64 1, .int .i64 250, .int .i64 251, .int .i64 0], .int .i64 0], 660, [], 657⟩
/- selfstab/lexer.skip -/
def Ltg8_17 : Fact := ⟨72, [.string Lttxt0, .int .i64 251], 663, [], .int .i64 252, 663, [], 663⟩
/- selfstab/lexer.next -/
def Ltg8_18 : Fact := ⟨73, [.string Lttxt0, .int .i64 252], 663, [], .tuple #[.agg #[.int .i64 3, .int .i64 252, .int .i64 253, .int .i64 0], .int .i64 0], 667, [], 663⟩
/- selfstab/lexer.skip -/
def Ltg8_19 : Fact := ⟨72, [.string Lttxt0, .int .i64 253], 670, [], .int .i64 254, 670, [], 670⟩
def Ltg8L : List Fact := [Ltg8_0, Ltg8_1, Ltg8_2, Ltg8_3, Ltg8_4, Ltg8_5, Ltg8_6, Ltg8_7, Ltg8_8, Ltg8_9, Ltg8_10, Ltg8_11, Ltg8_12, Ltg8_13, Ltg8_14, Ltg8_15, Ltg8_16, Ltg8_17, Ltg8_18, Ltg8_19]
theorem Ltg8L_ok : AllOk Ltg8L := AllOk.seq AllOk.nil (by kernel_rfl)
/- selfstab/lexer.next -/
def Ltg9_0 : Fact := ⟨73, [.string Lttxt0, .int .i64 254], 670, [], .tuple #[.agg #[.int .i64 1, .int .i64 254, .int .i64 255, .int .i64 0], .int .i64 0], 673, [], 670⟩
/- selfstab/lexer.next -/
def Ltg9_1 : Fact := ⟨73, [.string Lttxt0, .int .i64 255], 676, [], .tuple #[.agg #[.int .i64 3, .int .i64 255, .int .i64 256, .int .i64 0], .int .i64 0], 680, [], 676⟩
/- selfstab/lexer.next -/
def Ltg9_2 : Fact := ⟨73, [.string Lttxt0, .int .i64 256], 683, [], .tuple #[.agg #[.int .i64 1, .int .i64 256, .int .i64 260, .int .i64 0], .int .i64 0], 686, [], 683⟩
/- selfstab/lexer.skip -/
def Ltg9_3 : Fact := ⟨72, [.string Lttxt0, .int .i64 260], 689, [], .int .i64 261, 689, [], 689⟩
/- selfstab/lexer.next -/
def Ltg9_4 : Fact := ⟨73, [.string Lttxt0, .int .i64 261], 689, [], .tuple #[.agg #[.int .i64 3, .int .i64 261, .int .i64 262, .int .i64 0], .int .i64 0], 693, [], 689⟩
/- selfstab/lexer.skip -/
def Ltg9_5 : Fact := ⟨72, [.string Lttxt0, .int .i64 262], 696, [], .int .i64 263, 696, [], 696⟩
/- selfstab/lexer.next -/
def Ltg9_6 : Fact := ⟨73, [.string Lttxt0, .int .i64 263], 696, [], .tuple #[.agg #[.int .i64 1, .int .i64 263, .int .i64 264, .int .i64 0], .int .i64 0], 699, [], 696⟩
/- selfstab/lexer.skip -/
def Ltg9_7 : Fact := ⟨72, [.string Lttxt0, .int .i64 264], 702, [], .int .i64 265, 702, [], 702⟩
/- selfstab/lexer.next -/
def Ltg9_8 : Fact := ⟨73, [.string Lttxt0, .int .i64 265], 702, [], .tuple #[.agg #[.int .i64 3, .int .i64 265, .int .i64 266, .int .i64 0], .int .i64 0], 706, [], 702⟩
/- selfstab/lexer.skip -/
def Ltg9_9 : Fact := ⟨72, [.string Lttxt0, .int .i64 266], 709, [], .int .i64 267, 709, [], 709⟩
/- selfstab/lexer.next -/
def Ltg9_10 : Fact := ⟨73, [.string Lttxt0, .int .i64 267], 709, [], .tuple #[.agg #[.int .i64 1, .int .i64 267, .int .i64 268, .int .i64 0], .int .i64 0], 712, [], 709⟩
/- selfstab/lexer.next -/
def Ltg9_11 : Fact := ⟨73, [.string Lttxt0, .int .i64 268], 715, [], .tuple #[.agg #[.int .i64 3, .int .i64 268, .int .i64 269, .int .i64 0], .int .i64 0], 719, [], 715⟩
/- selfstab/lexer.next -/
def Ltg9_12 : Fact := ⟨73, [.string Lttxt0, .int .i64 269], 722, [], .tuple #[.agg #[.int .i64 1, .int .i64 269, .int .i64 270, .int .i64 0], .int .i64 0], 725, [], 722⟩
/- selfstab/lexer.skip -/
def Ltg9_13 : Fact := ⟨72, [.string Lttxt0, .int .i64 270], 728, [], .int .i64 271, 728, [], 728⟩
/- selfstab/lexer.next -/
def Ltg9_14 : Fact := ⟨73, [.string Lttxt0, .int .i64 271], 728, [], .tuple #[.agg #[.int .i64 3, .int .i64 271, .int .i64 272, .int .i64 0], .int .i64 0], 732, [], 728⟩
/- selfstab/lexer.skip -/
def Ltg9_15 : Fact := ⟨72, [.string Lttxt0, .int .i64 272], 735, [], .int .i64 273, 735, [], 735⟩
/- selfstab/lexer.next -/
def Ltg9_16 : Fact := ⟨73, [.string Lttxt0, .int .i64 273], 735, [], .tuple #[.agg #[.int .i64 3, .int .i64 273, .int .i64 274, .int .i64 0], .int .i64 0], 739, [], 735⟩
/- selfstab/lexer.next -/
def Ltg9_17 : Fact := ⟨73, [.string Lttxt0, .int .i64 274], 742, [], .tuple #[.agg #[.int .i64 1, .int .i64 274, .int .i64 277, .int .i64 0], .int .i64 0], 745, [], 742⟩
/- selfstab/lexer.skip -/
def Ltg9_18 : Fact := ⟨72, [.string Lttxt0, .int .i64 277], 748, [], .int .i64 278, 748, [], 748⟩
/- selfstab/lexer.next -/
def Ltg9_19 : Fact := ⟨73, [.string Lttxt0, .int .i64 278], 748, [], .tuple #[.agg #[.int .i64 3, .int .i64 278, .int .i64 279, .int .i64 0], .int .i64 0], 752, [], 748⟩
def Ltg9L : List Fact := [Ltg9_0, Ltg9_1, Ltg9_2, Ltg9_3, Ltg9_4, Ltg9_5, Ltg9_6, Ltg9_7, Ltg9_8, Ltg9_9, Ltg9_10, Ltg9_11, Ltg9_12, Ltg9_13, Ltg9_14, Ltg9_15, Ltg9_16, Ltg9_17, Ltg9_18, Ltg9_19]
theorem Ltg9L_ok : AllOk Ltg9L := AllOk.seq AllOk.nil (by kernel_rfl)
end Ev
end Go.Proofs.YtbhjopjonoldmaaGreat
