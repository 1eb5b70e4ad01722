/- Facts. Printed by wip/facts3.py. -/
import Derived.Test.YtbhjopjonoldmaaGreatCtC
namespace Go.Proofs.YtbhjopjonoldmaaGreat
namespace Ev
open Go
set_option maxRecDepth 1000000
/- selfstab/lexer.next -/
def Ctg0_0 : Fact := ⟨73, [.string Cttxt0, .int .i64 14], 13, [], .tuple #[.agg #[.int .i64 3, .int .i64 14, .int .i64 15, .int .i64 0], .int .i64 0], 17, [], 13⟩
/- selfstab/lexer.next -/
def Ctg0_1 : Fact := ⟨73, [.string Cttxt0, .int .i64 22], 32, [], .tuple #[.agg #[.int .i64 3, .int .i64 22, .int .i64 23, .int .i64 0], .int .i64 0], 36, [], 32⟩
/- selfstab/lexer.next -/
def Ctg0_2 : Fact := ⟨73, [.string Cttxt0, .int .i64 30], 58, [], .tuple #[.agg #[.int .i64 3, .int .i64 30, .int .i64 31, .int .i64 0], .int .i64 0], 62, [], 58⟩
/- selfstab/lexer.next -/
def Ctg0_3 : Fact := ⟨73, [.string Cttxt0, .int .i64 40], 77, [], .tuple #[.agg #[.int .i64 3, .int .i64 40, .int .i64 41, .int .i64 0], .int .i64 0], 81, [], 77⟩
/- selfstab/lexer.next -/
def Ctg0_4 : Fact := ⟨73, [.string Cttxt0, .int .i64 47], 97, [], .tuple #[.agg #[.int .i64 3, .int .i64 47, .int .i64 48, .int .i64 0], .int .i64 0], 101, [], 97⟩
/- selfstab/lexer.next -/
def Ctg0_5 : Fact := ⟨73, [.string Cttxt0, .int .i64 52], 110, [], .tuple #[.agg #[.int .i64 3, .int .i64 52, .int .i64 53, .int .i64 0], .int .i64 0], 114, [], 110⟩
/- selfstab/lexer.next -/
def Ctg0_6 : Fact := ⟨73, [.string Cttxt0, .int .i64 56], 123, [], .tuple #[.agg #[.int .i64 3, .int .i64 56, .int .i64 57, .int .i64 0], .int .i64 0], 127, [], 123⟩
/- selfstab/lexer.next -/
def Ctg0_7 : Fact := ⟨73, [.string Cttxt0, .int .i64 60], 136, [], .tuple #[.agg #[.int .i64 3, .int .i64 60, .int .i64 61, .int .i64 0], .int .i64 0], 140, [], 136⟩
/- selfstab/lexer.next -/
def Ctg0_8 : Fact := ⟨73, [.string Cttxt0, .int .i64 62], 143, [], .tuple #[.agg #[.int .i64 3, .int .i64 62, .int .i64 63, .int .i64 0], .int .i64 0], 147, [], 143⟩
/- selfstab/lexer.next -/
def Ctg0_9 : Fact := ⟨73, [.string Cttxt0, .int .i64 69], 156, [], .tuple #[.agg #[.int .i64 3, .int .i64 69, .int .i64 70, .int .i64 0], .int .i64 0], 160, [], 156⟩
/- selfstab/lexer.next -/
def Ctg0_10 : Fact := ⟨73, [.string Cttxt0, .int .i64 71], 169, [], .tuple #[.agg #[.int .i64 3, .int .i64 71, .int .i64 72, .int .i64 0], .int .i64 0], 173, [], 169⟩
/- selfstab/lexer.next -/
def Ctg0_11 : Fact := ⟨73, [.string Cttxt0, .int .i64 73], 182, [], .tuple #[.agg #[.int .i64 3, .int .i64 73, .int .i64 74, .int .i64 0], .int .i64 0], 186, [], 182⟩
/- selfstab/lexer.next -/
def Ctg0_12 : Fact := ⟨73, [.string Cttxt0, .int .i64 75], 189, [], .tuple #[.agg #[.int .i64 3, .int .i64 75, .int .i64 76, .int .i64 0], .int .i64 0], 193, [], 189⟩
/- selfstab/lexer.next -/
def Ctg0_13 : Fact := ⟨73, [.string Cttxt0, .int .i64 79], 202, [], .tuple #[.agg #[.int .i64 3, .int .i64 79, .int .i64 80, .int .i64 0], .int .i64 0], 206, [], 202⟩
/- selfstab/lexer.next -/
def Ctg0_14 : Fact := ⟨73, [.string Cttxt0, .int .i64 87], 215, [], .tuple #[.agg #[.int .i64 3, .int .i64 87, .int .i64 88, .int .i64 0], .int .i64 0], 219, [], 215⟩
/- selfstab/lexer.next -/
def Ctg0_15 : Fact := ⟨73, [.string Cttxt0, .int .i64 89], 228, [], .tuple #[.agg #[.int .i64 3, .int .i64 89, .int .i64 90, .int .i64 0], .int .i64 0], 232, [], 228⟩
/- selfstab/lexer.next -/
def Ctg0_16 : Fact := ⟨73, [.string Cttxt0, .int .i64 91], 241, [], .tuple #[.agg #[.int .i64 3, .int .i64 91, .int .i64 92, .int .i64 0], .int .i64 0], 245, [], 241⟩
/- selfstab/lexer.next -/
def Ctg0_17 : Fact := ⟨73, [.string Cttxt0, .int .i64 93], 248, [], .tuple #[.agg #[.int .i64 3, .int .i64 93, .int .i64 94, .int .i64 0], .int .i64 0], 252, [], 248⟩
/- selfstab/lexer.next -/
def Ctg0_18 : Fact := ⟨73, [.string Cttxt0, .int .i64 97], 261, [], .tuple #[.agg #[.int .i64 3, .int .i64 97, .int .i64 98, .int .i64 0], .int .i64 0], 265, [], 261⟩
/- selfstab/lexer.next -/
def Ctg0_19 : Fact := ⟨73, [.string Cttxt0, .int .i64 100], 274, [], .tuple #[.agg #[.int .i64 3, .int .i64 100, .int .i64 101, .int .i64 0], .int .i64 0], 278, [], 274⟩
/- selfstab/lexer.next -/
def Ctg0_20 : Fact := ⟨73, [.string Cttxt0, .int .i64 101], 281, [], .tuple #[.agg #[.int .i64 3, .int .i64 101, .int .i64 102, .int .i64 0], .int .i64 0], 285, [], 281⟩
/- selfstab/lexer.next -/
def Ctg0_21 : Fact := ⟨73, [.string Cttxt0, .int .i64 111], 308, [], .tuple #[.agg #[.int .i64 3, .int .i64 111, .int .i64 112, .int .i64 0], .int .i64 0], 312, [], 308⟩
/- selfstab/lexer.next -/
def Ctg0_22 : Fact := ⟨73, [.string Cttxt0, .int .i64 116], 321, [], .tuple #[.agg #[.int .i64 3, .int .i64 116, .int .i64 117, .int .i64 0], .int .i64 0], 325, [], 321⟩
/- selfstab/lexer.next -/
def Ctg0_23 : Fact := ⟨73, [.string Cttxt0, .int .i64 120], 334, [], .tuple #[.agg #[.int .i64 3, .int .i64 120, .int .i64 121, .int .i64 0], .int .i64 0], 338, [], 334⟩
def Ctg0L : List Fact := [Ctg0_0, Ctg0_1, Ctg0_2, Ctg0_3, Ctg0_4, Ctg0_5, Ctg0_6, Ctg0_7, Ctg0_8, Ctg0_9, Ctg0_10, Ctg0_11, Ctg0_12, Ctg0_13, Ctg0_14, Ctg0_15, Ctg0_16, Ctg0_17, Ctg0_18, Ctg0_19, Ctg0_20, Ctg0_21, Ctg0_22, Ctg0_23]
theorem Ctg0L_ok : AllOk Ctg0L := AllOk.seq AllOk.nil (by kernel_rfl)
/- (*selfstab/expr.Reader).Choice -/
def Ctg2_0 : Fact := ⟨140, [.pointer (some ⟨506, 0, none⟩)], 585, [⟨505, 77, 4, Ctrow1⟩, ⟨506, 44, 0, [.string Cttxt0, .slice (some ⟨505, 88, none⟩) 55 CU, .slice (some ⟨529, 0, none⟩) 1 CU, .string (by8 [99, 101, 110, 116, 101, 114]), .slice (some ⟨531, 0, none⟩) 1 CU, .slice none 0 0, .slice (some ⟨538, 0, none⟩) 1 CU]⟩, ⟨529, 9, 1, [.string (by8 [104])]⟩, ⟨531, 33, 6, [.string (by8 [104]), .int .i64 1, .int .i64 0, .int .i64 0, .int .i64 1, .int .i64 0]⟩, ⟨538, 9, 1, [.string (by8 [102, 105, 120])]⟩], .slice (some ⟨685, 0, none⟩) 10 CU, 693, [⟨506, 44, 0, [.string Cttxt0, .slice (some ⟨505, 172, none⟩) 34 CU, .slice (some ⟨529, 0, none⟩) 1 CU, .string (by8 [99, 101, 110, 116, 101, 114]), .slice (some ⟨531, 0, none⟩) 1 CU, .slice none 0 0, .slice (some ⟨538, 0, none⟩) 1 CU]⟩, ⟨529, 9, 1, [.string (by8 [104])]⟩, ⟨531, 33, 6, [.string (by8 [104]), .int .i64 1, .int .i64 0, .int .i64 0, .int .i64 1, .int .i64 0]⟩, ⟨538, 9, 1, [.string (by8 [102, 105, 120])]⟩, ⟨685, 169, 2, [.int .i64 43, .int .i64 0, .int .i64 37, .int .i64 0, .int .i64 28, .int .i64 0, .int .i64 12, .int .i64 0, .int .i64 6, .int .i64 0, .int .i64 33, .int .i64 0, .int .i64 28, .int .i64 0, .int .i64 12, .int .i64 0, .int .i64 1, .int .i64 1, .int .i64 6, .int .i64 0]⟩], 506⟩
def Ctg2L : List Fact := [Ctg2_0]
theorem Ctg2L_ok : AllOk Ctg2L := AllOk.seq AllOk.nil (by kernel_rfl)
/- (*selfstab/expr.Reader).Choice -/
def Ctg3_0 : Fact := ⟨140, [.pointer (some ⟨506, 0, none⟩)], 749, [⟨505, 77, 4, Ctrow1⟩, ⟨506, 44, 0, [.string Cttxt0, .slice (some ⟨505, 216, none⟩) 23 CU, .slice (some ⟨529, 0, none⟩) 1 CU, .string (by8 [99, 101, 110, 116, 101, 114]), .slice (some ⟨531, 0, none⟩) 1 CU, .slice none 0 0, .slice (some ⟨538, 0, none⟩) 1 CU]⟩, ⟨529, 9, 1, [.string (by8 [104])]⟩, ⟨531, 33, 6, [.string (by8 [104]), .int .i64 1, .int .i64 0, .int .i64 0, .int .i64 1, .int .i64 0]⟩, ⟨538, 9, 1, [.string (by8 [102, 105, 120])]⟩], .slice (some ⟨849, 0, none⟩) 10 CU, 857, [⟨506, 44, 0, [.string Cttxt0, .slice (some ⟨505, 300, none⟩) 2 CU, .slice (some ⟨529, 0, none⟩) 1 CU, .string (by8 [99, 101, 110, 116, 101, 114]), .slice (some ⟨531, 0, none⟩) 1 CU, .slice none 0 0, .slice (some ⟨538, 0, none⟩) 1 CU]⟩, ⟨529, 9, 1, [.string (by8 [104])]⟩, ⟨531, 33, 6, [.string (by8 [104]), .int .i64 1, .int .i64 0, .int .i64 0, .int .i64 1, .int .i64 0]⟩, ⟨538, 9, 1, [.string (by8 [102, 105, 120])]⟩, ⟨849, 169, 2, [.int .i64 43, .int .i64 0, .int .i64 37, .int .i64 0, .int .i64 28, .int .i64 0, .int .i64 12, .int .i64 0, .int .i64 6, .int .i64 0, .int .i64 33, .int .i64 0, .int .i64 28, .int .i64 0, .int .i64 12, .int .i64 0, .int .i64 1, .int .i64 1, .int .i64 6, .int .i64 0]⟩], 506⟩
def Ctg3L : List Fact := [Ctg3_0]
theorem Ctg3L_ok : AllOk Ctg3L := AllOk.seq AllOk.nil (by kernel_rfl)
end Ev
end Go.Proofs.YtbhjopjonoldmaaGreat
