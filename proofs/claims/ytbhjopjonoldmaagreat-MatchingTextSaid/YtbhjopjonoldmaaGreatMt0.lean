/- Facts. Printed by wip/facts3.py. -/
import Derived.Test.YtbhjopjonoldmaaGreatMtC
namespace Go.Proofs.YtbhjopjonoldmaaGreat
namespace Ev
open Go
set_option maxRecDepth 1000000
/- selfstab/lexer.next -/
def Mtg0_0 : Fact := ⟨73, [.string Mttxt0, .int .i64 0], 1, [], .tuple #[.agg #[.int .i64 1, .int .i64 0, .int .i64 7, .int .i64 0], .int .i64 0], 4, [], 1⟩
/- selfstab/lexer.next -/
def Mtg0_1 : Fact := ⟨73, [.string Mttxt0, .int .i64 8], 7, [], .tuple #[.agg #[.int .i64 1, .int .i64 8, .int .i64 16, .int .i64 0], .int .i64 0], 10, [], 7⟩
/- selfstab/lexer.next -/
def Mtg0_2 : Fact := ⟨73, [.string Mttxt0, .int .i64 16], 13, [], .tuple #[.agg #[.int .i64 3, .int .i64 16, .int .i64 17, .int .i64 0], .int .i64 0], 17, [], 13⟩
/- selfstab/lexer.next -/
def Mtg0_3 : Fact := ⟨73, [.string Mttxt0, .int .i64 24], 32, [], .tuple #[.agg #[.int .i64 3, .int .i64 24, .int .i64 25, .int .i64 0], .int .i64 0], 36, [], 32⟩
/- selfstab/lexer.next -/
def Mtg0_4 : Fact := ⟨73, [.string Mttxt0, .int .i64 30], 45, [], .tuple #[.agg #[.int .i64 3, .int .i64 30, .int .i64 31, .int .i64 0], .int .i64 0], 49, [], 45⟩
/- selfstab/lexer.next -/
def Mtg0_5 : Fact := ⟨73, [.string Mttxt0, .int .i64 43], 64, [], .tuple #[.agg #[.int .i64 3, .int .i64 43, .int .i64 44, .int .i64 0], .int .i64 0], 68, [], 64⟩
/- selfstab/lexer.next -/
def Mtg0_6 : Fact := ⟨73, [.string Mttxt0, .int .i64 47], 77, [], .tuple #[.agg #[.int .i64 3, .int .i64 47, .int .i64 49, .int .i64 0], .int .i64 0], 81, [], 77⟩
/- selfstab/lexer.next -/
def Mtg0_7 : Fact := ⟨73, [.string Mttxt0, .int .i64 62], 103, [], .tuple #[.agg #[.int .i64 3, .int .i64 62, .int .i64 63, .int .i64 0], .int .i64 0], 107, [], 103⟩
/- selfstab/lexer.next -/
def Mtg0_8 : Fact := ⟨73, [.string Mttxt0, .int .i64 64], 116, [], .tuple #[.agg #[.int .i64 3, .int .i64 64, .int .i64 65, .int .i64 0], .int .i64 0], 120, [], 116⟩
/- selfstab/lexer.next -/
def Mtg0_9 : Fact := ⟨73, [.string Mttxt0, .int .i64 67], 129, [], .tuple #[.agg #[.int .i64 3, .int .i64 67, .int .i64 69, .int .i64 0], .int .i64 0], 133, [], 129⟩
/- selfstab/lexer.next -/
def Mtg0_10 : Fact := ⟨73, [.string Mttxt0, .int .i64 71], 142, [], .tuple #[.agg #[.int .i64 3, .int .i64 71, .int .i64 72, .int .i64 0], .int .i64 0], 146, [], 142⟩
/- selfstab/lexer.next -/
def Mtg0_11 : Fact := ⟨73, [.string Mttxt0, .int .i64 76], 155, [], .tuple #[.agg #[.int .i64 3, .int .i64 76, .int .i64 77, .int .i64 0], .int .i64 0], 159, [], 155⟩
/- selfstab/lexer.next -/
def Mtg0_12 : Fact := ⟨73, [.string Mttxt0, .int .i64 91], 188, [], .tuple #[.agg #[.int .i64 3, .int .i64 91, .int .i64 92, .int .i64 0], .int .i64 0], 192, [], 188⟩
/- selfstab/lexer.next -/
def Mtg0_13 : Fact := ⟨73, [.string Mttxt0, .int .i64 93], 201, [], .tuple #[.agg #[.int .i64 3, .int .i64 93, .int .i64 94, .int .i64 0], .int .i64 0], 205, [], 201⟩
/- selfstab/lexer.next -/
def Mtg0_14 : Fact := ⟨73, [.string Mttxt0, .int .i64 100], 227, [], .tuple #[.agg #[.int .i64 3, .int .i64 100, .int .i64 101, .int .i64 0], .int .i64 0], 231, [], 227⟩
/- selfstab/lexer.next -/
def Mtg0_15 : Fact := ⟨73, [.string Mttxt0, .int .i64 105], 240, [], .tuple #[.agg #[.int .i64 3, .int .i64 105, .int .i64 106, .int .i64 0], .int .i64 0], 244, [], 240⟩
/- selfstab/lexer.next -/
def Mtg0_16 : Fact := ⟨73, [.string Mttxt0, .int .i64 106], 247, [], .tuple #[.agg #[.int .i64 3, .int .i64 106, .int .i64 107, .int .i64 0], .int .i64 0], 251, [], 247⟩
/- selfstab/lexer.next -/
def Mtg0_17 : Fact := ⟨73, [.string Mttxt0, .int .i64 120], 266, [], .tuple #[.agg #[.int .i64 3, .int .i64 120, .int .i64 121, .int .i64 0], .int .i64 0], 270, [], 266⟩
/- selfstab/lexer.next -/
def Mtg0_18 : Fact := ⟨73, [.string Mttxt0, .int .i64 139], 305, [], .tuple #[.agg #[.int .i64 3, .int .i64 139, .int .i64 140, .int .i64 0], .int .i64 0], 309, [], 305⟩
/- selfstab/lexer.next -/
def Mtg0_19 : Fact := ⟨73, [.string Mttxt0, .int .i64 141], 318, [], .tuple #[.agg #[.int .i64 3, .int .i64 141, .int .i64 142, .int .i64 0], .int .i64 0], 322, [], 318⟩
/- selfstab/lexer.next -/
def Mtg0_20 : Fact := ⟨73, [.string Mttxt0, .int .i64 151], 344, [], .tuple #[.agg #[.int .i64 3, .int .i64 151, .int .i64 152, .int .i64 0], .int .i64 0], 348, [], 344⟩
/- selfstab/lexer.next -/
def Mtg0_21 : Fact := ⟨73, [.string Mttxt0, .int .i64 166], 377, [], .tuple #[.agg #[.int .i64 3, .int .i64 166, .int .i64 167, .int .i64 0], .int .i64 0], 381, [], 377⟩
/- selfstab/lexer.next -/
def Mtg0_22 : Fact := ⟨73, [.string Mttxt0, .int .i64 168], 390, [], .tuple #[.agg #[.int .i64 3, .int .i64 168, .int .i64 169, .int .i64 0], .int .i64 0], 394, [], 390⟩
/- selfstab/lexer.next -/
def Mtg0_23 : Fact := ⟨73, [.string Mttxt0, .int .i64 178], 416, [], .tuple #[.agg #[.int .i64 3, .int .i64 178, .int .i64 179, .int .i64 0], .int .i64 0], 420, [], 416⟩
/- selfstab/lexer.next -/
def Mtg0_24 : Fact := ⟨73, [.string Mttxt0, .int .i64 179], 423, [], .tuple #[.agg #[.int .i64 3, .int .i64 179, .int .i64 180, .int .i64 0], .int .i64 0], 427, [], 423⟩
/- selfstab/lexer.next -/
def Mtg0_25 : Fact := ⟨73, [.string Mttxt0, .int .i64 186], 436, [], .tuple #[.agg #[.int .i64 1, .int .i64 186, .int .i64 194, .int .i64 0], .int .i64 0], 439, [], 436⟩
/- selfstab/lexer.next -/
def Mtg0_26 : Fact := ⟨73, [.string Mttxt0, .int .i64 194], 442, [], .tuple #[.agg #[.int .i64 3, .int .i64 194, .int .i64 195, .int .i64 0], .int .i64 0], 446, [], 442⟩
/- selfstab/lexer.next -/
def Mtg0_27 : Fact := ⟨73, [.string Mttxt0, .int .i64 200], 455, [], .tuple #[.agg #[.int .i64 3, .int .i64 200, .int .i64 201, .int .i64 0], .int .i64 0], 459, [], 455⟩
/- selfstab/lexer.next -/
def Mtg0_28 : Fact := ⟨73, [.string Mttxt0, .int .i64 212], 494, [], .tuple #[.agg #[.int .i64 3, .int .i64 212, .int .i64 213, .int .i64 0], .int .i64 0], 498, [], 494⟩
/- selfstab/lexer.next -/
def Mtg0_29 : Fact := ⟨73, [.string Mttxt0, .int .i64 227], 533, [], .tuple #[.agg #[.int .i64 3, .int .i64 227, .int .i64 228, .int .i64 0], .int .i64 0], 537, [], 533⟩
/- selfstab/lexer.next -/
def Mtg0_30 : Fact := ⟨73, [.string Mttxt0, .int .i64 234], 559, [], .tuple #[.agg #[.int .i64 3, .int .i64 234, .int .i64 235, .int .i64 0], .int .i64 0], 563, [], 559⟩
/- selfstab/lexer.next -/
def Mtg0_31 : Fact := ⟨73, [.string Mttxt0, .int .i64 239], 572, [], .tuple #[.agg #[.int .i64 3, .int .i64 239, .int .i64 240, .int .i64 0], .int .i64 0], 576, [], 572⟩
/- selfstab/lexer.next -/
def Mtg0_32 : Fact := ⟨73, [.string Mttxt0, .int .i64 253], 605, [], .tuple #[.agg #[.int .i64 3, .int .i64 253, .int .i64 254, .int .i64 0], .int .i64 0], 609, [], 605⟩
def Mtg0L : List Fact := [Mtg0_0, Mtg0_1, Mtg0_2, Mtg0_3, Mtg0_4, Mtg0_5, Mtg0_6, Mtg0_7, Mtg0_8, Mtg0_9, Mtg0_10, Mtg0_11, Mtg0_12, Mtg0_13, Mtg0_14, Mtg0_15, Mtg0_16, Mtg0_17, Mtg0_18, Mtg0_19, Mtg0_20, Mtg0_21, Mtg0_22, Mtg0_23, Mtg0_24, Mtg0_25, Mtg0_26, Mtg0_27, Mtg0_28, Mtg0_29, Mtg0_30, Mtg0_31, Mtg0_32]
theorem Mtg0L_ok : AllOk Mtg0L := AllOk.seq AllOk.nil (by kernel_rfl)
/- (*selfstab/expr.Reader).Choice -/
def Mtg2_0 : Fact := ⟨140, [.pointer (some ⟨612, 0, none⟩)], 643, [⟨611, 77, 4, Mtrow1⟩, ⟨612, 44, 0, [.string Mttxt0, .slice (some ⟨611, 44, none⟩) 83 CU, .slice (some ⟨631, 0, none⟩) 1 CU, .string (by8 [109, 97, 116, 99, 104, 105, 110, 103]), .slice (some ⟨633, 0, none⟩) 1 CU, .slice none 0 0, .slice (some ⟨640, 0, none⟩) 1 CU]⟩, ⟨631, 9, 1, [.string (by8 [112])]⟩, ⟨633, 33, 6, [.string (by8 [112]), .int .i64 3, .int .i64 0, .int .i64 0, .int .i64 0, .int .i64 0]⟩, ⟨640, 9, 1, [.string (by8 [97, 99, 99, 101, 112, 116])]⟩], .slice (some ⟨712, 0, none⟩) 8 CU, 715, [⟨612, 44, 0, [.string Mttxt0, .slice (some ⟨611, 100, none⟩) 69 CU, .slice (some ⟨631, 0, none⟩) 1 CU, .string (by8 [109, 97, 116, 99, 104, 105, 110, 103]), .slice (some ⟨633, 0, none⟩) 1 CU, .slice none 0 0, .slice (some ⟨640, 0, none⟩) 1 CU]⟩, ⟨631, 9, 1, [.string (by8 [112])]⟩, ⟨633, 33, 6, [.string (by8 [112]), .int .i64 3, .int .i64 0, .int .i64 0, .int .i64 0, .int .i64 0]⟩, ⟨640, 9, 1, [.string (by8 [97, 99, 99, 101, 112, 116])]⟩, ⟨712, 169, 2, [.int .i64 41, .int .i64 0, .int .i64 35, .int .i64 0, .int .i64 5, .int .i64 0, .int .i64 4, .int .i64 0, .int .i64 21, .int .i64 0, .int .i64 35, .int .i64 0, .int .i64 12, .int .i64 0, .int .i64 17, .int .i64 0]⟩], 612⟩
def Mtg2L : List Fact := [Mtg2_0]
theorem Mtg2L_ok : AllOk Mtg2L := AllOk.seq AllOk.nil (by kernel_rfl)
/- (*selfstab/program.reader).rule -/
def Mtg3_0 : Fact := ⟨80, [.pointer (some ⟨612, 0, none⟩)], 775, [⟨611, 77, 4, Mtrow1⟩, ⟨612, 44, 0, [.string Mttxt0, .slice (some ⟨611, 160, none⟩) 54 CU, .slice (some ⟨631, 0, none⟩) 1 CU, .string (by8 [109, 97, 116, 99, 104, 105, 110, 103]), .slice (some ⟨633, 0, none⟩) 1 CU, .slice (some ⟨772, 0, none⟩) 1 CU, .slice (some ⟨640, 0, none⟩) 1 CU]⟩, ⟨631, 9, 1, [.string (by8 [112])]⟩, ⟨633, 33, 6, [.string (by8 [112]), .int .i64 3, .int .i64 0, .int .i64 0, .int .i64 0, .int .i64 0]⟩, ⟨640, 9, 1, [.string (by8 [97, 99, 99, 101, 112, 116])]⟩, ⟨712, 169, 2, [.int .i64 41, .int .i64 0, .int .i64 35, .int .i64 0, .int .i64 5, .int .i64 0, .int .i64 4, .int .i64 0, .int .i64 21, .int .i64 0, .int .i64 35, .int .i64 0, .int .i64 12, .int .i64 0, .int .i64 17, .int .i64 0]⟩, ⟨761, 169, 2, [.int .i64 23, .int .i64 0, .int .i64 35, .int .i64 0, .int .i64 12, .int .i64 0, .int .i64 17, .int .i64 0]⟩, ⟨768, 138, 2, [.int .i64 0, .slice (some ⟨761, 0, none⟩) 4 CU]⟩, ⟨772, 93, 3, [.string (by8 [97, 99, 99, 101, 112, 116]), .slice (some ⟨712, 0, none⟩) 8 CU, .slice (some ⟨768, 0, none⟩) 1 CU]⟩], .tuple #[], 904, [⟨612, 44, 0, [.string Mttxt0, .slice (some ⟨611, 264, none⟩) 28 CU, .slice (some ⟨631, 0, none⟩) 1 CU, .string (by8 [109, 97, 116, 99, 104, 105, 110, 103]), .slice (some ⟨633, 0, none⟩) 1 CU, .slice (some ⟨903, 0, none⟩) 2 CU, .slice (some ⟨779, 0, none⟩) 2 CU]⟩, ⟨631, 9, 1, [.string (by8 [112])]⟩, ⟨633, 33, 6, [.string (by8 [112]), .int .i64 3, .int .i64 0, .int .i64 0, .int .i64 0, .int .i64 0]⟩, ⟨712, 169, 2, [.int .i64 41, .int .i64 0, .int .i64 35, .int .i64 0, .int .i64 5, .int .i64 0, .int .i64 4, .int .i64 0, .int .i64 21, .int .i64 0, .int .i64 35, .int .i64 0, .int .i64 12, .int .i64 0, .int .i64 17, .int .i64 0]⟩, ⟨761, 169, 2, [.int .i64 23, .int .i64 0, .int .i64 35, .int .i64 0, .int .i64 12, .int .i64 0, .int .i64 17, .int .i64 0]⟩, ⟨768, 138, 2, [.int .i64 0, .slice (some ⟨761, 0, none⟩) 4 CU]⟩, ⟨779, 9, 1, [.string (by8 [97, 99, 99, 101, 112, 116]), .string (by8 [112, 114, 111, 112, 111, 115, 101])]⟩, ⟨847, 169, 2, [.int .i64 41, .int .i64 0, .int .i64 35, .int .i64 0, .int .i64 5, .int .i64 0, .int .i64 4, .int .i64 0, .int .i64 21, .int .i64 0, .int .i64 35, .int .i64 0, .int .i64 12, .int .i64 0, .int .i64 4, .int .i64 0]⟩, ⟨892, 169, 2, [.int .i64 23, .int .i64 0, .int .i64 35, .int .i64 0, .int .i64 12, .int .i64 0, .int .i64 4, .int .i64 0]⟩, ⟨899, 138, 2, [.int .i64 0, .slice (some ⟨892, 0, none⟩) 4 CU]⟩, ⟨903, 93, 3, [.string (by8 [97, 99, 99, 101, 112, 116]), .slice (some ⟨712, 0, none⟩) 8 CU, .slice (some ⟨768, 0, none⟩) 1 CU, .string (by8 [112, 114, 111, 112, 111, 115, 101]), .slice (some ⟨847, 0, none⟩) 8 CU, .slice (some ⟨899, 0, none⟩) 1 CU]⟩], 612⟩
def Mtg3L : List Fact := [Mtg3_0]
theorem Mtg3L_ok : AllOk Mtg3L := AllOk.seq AllOk.nil (by kernel_rfl)
end Ev
end Go.Proofs.YtbhjopjonoldmaaGreat
