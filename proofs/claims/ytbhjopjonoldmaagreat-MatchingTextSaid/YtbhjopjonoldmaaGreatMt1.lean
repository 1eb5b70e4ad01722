/- Facts. Printed by wip/facts3.py. -/
import Derived.Test.YtbhjopjonoldmaaGreatMtC
namespace Go.Proofs.YtbhjopjonoldmaaGreat
namespace Ev
open Go
set_option maxRecDepth 1000000
/- (*selfstab/program.reader).rule -/
def Mtg4_0 : Fact := ⟨80, [.pointer (some ⟨612, 0, none⟩)], 906, [⟨611, 77, 4, Mtrow1⟩, ⟨612, 44, 0, [.string Mttxt0, .slice (some ⟨611, 268, none⟩) 27 CU, .slice (some ⟨631, 0, none⟩) 1 CU, .string (by8 [109, 97, 116, 99, 104, 105, 110, 103]), .slice (some ⟨633, 0, none⟩) 1 CU, .slice (some ⟨903, 0, none⟩) 2 CU, .slice (some ⟨779, 0, none⟩) 2 CU]⟩, ⟨631, 9, 1, [.string (by8 [112])]⟩, ⟨633, 33, 6, [.string (by8 [112]), .int .i64 3, .int .i64 0, .int .i64 0, .int .i64 0, .int .i64 0]⟩, ⟨712, 169, 2, [.int .i64 41, .int .i64 0, .int .i64 35, .int .i64 0, .int .i64 5, .int .i64 0, .int .i64 4, .int .i64 0, .int .i64 21, .int .i64 0, .int .i64 35, .int .i64 0, .int .i64 12, .int .i64 0, .int .i64 17, .int .i64 0]⟩, ⟨761, 169, 2, [.int .i64 23, .int .i64 0, .int .i64 35, .int .i64 0, .int .i64 12, .int .i64 0, .int .i64 17, .int .i64 0]⟩, ⟨768, 138, 2, [.int .i64 0, .slice (some ⟨761, 0, none⟩) 4 CU]⟩, ⟨779, 9, 1, [.string (by8 [97, 99, 99, 101, 112, 116]), .string (by8 [112, 114, 111, 112, 111, 115, 101])]⟩, ⟨847, 169, 2, [.int .i64 41, .int .i64 0, .int .i64 35, .int .i64 0, .int .i64 5, .int .i64 0, .int .i64 4, .int .i64 0, .int .i64 21, .int .i64 0, .int .i64 35, .int .i64 0, .int .i64 12, .int .i64 0, .int .i64 4, .int .i64 0]⟩, ⟨892, 169, 2, [.int .i64 23, .int .i64 0, .int .i64 35, .int .i64 0, .int .i64 12, .int .i64 0, .int .i64 4, .int .i64 0]⟩, ⟨899, 138, 2, [.int .i64 0, .slice (some ⟨892, 0, none⟩) 4 CU]⟩, ⟨903, 93, 3, [.string (by8 [97, 99, 99, 101, 112, 116]), .slice (some ⟨712, 0, none⟩) 8 CU, .slice (some ⟨768, 0, none⟩) 1 CU, .string (by8 [112, 114, 111, 112, 111, 115, 101]), .slice (some ⟨847, 0, none⟩) 8 CU, .slice (some ⟨899, 0, none⟩) 1 CU]⟩], .tuple #[], 1036, [⟨612, 44, 0, [.string Mttxt0, .slice (some ⟨611, 376, none⟩) 0 CU, .slice (some ⟨631, 0, none⟩) 1 CU, .string (by8 [109, 97, 116, 99, 104, 105, 110, 103]), .slice (some ⟨633, 0, none⟩) 1 CU, .slice (some ⟨1035, 0, none⟩) 3 CU, .slice (some ⟨910, 0, none⟩) 3 CU]⟩, ⟨631, 9, 1, [.string (by8 [112])]⟩, ⟨633, 33, 6, [.string (by8 [112]), .int .i64 3, .int .i64 0, .int .i64 0, .int .i64 0, .int .i64 0]⟩, ⟨712, 169, 2, [.int .i64 41, .int .i64 0, .int .i64 35, .int .i64 0, .int .i64 5, .int .i64 0, .int .i64 4, .int .i64 0, .int .i64 21, .int .i64 0, .int .i64 35, .int .i64 0, .int .i64 12, .int .i64 0, .int .i64 17, .int .i64 0]⟩, ⟨761, 169, 2, [.int .i64 23, .int .i64 0, .int .i64 35, .int .i64 0, .int .i64 12, .int .i64 0, .int .i64 17, .int .i64 0]⟩, ⟨768, 138, 2, [.int .i64 0, .slice (some ⟨761, 0, none⟩) 4 CU]⟩, ⟨847, 169, 2, [.int .i64 41, .int .i64 0, .int .i64 35, .int .i64 0, .int .i64 5, .int .i64 0, .int .i64 4, .int .i64 0, .int .i64 21, .int .i64 0, .int .i64 35, .int .i64 0, .int .i64 12, .int .i64 0, .int .i64 4, .int .i64 0]⟩, ⟨892, 169, 2, [.int .i64 23, .int .i64 0, .int .i64 35, .int .i64 0, .int .i64 12, .int .i64 0, .int .i64 4, .int .i64 0]⟩, ⟨899, 138, 2, [.int .i64 0, .slice (some ⟨892, 0, none⟩) 4 CU]⟩, ⟨910, 9, 1, [.string (by8 [97, 99, 99, 101, 112, 116]), .string (by8 [112, 114, 111, 112, 111, 115, 101]), .string (by8 [119, 105, 116, 104, 100, 114, 97, 119])]⟩, ⟨1008, 169, 2, [.int .i64 21, .int .i64 0, .int .i64 41, .int .i64 0, .int .i64 41, .int .i64 0, .int .i64 35, .int .i64 0, .int .i64 11, .int .i64 0, .int .i64 5, .int .i64 0, .int .i64 36, .int .i64 0, .int .i64 12, .int .i64 0, .int .i64 4, .int .i64 0, .int .i64 36, .int .i64 0, .int .i64 12, .int .i64 0, .int .i64 17, .int .i64 0]⟩, ⟨1024, 169, 2, [.int .i64 4, .int .i64 0]⟩, ⟨1031, 138, 2, [.int .i64 0, .slice (some ⟨1024, 0, none⟩) 1 1]⟩, ⟨1035, 93, 3, [.string (by8 [97, 99, 99, 101, 112, 116]), .slice (some ⟨712, 0, none⟩) 8 CU, .slice (some ⟨768, 0, none⟩) 1 CU, .string (by8 [112, 114, 111, 112, 111, 115, 101]), .slice (some ⟨847, 0, none⟩) 8 CU, .slice (some ⟨899, 0, none⟩) 1 CU, .string (by8 [119, 105, 116, 104, 100, 114, 97, 119]), .slice (some ⟨1008, 0, none⟩) 12 CU, .slice (some ⟨1031, 0, none⟩) 1 CU]⟩], 612⟩
def Mtg4L : List Fact := [Mtg4_0]
theorem Mtg4L_ok : AllOk Mtg4L := AllOk.seq AllOk.nil (by kernel_rfl)
/- selfstab/types.typed -/
def Mtg5_0 : Fact := ⟨87, [.agg #[.string (by8 [97, 99, 99, 101, 112, 116]), .slice (some ⟨712, 0, none⟩) 8 CU, .slice (some ⟨768, 0, none⟩) 1 CU], .slice (some ⟨1281, 0, none⟩) 1 1], 1284, [⟨712, 169, 2, [.int .i64 41, .int .i64 0, .int .i64 35, .int .i64 0, .int .i64 5, .int .i64 0, .int .i64 4, .int .i64 0, .int .i64 21, .int .i64 0, .int .i64 35, .int .i64 0, .int .i64 12, .int .i64 0, .int .i64 17, .int .i64 0]⟩, ⟨761, 169, 2, [.int .i64 23, .int .i64 0, .int .i64 35, .int .i64 0, .int .i64 12, .int .i64 0, .int .i64 17, .int .i64 0]⟩, ⟨768, 138, 2, [.int .i64 0, .slice (some ⟨761, 0, none⟩) 4 CU]⟩, ⟨1281, 3, 1, [.int .i64 3]⟩], .bool true, 1408, [], 1284⟩
/- selfstab/types.typed -/
def Mtg5_1 : Fact := ⟨87, [.agg #[.string (by8 [112, 114, 111, 112, 111, 115, 101]), .slice (some ⟨847, 0, none⟩) 8 CU, .slice (some ⟨899, 0, none⟩) 1 CU], .slice (some ⟨1281, 0, none⟩) 1 1], 1409, [⟨847, 169, 2, [.int .i64 41, .int .i64 0, .int .i64 35, .int .i64 0, .int .i64 5, .int .i64 0, .int .i64 4, .int .i64 0, .int .i64 21, .int .i64 0, .int .i64 35, .int .i64 0, .int .i64 12, .int .i64 0, .int .i64 4, .int .i64 0]⟩, ⟨892, 169, 2, [.int .i64 23, .int .i64 0, .int .i64 35, .int .i64 0, .int .i64 12, .int .i64 0, .int .i64 4, .int .i64 0]⟩, ⟨899, 138, 2, [.int .i64 0, .slice (some ⟨892, 0, none⟩) 4 CU]⟩, ⟨1281, 3, 1, [.int .i64 3]⟩], .bool true, 1533, [], 1409⟩
def Mtg5L : List Fact := [Mtg5_0, Mtg5_1]
theorem Mtg5L_ok : AllOk Mtg5L := AllOk.seq AllOk.nil (by kernel_rfl)
/- selfstab/types.typed -/
def Mtg6_0 : Fact := ⟨87, [.agg #[.string (by8 [119, 105, 116, 104, 100, 114, 97, 119]), .slice (some ⟨1008, 0, none⟩) 12 CU, .slice (some ⟨1031, 0, none⟩) 1 CU], .slice (some ⟨1281, 0, none⟩) 1 1], 1534, [⟨1008, 169, 2, [.int .i64 21, .int .i64 0, .int .i64 41, .int .i64 0, .int .i64 41, .int .i64 0, .int .i64 35, .int .i64 0, .int .i64 11, .int .i64 0, .int .i64 5, .int .i64 0, .int .i64 36, .int .i64 0, .int .i64 12, .int .i64 0, .int .i64 4, .int .i64 0, .int .i64 36, .int .i64 0, .int .i64 12, .int .i64 0, .int .i64 17, .int .i64 0]⟩, ⟨1024, 169, 2, [.int .i64 4, .int .i64 0]⟩, ⟨1031, 138, 2, [.int .i64 0, .slice (some ⟨1024, 0, none⟩) 1 1]⟩, ⟨1281, 3, 1, [.int .i64 3]⟩], .bool true, 1668, [], 1534⟩
def Mtg6L : List Fact := [Mtg6_0]
theorem Mtg6L_ok : AllOk Mtg6L := AllOk.seq AllOk.nil (by kernel_rfl)
/- selfstab/lexer.next -/
def Mtg9_0 : Fact := ⟨73, [.string Mttxt0, .int .i64 106], 1952, [], .tuple #[.agg #[.int .i64 3, .int .i64 106, .int .i64 107, .int .i64 0], .int .i64 0], 1956, [], 1952⟩
/- selfstab/lexer.next -/
def Mtg9_1 : Fact := ⟨73, [.string Mttxt0, .int .i64 120], 1971, [], .tuple #[.agg #[.int .i64 3, .int .i64 120, .int .i64 121, .int .i64 0], .int .i64 0], 1975, [], 1971⟩
/- selfstab/lexer.next -/
def Mtg9_2 : Fact := ⟨73, [.string Mttxt0, .int .i64 139], 2010, [], .tuple #[.agg #[.int .i64 3, .int .i64 139, .int .i64 140, .int .i64 0], .int .i64 0], 2014, [], 2010⟩
/- selfstab/lexer.next -/
def Mtg9_3 : Fact := ⟨73, [.string Mttxt0, .int .i64 141], 2023, [], .tuple #[.agg #[.int .i64 3, .int .i64 141, .int .i64 142, .int .i64 0], .int .i64 0], 2027, [], 2023⟩
/- selfstab/lexer.next -/
def Mtg9_4 : Fact := ⟨73, [.string Mttxt0, .int .i64 151], 2049, [], .tuple #[.agg #[.int .i64 3, .int .i64 151, .int .i64 152, .int .i64 0], .int .i64 0], 2053, [], 2049⟩
/- selfstab/lexer.next -/
def Mtg9_5 : Fact := ⟨73, [.string Mttxt0, .int .i64 166], 2082, [], .tuple #[.agg #[.int .i64 3, .int .i64 166, .int .i64 167, .int .i64 0], .int .i64 0], 2086, [], 2082⟩
/- selfstab/lexer.next -/
def Mtg9_6 : Fact := ⟨73, [.string Mttxt0, .int .i64 168], 2095, [], .tuple #[.agg #[.int .i64 3, .int .i64 168, .int .i64 169, .int .i64 0], .int .i64 0], 2099, [], 2095⟩
/- selfstab/lexer.next -/
def Mtg9_7 : Fact := ⟨73, [.string Mttxt0, .int .i64 178], 2121, [], .tuple #[.agg #[.int .i64 3, .int .i64 178, .int .i64 179, .int .i64 0], .int .i64 0], 2125, [], 2121⟩
/- selfstab/lexer.next -/
def Mtg9_8 : Fact := ⟨73, [.string Mttxt0, .int .i64 179], 2128, [], .tuple #[.agg #[.int .i64 3, .int .i64 179, .int .i64 180, .int .i64 0], .int .i64 0], 2132, [], 2128⟩
/- selfstab/lexer.next -/
def Mtg9_9 : Fact := ⟨73, [.string Mttxt0, .int .i64 186], 2141, [], .tuple #[.agg #[.int .i64 1, .int .i64 186, .int .i64 194, .int .i64 0], .int .i64 0], 2144, [], 2141⟩
/- selfstab/lexer.next -/
def Mtg9_10 : Fact := ⟨73, [.string Mttxt0, .int .i64 194], 2147, [], .tuple #[.agg #[.int .i64 3, .int .i64 194, .int .i64 195, .int .i64 0], .int .i64 0], 2151, [], 2147⟩
/- selfstab/lexer.next -/
def Mtg9_11 : Fact := ⟨73, [.string Mttxt0, .int .i64 200], 2160, [], .tuple #[.agg #[.int .i64 3, .int .i64 200, .int .i64 201, .int .i64 0], .int .i64 0], 2164, [], 2160⟩
/- selfstab/lexer.next -/
def Mtg9_12 : Fact := ⟨73, [.string Mttxt0, .int .i64 212], 2199, [], .tuple #[.agg #[.int .i64 3, .int .i64 212, .int .i64 213, .int .i64 0], .int .i64 0], 2203, [], 2199⟩
/- selfstab/lexer.next -/
def Mtg9_13 : Fact := ⟨73, [.string Mttxt0, .int .i64 215], 2212, [], .tuple #[.agg #[.int .i64 3, .int .i64 215, .int .i64 217, .int .i64 0], .int .i64 0], 2216, [], 2212⟩
/- selfstab/lexer.next -/
def Mtg9_14 : Fact := ⟨73, [.string Mttxt0, .int .i64 227], 2238, [], .tuple #[.agg #[.int .i64 3, .int .i64 227, .int .i64 228, .int .i64 0], .int .i64 0], 2242, [], 2238⟩
/- selfstab/lexer.next -/
def Mtg9_15 : Fact := ⟨73, [.string Mttxt0, .int .i64 234], 2264, [], .tuple #[.agg #[.int .i64 3, .int .i64 234, .int .i64 235, .int .i64 0], .int .i64 0], 2268, [], 2264⟩
/- selfstab/lexer.next -/
def Mtg9_16 : Fact := ⟨73, [.string Mttxt0, .int .i64 239], 2277, [], .tuple #[.agg #[.int .i64 3, .int .i64 239, .int .i64 240, .int .i64 0], .int .i64 0], 2281, [], 2277⟩
/- selfstab/lexer.next -/
def Mtg9_17 : Fact := ⟨73, [.string Mttxt0, .int .i64 253], 2310, [], .tuple #[.agg #[.int .i64 3, .int .i64 253, .int .i64 254, .int .i64 0], .int .i64 0], 2314, [], 2310⟩
def Mtg9L : List Fact := [Mtg9_0, Mtg9_1, Mtg9_2, Mtg9_3, Mtg9_4, Mtg9_5, Mtg9_6, Mtg9_7, Mtg9_8, Mtg9_9, Mtg9_10, Mtg9_11, Mtg9_12, Mtg9_13, Mtg9_14, Mtg9_15, Mtg9_16, Mtg9_17]
theorem Mtg9L_ok : AllOk Mtg9L := AllOk.seq AllOk.nil (by kernel_rfl)
end Ev
end Go.Proofs.YtbhjopjonoldmaaGreat
