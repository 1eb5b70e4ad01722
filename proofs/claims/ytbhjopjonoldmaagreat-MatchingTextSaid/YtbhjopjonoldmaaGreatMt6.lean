/- Facts. Printed by wip/facts3.py. -/
import Derived.Test.YtbhjopjonoldmaaGreatMtC
import Derived.Test.YtbhjopjonoldmaaGreatMt0
import Derived.Test.YtbhjopjonoldmaaGreatMt1
import Derived.Test.YtbhjopjonoldmaaGreatMt4
import Derived.Test.YtbhjopjonoldmaaGreatMt5
namespace Go.Proofs.YtbhjopjonoldmaaGreat
namespace Ev
open Go
set_option maxRecDepth 1000000
/- selfstab/program.Parse -/
def Mtg8_0 : Fact := ⟨10, [.string Mttxt0], 0, [], .tuple #[.agg #[.string (by8 [109, 97, 116, 99, 104, 105, 110, 103]), .slice (some ⟨633, 0, none⟩) 1 CU, .slice (some ⟨1035, 0, none⟩) 3 CU], .int .i64 0, .int .i64 0], 1668, [⟨633, 33, 6, [.string (by8 [112]), .int .i64 3, .int .i64 0, .int .i64 0, .int .i64 0, .int .i64 0]⟩, ⟨712, 169, 2, [.int .i64 41, .int .i64 0, .int .i64 35, .int .i64 0, .int .i64 5, .int .i64 0, .int .i64 4, .int .i64 0, .int .i64 21, .int .i64 0, .int .i64 35, .int .i64 0, .int .i64 12, .int .i64 0, .int .i64 17, .int .i64 0]⟩, ⟨761, 169, 2, [.int .i64 23, .int .i64 0, .int .i64 35, .int .i64 0, .int .i64 12, .int .i64 0, .int .i64 17, .int .i64 0]⟩, ⟨768, 138, 2, [.int .i64 0, .slice (some ⟨761, 0, none⟩) 4 CU]⟩, ⟨847, 169, 2, [.int .i64 41, .int .i64 0, .int .i64 35, .int .i64 0, .int .i64 5, .int .i64 0, .int .i64 4, .int .i64 0, .int .i64 21, .int .i64 0, .int .i64 35, .int .i64 0, .int .i64 12, .int .i64 0, .int .i64 4, .int .i64 0]⟩, ⟨892, 169, 2, [.int .i64 23, .int .i64 0, .int .i64 35, .int .i64 0, .int .i64 12, .int .i64 0, .int .i64 4, .int .i64 0]⟩, ⟨899, 138, 2, [.int .i64 0, .slice (some ⟨892, 0, none⟩) 4 CU]⟩, ⟨1008, 169, 2, [.int .i64 21, .int .i64 0, .int .i64 41, .int .i64 0, .int .i64 41, .int .i64 0, .int .i64 35, .int .i64 0, .int .i64 11, .int .i64 0, .int .i64 5, .int .i64 0, .int .i64 36, .int .i64 0, .int .i64 12, .int .i64 0, .int .i64 4, .int .i64 0, .int .i64 36, .int .i64 0, .int .i64 12, .int .i64 0, .int .i64 17, .int .i64 0]⟩, ⟨1024, 169, 2, [.int .i64 4, .int .i64 0]⟩, ⟨1031, 138, 2, [.int .i64 0, .slice (some ⟨1024, 0, none⟩) 1 1]⟩, ⟨1035, 93, 3, [.string (by8 [97, 99, 99, 101, 112, 116]), .slice (some ⟨712, 0, none⟩) 8 CU, .slice (some ⟨768, 0, none⟩) 1 CU, .string (by8 [112, 114, 111, 112, 111, 115, 101]), .slice (some ⟨847, 0, none⟩) 8 CU, .slice (some ⟨899, 0, none⟩) 1 CU, .string (by8 [119, 105, 116, 104, 100, 114, 97, 119]), .slice (some ⟨1008, 0, none⟩) 12 CU, .slice (some ⟨1031, 0, none⟩) 1 CU]⟩], 0⟩
/- selfstab/lexer.next -/
def Mtg8_1 : Fact := ⟨73, [.string Mttxt0, .int .i64 8], 1712, [], .tuple #[.agg #[.int .i64 1, .int .i64 8, .int .i64 16, .int .i64 0], .int .i64 0], 1715, [], 1712⟩
/- selfstab/lexer.next -/
def Mtg8_2 : Fact := ⟨73, [.string Mttxt0, .int .i64 16], 1718, [], .tuple #[.agg #[.int .i64 3, .int .i64 16, .int .i64 17, .int .i64 0], .int .i64 0], 1722, [], 1718⟩
/- selfstab/lexer.next -/
def Mtg8_3 : Fact := ⟨73, [.string Mttxt0, .int .i64 24], 1737, [], .tuple #[.agg #[.int .i64 3, .int .i64 24, .int .i64 25, .int .i64 0], .int .i64 0], 1741, [], 1737⟩
/- selfstab/lexer.next -/
def Mtg8_4 : Fact := ⟨73, [.string Mttxt0, .int .i64 30], 1750, [], .tuple #[.agg #[.int .i64 3, .int .i64 30, .int .i64 31, .int .i64 0], .int .i64 0], 1754, [], 1750⟩
/- selfstab/lexer.next -/
def Mtg8_5 : Fact := ⟨73, [.string Mttxt0, .int .i64 43], 1769, [], .tuple #[.agg #[.int .i64 3, .int .i64 43, .int .i64 44, .int .i64 0], .int .i64 0], 1773, [], 1769⟩
/- selfstab/lexer.next -/
def Mtg8_6 : Fact := ⟨73, [.string Mttxt0, .int .i64 47], 1782, [], .tuple #[.agg #[.int .i64 3, .int .i64 47, .int .i64 49, .int .i64 0], .int .i64 0], 1786, [], 1782⟩
/- selfstab/lexer.next -/
def Mtg8_7 : Fact := ⟨73, [.string Mttxt0, .int .i64 62], 1808, [], .tuple #[.agg #[.int .i64 3, .int .i64 62, .int .i64 63, .int .i64 0], .int .i64 0], 1812, [], 1808⟩
/- selfstab/lexer.next -/
def Mtg8_8 : Fact := ⟨73, [.string Mttxt0, .int .i64 64], 1821, [], .tuple #[.agg #[.int .i64 3, .int .i64 64, .int .i64 65, .int .i64 0], .int .i64 0], 1825, [], 1821⟩
/- selfstab/lexer.next -/
def Mtg8_9 : Fact := ⟨73, [.string Mttxt0, .int .i64 67], 1834, [], .tuple #[.agg #[.int .i64 3, .int .i64 67, .int .i64 69, .int .i64 0], .int .i64 0], 1838, [], 1834⟩
/- selfstab/lexer.next -/
def Mtg8_10 : Fact := ⟨73, [.string Mttxt0, .int .i64 71], 1847, [], .tuple #[.agg #[.int .i64 3, .int .i64 71, .int .i64 72, .int .i64 0], .int .i64 0], 1851, [], 1847⟩
/- selfstab/lexer.next -/
def Mtg8_11 : Fact := ⟨73, [.string Mttxt0, .int .i64 76], 1860, [], .tuple #[.agg #[.int .i64 3, .int .i64 76, .int .i64 77, .int .i64 0], .int .i64 0], 1864, [], 1860⟩
/- selfstab/lexer.next -/
def Mtg8_12 : Fact := ⟨73, [.string Mttxt0, .int .i64 91], 1893, [], .tuple #[.agg #[.int .i64 3, .int .i64 91, .int .i64 92, .int .i64 0], .int .i64 0], 1897, [], 1893⟩
/- selfstab/lexer.next -/
def Mtg8_13 : Fact := ⟨73, [.string Mttxt0, .int .i64 93], 1906, [], .tuple #[.agg #[.int .i64 3, .int .i64 93, .int .i64 94, .int .i64 0], .int .i64 0], 1910, [], 1906⟩
/- selfstab/lexer.next -/
def Mtg8_14 : Fact := ⟨73, [.string Mttxt0, .int .i64 96], 1919, [], .tuple #[.agg #[.int .i64 3, .int .i64 96, .int .i64 98, .int .i64 0], .int .i64 0], 1923, [], 1919⟩
/- selfstab/lexer.next -/
def Mtg8_15 : Fact := ⟨73, [.string Mttxt0, .int .i64 100], 1932, [], .tuple #[.agg #[.int .i64 3, .int .i64 100, .int .i64 101, .int .i64 0], .int .i64 0], 1936, [], 1932⟩
/- selfstab/lexer.next -/
def Mtg8_16 : Fact := ⟨73, [.string Mttxt0, .int .i64 105], 1945, [], .tuple #[.agg #[.int .i64 3, .int .i64 105, .int .i64 106, .int .i64 0], .int .i64 0], 1949, [], 1945⟩
def Mtg8L : List Fact := [Mtg8_0, Mtg8_1, Mtg8_2, Mtg8_3, Mtg8_4, Mtg8_5, Mtg8_6, Mtg8_7, Mtg8_8, Mtg8_9, Mtg8_10, Mtg8_11, Mtg8_12, Mtg8_13, Mtg8_14, Mtg8_15, Mtg8_16]
theorem Mtg8L_ok : AllOk Mtg8L := AllOk.seq (AllOk.cons (Mtg1L_ok _ (List.Mem.head _)) (AllOk.cons (Mtg2L_ok _ (List.Mem.head _)) (AllOk.cons (Mtg3L_ok _ (List.Mem.head _)) (AllOk.cons (Mtg4L_ok _ (List.Mem.head _)) (AllOk.cons (Mtg7L_ok _ (List.Mem.head _)) AllOk.nil))))) (by kernel_rfl)
/- selfstab/step.Step -/
def Mtg23_0 : Fact := ⟨61, [.agg #[.string (by8 [109, 97, 116, 99, 104, 105, 110, 103]), .slice (some ⟨2338, 0, none⟩) 1 CU, .slice (some ⟨2740, 0, none⟩) 3 CU], .agg #[.slice (some ⟨1683, 0, none⟩) 3 CU, .slice (some ⟨1676, 0, none⟩) 3 3], .slice (some ⟨4215, 0, none⟩) 3 3, .int .u32 1], 4275, [⟨1676, 144, 1, [.slice (some ⟨1691, 0, none⟩) 1 CU, .slice (some ⟨1700, 0, none⟩) 2 CU, .slice (some ⟨1702, 0, none⟩) 1 CU]⟩, ⟨1683, 3, 1, [.int .i64 0, .int .i64 1, .int .i64 2]⟩, ⟨1691, 101, 2, [.int .i64 1, .int .i64 1]⟩, ⟨1700, 101, 2, [.int .i64 0, .int .i64 1, .int .i64 2, .int .i64 1]⟩, ⟨1702, 101, 2, [.int .i64 1, .int .i64 1]⟩, ⟨2338, 33, 6, [.string (by8 [112]), .int .i64 3, .int .i64 0, .int .i64 0, .int .i64 0, .int .i64 0]⟩, ⟨2417, 169, 2, [.int .i64 41, .int .i64 0, .int .i64 35, .int .i64 0, .int .i64 5, .int .i64 0, .int .i64 4, .int .i64 0, .int .i64 21, .int .i64 0, .int .i64 35, .int .i64 0, .int .i64 12, .int .i64 0, .int .i64 17, .int .i64 0]⟩, ⟨2466, 169, 2, [.int .i64 23, .int .i64 0, .int .i64 35, .int .i64 0, .int .i64 12, .int .i64 0, .int .i64 17, .int .i64 0]⟩, ⟨2473, 138, 2, [.int .i64 0, .slice (some ⟨2466, 0, none⟩) 4 CU]⟩, ⟨2552, 169, 2, [.int .i64 41, .int .i64 0, .int .i64 35, .int .i64 0, .int .i64 5, .int .i64 0, .int .i64 4, .int .i64 0, .int .i64 21, .int .i64 0, .int .i64 35, .int .i64 0, .int .i64 12, .int .i64 0, .int .i64 4, .int .i64 0]⟩, ⟨2597, 169, 2, [.int .i64 23, .int .i64 0, .int .i64 35, .int .i64 0, .int .i64 12, .int .i64 0, .int .i64 4, .int .i64 0]⟩, ⟨2604, 138, 2, [.int .i64 0, .slice (some ⟨2597, 0, none⟩) 4 CU]⟩, ⟨2713, 169, 2, [.int .i64 21, .int .i64 0, .int .i64 41, .int .i64 0, .int .i64 41, .int .i64 0, .int .i64 35, .int .i64 0, .int .i64 11, .int .i64 0, .int .i64 5, .int .i64 0, .int .i64 36, .int .i64 0, .int .i64 12, .int .i64 0, .int .i64 4, .int .i64 0, .int .i64 36, .int .i64 0, .int .i64 12, .int .i64 0, .int .i64 17, .int .i64 0]⟩, ⟨2729, 169, 2, [.int .i64 4, .int .i64 0]⟩, ⟨2736, 138, 2, [.int .i64 0, .slice (some ⟨2729, 0, none⟩) 1 1]⟩, ⟨2740, 93, 3, [.string (by8 [97, 99, 99, 101, 112, 116]), .slice (some ⟨2417, 0, none⟩) 8 CU, .slice (some ⟨2473, 0, none⟩) 1 CU, .string (by8 [112, 114, 111, 112, 111, 115, 101]), .slice (some ⟨2552, 0, none⟩) 8 CU, .slice (some ⟨2604, 0, none⟩) 1 CU, .string (by8 [119, 105, 116, 104, 100, 114, 97, 119]), .slice (some ⟨2713, 0, none⟩) 12 CU, .slice (some ⟨2736, 0, none⟩) 1 CU]⟩, ⟨4215, 50, 1, [.slice (some ⟨4216, 0, none⟩) 1 CU, .slice (some ⟨4259, 0, none⟩) 1 CU, .slice (some ⟨4218, 0, none⟩) 1 CU]⟩, ⟨4216, 3, 1, [.int .i64 (-1)]⟩, ⟨4218, 3, 1, [.int .i64 (-1)]⟩, ⟨4259, 3, 1, [.int .i64 0]⟩], .tuple #[.slice (some ⟨5157, 0, none⟩) 3 3, .int .i64 0], 5188, [⟨5157, 50, 1, [.slice (some ⟨5176, 0, none⟩) 1 CU, .slice (some ⟨5159, 0, none⟩) 1 CU, .slice (some ⟨5160, 0, none⟩) 1 CU]⟩, ⟨5159, 3, 1, [.int .i64 0]⟩, ⟨5160, 3, 1, [.int .i64 (-1)]⟩, ⟨5176, 3, 1, [.int .i64 0]⟩], 4275⟩
def Mtg23L : List Fact := [Mtg23_0]
theorem Mtg23L_ok : AllOk Mtg23L := AllOk.seq (AllOk.cons (Mtg22L_ok _ (List.Mem.head _)) AllOk.nil) (by kernel_rfl)
end Ev
end Go.Proofs.YtbhjopjonoldmaaGreat
