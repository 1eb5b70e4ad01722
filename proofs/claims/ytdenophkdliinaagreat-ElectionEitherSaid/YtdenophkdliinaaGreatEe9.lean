/- Facts. Printed by wip/facts4.py. -/
import Derived.Test.YtdenophkdliinaaGreatEeC
import Derived.Test.YtdenophkdliinaaGreatEe8
namespace Go.Proofs.YtdenophkdliinaaGreat
namespace Ev
open Go
set_option maxRecDepth 1000000
/- (*selfstab/program.reader).all -/
def Eeg14_0 : Fact := ⟨38, [.pointer (some ⟨1063, 0, none⟩)], 1064, [⟨1062, 122, 4, Eerow1⟩, ⟨1063, 90, 0, [.string Eetxt0, .slice (some ⟨1062, 0, none⟩) 156 CU, .slice none 0 0, .string (by8 []), .slice none 0 0, .slice none 0 0, .slice none 0 0]⟩], .tuple #[], 1817, [⟨1063, 90, 0, [.string Eetxt0, .slice (some ⟨1062, 624, none⟩) 0 CU, .slice (some ⟨1101, 0, none⟩) 2 CU, .string (by8 [101, 108, 101, 99, 116, 105, 111, 110]), .slice (some ⟨1103, 0, none⟩) 2 CU, .slice (some ⟨1816, 0, none⟩) 4 CU, .slice (some ⟨1639, 0, none⟩) 4 CU]⟩, ⟨1101, 9, 1, [.string (by8 [104]), .string (by8 [108])]⟩, ⟨1103, 50, 6, [.string (by8 [104]), .int .i64 1, .int .i64 0, .int .i64 0, .int .i64 1, .int .i64 0, .string (by8 [108]), .int .i64 2, .int .i64 0, .int .i64 0, .int .i64 0, .int .i64 0]⟩, Eeb62, Eeb63, Eeb64, Eeb65, Eeb66, Eeb67, Eeb68, Eeb69, Eeb70, ⟨1639, 9, 1, [.string (by8 [102, 105, 120]), .string (by8 [100, 114, 111, 112]), .string (by8 [116, 97, 107, 101]), .string (by8 [116, 105, 101])]⟩, Eeb59, Eeb60, Eeb61, ⟨1816, 115, 3, [.string (by8 [102, 105, 120]), .slice (some ⟨1277, 0, none⟩) 17 CU, .slice (some ⟨1442, 0, none⟩) 1 CU, .string (by8 [100, 114, 111, 112]), .slice (some ⟨1515, 0, none⟩) 7 CU, .slice (some ⟨1535, 0, none⟩) 1 CU, .string (by8 [116, 97, 107, 101]), .slice (some ⟨1608, 0, none⟩) 7 CU, .slice (some ⟨1628, 0, none⟩) 1 CU, .string (by8 [116, 105, 101]), .slice (some ⟨1786, 0, none⟩) 17 CU, .slice (some ⟨1812, 0, none⟩) 1 CU]⟩], 1063⟩
/- selfstab/term.Valid -/
def Eeg14_1 : Fact := ⟨103, [.slice (some ⟨1277, 0, none⟩) 17 CU, .int .i64 2], 1833, [Eeb62], .bool true, 1935, [], 1833⟩
/- selfstab/term.Valid -/
def Eeg14_2 : Fact := ⟨103, [.slice (some ⟨1433, 0, none⟩) 15 CU, .int .i64 2], 1937, [Eeb63], .bool true, 2027, [], 1937⟩
/- selfstab/types.formed -/
def Eeg14_3 : Fact := ⟨69, [.agg #[.string (by8 [102, 105, 120]), .slice (some ⟨1277, 0, none⟩) 17 CU, .slice (some ⟨1442, 0, none⟩) 1 CU], .int .i64 2], 1832, [Eeb62, Eeb63, Eeb64], .bool true, 2027, [], 1832⟩
def Eeg14L : List Fact := [Eeg14_0, Eeg14_1, Eeg14_2, Eeg14_3]
theorem Eeg14L_ok : AllOk Eeg14L := AllOk.seq (AllOk.cons (f := Eeg13_15) (AllOk.at_ Eeg13L_ok 15 rfl) AllOk.nil) (by kernel_rfl)
end Ev
end Go.Proofs.YtdenophkdliinaaGreat
