/- Facts. Printed by wip/facts3.py. -/
import Derived.Test.YtbhjopjonoldmaaGreatPtC
namespace Go.Proofs.YtbhjopjonoldmaaGreat
namespace Ev
open Go
set_option maxRecDepth 1000000
/- (*selfstab/expr.Reader).Choice -/
def Ptg9_0 : Fact := ⟨140, [.pointer (some ⟨1073, 0, none⟩)], 1714, [⟨1072, 77, 4, Ptrow1⟩, ⟨1073, 44, 0, [.string Pttxt0, .slice (some ⟨1072, 568, none⟩) 22 CU, .slice (some ⟨1115, 0, none⟩) 2 CU, .string (by8 [112, 97, 116, 104, 115]), .slice (some ⟨1117, 0, none⟩) 2 CU, .slice (some ⟨1237, 0, none⟩) 1 CU, .slice (some ⟨1244, 0, none⟩) 2 CU]⟩, ⟨1115, 9, 1, [.string (by8 [100]), .string (by8 [112])]⟩, ⟨1117, 33, 6, [.string (by8 [100]), .int .i64 1, .int .i64 0, .int .i64 0, .int .i64 15, .int .i64 0, .string (by8 [112]), .int .i64 3, .int .i64 0, .int .i64 0, .int .i64 0, .int .i64 0]⟩, ⟨1196, 169, 2, [.int .i64 41, .int .i64 0, .int .i64 10, .int .i64 0, .int .i64 42, .int .i64 0, .int .i64 36, .int .i64 0, .int .i64 5, .int .i64 0, .int .i64 1, .int .i64 0, .int .i64 36, .int .i64 0, .int .i64 5, .int .i64 1, .int .i64 4, .int .i64 0]⟩, ⟨1208, 169, 2, [.int .i64 1, .int .i64 0]⟩, ⟨1226, 169, 2, [.int .i64 4, .int .i64 0]⟩, ⟨1233, 138, 2, [.int .i64 0, .slice (some ⟨1208, 0, none⟩) 1 1, .int .i64 1, .slice (some ⟨1226, 0, none⟩) 1 1]⟩, ⟨1237, 93, 3, [.string (by8 [116, 111, 112]), .slice (some ⟨1196, 0, none⟩) 9 CU, .slice (some ⟨1233, 0, none⟩) 2 CU]⟩, ⟨1244, 9, 1, [.string (by8 [116, 111, 112]), .string (by8 [108, 111, 119])]⟩], .slice (some ⟨1801, 0, none⟩) 9 CU, 1807, [⟨1073, 44, 0, [.string Pttxt0, .slice (some ⟨1072, 652, none⟩) 1 CU, .slice (some ⟨1115, 0, none⟩) 2 CU, .string (by8 [112, 97, 116, 104, 115]), .slice (some ⟨1117, 0, none⟩) 2 CU, .slice (some ⟨1237, 0, none⟩) 1 CU, .slice (some ⟨1244, 0, none⟩) 2 CU]⟩, ⟨1115, 9, 1, [.string (by8 [100]), .string (by8 [112])]⟩, ⟨1117, 33, 6, [.string (by8 [100]), .int .i64 1, .int .i64 0, .int .i64 0, .int .i64 15, .int .i64 0, .string (by8 [112]), .int .i64 3, .int .i64 0, .int .i64 0, .int .i64 0, .int .i64 0]⟩, ⟨1196, 169, 2, [.int .i64 41, .int .i64 0, .int .i64 10, .int .i64 0, .int .i64 42, .int .i64 0, .int .i64 36, .int .i64 0, .int .i64 5, .int .i64 0, .int .i64 1, .int .i64 0, .int .i64 36, .int .i64 0, .int .i64 5, .int .i64 1, .int .i64 4, .int .i64 0]⟩, ⟨1208, 169, 2, [.int .i64 1, .int .i64 0]⟩, ⟨1226, 169, 2, [.int .i64 4, .int .i64 0]⟩, ⟨1233, 138, 2, [.int .i64 0, .slice (some ⟨1208, 0, none⟩) 1 1, .int .i64 1, .slice (some ⟨1226, 0, none⟩) 1 1]⟩, ⟨1237, 93, 3, [.string (by8 [116, 111, 112]), .slice (some ⟨1196, 0, none⟩) 9 CU, .slice (some ⟨1233, 0, none⟩) 2 CU]⟩, ⟨1244, 9, 1, [.string (by8 [116, 111, 112]), .string (by8 [108, 111, 119])]⟩, ⟨1801, 169, 2, [.int .i64 23, .int .i64 0, .int .i64 35, .int .i64 0, .int .i64 33, .int .i64 0, .int .i64 12, .int .i64 0, .int .i64 16, .int .i64 0, .int .i64 24, .int .i64 0, .int .i64 33, .int .i64 0, .int .i64 12, .int .i64 0, .int .i64 16, .int .i64 0]⟩], 1073⟩
def Ptg9L : List Fact := [Ptg9_0]
theorem Ptg9L_ok : AllOk Ptg9L := AllOk.seq AllOk.nil (by kernel_rfl)
/- selfstab/term.Valid -/
def Ptg11_0 : Fact := ⟨144, [.slice (some ⟨1546, 0, none⟩) 33 CU, .int .i64 2], 1898, [⟨1546, 169, 2, Ptrow3⟩], .bool true, 2096, [], 1898⟩
def Ptg11L : List Fact := [Ptg11_0]
theorem Ptg11L_ok : AllOk Ptg11L := AllOk.seq AllOk.nil (by kernel_rfl)
/- selfstab/types.Of -/
def Ptg13_0 : Fact := ⟨145, [.slice (some ⟨1546, 0, none⟩) 33 CU, .slice (some ⟨2250, 0, none⟩) 2 2, .bool false], 2372, [⟨1546, 169, 2, Ptrow3⟩, ⟨2250, 3, 1, [.int .i64 1, .int .i64 3]⟩], .tuple #[.int .i64 2, .int .i64 0], 2703, [], 2372⟩
def Ptg13L : List Fact := [Ptg13_0]
theorem Ptg13L_ok : AllOk Ptg13L := AllOk.seq AllOk.nil (by kernel_rfl)
/- selfstab/selfstablaw24.known -/
def Ptg16_0 : Fact := ⟨14, [], 2961, [], .bool true, 3175, [], 2961⟩
def Ptg16L : List Fact := [Ptg16_0]
theorem Ptg16L_ok : AllOk Ptg16L := AllOk.seq AllOk.nil (by kernel_rfl)
end Ev
end Go.Proofs.YtbhjopjonoldmaaGreat
