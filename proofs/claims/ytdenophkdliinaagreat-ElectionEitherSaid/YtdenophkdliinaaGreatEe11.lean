/- Facts. Printed by wip/facts4.py. -/
import Derived.Test.YtdenophkdliinaaGreatEeC
import Derived.Test.YtdenophkdliinaaGreatEe3
import Derived.Test.YtdenophkdliinaaGreatEe9
import Derived.Test.YtdenophkdliinaaGreatEe10
namespace Go.Proofs.YtdenophkdliinaaGreat
namespace Ev
open Go
set_option maxRecDepth 1000000
def Eem2 : Fact := Eeg15_0.move [1786] 2750
theorem Eem2_ok : FactOk Tryz.prog Eem2 := fact_move (AllOk.at_ Eeg15L_ok 0 rfl) (by kernel_rfl)
/- selfstab/types.Of -/
def Eeg16_0 : Fact := ⟨104, [.slice (some ⟨1608, 0, none⟩) 7 CU, .slice (some ⟨2250, 0, none⟩) 2 2, .bool false], 2665, [Eeb68, ⟨2250, 3, 1, [.int .i64 1, .int .i64 2]⟩], .tuple #[.int .i64 2, .int .i64 0], 2736, [], 2665⟩
/- selfstab/types.typed -/
def Eeg16_1 : Fact := ⟨71, [.agg #[.string (by8 [116, 97, 107, 101]), .slice (some ⟨1608, 0, none⟩) 7 CU, .slice (some ⟨1628, 0, none⟩) 1 CU], .slice (some ⟨2250, 0, none⟩) 2 2], 2664, [Eeb68, Eeb69, Eeb70, ⟨2250, 3, 1, [.int .i64 1, .int .i64 2]⟩], .bool true, 2748, [], 2664⟩
/- selfstab/types.Of -/
def Eeg16_2 : Fact := ⟨104, [.slice (some ⟨1786, 0, none⟩) 17 CU, .slice (some ⟨2250, 0, none⟩) 2 2, .bool false], 2750, [Eeb59, ⟨2250, 3, 1, [.int .i64 1, .int .i64 2]⟩], .tuple #[.int .i64 2, .int .i64 0], 2921, [], 2750⟩
/- selfstab/types.typed -/
def Eeg16_3 : Fact := ⟨71, [.agg #[.string (by8 [116, 105, 101]), .slice (some ⟨1786, 0, none⟩) 17 CU, .slice (some ⟨1812, 0, none⟩) 1 CU], .slice (some ⟨2250, 0, none⟩) 2 2], 2749, [Eeb59, Eeb60, Eeb61, ⟨2250, 3, 1, [.int .i64 1, .int .i64 2]⟩], .bool true, 2943, [], 2749⟩
/- selfstab/types.Check -/
def Eeg16_4 : Fact := ⟨39, [.agg #[.string (by8 [101, 108, 101, 99, 116, 105, 111, 110]), .slice (some ⟨1103, 0, none⟩) 2 CU, .slice (some ⟨1816, 0, none⟩) 4 CU]], 1817, [⟨1103, 50, 6, [.string (by8 [104]), .int .i64 1, .int .i64 0, .int .i64 0, .int .i64 1, .int .i64 0, .string (by8 [108]), .int .i64 2, .int .i64 0, .int .i64 0, .int .i64 0, .int .i64 0]⟩, Eeb62, Eeb63, Eeb64, Eeb65, Eeb66, Eeb67, Eeb68, Eeb69, Eeb70, Eeb59, Eeb60, Eeb61, ⟨1816, 115, 3, [.string (by8 [102, 105, 120]), .slice (some ⟨1277, 0, none⟩) 17 CU, .slice (some ⟨1442, 0, none⟩) 1 CU, .string (by8 [100, 114, 111, 112]), .slice (some ⟨1515, 0, none⟩) 7 CU, .slice (some ⟨1535, 0, none⟩) 1 CU, .string (by8 [116, 97, 107, 101]), .slice (some ⟨1608, 0, none⟩) 7 CU, .slice (some ⟨1628, 0, none⟩) 1 CU, .string (by8 [116, 105, 101]), .slice (some ⟨1786, 0, none⟩) 17 CU, .slice (some ⟨1812, 0, none⟩) 1 CU]⟩], .int .i64 0, 2943, [], 1817⟩
/- selfstab/program.Parse -/
def Eeg16_5 : Fact := ⟨22, [.string Eetxt0], 42, [], .tuple #[.agg #[.string (by8 [101, 108, 101, 99, 116, 105, 111, 110]), .slice (some ⟨1103, 0, none⟩) 2 CU, .slice (some ⟨1816, 0, none⟩) 4 CU], .int .i64 0, .int .i64 0], 2943, [⟨1103, 50, 6, [.string (by8 [104]), .int .i64 1, .int .i64 0, .int .i64 0, .int .i64 1, .int .i64 0, .string (by8 [108]), .int .i64 2, .int .i64 0, .int .i64 0, .int .i64 0, .int .i64 0]⟩, Eeb62, Eeb63, Eeb64, Eeb65, Eeb66, Eeb67, Eeb68, Eeb69, Eeb70, Eeb59, Eeb60, Eeb61, ⟨1816, 115, 3, [.string (by8 [102, 105, 120]), .slice (some ⟨1277, 0, none⟩) 17 CU, .slice (some ⟨1442, 0, none⟩) 1 CU, .string (by8 [100, 114, 111, 112]), .slice (some ⟨1515, 0, none⟩) 7 CU, .slice (some ⟨1535, 0, none⟩) 1 CU, .string (by8 [116, 97, 107, 101]), .slice (some ⟨1608, 0, none⟩) 7 CU, .slice (some ⟨1628, 0, none⟩) 1 CU, .string (by8 [116, 105, 101]), .slice (some ⟨1786, 0, none⟩) 17 CU, .slice (some ⟨1812, 0, none⟩) 1 CU]⟩], 42⟩
/- selfstab/selfstabworld.Program -/
def Eeg16_6 : Fact := ⟨9, [.string Eetxt0], 41, [], .agg #[.string (by8 [101, 108, 101, 99, 116, 105, 111, 110]), .slice (some ⟨1103, 0, none⟩) 2 CU, .slice (some ⟨1816, 0, none⟩) 4 CU], 2944, [⟨1103, 50, 6, [.string (by8 [104]), .int .i64 1, .int .i64 0, .int .i64 0, .int .i64 1, .int .i64 0, .string (by8 [108]), .int .i64 2, .int .i64 0, .int .i64 0, .int .i64 0, .int .i64 0]⟩, Eeb62, Eeb63, Eeb64, Eeb65, Eeb66, Eeb67, Eeb68, Eeb69, Eeb70, Eeb59, Eeb60, Eeb61, ⟨1816, 115, 3, [.string (by8 [102, 105, 120]), .slice (some ⟨1277, 0, none⟩) 17 CU, .slice (some ⟨1442, 0, none⟩) 1 CU, .string (by8 [100, 114, 111, 112]), .slice (some ⟨1515, 0, none⟩) 7 CU, .slice (some ⟨1535, 0, none⟩) 1 CU, .string (by8 [116, 97, 107, 101]), .slice (some ⟨1608, 0, none⟩) 7 CU, .slice (some ⟨1628, 0, none⟩) 1 CU, .string (by8 [116, 105, 101]), .slice (some ⟨1786, 0, none⟩) 17 CU, .slice (some ⟨1812, 0, none⟩) 1 CU]⟩], 41⟩
def Eeg16L : List Fact := [Eeg16_0, Eeg16_1, Eeg16_2, Eeg16_3, Eeg16_4, Eeg16_5, Eeg16_6]
theorem Eeg16L_ok : AllOk Eeg16L := AllOk.seq (AllOk.cons (f := Eem2) Eem2_ok (AllOk.cons (f := Eeg14_3) (AllOk.at_ Eeg14L_ok 3 rfl) (AllOk.cons (f := Eeg15_1) (AllOk.at_ Eeg15L_ok 1 rfl) (AllOk.cons (f := Eeg15_4) (AllOk.at_ Eeg15L_ok 4 rfl) (AllOk.cons (f := Eeg15_6) (AllOk.at_ Eeg15L_ok 6 rfl) (AllOk.cons (f := Eeg6_0) (AllOk.at_ Eeg6L_ok 0 rfl) (AllOk.cons (f := Eeg14_0) (AllOk.at_ Eeg14L_ok 0 rfl) AllOk.nil))))))) (by kernel_rfl)
end Ev
end Go.Proofs.YtdenophkdliinaaGreat
