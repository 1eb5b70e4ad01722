/- Facts. Printed by wip/facts4.py. -/
import Derived.Test.YtdenophkdliinaaGreatEeC
import Derived.Test.YtdenophkdliinaaGreatEe9
namespace Go.Proofs.YtdenophkdliinaaGreat
namespace Ev
open Go
set_option maxRecDepth 1000000
def Eem0 : Fact := Eeg14_1.move [1277] 2255
theorem Eem0_ok : FactOk Tryz.prog Eem0 := fact_move (AllOk.at_ Eeg14L_ok 1 rfl) (by kernel_rfl)
def Eem1 : Fact := Eeg14_2.move [1433] 2427
theorem Eem1_ok : FactOk Tryz.prog Eem1 := fact_move (AllOk.at_ Eeg14L_ok 2 rfl) (by kernel_rfl)
/- selfstab/term.Valid -/
def Eeg15_0 : Fact := ⟨103, [.slice (some ⟨1786, 0, none⟩) 17 CU, .int .i64 2], 2133, [Eeb59], .bool true, 2235, [], 2133⟩
/- selfstab/types.formed -/
def Eeg15_1 : Fact := ⟨69, [.agg #[.string (by8 [116, 105, 101]), .slice (some ⟨1786, 0, none⟩) 17 CU, .slice (some ⟨1812, 0, none⟩) 1 CU], .int .i64 2], 2132, [Eeb59, Eeb60, Eeb61], .bool true, 2249, [], 2132⟩
/- selfstab/types.Of -/
def Eeg15_2 : Fact := ⟨104, [.slice (some ⟨1277, 0, none⟩) 17 CU, .slice (some ⟨2250, 0, none⟩) 2 2, .bool false], 2255, [Eeb62, ⟨2250, 3, 1, [.int .i64 1, .int .i64 2]⟩], .tuple #[.int .i64 2, .int .i64 0], 2426, [], 2255⟩
/- selfstab/types.Of -/
def Eeg15_3 : Fact := ⟨104, [.slice (some ⟨1433, 0, none⟩) 15 CU, .slice (some ⟨2250, 0, none⟩) 2 2, .bool false], 2427, [Eeb63, ⟨2250, 3, 1, [.int .i64 1, .int .i64 2]⟩], .tuple #[.int .i64 1, .int .i64 0], 2578, [], 2427⟩
/- selfstab/types.typed -/
def Eeg15_4 : Fact := ⟨71, [.agg #[.string (by8 [102, 105, 120]), .slice (some ⟨1277, 0, none⟩) 17 CU, .slice (some ⟨1442, 0, none⟩) 1 CU], .slice (some ⟨2250, 0, none⟩) 2 2], 2254, [Eeb62, Eeb63, Eeb64, ⟨2250, 3, 1, [.int .i64 1, .int .i64 2]⟩], .bool true, 2578, [], 2254⟩
/- selfstab/types.Of -/
def Eeg15_5 : Fact := ⟨104, [.slice (some ⟨1515, 0, none⟩) 7 CU, .slice (some ⟨2250, 0, none⟩) 2 2, .bool false], 2580, [Eeb65, ⟨2250, 3, 1, [.int .i64 1, .int .i64 2]⟩], .tuple #[.int .i64 2, .int .i64 0], 2651, [], 2580⟩
/- selfstab/types.typed -/
def Eeg15_6 : Fact := ⟨71, [.agg #[.string (by8 [100, 114, 111, 112]), .slice (some ⟨1515, 0, none⟩) 7 CU, .slice (some ⟨1535, 0, none⟩) 1 CU], .slice (some ⟨2250, 0, none⟩) 2 2], 2579, [Eeb65, Eeb66, Eeb67, ⟨2250, 3, 1, [.int .i64 1, .int .i64 2]⟩], .bool true, 2663, [], 2579⟩
def Eeg15L : List Fact := [Eeg15_0, Eeg15_1, Eeg15_2, Eeg15_3, Eeg15_4, Eeg15_5, Eeg15_6]
theorem Eeg15L_ok : AllOk Eeg15L := AllOk.seq (AllOk.cons (f := Eem0) Eem0_ok (AllOk.cons (f := Eem1) Eem1_ok AllOk.nil)) (by kernel_rfl)
end Ev
end Go.Proofs.YtdenophkdliinaaGreat
