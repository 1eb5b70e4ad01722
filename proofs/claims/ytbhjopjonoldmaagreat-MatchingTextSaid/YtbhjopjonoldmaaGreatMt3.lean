/- Facts. Printed by wip/facts3.py. -/
import Derived.Test.YtbhjopjonoldmaaGreatMtC
namespace Go.Proofs.YtbhjopjonoldmaaGreat
namespace Ev
open Go
set_option maxRecDepth 1000000
/- selfstab/types.typed -/
def Mtg14_0 : Fact := ⟨87, [.agg #[.string (by8 [97, 99, 99, 101, 112, 116]), .slice (some ⟨2417, 0, none⟩) 8 CU, .slice (some ⟨2473, 0, none⟩) 1 CU], .slice (some ⟨2986, 0, none⟩) 1 1], 2989, [⟨2417, 169, 2, [.int .i64 41, .int .i64 0, .int .i64 35, .int .i64 0, .int .i64 5, .int .i64 0, .int .i64 4, .int .i64 0, .int .i64 21, .int .i64 0, .int .i64 35, .int .i64 0, .int .i64 12, .int .i64 0, .int .i64 17, .int .i64 0]⟩, ⟨2466, 169, 2, [.int .i64 23, .int .i64 0, .int .i64 35, .int .i64 0, .int .i64 12, .int .i64 0, .int .i64 17, .int .i64 0]⟩, ⟨2473, 138, 2, [.int .i64 0, .slice (some ⟨2466, 0, none⟩) 4 CU]⟩, ⟨2986, 3, 1, [.int .i64 3]⟩], .bool true, 3113, [], 2989⟩
/- selfstab/types.typed -/
def Mtg14_1 : Fact := ⟨87, [.agg #[.string (by8 [112, 114, 111, 112, 111, 115, 101]), .slice (some ⟨2552, 0, none⟩) 8 CU, .slice (some ⟨2604, 0, none⟩) 1 CU], .slice (some ⟨2986, 0, none⟩) 1 1], 3114, [⟨2552, 169, 2, [.int .i64 41, .int .i64 0, .int .i64 35, .int .i64 0, .int .i64 5, .int .i64 0, .int .i64 4, .int .i64 0, .int .i64 21, .int .i64 0, .int .i64 35, .int .i64 0, .int .i64 12, .int .i64 0, .int .i64 4, .int .i64 0]⟩, ⟨2597, 169, 2, [.int .i64 23, .int .i64 0, .int .i64 35, .int .i64 0, .int .i64 12, .int .i64 0, .int .i64 4, .int .i64 0]⟩, ⟨2604, 138, 2, [.int .i64 0, .slice (some ⟨2597, 0, none⟩) 4 CU]⟩, ⟨2986, 3, 1, [.int .i64 3]⟩], .bool true, 3238, [], 3114⟩
def Mtg14L : List Fact := [Mtg14_0, Mtg14_1]
theorem Mtg14L_ok : AllOk Mtg14L := AllOk.seq AllOk.nil (by kernel_rfl)
/- selfstab/types.typed -/
def Mtg15_0 : Fact := ⟨87, [.agg #[.string (by8 [119, 105, 116, 104, 100, 114, 97, 119]), .slice (some ⟨2713, 0, none⟩) 12 CU, .slice (some ⟨2736, 0, none⟩) 1 CU], .slice (some ⟨2986, 0, none⟩) 1 1], 3239, [⟨2713, 169, 2, [.int .i64 21, .int .i64 0, .int .i64 41, .int .i64 0, .int .i64 41, .int .i64 0, .int .i64 35, .int .i64 0, .int .i64 11, .int .i64 0, .int .i64 5, .int .i64 0, .int .i64 36, .int .i64 0, .int .i64 12, .int .i64 0, .int .i64 4, .int .i64 0, .int .i64 36, .int .i64 0, .int .i64 12, .int .i64 0, .int .i64 17, .int .i64 0]⟩, ⟨2729, 169, 2, [.int .i64 4, .int .i64 0]⟩, ⟨2736, 138, 2, [.int .i64 0, .slice (some ⟨2729, 0, none⟩) 1 1]⟩, ⟨2986, 3, 1, [.int .i64 3]⟩], .bool true, 3373, [], 3239⟩
def Mtg15L : List Fact := [Mtg15_0]
theorem Mtg15L_ok : AllOk Mtg15L := AllOk.seq AllOk.nil (by kernel_rfl)
/- selfstab/types.typed -/
def Mtg18_0 : Fact := ⟨87, [.agg #[.string (by8 [112, 114, 111, 112, 111, 115, 101]), .slice (some ⟨2552, 0, none⟩) 8 CU, .slice (some ⟨2604, 0, none⟩) 1 CU], .slice (some ⟨3631, 0, none⟩) 1 1], 3759, [⟨2552, 169, 2, [.int .i64 41, .int .i64 0, .int .i64 35, .int .i64 0, .int .i64 5, .int .i64 0, .int .i64 4, .int .i64 0, .int .i64 21, .int .i64 0, .int .i64 35, .int .i64 0, .int .i64 12, .int .i64 0, .int .i64 4, .int .i64 0]⟩, ⟨2597, 169, 2, [.int .i64 23, .int .i64 0, .int .i64 35, .int .i64 0, .int .i64 12, .int .i64 0, .int .i64 4, .int .i64 0]⟩, ⟨2604, 138, 2, [.int .i64 0, .slice (some ⟨2597, 0, none⟩) 4 CU]⟩, ⟨3631, 3, 1, [.int .i64 3]⟩], .bool true, 3883, [], 3759⟩
/- selfstab/types.typed -/
def Mtg18_1 : Fact := ⟨87, [.agg #[.string (by8 [119, 105, 116, 104, 100, 114, 97, 119]), .slice (some ⟨2713, 0, none⟩) 12 CU, .slice (some ⟨2736, 0, none⟩) 1 CU], .slice (some ⟨3631, 0, none⟩) 1 1], 3884, [⟨2713, 169, 2, [.int .i64 21, .int .i64 0, .int .i64 41, .int .i64 0, .int .i64 41, .int .i64 0, .int .i64 35, .int .i64 0, .int .i64 11, .int .i64 0, .int .i64 5, .int .i64 0, .int .i64 36, .int .i64 0, .int .i64 12, .int .i64 0, .int .i64 4, .int .i64 0, .int .i64 36, .int .i64 0, .int .i64 12, .int .i64 0, .int .i64 17, .int .i64 0]⟩, ⟨2729, 169, 2, [.int .i64 4, .int .i64 0]⟩, ⟨2736, 138, 2, [.int .i64 0, .slice (some ⟨2729, 0, none⟩) 1 1]⟩, ⟨3631, 3, 1, [.int .i64 3]⟩], .bool true, 4018, [], 3884⟩
def Mtg18L : List Fact := [Mtg18_0, Mtg18_1]
theorem Mtg18L_ok : AllOk Mtg18L := AllOk.seq AllOk.nil (by kernel_rfl)
/- selfstab/types.typed -/
def Mtg20_0 : Fact := ⟨87, [.agg #[.string (by8 [97, 99, 99, 101, 112, 116]), .slice (some ⟨2417, 0, none⟩) 8 CU, .slice (some ⟨2473, 0, none⟩) 1 CU], .slice (some ⟨4527, 0, none⟩) 1 1], 4530, [⟨2417, 169, 2, [.int .i64 41, .int .i64 0, .int .i64 35, .int .i64 0, .int .i64 5, .int .i64 0, .int .i64 4, .int .i64 0, .int .i64 21, .int .i64 0, .int .i64 35, .int .i64 0, .int .i64 12, .int .i64 0, .int .i64 17, .int .i64 0]⟩, ⟨2466, 169, 2, [.int .i64 23, .int .i64 0, .int .i64 35, .int .i64 0, .int .i64 12, .int .i64 0, .int .i64 17, .int .i64 0]⟩, ⟨2473, 138, 2, [.int .i64 0, .slice (some ⟨2466, 0, none⟩) 4 CU]⟩, ⟨4527, 3, 1, [.int .i64 3]⟩], .bool true, 4654, [], 4530⟩
/- selfstab/types.typed -/
def Mtg20_1 : Fact := ⟨87, [.agg #[.string (by8 [112, 114, 111, 112, 111, 115, 101]), .slice (some ⟨2552, 0, none⟩) 8 CU, .slice (some ⟨2604, 0, none⟩) 1 CU], .slice (some ⟨4527, 0, none⟩) 1 1], 4655, [⟨2552, 169, 2, [.int .i64 41, .int .i64 0, .int .i64 35, .int .i64 0, .int .i64 5, .int .i64 0, .int .i64 4, .int .i64 0, .int .i64 21, .int .i64 0, .int .i64 35, .int .i64 0, .int .i64 12, .int .i64 0, .int .i64 4, .int .i64 0]⟩, ⟨2597, 169, 2, [.int .i64 23, .int .i64 0, .int .i64 35, .int .i64 0, .int .i64 12, .int .i64 0, .int .i64 4, .int .i64 0]⟩, ⟨2604, 138, 2, [.int .i64 0, .slice (some ⟨2597, 0, none⟩) 4 CU]⟩, ⟨4527, 3, 1, [.int .i64 3]⟩], .bool true, 4779, [], 4655⟩
def Mtg20L : List Fact := [Mtg20_0, Mtg20_1]
theorem Mtg20L_ok : AllOk Mtg20L := AllOk.seq AllOk.nil (by kernel_rfl)
/- selfstab/types.typed -/
def Mtg21_0 : Fact := ⟨87, [.agg #[.string (by8 [119, 105, 116, 104, 100, 114, 97, 119]), .slice (some ⟨2713, 0, none⟩) 12 CU, .slice (some ⟨2736, 0, none⟩) 1 CU], .slice (some ⟨4527, 0, none⟩) 1 1], 4780, [⟨2713, 169, 2, [.int .i64 21, .int .i64 0, .int .i64 41, .int .i64 0, .int .i64 41, .int .i64 0, .int .i64 35, .int .i64 0, .int .i64 11, .int .i64 0, .int .i64 5, .int .i64 0, .int .i64 36, .int .i64 0, .int .i64 12, .int .i64 0, .int .i64 4, .int .i64 0, .int .i64 36, .int .i64 0, .int .i64 12, .int .i64 0, .int .i64 17, .int .i64 0]⟩, ⟨2729, 169, 2, [.int .i64 4, .int .i64 0]⟩, ⟨2736, 138, 2, [.int .i64 0, .slice (some ⟨2729, 0, none⟩) 1 1]⟩, ⟨4527, 3, 1, [.int .i64 3]⟩], .bool true, 4914, [], 4780⟩
def Mtg21L : List Fact := [Mtg21_0]
theorem Mtg21L_ok : AllOk Mtg21L := AllOk.seq AllOk.nil (by kernel_rfl)
end Ev
end Go.Proofs.YtbhjopjonoldmaaGreat
