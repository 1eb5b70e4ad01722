/- Facts. Printed by wip/facts3.py. -/
import Derived.Test.YtbhjopjonoldmaaGreatLtC
namespace Go.Proofs.YtbhjopjonoldmaaGreat
namespace Ev
open Go
set_option maxRecDepth 1000000
/- selfstab/types.typed -/
def Ltg51_0 : Fact := ⟨87, [.agg #[.string (by8 [111, 119, 110]), .slice (some ⟨2600, 0, none⟩) 33 CU, .slice (some ⟨2655, 0, none⟩) 3 CU], .slice (some ⟨5151, 0, none⟩) 3 3], 5156, [⟨2600, 169, 2, Ltrow2⟩, ⟨2613, 169, 2, [.int .i64 8, .int .i64 0]⟩, ⟨2630, 169, 2, [.int .i64 1, .int .i64 0]⟩, ⟨2648, 169, 2, [.int .i64 4, .int .i64 0]⟩, ⟨2655, 138, 2, [.int .i64 0, .slice (some ⟨2613, 0, none⟩) 1 1, .int .i64 1, .slice (some ⟨2630, 0, none⟩) 1 1, .int .i64 2, .slice (some ⟨2648, 0, none⟩) 1 1]⟩, ⟨5151, 3, 1, [.int .i64 1, .int .i64 1, .int .i64 3]⟩], .bool true, 5524, [], 5156⟩
def Ltg51L : List Fact := [Ltg51_0]
theorem Ltg51L_ok : AllOk Ltg51L := AllOk.seq AllOk.nil (by kernel_rfl)
/- selfstab/term.Depth -/
def Ltg52_0 : Fact := ⟨178, [.slice (some ⟨3410, 0, none⟩) 94 CU], 5714, [⟨3410, 169, 2, Ltrow4⟩], .int .i64 11, 5902, [], 5714⟩
def Ltg52L : List Fact := [Ltg52_0]
theorem Ltg52L_ok : AllOk Ltg52L := AllOk.seq AllOk.nil (by kernel_rfl)
/- selfstab/term.Nest -/
def Ltg53_0 : Fact := ⟨179, [.slice (some ⟨3410, 0, none⟩) 94 CU], 5902, [⟨3410, 169, 2, Ltrow4⟩], .int .i64 2, 6090, [], 5902⟩
def Ltg53L : List Fact := [Ltg53_0]
theorem Ltg53L_ok : AllOk Ltg53L := AllOk.seq AllOk.nil (by kernel_rfl)
end Ev
end Go.Proofs.YtbhjopjonoldmaaGreat
