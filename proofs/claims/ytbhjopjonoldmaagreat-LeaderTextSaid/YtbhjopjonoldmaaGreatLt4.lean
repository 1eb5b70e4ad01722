/- Facts. Printed by wip/facts3.py. -/
import Derived.Test.YtbhjopjonoldmaaGreatLtC
namespace Go.Proofs.YtbhjopjonoldmaaGreat
namespace Ev
open Go
set_option maxRecDepth 1000000
/- selfstab/term.Depth -/
def Ltg47_0 : Fact := ⟨178, [.slice (some ⟨3410, 0, none⟩) 94 CU], 4386, [⟨3410, 169, 2, Ltrow4⟩], .int .i64 11, 4574, [], 4386⟩
def Ltg47L : List Fact := [Ltg47_0]
theorem Ltg47L_ok : AllOk Ltg47L := AllOk.seq AllOk.nil (by kernel_rfl)
/- selfstab/term.Nest -/
def Ltg48_0 : Fact := ⟨179, [.slice (some ⟨3410, 0, none⟩) 94 CU], 4574, [⟨3410, 169, 2, Ltrow4⟩], .int .i64 2, 4762, [], 4574⟩
def Ltg48L : List Fact := [Ltg48_0]
theorem Ltg48L_ok : AllOk Ltg48L := AllOk.seq AllOk.nil (by kernel_rfl)
/- selfstab/term.Valid -/
def Ltg49_0 : Fact := ⟨144, [.slice (some ⟨3739, 0, none⟩) 21 CU, .int .i64 3], 4879, [⟨3739, 169, 2, [.int .i64 33, .int .i64 0, .int .i64 32, .int .i64 0, .int .i64 24, .int .i64 0, .int .i64 43, .int .i64 0, .int .i64 37, .int .i64 0, .int .i64 33, .int .i64 0, .int .i64 12, .int .i64 1, .int .i64 1, .int .i64 1, .int .i64 6, .int .i64 0, .int .i64 33, .int .i64 0, .int .i64 30, .int .i64 0, .int .i64 12, .int .i64 0, .int .i64 6, .int .i64 0, .int .i64 12, .int .i64 1, .int .i64 30, .int .i64 0, .int .i64 33, .int .i64 0, .int .i64 7, .int .i64 0, .int .i64 1, .int .i64 1, .int .i64 6, .int .i64 0, .int .i64 6, .int .i64 0, .int .i64 1, .int .i64 1]⟩], .bool true, 5005, [], 4879⟩
/- selfstab/term.Valid -/
def Ltg49_1 : Fact := ⟨144, [.slice (some ⟨3947, 0, none⟩) 24 CU, .int .i64 3], 5006, [⟨3947, 169, 2, Ltrow5⟩], .bool true, 5150, [], 5006⟩
def Ltg49L : List Fact := [Ltg49_0, Ltg49_1]
theorem Ltg49L_ok : AllOk Ltg49L := AllOk.seq AllOk.nil (by kernel_rfl)
end Ev
end Go.Proofs.YtbhjopjonoldmaaGreat
