/- Facts. Printed by wip/facts3.py. -/
import Derived.Test.YtbhjopjonoldmaaGreatLtC
namespace Go.Proofs.YtbhjopjonoldmaaGreat
namespace Ev
open Go
set_option maxRecDepth 1000000
/- (selfstab/types.typer).read -/
def Ltg54_0 : Fact := ⟨180, [.agg #[.slice (some ⟨3410, 0, none⟩) 94 CU, .slice (some ⟨5151, 0, none⟩) 3 3], .int .i64 0, .bool false], 6091, [⟨3410, 169, 2, Ltrow4⟩, ⟨5151, 3, 1, [.int .i64 1, .int .i64 1, .int .i64 3]⟩], .tuple #[.int .i64 2, .int .i64 94], 6467, [], 6091⟩
def Ltg54L : List Fact := [Ltg54_0]
theorem Ltg54L_ok : AllOk Ltg54L := AllOk.seq AllOk.nil (by kernel_rfl)
/- selfstab/types.Of -/
def Ltg55_0 : Fact := ⟨145, [.slice (some ⟨3739, 0, none⟩) 21 CU, .slice (some ⟨5151, 0, none⟩) 3 3, .bool false], 6660, [⟨3739, 169, 2, [.int .i64 33, .int .i64 0, .int .i64 32, .int .i64 0, .int .i64 24, .int .i64 0, .int .i64 43, .int .i64 0, .int .i64 37, .int .i64 0, .int .i64 33, .int .i64 0, .int .i64 12, .int .i64 1, .int .i64 1, .int .i64 1, .int .i64 6, .int .i64 0, .int .i64 33, .int .i64 0, .int .i64 30, .int .i64 0, .int .i64 12, .int .i64 0, .int .i64 6, .int .i64 0, .int .i64 12, .int .i64 1, .int .i64 30, .int .i64 0, .int .i64 33, .int .i64 0, .int .i64 7, .int .i64 0, .int .i64 1, .int .i64 1, .int .i64 6, .int .i64 0, .int .i64 6, .int .i64 0, .int .i64 1, .int .i64 1]⟩, ⟨5151, 3, 1, [.int .i64 1, .int .i64 1, .int .i64 3]⟩], .tuple #[.int .i64 1, .int .i64 0], 6871, [], 6660⟩
def Ltg55L : List Fact := [Ltg55_0]
theorem Ltg55L_ok : AllOk Ltg55L := AllOk.seq AllOk.nil (by kernel_rfl)
/- selfstab/types.Of -/
def Ltg56_0 : Fact := ⟨145, [.slice (some ⟨3947, 0, none⟩) 24 CU, .slice (some ⟨5151, 0, none⟩) 3 3, .bool false], 6872, [⟨3947, 169, 2, Ltrow5⟩, ⟨5151, 3, 1, [.int .i64 1, .int .i64 1, .int .i64 3]⟩], .tuple #[.int .i64 3, .int .i64 0], 7113, [], 6872⟩
def Ltg56L : List Fact := [Ltg56_0]
theorem Ltg56L_ok : AllOk Ltg56L := AllOk.seq AllOk.nil (by kernel_rfl)
/- selfstab/selfstablaw26.known -/
def Ltg59_0 : Fact := ⟨22, [], 7118, [], .bool true, 7349, [], 7118⟩
def Ltg59L : List Fact := [Ltg59_0]
theorem Ltg59L_ok : AllOk Ltg59L := AllOk.seq AllOk.nil (by kernel_rfl)
end Ev
end Go.Proofs.YtbhjopjonoldmaaGreat
