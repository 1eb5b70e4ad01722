/- Facts. Printed by wip/facts3.py. -/
import Derived.Test.YtbhjopjonoldmaaGreatEtC
namespace Go.Proofs.YtbhjopjonoldmaaGreat
namespace Ev
open Go
set_option maxRecDepth 1000000
/- selfstab/types.typed -/
def Etg39_0 : Fact := ⟨87, [.agg #[.string (by8 [116, 105, 101]), .slice (some ⟨4671, 0, none⟩) 17 CU, .slice (some ⟨4697, 0, none⟩) 1 CU], .slice (some ⟨7794, 0, none⟩) 2 2], 8293, [⟨4671, 169, 2, [.int .i64 41, .int .i64 0, .int .i64 41, .int .i64 0, .int .i64 37, .int .i64 0, .int .i64 5, .int .i64 0, .int .i64 6, .int .i64 0, .int .i64 20, .int .i64 0, .int .i64 38, .int .i64 0, .int .i64 12, .int .i64 0, .int .i64 5, .int .i64 0, .int .i64 21, .int .i64 0, .int .i64 41, .int .i64 0, .int .i64 35, .int .i64 0, .int .i64 12, .int .i64 0, .int .i64 5, .int .i64 0, .int .i64 35, .int .i64 0, .int .i64 12, .int .i64 1, .int .i64 5, .int .i64 1]⟩, ⟨4690, 169, 2, [.int .i64 19, .int .i64 0, .int .i64 5, .int .i64 1]⟩, ⟨4697, 138, 2, [.int .i64 1, .slice (some ⟨4690, 0, none⟩) 2 CU]⟩, ⟨7794, 3, 1, [.int .i64 1, .int .i64 2]⟩], .bool true, 8487, [], 8293⟩
def Etg39L : List Fact := [Etg39_0]
theorem Etg39L_ok : AllOk Etg39L := AllOk.seq AllOk.nil (by kernel_rfl)
end Ev
end Go.Proofs.YtbhjopjonoldmaaGreat
