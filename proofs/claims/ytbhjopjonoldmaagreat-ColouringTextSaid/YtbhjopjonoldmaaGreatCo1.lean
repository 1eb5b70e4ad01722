/- Facts. Printed by wip/facts3.py. -/
import Derived.Test.YtbhjopjonoldmaaGreatCoC
import Derived.Test.YtbhjopjonoldmaaGreatCo0
namespace Go.Proofs.YtbhjopjonoldmaaGreat
namespace Ev
open Go
set_option maxRecDepth 1000000
/- selfstab/program.Parse -/
def Cog1_0 : Fact := ⟨10, [.string Cotxt0], 0, [], .tuple #[.agg #[.string (by8 [99, 111, 108, 111, 117, 114, 105, 110, 103]), .slice (some ⟨227, 0, none⟩) 1 CU, .slice (some ⟨320, 0, none⟩) 1 CU], .int .i64 0, .int .i64 0], 437, [⟨227, 33, 6, [.string (by8 [99]), .int .i64 1, .int .i64 0, .int .i64 0, .int .i64 1, .int .i64 0]⟩, ⟨273, 169, 2, [.int .i64 21, .int .i64 0, .int .i64 35, .int .i64 0, .int .i64 12, .int .i64 0, .int .i64 5, .int .i64 0]⟩, ⟨309, 169, 2, [.int .i64 27, .int .i64 0, .int .i64 12, .int .i64 0]⟩, ⟨316, 138, 2, [.int .i64 0, .slice (some ⟨309, 0, none⟩) 2 CU]⟩, ⟨320, 93, 3, [.string (by8 [102, 105, 120]), .slice (some ⟨273, 0, none⟩) 4 CU, .slice (some ⟨316, 0, none⟩) 1 CU]⟩], 0⟩
def Cog1L : List Fact := [Cog1_0]
theorem Cog1L_ok : AllOk Cog1L := AllOk.seq (AllOk.cons (Cog0L_ok _ (List.Mem.head _)) AllOk.nil) (by kernel_rfl)
/- selfstab/selfstabworld.Program -/
def Cog3_0 : Fact := ⟨60, [.string Cotxt0], 487, [], .agg #[.string (by8 [99, 111, 108, 111, 117, 114, 105, 110, 103]), .slice (some ⟨715, 0, none⟩) 1 CU, .slice (some ⟨808, 0, none⟩) 1 CU], 926, [⟨715, 33, 6, [.string (by8 [99]), .int .i64 1, .int .i64 0, .int .i64 0, .int .i64 1, .int .i64 0]⟩, ⟨761, 169, 2, [.int .i64 21, .int .i64 0, .int .i64 35, .int .i64 0, .int .i64 12, .int .i64 0, .int .i64 5, .int .i64 0]⟩, ⟨797, 169, 2, [.int .i64 27, .int .i64 0, .int .i64 12, .int .i64 0]⟩, ⟨804, 138, 2, [.int .i64 0, .slice (some ⟨797, 0, none⟩) 2 CU]⟩, ⟨808, 93, 3, [.string (by8 [102, 105, 120]), .slice (some ⟨761, 0, none⟩) 4 CU, .slice (some ⟨804, 0, none⟩) 1 CU]⟩], 487⟩
def Cog3L : List Fact := [Cog3_0]
theorem Cog3L_ok : AllOk Cog3L := AllOk.seq (AllOk.cons (Cog2L_ok _ (List.Mem.head _)) AllOk.nil) (by kernel_rfl)
end Ev
end Go.Proofs.YtbhjopjonoldmaaGreat
