/- Facts. Printed by wip/facts3.py. -/
import Derived.Test.YtbhjopjonoldmaaGreatLtC
import Derived.Test.YtbhjopjonoldmaaGreatLt5
import Derived.Test.YtbhjopjonoldmaaGreatLt7
import Derived.Test.YtbhjopjonoldmaaGreatLt10
import Derived.Test.YtbhjopjonoldmaaGreatLt13
namespace Go.Proofs.YtbhjopjonoldmaaGreat
namespace Ev
open Go
set_option maxRecDepth 1000000
/- selfstab/program.Parse -/
def Ltg58_0 : Fact := ⟨10, [.string Lttxt0], 0, [], .tuple #[.agg #[.string (by8 [108, 101, 97, 100, 101, 114]), .slice (some ⟨2338, 0, none⟩) 3 CU, .slice (some ⟨3958, 0, none⟩) 2 CU], .int .i64 0, .int .i64 0], 7113, [⟨2338, 33, 6, [.string (by8 [108, 101, 97, 100]), .int .i64 1, .int .i64 0, .int .i64 0, .int .i64 0, .int .i64 1, .string (by8 [100]), .int .i64 1, .int .i64 0, .int .i64 (-1), .int .i64 1, .int .i64 0, .string (by8 [112]), .int .i64 3, .int .i64 0, .int .i64 0, .int .i64 0, .int .i64 0]⟩, ⟨2600, 169, 2, Ltrow2⟩, ⟨2613, 169, 2, [.int .i64 8, .int .i64 0]⟩, ⟨2630, 169, 2, [.int .i64 1, .int .i64 0]⟩, ⟨2648, 169, 2, [.int .i64 4, .int .i64 0]⟩, ⟨2655, 138, 2, [.int .i64 0, .slice (some ⟨2613, 0, none⟩) 1 1, .int .i64 1, .slice (some ⟨2630, 0, none⟩) 1 1, .int .i64 2, .slice (some ⟨2648, 0, none⟩) 1 1]⟩, ⟨3410, 169, 2, Ltrow4⟩, ⟨3566, 169, 2, [.int .i64 31, .int .i64 0, .int .i64 24, .int .i64 0, .int .i64 43, .int .i64 0, .int .i64 37, .int .i64 0, .int .i64 33, .int .i64 0, .int .i64 12, .int .i64 1, .int .i64 1, .int .i64 1, .int .i64 6, .int .i64 0, .int .i64 33, .int .i64 0, .int .i64 30, .int .i64 0, .int .i64 12, .int .i64 0, .int .i64 6, .int .i64 0, .int .i64 12, .int .i64 1, .int .i64 30, .int .i64 0, .int .i64 33, .int .i64 0, .int .i64 7, .int .i64 0, .int .i64 1, .int .i64 1, .int .i64 6, .int .i64 0, .int .i64 6, .int .i64 0]⟩, ⟨3739, 169, 2, [.int .i64 33, .int .i64 0, .int .i64 32, .int .i64 0, .int .i64 24, .int .i64 0, .int .i64 43, .int .i64 0, .int .i64 37, .int .i64 0, .int .i64 33, .int .i64 0, .int .i64 12, .int .i64 1, .int .i64 1, .int .i64 1, .int .i64 6, .int .i64 0, .int .i64 33, .int .i64 0, .int .i64 30, .int .i64 0, .int .i64 12, .int .i64 0, .int .i64 6, .int .i64 0, .int .i64 12, .int .i64 1, .int .i64 30, .int .i64 0, .int .i64 33, .int .i64 0, .int .i64 7, .int .i64 0, .int .i64 1, .int .i64 1, .int .i64 6, .int .i64 0, .int .i64 6, .int .i64 0, .int .i64 1, .int .i64 1]⟩, ⟨3947, 169, 2, Ltrow5⟩, ⟨3954, 138, 2, [.int .i64 0, .slice (some ⟨3566, 0, none⟩) 19 CU, .int .i64 1, .slice (some ⟨3739, 0, none⟩) 21 CU, .int .i64 2, .slice (some ⟨3947, 0, none⟩) 24 CU]⟩, ⟨3958, 93, 3, [.string (by8 [111, 119, 110]), .slice (some ⟨2600, 0, none⟩) 33 CU, .slice (some ⟨2655, 0, none⟩) 3 CU, .string (by8 [106, 111, 105, 110]), .slice (some ⟨3410, 0, none⟩) 94 CU, .slice (some ⟨3954, 0, none⟩) 3 CU]⟩], 0⟩
def Ltg58L : List Fact := [Ltg58_0]
theorem Ltg58L_ok : AllOk Ltg58L := AllOk.seq (AllOk.cons (Ltg26L_ok _ (List.Mem.head _)) (AllOk.cons (Ltg46L_ok _ (List.Mem.head _)) (AllOk.cons (Ltg50L_ok _ (List.Mem.head _)) (AllOk.cons (Ltg51L_ok _ (List.Mem.head _)) (AllOk.cons (Ltg57L_ok _ (List.Mem.head _)) AllOk.nil))))) (by kernel_rfl)
end Ev
end Go.Proofs.YtbhjopjonoldmaaGreat
