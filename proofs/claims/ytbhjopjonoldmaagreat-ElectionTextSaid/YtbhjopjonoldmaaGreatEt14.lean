/- Facts. Printed by wip/facts3.py. -/
import Derived.Test.YtbhjopjonoldmaaGreatEtC
import Derived.Test.YtbhjopjonoldmaaGreatEt3
import Derived.Test.YtbhjopjonoldmaaGreatEt4
import Derived.Test.YtbhjopjonoldmaaGreatEt13
namespace Go.Proofs.YtbhjopjonoldmaaGreat
namespace Ev
open Go
set_option maxRecDepth 1000000
/- selfstab/lexer.Scan -/
def Etg19_0 : Fact := ⟨40, [.string Ettxt0], 2928, [], .tuple #[.slice (some ⟨3947, 0, none⟩) 156 CU, .int .i64 0, .int .i64 0], 3948, [⟨3947, 77, 4, Etrow1⟩], 2928⟩
def Etg19L : List Fact := [Etg19_0]
theorem Etg19L_ok : AllOk Etg19L := AllOk.seq (AllOk.append Etg15L_ok (AllOk.append Etg16L_ok (AllOk.append Etg17L_ok Etg18L_ok))) (by kernel_rfl)
end Ev
end Go.Proofs.YtbhjopjonoldmaaGreat
