/- Facts. Printed by wip/facts3.py. -/
import Derived.Test.YtbhjopjonoldmaaGreatEtC
import Derived.Test.YtbhjopjonoldmaaGreatEt12
import Derived.Test.YtbhjopjonoldmaaGreatEt13
import Derived.Test.YtbhjopjonoldmaaGreatEt15
namespace Go.Proofs.YtbhjopjonoldmaaGreat
namespace Ev
open Go
set_option maxRecDepth 1000000
/- selfstab/selfstablaw28.known -/
def Etg41_0 : Fact := ⟨38, [], 2905, [], .bool true, 8825, [], 2905⟩
def Etg41L : List Fact := [Etg41_0]
theorem Etg41L_ok : AllOk Etg41L := AllOk.seq (AllOk.cons (Etg31L_ok _ (List.Mem.head _)) (AllOk.cons (Etg36L_ok _ (List.Mem.head _)) (AllOk.cons (Etg40L_ok _ (List.Mem.head _)) AllOk.nil))) (by kernel_rfl)
end Ev
end Go.Proofs.YtbhjopjonoldmaaGreat
