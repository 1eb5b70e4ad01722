/- Facts: selfstab/selfstablaw23.known. Printed by wip/facts.py. -/
import Derived.Test.YtbhjopjonoldmaaGreatBt18
namespace Go.Proofs.YtbhjopjonoldmaaGreat
namespace Ev
open Go
set_option maxRecDepth 1000000
def Bt19_0 : Fact := ⟨18, [], 2244, [], .bool true, 2451, [], 2244⟩
def Bt19L : List Fact := [Bt19_0]
theorem Bt19L_ok : AllOk Bt19L := AllOk.seq Bt18A_ok (by kernel_rfl)
def Bt19A : List Fact := Bt19L ++ Bt18A
theorem Bt19A_ok : AllOk Bt19A := Bt19L_ok.append Bt18A_ok
end Ev
end Go.Proofs.YtbhjopjonoldmaaGreat
