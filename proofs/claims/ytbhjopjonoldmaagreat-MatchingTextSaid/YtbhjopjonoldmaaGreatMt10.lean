/- Facts. Printed by wip/facts3.py. -/
import Derived.Test.YtbhjopjonoldmaaGreatMtC
import Derived.Test.YtbhjopjonoldmaaGreatMt6
import Derived.Test.YtbhjopjonoldmaaGreatMt8
import Derived.Test.YtbhjopjonoldmaaGreatMt9
namespace Go.Proofs.YtbhjopjonoldmaaGreat
namespace Ev
open Go
set_option maxRecDepth 1000000
/- selfstab/selfstablaw30.known -/
def Mtg24_0 : Fact := ⟨34, [], 1671, [], .bool true, 5227, [], 1671⟩
def Mtg24L : List Fact := [Mtg24_0]
theorem Mtg24L_ok : AllOk Mtg24L := AllOk.seq (AllOk.cons (Mtg17L_ok _ (List.Mem.head _)) (AllOk.cons (Mtg19L_ok _ (List.Mem.head _)) (AllOk.cons (Mtg23L_ok _ (List.Mem.head _)) AllOk.nil))) (by kernel_rfl)
end Ev
end Go.Proofs.YtbhjopjonoldmaaGreat
