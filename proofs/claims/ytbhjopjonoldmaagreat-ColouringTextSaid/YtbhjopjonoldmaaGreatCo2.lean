/- Facts. Printed by wip/facts3.py. -/
import Derived.Test.YtbhjopjonoldmaaGreatCoC
import Derived.Test.YtbhjopjonoldmaaGreatCo0
import Derived.Test.YtbhjopjonoldmaaGreatCo1
namespace Go.Proofs.YtbhjopjonoldmaaGreat
namespace Ev
open Go
set_option maxRecDepth 1000000
/- selfstab/selfstablaw32.known -/
def Cog5_0 : Fact := ⟨30, [], 440, [], .bool true, 1553, [], 440⟩
def Cog5L : List Fact := [Cog5_0]
theorem Cog5L_ok : AllOk Cog5L := AllOk.seq (AllOk.cons (Cog3L_ok _ (List.Mem.head _)) (AllOk.cons (Cog4L_ok _ (List.Mem.head _)) AllOk.nil)) (by kernel_rfl)
end Ev
end Go.Proofs.YtbhjopjonoldmaaGreat
