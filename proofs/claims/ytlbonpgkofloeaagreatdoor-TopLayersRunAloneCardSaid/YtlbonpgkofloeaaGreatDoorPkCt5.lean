/- Joined. -/
import Derived.Test.YtlbonpgkofloeaaGreatDoorPkCt4
import Derived.Sort.LoopGhostIn
set_option linter.unusedSimpArgs false
set_option linter.unusedVariables false
open Go
namespace Go.Proofs.YtlbonpgkofloeaaGreatDoor
section
namespace Ev
open Go Go.RowKit
section
variable {φ φ':Phi}{M:AM}{w:World}{m:Mem}
end
end Ev
end
end Go.Proofs.YtlbonpgkofloeaaGreatDoor
