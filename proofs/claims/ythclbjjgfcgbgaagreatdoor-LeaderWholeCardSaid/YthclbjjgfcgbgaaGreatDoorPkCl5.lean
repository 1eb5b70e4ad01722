/- Joined. -/
import Derived.Test.YthclbjjgfcgbgaaGreatDoorPkCl4
import Derived.Sort.LoopGhostIn
set_option linter.unusedSimpArgs false
set_option linter.unusedVariables false
open Nat renaming mul_one->zA
open Go
namespace Go.Proofs.YthclbjjgfcgbgaaGreatDoor
section
namespace Ev
open Go Go.RowKit
section
variable {φ φ':Phi}{M:AM}{w:World}{m:Mem}
theorem ycyu{v s:Value}{us:List Value}{ft:List Nat}(h:rowOf m 1 v=some (us,ft))(f:VR φ v s)(c:Rel φ M w)(e:Sub m M):SlAt 1 (fun w b o u=>∃r,w.cell? ⟨b,o,none⟩=some r/\VR φ u r) w s us :=
 yst h f c e (by rw[zA]) (by decide) fun n b i a d j x g=>by
  obtain⟨r,k,l⟩:=a.get g;exact⟨r,by rw[zA];exact d _ _ k,l⟩
end
end Ev
end
end Go.Proofs.YthclbjjgfcgbgaaGreatDoor
