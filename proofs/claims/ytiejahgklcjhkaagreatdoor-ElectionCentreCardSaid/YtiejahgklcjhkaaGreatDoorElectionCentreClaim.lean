/- For every input, ElectionCentre returns true, and its arguments read as before; the listed table is tied to the program's text. -/
import Derived.Test.YtiejahgklcjhkaaGreatDoorPkIx0
set_option linter.unusedSimpArgs false
set_option linter.unusedVariables false
namespace Go.Proofs.YtiejahgklcjhkaaGreatDoor
open Go.ChangeShapes Go.WideShapes Go.ChangeAt Go.RowKit Go.Joins Go.WideMaps Go.WideElems
set_option linter.unusedVariables false
theorem electionCentre_wft:Rows.electionCentreRow.wfByText (OpenSpec.ofChange Rows.electionCentreSpec)=true:=by kernel_rfl
theorem electionCentre_goes:false=Rows.electionCentreRow.goesBy Tryz.prog:=by kernel_rfl
theorem electionCentre_holds:Rows.ElectionCentreCardSaid :=
 Claim7.holds_tied_plain_at .later [] [.data] true Rows.electionCentreCard.stood.harness true
  ylr (fun _ h=>by cases h) electionCentre_wft (fun _ h=>by cases h) electionCentre_row_tie rfl ⟨rfl,rfl⟩ ycyf rfl
  (fun f fn hf hfn=>by
    obtain rfl:f=10:=Option.some.inj (yig.symm.trans hf) |>.symm;obtain rfl:fn=Tryz.f10:=(Option.some.inj (Tryz.func10.symm.trans hfn)).symm
    exact⟨ycgj,fun j t ht=>by
     rw[Tryz.params10]at ht;have hm:t∈[24,22,38]:=by simpa using Array.mem_of_getElem? ht
     have hall:([24,22,38].all fun u=>!Tryz.prog.wantsStandIn u)=true:=by kernel_rfl
     exact(show Tryz.prog.wantsStandIn t=false by simpa using List.all_eq_true.1 hall t (by simpa using hm))⟩)
  electionCentre_goes
#print axioms electionCentre_holds
end Go.Proofs.YtiejahgklcjhkaaGreatDoor
