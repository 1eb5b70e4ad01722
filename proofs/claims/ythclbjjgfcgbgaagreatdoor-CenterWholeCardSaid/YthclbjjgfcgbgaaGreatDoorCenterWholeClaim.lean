/- For every input, CenterWhole returns true, and its arguments read as before; the listed table is tied to the program's text. -/
import Derived.Test.YthclbjjgfcgbgaaGreatDoorPkChx0
set_option linter.unusedSimpArgs false
set_option linter.unusedVariables false
namespace Go.Proofs.YthclbjjgfcgbgaaGreatDoor
open Go.ChangeShapes Go.WideShapes Go.ChangeAt Go.RowKit Go.Joins Go.WideMaps Go.WideElems
set_option linter.unusedVariables false
theorem centerWhole_wft:Rows.centerWholeRow.wfByText (OpenSpec.ofChange Rows.centerWholeSpec)=true:=by kernel_rfl
theorem centerWhole_goes:false=Rows.centerWholeRow.goesBy Tryz.prog:=by kernel_rfl
theorem centerWhole_holds:Rows.CenterWholeCardSaid :=
 Claim7.holds_tied_plain_at .later [] [.data] true Rows.centerWholeCard.stood.harness true
  yrm (fun _ h=>by cases h) centerWhole_wft (fun _ h=>by cases h) centerWhole_row_tie rfl ⟨rfl,rfl⟩ ydhw rfl
  (fun f fn hf hfn=>by
    obtain rfl:f=7:=Option.some.inj (ylw.symm.trans hf) |>.symm;obtain rfl:fn=Tryz.f7:=(Option.some.inj (Tryz.func7.symm.trans hfn)).symm
    exact⟨ycho,fun j t ht=>by
     rw[Tryz.params7]at ht;have hm:t∈[24]:=by simpa using Array.mem_of_getElem? ht
     have hall:([24].all fun u=>!Tryz.prog.wantsStandIn u)=true:=by kernel_rfl
     exact(show Tryz.prog.wantsStandIn t=false by simpa using List.all_eq_true.1 hall t (by simpa using hm))⟩)
  centerWhole_goes
#print axioms centerWhole_holds
end Go.Proofs.YthclbjjgfcgbgaaGreatDoor
