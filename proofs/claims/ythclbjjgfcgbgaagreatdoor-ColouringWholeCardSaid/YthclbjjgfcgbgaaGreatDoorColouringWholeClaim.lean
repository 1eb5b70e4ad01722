/- For every input, ColouringWhole returns true, and its arguments read as before; the listed table is tied to the program's text. -/
import Derived.Test.YthclbjjgfcgbgaaGreatDoorPkCkx0
set_option linter.unusedSimpArgs false
set_option linter.unusedVariables false
namespace Go.Proofs.YthclbjjgfcgbgaaGreatDoor
open Go.ChangeShapes Go.WideShapes Go.ChangeAt Go.RowKit Go.Joins Go.WideMaps Go.WideElems
set_option linter.unusedVariables false
theorem colouringWhole_wft:Rows.colouringWholeRow.wfByText (OpenSpec.ofChange Rows.colouringWholeSpec)=true:=by kernel_rfl
theorem colouringWhole_goes:false=Rows.colouringWholeRow.goesBy Tryz.prog:=by kernel_rfl
theorem colouringWhole_holds:Rows.ColouringWholeCardSaid :=
 Claim7.holds_tied_plain_at .later [] [.data] true Rows.colouringWholeCard.stood.harness true
  yls (fun _ h=>by cases h) colouringWhole_wft (fun _ h=>by cases h) colouringWhole_row_tie rfl ⟨rfl,rfl⟩ yczl rfl
  (fun f fn hf hfn=>by
    obtain rfl:f=4:=Option.some.inj (yii.symm.trans hf) |>.symm;obtain rfl:fn=Tryz.f4:=(Option.some.inj (Tryz.func4.symm.trans hfn)).symm
    exact⟨ycig,fun j t ht=>by
     rw[Tryz.params4]at ht;have hm:t∈[24]:=by simpa using Array.mem_of_getElem? ht
     have hall:([24].all fun u=>!Tryz.prog.wantsStandIn u)=true:=by kernel_rfl
     exact(show Tryz.prog.wantsStandIn t=false by simpa using List.all_eq_true.1 hall t (by simpa using hm))⟩)
  colouringWhole_goes
#print axioms colouringWhole_holds
end Go.Proofs.YthclbjjgfcgbgaaGreatDoor
