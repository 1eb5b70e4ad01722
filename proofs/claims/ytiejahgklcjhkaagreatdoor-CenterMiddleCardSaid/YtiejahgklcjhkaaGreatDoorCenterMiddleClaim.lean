/- For every input, CenterMiddle returns true, and its arguments read as before; the listed table is tied to the program's text. -/
import Derived.Test.YtiejahgklcjhkaaGreatDoorPkDy0
set_option linter.unusedSimpArgs false
set_option linter.unusedVariables false
namespace Go.Proofs.YtiejahgklcjhkaaGreatDoor
open Go.ChangeShapes Go.WideShapes Go.ChangeAt Go.RowKit Go.Joins Go.WideMaps Go.WideElems
set_option linter.unusedVariables false

theorem centerMiddle_wft:Rows.centerMiddleRow.wfByText (OpenSpec.ofChange Rows.centerMiddleSpec)=true:=by kernel_rfl
theorem centerMiddle_goes:false=Rows.centerMiddleRow.goesBy Tryz.prog:=by kernel_rfl
theorem centerMiddle_holds:Rows.CenterMiddleCardSaid :=
 Claim7.holds_tied_plain_at .later [] [.data] true Rows.centerMiddleCard.stood.harness true
  centerMiddle_over (fun _ h=>by cases h) centerMiddle_wft (fun _ h=>by cases h) centerMiddle_row_tie rfl ⟨rfl,rfl⟩ io_main rfl
  (fun f fn hf hfn=>by
   obtain rfl:f=3:=Option.some.inj (centerMiddle_j7.symm.trans hf) |>.symm;obtain rfl:fn=Tryz.f3:=(Option.some.inj (Tryz.func3.symm.trans hfn)).symm
   exact⟨io_looks,fun j t ht=>by
    rw[Tryz.params3]at ht;have hm:t ∈ [24,22]:=by simpa using Array.mem_of_getElem? ht
    have hall:([24,22].all fun u=>!Tryz.prog.wantsStandIn u)=true:=by kernel_rfl
    exact(show Tryz.prog.wantsStandIn t=false by simpa using List.all_eq_true.1 hall t (by simpa using hm))⟩)
  centerMiddle_goes
#print axioms centerMiddle_holds
end Go.Proofs.YtiejahgklcjhkaaGreatDoor

