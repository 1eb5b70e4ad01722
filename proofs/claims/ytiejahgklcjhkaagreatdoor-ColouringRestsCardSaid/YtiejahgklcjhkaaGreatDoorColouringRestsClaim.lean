/- For every input, ColouringRests returns true, and its arguments read as before; the listed table is tied to the program's text. -/
import Derived.Test.YtiejahgklcjhkaaGreatDoorPkEx0
set_option linter.unusedSimpArgs false
set_option linter.unusedVariables false
namespace Go.Proofs.YtiejahgklcjhkaaGreatDoor
open Go.ChangeShapes Go.WideShapes Go.ChangeAt Go.RowKit Go.Joins Go.WideMaps Go.WideElems
set_option linter.unusedVariables false

theorem colouringRests_wft:Rows.colouringRestsRow.wfByText (OpenSpec.ofChange Rows.colouringRestsSpec)=true:=by kernel_rfl
theorem colouringRests_goes:false=Rows.colouringRestsRow.goesBy Tryz.prog:=by kernel_rfl
theorem colouringRests_holds:Rows.ColouringRestsCardSaid :=
 Claim7.holds_tied_plain_at .later [] [.data] true Rows.colouringRestsCard.stood.harness true
  colouringRests_over (fun _ h=>by cases h) colouringRests_wft (fun _ h=>by cases h) colouringRests_row_tie rfl ⟨rfl,rfl⟩ io_main rfl
  (fun f fn hf hfn=>by
   obtain rfl:f=14:=Option.some.inj (colouringRests_j7.symm.trans hf) |>.symm;obtain rfl:fn=Tryz.f14:=(Option.some.inj (Tryz.func14.symm.trans hfn)).symm
   exact⟨io_looks,fun j t ht=>by
    rw[Tryz.params14]at ht;have hm:t ∈ [24,22,38]:=by simpa using Array.mem_of_getElem? ht
    have hall:([24,22,38].all fun u=>!Tryz.prog.wantsStandIn u)=true:=by kernel_rfl
    exact(show Tryz.prog.wantsStandIn t=false by simpa using List.all_eq_true.1 hall t (by simpa using hm))⟩)
  colouringRests_goes
#print axioms colouringRests_holds
end Go.Proofs.YtiejahgklcjhkaaGreatDoor

