/- For every input, CenterAnonymous returns true, and its arguments read as before; the listed table is tied to the program's text. -/
import Derived.Test.YtiejahgklcjhkaaGreatDoorPkJx0
set_option linter.unusedSimpArgs false
set_option linter.unusedVariables false
namespace Go.Proofs.YtiejahgklcjhkaaGreatDoor
open Go.ChangeShapes Go.WideShapes Go.ChangeAt Go.RowKit Go.Joins Go.WideMaps Go.WideElems
set_option linter.unusedVariables false

theorem centerAnonymous_wft:Rows.centerAnonymousRow.wfByText (OpenSpec.ofChange Rows.centerAnonymousSpec)=true:=by kernel_rfl
theorem centerAnonymous_goes:false=Rows.centerAnonymousRow.goesBy Tryz.prog:=by kernel_rfl
theorem centerAnonymous_holds:Rows.CenterAnonymousCardSaid :=
 Claim7.holds_tied_plain_at .later [] [.data] true Rows.centerAnonymousCard.stood.harness true
  centerAnonymous_over (fun _ h=>by cases h) centerAnonymous_wft (fun _ h=>by cases h) centerAnonymous_row_tie rfl ⟨rfl,rfl⟩ io_main rfl
  (fun f fn hf hfn=>by
   obtain rfl:f=7:=Option.some.inj (centerAnonymous_j7.symm.trans hf) |>.symm;obtain rfl:fn=Tryz.f7:=(Option.some.inj (Tryz.func7.symm.trans hfn)).symm
   exact⟨io_looks,fun j t ht=>by
    rw[Tryz.params7]at ht;have hm:t ∈ [24,3]:=by simpa using Array.mem_of_getElem? ht
    have hall:([24,3].all fun u=>!Tryz.prog.wantsStandIn u)=true:=by kernel_rfl
    exact(show Tryz.prog.wantsStandIn t=false by simpa using List.all_eq_true.1 hall t (by simpa using hm))⟩)
  centerAnonymous_goes
#print axioms centerAnonymous_holds
end Go.Proofs.YtiejahgklcjhkaaGreatDoor

