/- For every input, ColouringReaches returns true, and its arguments read as before; the listed table is tied to the program's text. -/
import Derived.Test.YtiejahgklcjhkaaGreatDoorPkEy0
set_option linter.unusedSimpArgs false
set_option linter.unusedVariables false
namespace Go.Proofs.YtiejahgklcjhkaaGreatDoor
open Go.ChangeShapes Go.WideShapes Go.ChangeAt Go.RowKit Go.Joins Go.WideMaps Go.WideElems
set_option linter.unusedVariables false

theorem colouringReaches_wft:Rows.colouringReachesRow.wfByText (OpenSpec.ofChange Rows.colouringReachesSpec)=true:=by kernel_rfl
theorem colouringReaches_goes:false=Rows.colouringReachesRow.goesBy Tryz.prog:=by kernel_rfl
theorem colouringReaches_holds:Rows.ColouringReachesCardSaid :=
 Claim7.holds_tied_plain_at .later [] [.data] true Rows.colouringReachesCard.stood.harness true
  colouringReaches_over (fun _ h=>by cases h) colouringReaches_wft (fun _ h=>by cases h) colouringReaches_row_tie rfl ⟨rfl,rfl⟩ io_main rfl
  (fun f fn hf hfn=>by
   obtain rfl:f=13:=Option.some.inj (colouringReaches_j7.symm.trans hf) |>.symm;obtain rfl:fn=Tryz.f13:=(Option.some.inj (Tryz.func13.symm.trans hfn)).symm
   exact⟨io_looks,fun j t ht=>by
    rw[Tryz.params13]at ht;have hm:t ∈ [24,22,38]:=by simpa using Array.mem_of_getElem? ht
    have hall:([24,22,38].all fun u=>!Tryz.prog.wantsStandIn u)=true:=by kernel_rfl
    exact(show Tryz.prog.wantsStandIn t=false by simpa using List.all_eq_true.1 hall t (by simpa using hm))⟩)
  colouringReaches_goes
#print axioms colouringReaches_holds
end Go.Proofs.YtiejahgklcjhkaaGreatDoor

