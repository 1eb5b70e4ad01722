/- For every input, CenterReaches returns true, and its arguments read as before; the listed table is tied to the program's text. -/
import Derived.Test.YtiejahgklcjhkaaGreatDoorPkCy0
set_option linter.unusedSimpArgs false
set_option linter.unusedVariables false
namespace Go.Proofs.YtiejahgklcjhkaaGreatDoor
open Go.ChangeShapes Go.WideShapes Go.ChangeAt Go.RowKit Go.Joins Go.WideMaps Go.WideElems
set_option linter.unusedVariables false

theorem centerReaches_wft:Rows.centerReachesRow.wfByText (OpenSpec.ofChange Rows.centerReachesSpec)=true:=by kernel_rfl
theorem centerReaches_goes:false=Rows.centerReachesRow.goesBy Tryz.prog:=by kernel_rfl
theorem centerReaches_holds:Rows.CenterReachesCardSaid :=
 Claim7.holds_tied_plain_at .later [] [.data] true Rows.centerReachesCard.stood.harness true
  centerReaches_over (fun _ h=>by cases h) centerReaches_wft (fun _ h=>by cases h) centerReaches_row_tie rfl ⟨rfl,rfl⟩ io_main rfl
  (fun f fn hf hfn=>by
   obtain rfl:f=5:=Option.some.inj (centerReaches_j7.symm.trans hf) |>.symm;obtain rfl:fn=Tryz.f5:=(Option.some.inj (Tryz.func5.symm.trans hfn)).symm
   exact⟨io_looks,fun j t ht=>by
    rw[Tryz.params5]at ht;have hm:t ∈ [24,22,38]:=by simpa using Array.mem_of_getElem? ht
    have hall:([24,22,38].all fun u=>!Tryz.prog.wantsStandIn u)=true:=by kernel_rfl
    exact(show Tryz.prog.wantsStandIn t=false by simpa using List.all_eq_true.1 hall t (by simpa using hm))⟩)
  centerReaches_goes
#print axioms centerReaches_holds
end Go.Proofs.YtiejahgklcjhkaaGreatDoor

