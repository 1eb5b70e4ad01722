/- For every input, MatchingReaches returns true, and its arguments read as before; the listed table is tied to the program's text. -/
import Derived.Test.YtiejahgklcjhkaaGreatDoorPkFy0
set_option linter.unusedSimpArgs false
set_option linter.unusedVariables false
namespace Go.Proofs.YtiejahgklcjhkaaGreatDoor
open Go.ChangeShapes Go.WideShapes Go.ChangeAt Go.RowKit Go.Joins Go.WideMaps Go.WideElems
set_option linter.unusedVariables false

theorem matchingReaches_wft:Rows.matchingReachesRow.wfByText (OpenSpec.ofChange Rows.matchingReachesSpec)=true:=by kernel_rfl
theorem matchingReaches_goes:false=Rows.matchingReachesRow.goesBy Tryz.prog:=by kernel_rfl
theorem matchingReaches_holds:Rows.MatchingReachesCardSaid :=
 Claim7.holds_tied_plain_at .later [] [.data] true Rows.matchingReachesCard.stood.harness true
  matchingReaches_over (fun _ h=>by cases h) matchingReaches_wft (fun _ h=>by cases h) matchingReaches_row_tie rfl ⟨rfl,rfl⟩ io_main rfl
  (fun f fn hf hfn=>by
   obtain rfl:f=18:=Option.some.inj (matchingReaches_j7.symm.trans hf) |>.symm;obtain rfl:fn=Tryz.f18:=(Option.some.inj (Tryz.func18.symm.trans hfn)).symm
   exact⟨io_looks,fun j t ht=>by
    rw[Tryz.params18]at ht;have hm:t ∈ [24,22,38]:=by simpa using Array.mem_of_getElem? ht
    have hall:([24,22,38].all fun u=>!Tryz.prog.wantsStandIn u)=true:=by kernel_rfl
    exact(show Tryz.prog.wantsStandIn t=false by simpa using List.all_eq_true.1 hall t (by simpa using hm))⟩)
  matchingReaches_goes
#print axioms matchingReaches_holds
end Go.Proofs.YtiejahgklcjhkaaGreatDoor

