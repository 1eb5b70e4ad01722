/- For every input, MatchingRests returns true, and its arguments read as before; the listed table is tied to the program's text. -/
import Derived.Test.YtiejahgklcjhkaaGreatDoorPkFx0
set_option linter.unusedSimpArgs false
set_option linter.unusedVariables false
namespace Go.Proofs.YtiejahgklcjhkaaGreatDoor
open Go.ChangeShapes Go.WideShapes Go.ChangeAt Go.RowKit Go.Joins Go.WideMaps Go.WideElems
set_option linter.unusedVariables false

theorem matchingRests_wft:Rows.matchingRestsRow.wfByText (OpenSpec.ofChange Rows.matchingRestsSpec)=true:=by kernel_rfl
theorem matchingRests_goes:false=Rows.matchingRestsRow.goesBy Tryz.prog:=by kernel_rfl
theorem matchingRests_holds:Rows.MatchingRestsCardSaid :=
 Claim7.holds_tied_plain_at .later [] [.data] true Rows.matchingRestsCard.stood.harness true
  matchingRests_over (fun _ h=>by cases h) matchingRests_wft (fun _ h=>by cases h) matchingRests_row_tie rfl ⟨rfl,rfl⟩ io_main rfl
  (fun f fn hf hfn=>by
   obtain rfl:f=19:=Option.some.inj (matchingRests_j7.symm.trans hf) |>.symm;obtain rfl:fn=Tryz.f19:=(Option.some.inj (Tryz.func19.symm.trans hfn)).symm
   exact⟨io_looks,fun j t ht=>by
    rw[Tryz.params19]at ht;have hm:t ∈ [24,22,38]:=by simpa using Array.mem_of_getElem? ht
    have hall:([24,22,38].all fun u=>!Tryz.prog.wantsStandIn u)=true:=by kernel_rfl
    exact(show Tryz.prog.wantsStandIn t=false by simpa using List.all_eq_true.1 hall t (by simpa using hm))⟩)
  matchingRests_goes
#print axioms matchingRests_holds
end Go.Proofs.YtiejahgklcjhkaaGreatDoor

