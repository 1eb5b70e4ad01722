/- For every input, CenterRests returns true, and its arguments read as before; the listed table is tied to the program's text. -/
import Derived.Test.YtiejahgklcjhkaaGreatDoorPkCx0
set_option linter.unusedSimpArgs false
set_option linter.unusedVariables false
namespace Go.Proofs.YtiejahgklcjhkaaGreatDoor
open Go.ChangeShapes Go.WideShapes Go.ChangeAt Go.RowKit Go.Joins Go.WideMaps Go.WideElems
set_option linter.unusedVariables false

theorem centerRests_wft:Rows.centerRestsRow.wfByText (OpenSpec.ofChange Rows.centerRestsSpec)=true:=by kernel_rfl
theorem centerRests_goes:false=Rows.centerRestsRow.goesBy Tryz.prog:=by kernel_rfl
theorem centerRests_holds:Rows.CenterRestsCardSaid :=
 Claim7.holds_tied_plain_at .later [] [.data] true Rows.centerRestsCard.stood.harness true
  centerRests_over (fun _ h=>by cases h) centerRests_wft (fun _ h=>by cases h) centerRests_row_tie rfl ⟨rfl,rfl⟩ io_main rfl
  (fun f fn hf hfn=>by
   obtain rfl:f=6:=Option.some.inj (centerRests_j7.symm.trans hf) |>.symm;obtain rfl:fn=Tryz.f6:=(Option.some.inj (Tryz.func6.symm.trans hfn)).symm
   exact⟨io_looks,fun j t ht=>by
    rw[Tryz.params6]at ht;have hm:t ∈ [24,22,38]:=by simpa using Array.mem_of_getElem? ht
    have hall:([24,22,38].all fun u=>!Tryz.prog.wantsStandIn u)=true:=by kernel_rfl
    exact(show Tryz.prog.wantsStandIn t=false by simpa using List.all_eq_true.1 hall t (by simpa using hm))⟩)
  centerRests_goes
#print axioms centerRests_holds
end Go.Proofs.YtiejahgklcjhkaaGreatDoor

