/- For every input, CenterRounds returns true, and its arguments read as before; the listed table is tied to the program's text. -/
import Derived.Test.YtiejahgklcjhkaaGreatDoorPkDx0
set_option linter.unusedSimpArgs false
set_option linter.unusedVariables false
namespace Go.Proofs.YtiejahgklcjhkaaGreatDoor
open Go.ChangeShapes Go.WideShapes Go.ChangeAt Go.RowKit Go.Joins Go.WideMaps Go.WideElems
set_option linter.unusedVariables false

theorem centerRounds_wft:Rows.centerRoundsRow.wfByText (OpenSpec.ofChange Rows.centerRoundsSpec)=true:=by kernel_rfl
theorem centerRounds_goes:false=Rows.centerRoundsRow.goesBy Tryz.prog:=by kernel_rfl
theorem centerRounds_holds:Rows.CenterRoundsCardSaid :=
 Claim7.holds_tied_plain_at .later [] [.data] true Rows.centerRoundsCard.stood.harness true
  centerRounds_over (fun _ h=>by cases h) centerRounds_wft (fun _ h=>by cases h) centerRounds_row_tie rfl ⟨rfl,rfl⟩ io_main rfl
  (fun f fn hf hfn=>by
   obtain rfl:f=4:=Option.some.inj (centerRounds_j7.symm.trans hf) |>.symm;obtain rfl:fn=Tryz.f4:=(Option.some.inj (Tryz.func4.symm.trans hfn)).symm
   exact⟨io_looks,fun j t ht=>by
    rw[Tryz.params4]at ht;have hm:t ∈ [24,22,38]:=by simpa using Array.mem_of_getElem? ht
    have hall:([24,22,38].all fun u=>!Tryz.prog.wantsStandIn u)=true:=by kernel_rfl
    exact(show Tryz.prog.wantsStandIn t=false by simpa using List.all_eq_true.1 hall t (by simpa using hm))⟩)
  centerRounds_goes
#print axioms centerRounds_holds
end Go.Proofs.YtiejahgklcjhkaaGreatDoor

