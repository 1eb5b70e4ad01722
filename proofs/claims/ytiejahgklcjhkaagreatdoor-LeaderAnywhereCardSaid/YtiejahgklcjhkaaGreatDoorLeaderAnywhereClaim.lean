/- For every input, LeaderAnywhere returns true, and its arguments read as before; the listed table is tied to the program's text. -/
import Derived.Test.YtiejahgklcjhkaaGreatDoorPkTx0
set_option linter.unusedSimpArgs false
set_option linter.unusedVariables false
namespace Go.Proofs.YtiejahgklcjhkaaGreatDoor
open Go.ChangeShapes Go.WideShapes Go.ChangeAt Go.RowKit Go.Joins Go.WideMaps Go.WideElems
set_option linter.unusedVariables false
theorem leaderAnywhere_wft:Rows.leaderAnywhereRow.wfByText (OpenSpec.ofChange Rows.leaderAnywhereSpec)=true:=by kernel_rfl
theorem leaderAnywhere_goes:false=Rows.leaderAnywhereRow.goesBy Tryz.prog:=by kernel_rfl
theorem leaderAnywhere_holds:Rows.LeaderAnywhereCardSaid :=
 Claim7.holds_tied_plain_at .later [] [.data] true Rows.leaderAnywhereCard.stood.harness true
  ylc (fun _ h=>by cases h) leaderAnywhere_wft (fun _ h=>by cases h) leaderAnywhere_row_tie rfl ⟨rfl,rfl⟩ ydcp rfl
  (fun f fn hf hfn=>by
    obtain rfl:f=20:=Option.some.inj (yib.symm.trans hf) |>.symm;obtain rfl:fn=Tryz.f20:=(Option.some.inj (Tryz.func20.symm.trans hfn)).symm
    exact⟨ycdg,fun j t ht=>by
     rw[Tryz.params20]at ht;have hm:t∈[24,22,3]:=by simpa using Array.mem_of_getElem? ht
     have hall:([24,22,3].all fun u=>!Tryz.prog.wantsStandIn u)=true:=by kernel_rfl
     exact(show Tryz.prog.wantsStandIn t=false by simpa using List.all_eq_true.1 hall t (by simpa using hm))⟩)
  leaderAnywhere_goes
#print axioms leaderAnywhere_holds
end Go.Proofs.YtiejahgklcjhkaaGreatDoor
