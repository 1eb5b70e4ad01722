/- For every input, LeaderWhole returns true, and its arguments read as before; the listed table is tied to the program's text. -/
import Derived.Test.YthclbjjgfcgbgaaGreatDoorPkClx0
set_option linter.unusedSimpArgs false
set_option linter.unusedVariables false
namespace Go.Proofs.YthclbjjgfcgbgaaGreatDoor
open Go.ChangeShapes Go.WideShapes Go.ChangeAt Go.RowKit Go.Joins Go.WideMaps Go.WideElems
set_option linter.unusedVariables false
theorem leaderWhole_wft:Rows.leaderWholeRow.wfByText (OpenSpec.ofChange Rows.leaderWholeSpec)=true:=by kernel_rfl
theorem leaderWhole_goes:false=Rows.leaderWholeRow.goesBy Tryz.prog:=by kernel_rfl
theorem leaderWhole_holds:Rows.LeaderWholeCardSaid :=
 Claim7.holds_tied_plain_at .later [] [.data] true Rows.leaderWholeCard.stood.harness true
  yux (fun _ h=>by cases h) leaderWhole_wft (fun _ h=>by cases h) leaderWhole_row_tie rfl ⟨rfl,rfl⟩ ydjl rfl
  (fun f fn d b=>by
    obtain rfl:f=5:=Option.some.inj (yop.symm.trans d) |>.symm;obtain rfl:fn=Tryz.f5:=(Option.some.inj (Tryz.func5.symm.trans b)).symm
    exact⟨ycpw,fun j t c=>by
     rw[Tryz.params5]at c;have e:t∈[24]:=by simpa using Array.mem_of_getElem? c
     have a:([24].all fun u=>!Tryz.prog.wantsStandIn u)=true:=by kernel_rfl
     exact(show Tryz.prog.wantsStandIn t=false by simpa using List.all_eq_true.1 a t (by simpa using e))⟩)
  leaderWhole_goes
#print axioms leaderWhole_holds
end Go.Proofs.YthclbjjgfcgbgaaGreatDoor
