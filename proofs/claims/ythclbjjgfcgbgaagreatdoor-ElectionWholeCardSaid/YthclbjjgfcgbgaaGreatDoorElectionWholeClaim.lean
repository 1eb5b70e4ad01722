/- For every input, ElectionWhole returns true, and its arguments read as before; the listed table is tied to the program's text. -/
import Derived.Test.YthclbjjgfcgbgaaGreatDoorPkCnx0
set_option linter.unusedSimpArgs false
set_option linter.unusedVariables false
namespace Go.Proofs.YthclbjjgfcgbgaaGreatDoor
open Go.ChangeShapes Go.WideShapes Go.ChangeAt Go.RowKit Go.Joins Go.WideMaps Go.WideElems
set_option linter.unusedVariables false
theorem electionWhole_wft:Rows.electionWholeRow.wfByText (OpenSpec.ofChange Rows.electionWholeSpec)=true:=by kernel_rfl
theorem electionWhole_goes:false=Rows.electionWholeRow.goesBy Tryz.prog:=by kernel_rfl
theorem electionWhole_holds:Rows.ElectionWholeCardSaid :=
 Claim7.holds_tied_plain_at .later [] [.data] true Rows.electionWholeCard.stood.harness true
  ysb (fun _ h=>by cases h) electionWhole_wft (fun _ h=>by cases h) electionWhole_row_tie rfl ⟨rfl,rfl⟩ ydtx rfl
  (fun f fn d b=>by
    obtain rfl:f=9:=Option.some.inj (ylz.symm.trans d) |>.symm;obtain rfl:fn=Tryz.f9:=(Option.some.inj (Tryz.func9.symm.trans b)).symm
    exact⟨ycpz,fun j t c=>by
     rw[Tryz.params9]at c;have e:t∈[24]:=by simpa using Array.mem_of_getElem? c
     have a:([24].all fun u=>!Tryz.prog.wantsStandIn u)=true:=by kernel_rfl
     exact(show Tryz.prog.wantsStandIn t=false by simpa using List.all_eq_true.1 a t (by simpa using e))⟩)
  electionWhole_goes
#print axioms electionWhole_holds
end Go.Proofs.YthclbjjgfcgbgaaGreatDoor
