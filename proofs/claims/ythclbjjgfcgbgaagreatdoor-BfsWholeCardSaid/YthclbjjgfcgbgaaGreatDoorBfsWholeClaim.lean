/- For every input, BfsWhole returns true, and its arguments read as before; the listed table is tied to the program's text. -/
import Derived.Test.YthclbjjgfcgbgaaGreatDoorPkCbx0
set_option linter.unusedSimpArgs false
set_option linter.unusedVariables false
namespace Go.Proofs.YthclbjjgfcgbgaaGreatDoor
open Go.ChangeShapes Go.WideShapes Go.ChangeAt Go.RowKit Go.Joins Go.WideMaps Go.WideElems
set_option linter.unusedVariables false
theorem bfsWhole_wft:Rows.bfsWholeRow.wfByText (OpenSpec.ofChange Rows.bfsWholeSpec)=true:=by kernel_rfl
theorem bfsWhole_goes:false=Rows.bfsWholeRow.goesBy Tryz.prog:=by kernel_rfl
theorem bfsWhole_holds:Rows.BfsWholeCardSaid :=
 Claim7.holds_tied_plain_at .later [] [.data] true Rows.bfsWholeCard.stood.harness true
  ybek (fun _ h=>by cases h) bfsWhole_wft (fun _ h=>by cases h) bfsWhole_row_tie rfl ⟨rfl,rfl⟩ ydmg rfl
  (fun f fn d b=>by
    obtain rfl:f=6:=Option.some.inj (yvs.symm.trans d) |>.symm;obtain rfl:fn=Tryz.f6:=(Option.some.inj (Tryz.func6.symm.trans b)).symm
    exact⟨ycoh,fun j t c=>by
     rw[Tryz.params6]at c;have e:t∈[24]:=by simpa using Array.mem_of_getElem? c
     have a:([24].all fun u=>!Tryz.prog.wantsStandIn u)=true:=by kernel_rfl
     exact(show Tryz.prog.wantsStandIn t=false by simpa using List.all_eq_true.1 a t (by simpa using e))⟩)
  bfsWhole_goes
#print axioms bfsWhole_holds
end Go.Proofs.YthclbjjgfcgbgaaGreatDoor
