/- For every input, PathsWhole returns true, and its arguments read as before; the listed table is tied to the program's text. -/
import Derived.Test.YthclbjjgfcgbgaaGreatDoorPkCpx0
set_option linter.unusedSimpArgs false
set_option linter.unusedVariables false
namespace Go.Proofs.YthclbjjgfcgbgaaGreatDoor
open Go.ChangeShapes Go.WideShapes Go.ChangeAt Go.RowKit Go.Joins Go.WideMaps Go.WideElems
set_option linter.unusedVariables false
theorem pathsWhole_wft:Rows.pathsWholeRow.wfByText (OpenSpec.ofChange Rows.pathsWholeSpec)=true:=by kernel_rfl
theorem pathsWhole_goes:false=Rows.pathsWholeRow.goesBy Tryz.prog:=by kernel_rfl
theorem pathsWhole_holds:Rows.PathsWholeCardSaid :=
 Claim7.holds_tied_plain_at .later [] [.data] true Rows.pathsWholeCard.stood.harness true
  yvv (fun _ h=>by cases h) pathsWhole_wft (fun _ h=>by cases h) pathsWhole_row_tie rfl ⟨rfl,rfl⟩ ydhd rfl
  (fun f fn d b=>by
    obtain rfl:f=3:=Option.some.inj (ypy.symm.trans d) |>.symm;obtain rfl:fn=Tryz.f3:=(Option.some.inj (Tryz.func3.symm.trans b)).symm
    exact⟨ycnz,fun j t c=>by
     rw[Tryz.params3]at c;have e:t∈[24]:=by simpa using Array.mem_of_getElem? c
     have a:([24].all fun u=>!Tryz.prog.wantsStandIn u)=true:=by kernel_rfl
     exact(show Tryz.prog.wantsStandIn t=false by simpa using List.all_eq_true.1 a t (by simpa using e))⟩)
  pathsWhole_goes
#print axioms pathsWhole_holds
end Go.Proofs.YthclbjjgfcgbgaaGreatDoor
