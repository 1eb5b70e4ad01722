/- For every input, MatchingWhole returns true, and its arguments read as before; the listed table is tied to the program's text. -/
import Derived.Test.YthclbjjgfcgbgaaGreatDoorPkCmx0
set_option linter.unusedSimpArgs false
set_option linter.unusedVariables false
namespace Go.Proofs.YthclbjjgfcgbgaaGreatDoor
open Go.ChangeShapes Go.WideShapes Go.ChangeAt Go.RowKit Go.Joins Go.WideMaps Go.WideElems
set_option linter.unusedVariables false
theorem matchingWhole_wft:Rows.matchingWholeRow.wfByText (OpenSpec.ofChange Rows.matchingWholeSpec)=true:=by kernel_rfl
theorem matchingWhole_goes:false=Rows.matchingWholeRow.goesBy Tryz.prog:=by kernel_rfl
theorem matchingWhole_holds:Rows.MatchingWholeCardSaid :=
 Claim7.holds_tied_plain_at .later [] [.data] true Rows.matchingWholeCard.stood.harness true
  yoo (fun _ h=>by cases h) matchingWhole_wft (fun _ h=>by cases h) matchingWhole_row_tie rfl ⟨rfl,rfl⟩ ydkk rfl
  (fun f fn hf hfn=>by
    obtain rfl:f=8:=Option.some.inj (ykb.symm.trans hf) |>.symm;obtain rfl:fn=Tryz.f8:=(Option.some.inj (Tryz.func8.symm.trans hfn)).symm
    exact⟨ycix,fun j t ht=>by
     rw[Tryz.params8]at ht;have hm:t∈[24]:=by simpa using Array.mem_of_getElem? ht
     have hall:([24].all fun u=>!Tryz.prog.wantsStandIn u)=true:=by kernel_rfl
     exact(show Tryz.prog.wantsStandIn t=false by simpa using List.all_eq_true.1 hall t (by simpa using hm))⟩)
  matchingWhole_goes
#print axioms matchingWhole_holds
end Go.Proofs.YthclbjjgfcgbgaaGreatDoor
