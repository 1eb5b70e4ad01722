/- For every input, MatchingStays returns true, and its arguments read as before; the listed table is tied to the program's text. -/
import Derived.Test.YtiejahgklcjhkaaGreatDoorPkSy0
set_option linter.unusedSimpArgs false
set_option linter.unusedVariables false
namespace Go.Proofs.YtiejahgklcjhkaaGreatDoor
open Go.ChangeShapes Go.WideShapes Go.ChangeAt Go.RowKit Go.Joins Go.WideMaps Go.WideElems
set_option linter.unusedVariables false
theorem matchingStays_wft:Rows.matchingStaysRow.wfByText (OpenSpec.ofChange Rows.matchingStaysSpec)=true:=by kernel_rfl
theorem matchingStays_goes:false=Rows.matchingStaysRow.goesBy Tryz.prog:=by kernel_rfl
theorem matchingStays_holds:Rows.MatchingStaysCardSaid :=
 Claim7.holds_tied_plain_at .later [] [.data] true Rows.matchingStaysCard.stood.harness true
  ymm (fun _ h=>by cases h) matchingStays_wft (fun _ h=>by cases h) matchingStays_row_tie rfl ⟨rfl,rfl⟩ ybxi rfl
  (fun f fn hf hfn=>by
    obtain rfl:f=16:=Option.some.inj (yjg.symm.trans hf) |>.symm;obtain rfl:fn=Tryz.f16:=(Option.some.inj (Tryz.func16.symm.trans hfn)).symm
    exact⟨yblq,fun j t ht=>by
     rw[Tryz.params16]at ht;have hm:t∈[24,22,38]:=by simpa using Array.mem_of_getElem? ht
     have hall:([24,22,38].all fun u=>!Tryz.prog.wantsStandIn u)=true:=by kernel_rfl
     exact(show Tryz.prog.wantsStandIn t=false by simpa using List.all_eq_true.1 hall t (by simpa using hm))⟩)
  matchingStays_goes
#print axioms matchingStays_holds
end Go.Proofs.YtiejahgklcjhkaaGreatDoor
