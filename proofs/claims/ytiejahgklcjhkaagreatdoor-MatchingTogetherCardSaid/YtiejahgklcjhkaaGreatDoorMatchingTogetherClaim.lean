/- For every input, MatchingTogether returns true, and its arguments read as before; the listed table is tied to the program's text. -/
import Derived.Test.YtiejahgklcjhkaaGreatDoorPkUx0
set_option linter.unusedSimpArgs false
set_option linter.unusedVariables false
namespace Go.Proofs.YtiejahgklcjhkaaGreatDoor
open Go.ChangeShapes Go.WideShapes Go.ChangeAt Go.RowKit Go.Joins Go.WideMaps Go.WideElems
set_option linter.unusedVariables false
theorem matchingTogether_wft:Rows.matchingTogetherRow.wfByText (OpenSpec.ofChange Rows.matchingTogetherSpec)=true:=by kernel_rfl
theorem matchingTogether_goes:false=Rows.matchingTogetherRow.goesBy Tryz.prog:=by kernel_rfl
theorem matchingTogether_holds:Rows.MatchingTogetherCardSaid :=
 Claim7.holds_tied_plain_at .later [] [.data] true Rows.matchingTogetherCard.stood.harness true
  yii (fun _ h=>by cases h) matchingTogether_wft (fun _ h=>by cases h) matchingTogether_row_tie rfl ⟨rfl,rfl⟩ ycsc rfl
  (fun f fn hf hfn=>by
    obtain rfl:f=17:=Option.some.inj (yft.symm.trans hf) |>.symm;obtain rfl:fn=Tryz.f17:=(Option.some.inj (Tryz.func17.symm.trans hfn)).symm
    exact⟨ybzt,fun j t ht=>by
     rw[Tryz.params17]at ht;have hm:t∈[3,3]:=by simpa using Array.mem_of_getElem? ht
     have hall:([3].all fun u=>!Tryz.prog.wantsStandIn u)=true:=by kernel_rfl
     exact(show Tryz.prog.wantsStandIn t=false by simpa using List.all_eq_true.1 hall t (by simpa using hm))⟩)
  matchingTogether_goes
#print axioms matchingTogether_holds
end Go.Proofs.YtiejahgklcjhkaaGreatDoor
