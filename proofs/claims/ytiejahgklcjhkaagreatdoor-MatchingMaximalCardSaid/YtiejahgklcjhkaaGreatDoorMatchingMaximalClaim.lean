/- For every input, MatchingMaximal returns true, and its arguments read as before; the listed table is tied to the program's text. -/
import Derived.Test.YtiejahgklcjhkaaGreatDoorPkSx0
set_option linter.unusedSimpArgs false
set_option linter.unusedVariables false
namespace Go.Proofs.YtiejahgklcjhkaaGreatDoor
open Go.ChangeShapes Go.WideShapes Go.ChangeAt Go.RowKit Go.Joins Go.WideMaps Go.WideElems
set_option linter.unusedVariables false
theorem matchingMaximal_wft:Rows.matchingMaximalRow.wfByText (OpenSpec.ofChange Rows.matchingMaximalSpec)=true:=by kernel_rfl
theorem matchingMaximal_goes:false=Rows.matchingMaximalRow.goesBy Tryz.prog:=by kernel_rfl
theorem matchingMaximal_holds:Rows.MatchingMaximalCardSaid :=
 Claim7.holds_tied_plain_at .later [] [.data] true Rows.matchingMaximalCard.stood.harness true
  ykt (fun _ h=>by cases h) matchingMaximal_wft (fun _ h=>by cases h) matchingMaximal_row_tie rfl ⟨rfl,rfl⟩ ybxi rfl
  (fun f fn hf hfn=>by
    obtain rfl:f=15:=Option.some.inj (yhk.symm.trans hf) |>.symm;obtain rfl:fn=Tryz.f15:=(Option.some.inj (Tryz.func15.symm.trans hfn)).symm
    exact⟨yblq,fun j t ht=>by
     rw[Tryz.params15]at ht;have hm:t∈[24,22,38]:=by simpa using Array.mem_of_getElem? ht
     have hall:([24,22,38].all fun u=>!Tryz.prog.wantsStandIn u)=true:=by kernel_rfl
     exact(show Tryz.prog.wantsStandIn t=false by simpa using List.all_eq_true.1 hall t (by simpa using hm))⟩)
  matchingMaximal_goes
#print axioms matchingMaximal_holds
end Go.Proofs.YtiejahgklcjhkaaGreatDoor
