/- For every input, ElectionTogether returns true, and its arguments read as before; the listed table is tied to the program's text. -/
import Derived.Test.YtiejahgklcjhkaaGreatDoorPkTx0
set_option linter.unusedSimpArgs false
set_option linter.unusedVariables false
namespace Go.Proofs.YtiejahgklcjhkaaGreatDoor
open Go.ChangeShapes Go.WideShapes Go.ChangeAt Go.RowKit Go.Joins Go.WideMaps Go.WideElems
set_option linter.unusedVariables false
theorem electionTogether_wft:Rows.electionTogetherRow.wfByText (OpenSpec.ofChange Rows.electionTogetherSpec)=true:=by kernel_rfl
theorem electionTogether_goes:false=Rows.electionTogetherRow.goesBy Tryz.prog:=by kernel_rfl
theorem electionTogether_holds:Rows.ElectionTogetherCardSaid :=
 Claim7.holds_tied_plain_at .later [] [.data] true Rows.electionTogetherCard.stood.harness true
  yji (fun _ h=>by cases h) electionTogether_wft (fun _ h=>by cases h) electionTogether_row_tie rfl ⟨rfl,rfl⟩ ydad rfl
  (fun f fn hf hfn=>by
    obtain rfl:f=11:=Option.some.inj (ygo.symm.trans hf) |>.symm;obtain rfl:fn=Tryz.f11:=(Option.some.inj (Tryz.func11.symm.trans hfn)).symm
    exact⟨ycbs,fun j t ht=>by
     rw[Tryz.params11]at ht;have hm:t∈[3]:=by simpa using Array.mem_of_getElem? ht
     have hall:([3].all fun u=>!Tryz.prog.wantsStandIn u)=true:=by kernel_rfl
     exact(show Tryz.prog.wantsStandIn t=false by simpa using List.all_eq_true.1 hall t (by simpa using hm))⟩)
  electionTogether_goes
#print axioms electionTogether_holds
end Go.Proofs.YtiejahgklcjhkaaGreatDoor
