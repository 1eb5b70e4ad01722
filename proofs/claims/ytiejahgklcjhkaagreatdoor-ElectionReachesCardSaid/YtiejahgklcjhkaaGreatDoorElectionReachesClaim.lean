/- For every input, ElectionReaches returns true, and its arguments read as before; the listed table is tied to the program's text. -/
import Derived.Test.YtiejahgklcjhkaaGreatDoorPkWx0
set_option linter.unusedSimpArgs false
set_option linter.unusedVariables false
namespace Go.Proofs.YtiejahgklcjhkaaGreatDoor
open Go.ChangeShapes Go.WideShapes Go.ChangeAt Go.RowKit Go.Joins Go.WideMaps Go.WideElems
set_option linter.unusedVariables false
theorem electionReaches_wft:Rows.electionReachesRow.wfByText (OpenSpec.ofChange Rows.electionReachesSpec)=true:=by kernel_rfl
theorem electionReaches_goes:false=Rows.electionReachesRow.goesBy Tryz.prog:=by kernel_rfl
theorem electionReaches_holds:Rows.ElectionReachesCardSaid :=
 Claim7.holds_tied_plain_at .later [] [.data] true Rows.electionReachesCard.stood.harness true
  ylm (fun _ h=>by cases h) electionReaches_wft (fun _ h=>by cases h) electionReaches_row_tie rfl ⟨rfl,rfl⟩ ydbk rfl
  (fun f fn hf hfn=>by
    obtain rfl:f=8:=Option.some.inj (yhu.symm.trans hf) |>.symm;obtain rfl:fn=Tryz.f8:=(Option.some.inj (Tryz.func8.symm.trans hfn)).symm
    exact⟨ycdq,fun j t ht=>by
     rw[Tryz.params8]at ht;have hm:t∈[24,22,38]:=by simpa using Array.mem_of_getElem? ht
     have hall:([24,22,38].all fun u=>!Tryz.prog.wantsStandIn u)=true:=by kernel_rfl
     exact(show Tryz.prog.wantsStandIn t=false by simpa using List.all_eq_true.1 hall t (by simpa using hm))⟩)
  electionReaches_goes
#print axioms electionReaches_holds
end Go.Proofs.YtiejahgklcjhkaaGreatDoor
