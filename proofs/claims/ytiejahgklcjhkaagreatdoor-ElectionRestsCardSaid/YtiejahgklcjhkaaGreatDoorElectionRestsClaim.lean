/- For every input, ElectionRests returns true, and its arguments read as before; the listed table is tied to the program's text. -/
import Derived.Test.YtiejahgklcjhkaaGreatDoorPkGx0
set_option linter.unusedSimpArgs false
set_option linter.unusedVariables false
namespace Go.Proofs.YtiejahgklcjhkaaGreatDoor
open Go.ChangeShapes Go.WideShapes Go.ChangeAt Go.RowKit Go.Joins Go.WideMaps Go.WideElems
set_option linter.unusedVariables false
theorem electionRests_wft:Rows.electionRestsRow.wfByText (OpenSpec.ofChange Rows.electionRestsSpec)=true:=by kernel_rfl
theorem electionRests_goes:false=Rows.electionRestsRow.goesBy Tryz.prog:=by kernel_rfl
theorem electionRests_holds:Rows.ElectionRestsCardSaid :=
 Claim7.holds_tied_plain_at .later [] [.data] true Rows.electionRestsCard.stood.harness true
  ylm (fun _ h=>by cases h) electionRests_wft (fun _ h=>by cases h) electionRests_row_tie rfl ⟨rfl,rfl⟩ ycyy rfl
  (fun f fn hf hfn=>by
    obtain rfl:f=9:=Option.some.inj (yjc.symm.trans hf) |>.symm;obtain rfl:fn=Tryz.f9:=(Option.some.inj (Tryz.func9.symm.trans hfn)).symm
    exact⟨yccw,fun j t ht=>by
     rw[Tryz.params9]at ht;have hm:t∈[24,22,38]:=by simpa using Array.mem_of_getElem? ht
     have hall:([24,22,38].all fun u=>!Tryz.prog.wantsStandIn u)=true:=by kernel_rfl
     exact(show Tryz.prog.wantsStandIn t=false by simpa using List.all_eq_true.1 hall t (by simpa using hm))⟩)
  electionRests_goes
#print axioms electionRests_holds
end Go.Proofs.YtiejahgklcjhkaaGreatDoor
