/- For every input, TopLayersRunAlone returns true, and its arguments read as before; the listed table is tied to the program's text. -/
import Derived.Test.YtlbonpgkofloeaaGreatDoorPkCtx0
set_option linter.unusedSimpArgs false
set_option linter.unusedVariables false
namespace Go.Proofs.YtlbonpgkofloeaaGreatDoor
open Go.ChangeShapes Go.WideShapes Go.ChangeAt Go.RowKit Go.Joins Go.WideMaps Go.WideElems
set_option linter.unusedVariables false
theorem topLayersRunAlone_wft:Rows.topLayersRunAloneRow.wfByText (OpenSpec.ofChange Rows.topLayersRunAloneSpec)=true:=by kernel_rfl
theorem topLayersRunAlone_goes:false=Rows.topLayersRunAloneRow.goesBy Tryz.prog:=by kernel_rfl
theorem topLayersRunAlone_holds:Rows.TopLayersRunAloneCardSaid :=
 Claim7.holds_tied_plain_at .later [] [.data] true Rows.topLayersRunAloneCard.stood.harness true
  ylm (fun _ h=>by cases h) topLayersRunAlone_wft (fun _ h=>by cases h) topLayersRunAlone_row_tie rfl ⟨rfl,rfl⟩ ycyl rfl
  (fun f fn d b=>by
    obtain rfl:f=3:=Option.some.inj (yhp.symm.trans d) |>.symm;obtain rfl:fn=Tryz.f3:=(Option.some.inj (Tryz.func3.symm.trans b)).symm
    exact⟨ycsg,fun j t c=>by
     rw[Tryz.params3]at c;have e:t∈[3,24,22,25]:=by simpa using Array.mem_of_getElem? c
     have a:([3,24,22,25].all fun u=>!Tryz.prog.wantsStandIn u)=true:=by kernel_rfl
     exact(show Tryz.prog.wantsStandIn t=false by simpa using List.all_eq_true.1 a t (by simpa using e))⟩)
  topLayersRunAlone_goes
#print axioms topLayersRunAlone_holds
end Go.Proofs.YtlbonpgkofloeaaGreatDoor
