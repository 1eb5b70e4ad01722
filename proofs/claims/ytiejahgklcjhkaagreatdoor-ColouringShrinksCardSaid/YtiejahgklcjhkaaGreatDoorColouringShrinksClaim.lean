/- For every input, ColouringShrinks returns true, and its arguments read as before; the listed table is tied to the program's text. -/
import Derived.Test.YtiejahgklcjhkaaGreatDoorPkEz0
set_option linter.unusedSimpArgs false
set_option linter.unusedVariables false
namespace Go.Proofs.YtiejahgklcjhkaaGreatDoor
open Go.ChangeShapes Go.WideShapes Go.ChangeAt Go.RowKit Go.Joins Go.WideMaps Go.WideElems
set_option linter.unusedVariables false

theorem colouringShrinks_wft:Rows.colouringShrinksRow.wfByText (OpenSpec.ofChange Rows.colouringShrinksSpec)=true:=by kernel_rfl
theorem colouringShrinks_goes:false=Rows.colouringShrinksRow.goesBy Tryz.prog:=by kernel_rfl
theorem colouringShrinks_holds:Rows.ColouringShrinksCardSaid :=
 Claim7.holds_tied_plain_at .later [] [.data] true Rows.colouringShrinksCard.stood.harness true
  colouringShrinks_over (fun _ h=>by cases h) colouringShrinks_wft (fun _ h=>by cases h) colouringShrinks_row_tie rfl ⟨rfl,rfl⟩ io_main rfl
  (fun f fn hf hfn=>by
   obtain rfl:f=12:=Option.some.inj (colouringShrinks_j7.symm.trans hf) |>.symm;obtain rfl:fn=Tryz.f12:=(Option.some.inj (Tryz.func12.symm.trans hfn)).symm
   exact⟨io_looks,fun j t ht=>by
    rw[Tryz.params12]at ht;have hm:t ∈ [24,22,40]:=by simpa using Array.mem_of_getElem? ht
    have hall:([24,22,40].all fun u=>!Tryz.prog.wantsStandIn u)=true:=by kernel_rfl
    exact(show Tryz.prog.wantsStandIn t=false by simpa using List.all_eq_true.1 hall t (by simpa using hm))⟩)
  colouringShrinks_goes
#print axioms colouringShrinks_holds
end Go.Proofs.YtiejahgklcjhkaaGreatDoor

