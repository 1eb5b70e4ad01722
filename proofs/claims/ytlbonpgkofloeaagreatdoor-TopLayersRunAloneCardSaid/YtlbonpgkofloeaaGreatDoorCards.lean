/-
  DERIVED. GIVEN WITH THE SEED: THE CARDS: each row of YtlbonpgkofloeaaGreatDoorRows.lean that lists a variable, with what it lists TIED to the program's text (the seventh form; the later family's looks); each row that meets fmt, with fmt's text TOLD by the authors' own Lean function (tested against real Go, not proved from fmt's source: count such statements apart). THE CARD IS WHAT COUNTS. Prove the row's statement (the work); the ties are given (YtlbonpgkofloeaaGreatDoorTie.lean); close each card by the builder's one call (the guide's Derived/Test/ToyasCard.lean, 'card_holds'). Laid BY PROGRAM, IN A SANDBOX (cutbox-door.mjs). By AI agents, Wed Nov 11 2026. No macro, syntax, notation, axiom, sorry.
-/
import Derived.Test.YtlbonpgkofloeaaGreatDoorRows
import GoSem.ClaimSeven
namespace Go.Proofs.YtlbonpgkofloeaaGreatDoor
namespace Rows

/-- THE TIED CARD OF 'selfstabtop.TopLayersRunAlone'. -/
def topLayersRunAloneCard : Claim7 := { stood := { row := topLayersRunAloneRow, standIns := [], harness := (true, "ea62c17ccd6f119f0145539dcb8c854c84fbfcf32b0e52edf5fc6f87a28a1ba8"), looks := true }, kinds := [], alts := [], laidByText := true, laidKinds := [.data], laidTests := true, laidLooks := .later }
def TopLayersRunAloneCardSaid : Prop := Claim7.holds Tryz.pinned (.plain (OpenSpec.ofChange topLayersRunAloneSpec)) topLayersRunAloneCard

/-- THE SECOND FORM's CARD OF 'selfstabtop.TopLayersRunAlone'. -/
def topLayersRunAloneUptoCard : Claim7 := { stood := { row := topLayersRunAloneUptoRow, standIns := [], harness := (true, "ea62c17ccd6f119f0145539dcb8c854c84fbfcf32b0e52edf5fc6f87a28a1ba8"), looks := true }, kinds := [], alts := [], laidByText := true, laidKinds := [.data], laidTests := true, laidLooks := .later }
def TopLayersRunAloneUptoCardSaid : Prop := Claim7.holds Tryz.pinned (.plain (OpenSpec.upto topLayersRunAloneSpec)) topLayersRunAloneUptoCard
end Rows
end Go.Proofs.YtlbonpgkofloeaaGreatDoor
