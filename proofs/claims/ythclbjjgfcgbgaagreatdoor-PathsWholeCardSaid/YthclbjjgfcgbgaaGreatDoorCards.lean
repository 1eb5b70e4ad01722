/-
  DERIVED. GIVEN WITH THE SEED: THE CARDS: each row of YthclbjjgfcgbgaaGreatDoorRows.lean that lists a variable, with what it lists TIED to the program's text (the seventh form; the later family's looks); each row that meets fmt, with fmt's text TOLD by the authors' own Lean function (tested against real Go, not proved from fmt's source: count such statements apart). THE CARD IS WHAT COUNTS. Prove the row's statement (the work); the ties are given (YthclbjjgfcgbgaaGreatDoorTie.lean); close each card by the builder's one call (the guide's Derived/Test/ToyasCard.lean, 'card_holds'). Laid BY PROGRAM, IN A SANDBOX (cutbox-door.mjs). By AI agents, Wed Nov 11 2026. No macro, syntax, notation, axiom, sorry.
-/
import Derived.Test.YthclbjjgfcgbgaaGreatDoorRows
import GoSem.ClaimSeven
namespace Go.Proofs.YthclbjjgfcgbgaaGreatDoor
namespace Rows

/-- THE TIED CARD OF 'selfstablaw24.PathsWhole'. -/
def pathsWholeCard : Claim7 := { stood := { row := pathsWholeRow, standIns := [], harness := (true, "8cbc9cfc987754218dd8082b4642f1783204fb2155741211fe72f80cbdef037f"), looks := true }, kinds := [], alts := [], laidByText := true, laidKinds := [.data], laidTests := true, laidLooks := .later }
def PathsWholeCardSaid : Prop := Claim7.holds Tryz.pinned (.plain (OpenSpec.ofChange pathsWholeSpec)) pathsWholeCard

/-- THE TIED CARD OF 'selfstablaw32.ColouringWhole'. -/
def colouringWholeCard : Claim7 := { stood := { row := colouringWholeRow, standIns := [], harness := (true, "8cbc9cfc987754218dd8082b4642f1783204fb2155741211fe72f80cbdef037f"), looks := true }, kinds := [], alts := [], laidByText := true, laidKinds := [.data], laidTests := true, laidLooks := .later }
def ColouringWholeCardSaid : Prop := Claim7.holds Tryz.pinned (.plain (OpenSpec.ofChange colouringWholeSpec)) colouringWholeCard

/-- THE TIED CARD OF 'selfstablaw26.LeaderWhole'. -/
def leaderWholeCard : Claim7 := { stood := { row := leaderWholeRow, standIns := [], harness := (true, "8cbc9cfc987754218dd8082b4642f1783204fb2155741211fe72f80cbdef037f"), looks := true }, kinds := [], alts := [], laidByText := true, laidKinds := [.data], laidTests := true, laidLooks := .later }
def LeaderWholeCardSaid : Prop := Claim7.holds Tryz.pinned (.plain (OpenSpec.ofChange leaderWholeSpec)) leaderWholeCard

/-- THE TIED CARD OF 'selfstablaw23.BfsWhole'. -/
def bfsWholeCard : Claim7 := { stood := { row := bfsWholeRow, standIns := [], harness := (true, "8cbc9cfc987754218dd8082b4642f1783204fb2155741211fe72f80cbdef037f"), looks := true }, kinds := [], alts := [], laidByText := true, laidKinds := [.data], laidTests := true, laidLooks := .later }
def BfsWholeCardSaid : Prop := Claim7.holds Tryz.pinned (.plain (OpenSpec.ofChange bfsWholeSpec)) bfsWholeCard

/-- THE TIED CARD OF 'selfstablaw27.CenterWhole'. -/
def centerWholeCard : Claim7 := { stood := { row := centerWholeRow, standIns := [], harness := (true, "8cbc9cfc987754218dd8082b4642f1783204fb2155741211fe72f80cbdef037f"), looks := true }, kinds := [], alts := [], laidByText := true, laidKinds := [.data], laidTests := true, laidLooks := .later }
def CenterWholeCardSaid : Prop := Claim7.holds Tryz.pinned (.plain (OpenSpec.ofChange centerWholeSpec)) centerWholeCard

/-- THE TIED CARD OF 'selfstablaw30.MatchingWhole'. -/
def matchingWholeCard : Claim7 := { stood := { row := matchingWholeRow, standIns := [], harness := (true, "8cbc9cfc987754218dd8082b4642f1783204fb2155741211fe72f80cbdef037f"), looks := true }, kinds := [], alts := [], laidByText := true, laidKinds := [.data], laidTests := true, laidLooks := .later }
def MatchingWholeCardSaid : Prop := Claim7.holds Tryz.pinned (.plain (OpenSpec.ofChange matchingWholeSpec)) matchingWholeCard

/-- THE TIED CARD OF 'selfstablaw28.ElectionWhole'. -/
def electionWholeCard : Claim7 := { stood := { row := electionWholeRow, standIns := [], harness := (true, "8cbc9cfc987754218dd8082b4642f1783204fb2155741211fe72f80cbdef037f"), looks := true }, kinds := [], alts := [], laidByText := true, laidKinds := [.data], laidTests := true, laidLooks := .later }
def ElectionWholeCardSaid : Prop := Claim7.holds Tryz.pinned (.plain (OpenSpec.ofChange electionWholeSpec)) electionWholeCard

/-- THE SECOND FORM's CARD OF 'selfstablaw24.PathsWhole'. -/
def pathsWholeUptoCard : Claim7 := { stood := { row := pathsWholeUptoRow, standIns := [], harness := (true, "8cbc9cfc987754218dd8082b4642f1783204fb2155741211fe72f80cbdef037f"), looks := true }, kinds := [], alts := [], laidByText := true, laidKinds := [.data], laidTests := true, laidLooks := .later }
def PathsWholeUptoCardSaid : Prop := Claim7.holds Tryz.pinned (.plain (OpenSpec.upto pathsWholeSpec)) pathsWholeUptoCard

/-- THE SECOND FORM's CARD OF 'selfstablaw32.ColouringWhole'. -/
def colouringWholeUptoCard : Claim7 := { stood := { row := colouringWholeUptoRow, standIns := [], harness := (true, "8cbc9cfc987754218dd8082b4642f1783204fb2155741211fe72f80cbdef037f"), looks := true }, kinds := [], alts := [], laidByText := true, laidKinds := [.data], laidTests := true, laidLooks := .later }
def ColouringWholeUptoCardSaid : Prop := Claim7.holds Tryz.pinned (.plain (OpenSpec.upto colouringWholeSpec)) colouringWholeUptoCard

/-- THE SECOND FORM's CARD OF 'selfstablaw26.LeaderWhole'. -/
def leaderWholeUptoCard : Claim7 := { stood := { row := leaderWholeUptoRow, standIns := [], harness := (true, "8cbc9cfc987754218dd8082b4642f1783204fb2155741211fe72f80cbdef037f"), looks := true }, kinds := [], alts := [], laidByText := true, laidKinds := [.data], laidTests := true, laidLooks := .later }
def LeaderWholeUptoCardSaid : Prop := Claim7.holds Tryz.pinned (.plain (OpenSpec.upto leaderWholeSpec)) leaderWholeUptoCard

/-- THE SECOND FORM's CARD OF 'selfstablaw23.BfsWhole'. -/
def bfsWholeUptoCard : Claim7 := { stood := { row := bfsWholeUptoRow, standIns := [], harness := (true, "8cbc9cfc987754218dd8082b4642f1783204fb2155741211fe72f80cbdef037f"), looks := true }, kinds := [], alts := [], laidByText := true, laidKinds := [.data], laidTests := true, laidLooks := .later }
def BfsWholeUptoCardSaid : Prop := Claim7.holds Tryz.pinned (.plain (OpenSpec.upto bfsWholeSpec)) bfsWholeUptoCard

/-- THE SECOND FORM's CARD OF 'selfstablaw27.CenterWhole'. -/
def centerWholeUptoCard : Claim7 := { stood := { row := centerWholeUptoRow, standIns := [], harness := (true, "8cbc9cfc987754218dd8082b4642f1783204fb2155741211fe72f80cbdef037f"), looks := true }, kinds := [], alts := [], laidByText := true, laidKinds := [.data], laidTests := true, laidLooks := .later }
def CenterWholeUptoCardSaid : Prop := Claim7.holds Tryz.pinned (.plain (OpenSpec.upto centerWholeSpec)) centerWholeUptoCard

/-- THE SECOND FORM's CARD OF 'selfstablaw30.MatchingWhole'. -/
def matchingWholeUptoCard : Claim7 := { stood := { row := matchingWholeUptoRow, standIns := [], harness := (true, "8cbc9cfc987754218dd8082b4642f1783204fb2155741211fe72f80cbdef037f"), looks := true }, kinds := [], alts := [], laidByText := true, laidKinds := [.data], laidTests := true, laidLooks := .later }
def MatchingWholeUptoCardSaid : Prop := Claim7.holds Tryz.pinned (.plain (OpenSpec.upto matchingWholeSpec)) matchingWholeUptoCard

/-- THE SECOND FORM's CARD OF 'selfstablaw28.ElectionWhole'. -/
def electionWholeUptoCard : Claim7 := { stood := { row := electionWholeUptoRow, standIns := [], harness := (true, "8cbc9cfc987754218dd8082b4642f1783204fb2155741211fe72f80cbdef037f"), looks := true }, kinds := [], alts := [], laidByText := true, laidKinds := [.data], laidTests := true, laidLooks := .later }
def ElectionWholeUptoCardSaid : Prop := Claim7.holds Tryz.pinned (.plain (OpenSpec.upto electionWholeSpec)) electionWholeUptoCard
end Rows
end Go.Proofs.YthclbjjgfcgbgaaGreatDoor
