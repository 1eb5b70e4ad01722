/-
  DERIVED. GIVEN WITH THE SEED: THE CARDS: each row of YtpngeppkgoaimaaGreatDoorRows.lean that lists a variable, with what it lists TIED to the program's text (the seventh form; the later family's looks); each row that meets fmt, with fmt's text TOLD by the authors' own Lean function (tested against real Go, not proved from fmt's source: count such statements apart). THE CARD IS WHAT COUNTS. Prove the row's statement (the work); the ties are given (YtpngeppkgoaimaaGreatDoorTie.lean); close each card by the builder's one call (the guide's Derived/Test/ToyasCard.lean, 'card_holds'). Laid BY PROGRAM, IN A SANDBOX (cutbox-door.mjs). By AI agents, Wed Nov 11 2026. No macro, syntax, notation, axiom, sorry.
-/
import Derived.Test.YtpngeppkgoaimaaGreatDoorRows
import GoSem.ClaimSeven
namespace Go.Proofs.YtpngeppkgoaimaaGreatDoor
namespace Rows

/-- THE TIED CARD OF 'selfstablaw24.PathsRounds'. -/
def pathsRoundsCard : Claim7 := { stood := { row := pathsRoundsRow, standIns := [], harness := (true, "7b24e671acdda2f601ec5668cd82b03cb3e07ee0e94f614fbd758b5cca224e20"), looks := true }, kinds := [], alts := [], laidByText := true, laidKinds := [.data], laidTests := true, laidLooks := .later }
def PathsRoundsCardSaid : Prop := Claim7.holds Tryz.pinned (.plain (OpenSpec.ofChange pathsRoundsSpec)) pathsRoundsCard

/-- THE TIED CARD OF 'selfstablaw24.PathsHops'. -/
def pathsHopsCard : Claim7 := { stood := { row := pathsHopsRow, standIns := [], harness := (true, "7b24e671acdda2f601ec5668cd82b03cb3e07ee0e94f614fbd758b5cca224e20"), looks := true }, kinds := [], alts := [], laidByText := true, laidKinds := [.data], laidTests := true, laidLooks := .later }
def PathsHopsCardSaid : Prop := Claim7.holds Tryz.pinned (.plain (OpenSpec.ofChange pathsHopsSpec)) pathsHopsCard

/-- THE TIED CARD OF 'selfstablaw24.PathsRests'. -/
def pathsRestsCard : Claim7 := { stood := { row := pathsRestsRow, standIns := [], harness := (true, "7b24e671acdda2f601ec5668cd82b03cb3e07ee0e94f614fbd758b5cca224e20"), looks := true }, kinds := [], alts := [], laidByText := true, laidKinds := [.data], laidTests := true, laidLooks := .later }
def PathsRestsCardSaid : Prop := Claim7.holds Tryz.pinned (.plain (OpenSpec.ofChange pathsRestsSpec)) pathsRestsCard

/-- THE TIED CARD OF 'selfstablaw26.LeaderReal'. -/
def leaderRealCard : Claim7 := { stood := { row := leaderRealRow, standIns := [], harness := (true, "7b24e671acdda2f601ec5668cd82b03cb3e07ee0e94f614fbd758b5cca224e20"), looks := true }, kinds := [], alts := [], laidByText := true, laidKinds := [.data], laidTests := true, laidLooks := .later }
def LeaderRealCardSaid : Prop := Claim7.holds Tryz.pinned (.plain (OpenSpec.ofChange leaderRealSpec)) leaderRealCard

/-- THE TIED CARD OF 'selfstablaw23.BfsRounds'. -/
def bfsRoundsCard : Claim7 := { stood := { row := bfsRoundsRow, standIns := [], harness := (true, "7b24e671acdda2f601ec5668cd82b03cb3e07ee0e94f614fbd758b5cca224e20"), looks := true }, kinds := [], alts := [], laidByText := true, laidKinds := [.data], laidTests := true, laidLooks := .later }
def BfsRoundsCardSaid : Prop := Claim7.holds Tryz.pinned (.plain (OpenSpec.ofChange bfsRoundsSpec)) bfsRoundsCard

/-- THE TIED CARD OF 'selfstablaw23.BfsWays'. -/
def bfsWaysCard : Claim7 := { stood := { row := bfsWaysRow, standIns := [], harness := (true, "7b24e671acdda2f601ec5668cd82b03cb3e07ee0e94f614fbd758b5cca224e20"), looks := true }, kinds := [], alts := [], laidByText := true, laidKinds := [.data], laidTests := true, laidLooks := .later }
def BfsWaysCardSaid : Prop := Claim7.holds Tryz.pinned (.plain (OpenSpec.ofChange bfsWaysSpec)) bfsWaysCard

/-- THE TIED CARD OF 'selfstablaw24.PathsAdd'. -/
def pathsAddCard : Claim7 := { stood := { row := pathsAddRow, standIns := [], harness := (true, "7b24e671acdda2f601ec5668cd82b03cb3e07ee0e94f614fbd758b5cca224e20"), looks := true }, kinds := [], alts := [], laidByText := true, laidKinds := [.data], laidTests := true, laidLooks := .later }
def PathsAddCardSaid : Prop := Claim7.holds Tryz.pinned (.plain (OpenSpec.ofChange pathsAddSpec)) pathsAddCard

/-- THE TIED CARD OF 'selfstablaw26.LeaderReaches'. -/
def leaderReachesCard : Claim7 := { stood := { row := leaderReachesRow, standIns := [], harness := (true, "7b24e671acdda2f601ec5668cd82b03cb3e07ee0e94f614fbd758b5cca224e20"), looks := true }, kinds := [], alts := [], laidByText := true, laidKinds := [.data], laidTests := true, laidLooks := .later }
def LeaderReachesCardSaid : Prop := Claim7.holds Tryz.pinned (.plain (OpenSpec.ofChange leaderReachesSpec)) leaderReachesCard

/-- THE TIED CARD OF 'selfstablaw26.LeaderRests'. -/
def leaderRestsCard : Claim7 := { stood := { row := leaderRestsRow, standIns := [], harness := (true, "7b24e671acdda2f601ec5668cd82b03cb3e07ee0e94f614fbd758b5cca224e20"), looks := true }, kinds := [], alts := [], laidByText := true, laidKinds := [.data], laidTests := true, laidLooks := .later }
def LeaderRestsCardSaid : Prop := Claim7.holds Tryz.pinned (.plain (OpenSpec.ofChange leaderRestsSpec)) leaderRestsCard

/-- THE TIED CARD OF 'selfstablaw23.BfsReaches'. -/
def bfsReachesCard : Claim7 := { stood := { row := bfsReachesRow, standIns := [], harness := (true, "7b24e671acdda2f601ec5668cd82b03cb3e07ee0e94f614fbd758b5cca224e20"), looks := true }, kinds := [], alts := [], laidByText := true, laidKinds := [.data], laidTests := true, laidLooks := .later }
def BfsReachesCardSaid : Prop := Claim7.holds Tryz.pinned (.plain (OpenSpec.ofChange bfsReachesSpec)) bfsReachesCard

/-- THE TIED CARD OF 'selfstablaw23.BfsRests'. -/
def bfsRestsCard : Claim7 := { stood := { row := bfsRestsRow, standIns := [], harness := (true, "7b24e671acdda2f601ec5668cd82b03cb3e07ee0e94f614fbd758b5cca224e20"), looks := true }, kinds := [], alts := [], laidByText := true, laidKinds := [.data], laidTests := true, laidLooks := .later }
def BfsRestsCardSaid : Prop := Claim7.holds Tryz.pinned (.plain (OpenSpec.ofChange bfsRestsSpec)) bfsRestsCard

/-- THE TIED CARD OF 'selfstablaw26.LeaderAnywhere'. -/
def leaderAnywhereCard : Claim7 := { stood := { row := leaderAnywhereRow, standIns := [], harness := (true, "7b24e671acdda2f601ec5668cd82b03cb3e07ee0e94f614fbd758b5cca224e20"), looks := true }, kinds := [], alts := [], laidByText := true, laidKinds := [.data], laidTests := true, laidLooks := .later }
def LeaderAnywhereCardSaid : Prop := Claim7.holds Tryz.pinned (.plain (OpenSpec.ofChange leaderAnywhereSpec)) leaderAnywhereCard

/-- THE SECOND FORM's CARD OF 'selfstablaw24.PathsRounds'. -/
def pathsRoundsUptoCard : Claim7 := { stood := { row := pathsRoundsUptoRow, standIns := [], harness := (true, "7b24e671acdda2f601ec5668cd82b03cb3e07ee0e94f614fbd758b5cca224e20"), looks := true }, kinds := [], alts := [], laidByText := true, laidKinds := [.data], laidTests := true, laidLooks := .later }
def PathsRoundsUptoCardSaid : Prop := Claim7.holds Tryz.pinned (.plain (OpenSpec.upto pathsRoundsSpec)) pathsRoundsUptoCard

/-- THE SECOND FORM's CARD OF 'selfstablaw24.PathsHops'. -/
def pathsHopsUptoCard : Claim7 := { stood := { row := pathsHopsUptoRow, standIns := [], harness := (true, "7b24e671acdda2f601ec5668cd82b03cb3e07ee0e94f614fbd758b5cca224e20"), looks := true }, kinds := [], alts := [], laidByText := true, laidKinds := [.data], laidTests := true, laidLooks := .later }
def PathsHopsUptoCardSaid : Prop := Claim7.holds Tryz.pinned (.plain (OpenSpec.upto pathsHopsSpec)) pathsHopsUptoCard

/-- THE SECOND FORM's CARD OF 'selfstablaw24.PathsRests'. -/
def pathsRestsUptoCard : Claim7 := { stood := { row := pathsRestsUptoRow, standIns := [], harness := (true, "7b24e671acdda2f601ec5668cd82b03cb3e07ee0e94f614fbd758b5cca224e20"), looks := true }, kinds := [], alts := [], laidByText := true, laidKinds := [.data], laidTests := true, laidLooks := .later }
def PathsRestsUptoCardSaid : Prop := Claim7.holds Tryz.pinned (.plain (OpenSpec.upto pathsRestsSpec)) pathsRestsUptoCard

/-- THE SECOND FORM's CARD OF 'selfstablaw26.LeaderReal'. -/
def leaderRealUptoCard : Claim7 := { stood := { row := leaderRealUptoRow, standIns := [], harness := (true, "7b24e671acdda2f601ec5668cd82b03cb3e07ee0e94f614fbd758b5cca224e20"), looks := true }, kinds := [], alts := [], laidByText := true, laidKinds := [.data], laidTests := true, laidLooks := .later }
def LeaderRealUptoCardSaid : Prop := Claim7.holds Tryz.pinned (.plain (OpenSpec.upto leaderRealSpec)) leaderRealUptoCard

/-- THE SECOND FORM's CARD OF 'selfstablaw23.BfsRounds'. -/
def bfsRoundsUptoCard : Claim7 := { stood := { row := bfsRoundsUptoRow, standIns := [], harness := (true, "7b24e671acdda2f601ec5668cd82b03cb3e07ee0e94f614fbd758b5cca224e20"), looks := true }, kinds := [], alts := [], laidByText := true, laidKinds := [.data], laidTests := true, laidLooks := .later }
def BfsRoundsUptoCardSaid : Prop := Claim7.holds Tryz.pinned (.plain (OpenSpec.upto bfsRoundsSpec)) bfsRoundsUptoCard

/-- THE SECOND FORM's CARD OF 'selfstablaw23.BfsWays'. -/
def bfsWaysUptoCard : Claim7 := { stood := { row := bfsWaysUptoRow, standIns := [], harness := (true, "7b24e671acdda2f601ec5668cd82b03cb3e07ee0e94f614fbd758b5cca224e20"), looks := true }, kinds := [], alts := [], laidByText := true, laidKinds := [.data], laidTests := true, laidLooks := .later }
def BfsWaysUptoCardSaid : Prop := Claim7.holds Tryz.pinned (.plain (OpenSpec.upto bfsWaysSpec)) bfsWaysUptoCard

/-- THE SECOND FORM's CARD OF 'selfstablaw24.PathsAdd'. -/
def pathsAddUptoCard : Claim7 := { stood := { row := pathsAddUptoRow, standIns := [], harness := (true, "7b24e671acdda2f601ec5668cd82b03cb3e07ee0e94f614fbd758b5cca224e20"), looks := true }, kinds := [], alts := [], laidByText := true, laidKinds := [.data], laidTests := true, laidLooks := .later }
def PathsAddUptoCardSaid : Prop := Claim7.holds Tryz.pinned (.plain (OpenSpec.upto pathsAddSpec)) pathsAddUptoCard

/-- THE SECOND FORM's CARD OF 'selfstablaw26.LeaderReaches'. -/
def leaderReachesUptoCard : Claim7 := { stood := { row := leaderReachesUptoRow, standIns := [], harness := (true, "7b24e671acdda2f601ec5668cd82b03cb3e07ee0e94f614fbd758b5cca224e20"), looks := true }, kinds := [], alts := [], laidByText := true, laidKinds := [.data], laidTests := true, laidLooks := .later }
def LeaderReachesUptoCardSaid : Prop := Claim7.holds Tryz.pinned (.plain (OpenSpec.upto leaderReachesSpec)) leaderReachesUptoCard

/-- THE SECOND FORM's CARD OF 'selfstablaw26.LeaderRests'. -/
def leaderRestsUptoCard : Claim7 := { stood := { row := leaderRestsUptoRow, standIns := [], harness := (true, "7b24e671acdda2f601ec5668cd82b03cb3e07ee0e94f614fbd758b5cca224e20"), looks := true }, kinds := [], alts := [], laidByText := true, laidKinds := [.data], laidTests := true, laidLooks := .later }
def LeaderRestsUptoCardSaid : Prop := Claim7.holds Tryz.pinned (.plain (OpenSpec.upto leaderRestsSpec)) leaderRestsUptoCard

/-- THE SECOND FORM's CARD OF 'selfstablaw23.BfsReaches'. -/
def bfsReachesUptoCard : Claim7 := { stood := { row := bfsReachesUptoRow, standIns := [], harness := (true, "7b24e671acdda2f601ec5668cd82b03cb3e07ee0e94f614fbd758b5cca224e20"), looks := true }, kinds := [], alts := [], laidByText := true, laidKinds := [.data], laidTests := true, laidLooks := .later }
def BfsReachesUptoCardSaid : Prop := Claim7.holds Tryz.pinned (.plain (OpenSpec.upto bfsReachesSpec)) bfsReachesUptoCard

/-- THE SECOND FORM's CARD OF 'selfstablaw23.BfsRests'. -/
def bfsRestsUptoCard : Claim7 := { stood := { row := bfsRestsUptoRow, standIns := [], harness := (true, "7b24e671acdda2f601ec5668cd82b03cb3e07ee0e94f614fbd758b5cca224e20"), looks := true }, kinds := [], alts := [], laidByText := true, laidKinds := [.data], laidTests := true, laidLooks := .later }
def BfsRestsUptoCardSaid : Prop := Claim7.holds Tryz.pinned (.plain (OpenSpec.upto bfsRestsSpec)) bfsRestsUptoCard

/-- THE SECOND FORM's CARD OF 'selfstablaw26.LeaderAnywhere'. -/
def leaderAnywhereUptoCard : Claim7 := { stood := { row := leaderAnywhereUptoRow, standIns := [], harness := (true, "7b24e671acdda2f601ec5668cd82b03cb3e07ee0e94f614fbd758b5cca224e20"), looks := true }, kinds := [], alts := [], laidByText := true, laidKinds := [.data], laidTests := true, laidLooks := .later }
def LeaderAnywhereUptoCardSaid : Prop := Claim7.holds Tryz.pinned (.plain (OpenSpec.upto leaderAnywhereSpec)) leaderAnywhereUptoCard
end Rows
end Go.Proofs.YtpngeppkgoaimaaGreatDoor
