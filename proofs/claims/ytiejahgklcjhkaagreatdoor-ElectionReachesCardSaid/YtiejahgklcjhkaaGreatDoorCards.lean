/-
  DERIVED. GIVEN WITH THE SEED: THE CARDS: each row of YtiejahgklcjhkaaGreatDoorRows.lean that lists a variable, with what it lists TIED to the program's text (the seventh form; the later family's looks); each row that meets fmt, with fmt's text TOLD by the authors' own Lean function (tested against real Go, not proved from fmt's source: count such statements apart). THE CARD IS WHAT COUNTS. Prove the row's statement (the work); the ties are given (YtiejahgklcjhkaaGreatDoorTie.lean); close each card by the builder's one call (the guide's Derived/Test/ToyasCard.lean, 'card_holds'). Laid BY PROGRAM, IN A SANDBOX (cutbox-door.mjs). By AI agents, Wed Nov 11 2026. No macro, syntax, notation, axiom, sorry.
-/
import Derived.Test.YtiejahgklcjhkaaGreatDoorRows
import GoSem.ClaimSeven
namespace Go.Proofs.YtiejahgklcjhkaaGreatDoor
namespace Rows

/-- THE TIED CARD OF 'selfstablaw27.CenterMiddle'. -/
def centerMiddleCard : Claim7 := { stood := { row := centerMiddleRow, standIns := [], harness := (true, "e41ca96c6682f67e93f303e03b9a86f7a25f74cfb795909474700fd80487605a"), looks := true }, kinds := [], alts := [], laidByText := true, laidKinds := [.data], laidTests := true, laidLooks := .later }
def CenterMiddleCardSaid : Prop := Claim7.holds Tryz.pinned (.plain (OpenSpec.ofChange centerMiddleSpec)) centerMiddleCard

/-- THE TIED CARD OF 'selfstablaw27.CenterRounds'. -/
def centerRoundsCard : Claim7 := { stood := { row := centerRoundsRow, standIns := [], harness := (true, "e41ca96c6682f67e93f303e03b9a86f7a25f74cfb795909474700fd80487605a"), looks := true }, kinds := [], alts := [], laidByText := true, laidKinds := [.data], laidTests := true, laidLooks := .later }
def CenterRoundsCardSaid : Prop := Claim7.holds Tryz.pinned (.plain (OpenSpec.ofChange centerRoundsSpec)) centerRoundsCard

/-- THE TIED CARD OF 'selfstablaw27.CenterReaches'. -/
def centerReachesCard : Claim7 := { stood := { row := centerReachesRow, standIns := [], harness := (true, "e41ca96c6682f67e93f303e03b9a86f7a25f74cfb795909474700fd80487605a"), looks := true }, kinds := [], alts := [], laidByText := true, laidKinds := [.data], laidTests := true, laidLooks := .later }
def CenterReachesCardSaid : Prop := Claim7.holds Tryz.pinned (.plain (OpenSpec.ofChange centerReachesSpec)) centerReachesCard

/-- THE TIED CARD OF 'selfstablaw27.CenterRests'. -/
def centerRestsCard : Claim7 := { stood := { row := centerRestsRow, standIns := [], harness := (true, "e41ca96c6682f67e93f303e03b9a86f7a25f74cfb795909474700fd80487605a"), looks := true }, kinds := [], alts := [], laidByText := true, laidKinds := [.data], laidTests := true, laidLooks := .later }
def CenterRestsCardSaid : Prop := Claim7.holds Tryz.pinned (.plain (OpenSpec.ofChange centerRestsSpec)) centerRestsCard

/-- THE TIED CARD OF 'selfstablaw27.CenterAnonymous'. -/
def centerAnonymousCard : Claim7 := { stood := { row := centerAnonymousRow, standIns := [], harness := (true, "e41ca96c6682f67e93f303e03b9a86f7a25f74cfb795909474700fd80487605a"), looks := true }, kinds := [], alts := [], laidByText := true, laidKinds := [.data], laidTests := true, laidLooks := .later }
def CenterAnonymousCardSaid : Prop := Claim7.holds Tryz.pinned (.plain (OpenSpec.ofChange centerAnonymousSpec)) centerAnonymousCard

/-- THE TIED CARD OF 'selfstablaw28.ElectionReaches'. -/
def electionReachesCard : Claim7 := { stood := { row := electionReachesRow, standIns := [], harness := (true, "e41ca96c6682f67e93f303e03b9a86f7a25f74cfb795909474700fd80487605a"), looks := true }, kinds := [], alts := [], laidByText := true, laidKinds := [.data], laidTests := true, laidLooks := .later }
def ElectionReachesCardSaid : Prop := Claim7.holds Tryz.pinned (.plain (OpenSpec.ofChange electionReachesSpec)) electionReachesCard

/-- THE TIED CARD OF 'selfstablaw28.ElectionRests'. -/
def electionRestsCard : Claim7 := { stood := { row := electionRestsRow, standIns := [], harness := (true, "e41ca96c6682f67e93f303e03b9a86f7a25f74cfb795909474700fd80487605a"), looks := true }, kinds := [], alts := [], laidByText := true, laidKinds := [.data], laidTests := true, laidLooks := .later }
def ElectionRestsCardSaid : Prop := Claim7.holds Tryz.pinned (.plain (OpenSpec.ofChange electionRestsSpec)) electionRestsCard

/-- THE TIED CARD OF 'selfstablaw28.ElectionCentre'. -/
def electionCentreCard : Claim7 := { stood := { row := electionCentreRow, standIns := [], harness := (true, "e41ca96c6682f67e93f303e03b9a86f7a25f74cfb795909474700fd80487605a"), looks := true }, kinds := [], alts := [], laidByText := true, laidKinds := [.data], laidTests := true, laidLooks := .later }
def ElectionCentreCardSaid : Prop := Claim7.holds Tryz.pinned (.plain (OpenSpec.ofChange electionCentreSpec)) electionCentreCard

/-- THE TIED CARD OF 'selfstablaw28.ElectionTogether'. -/
def electionTogetherCard : Claim7 := { stood := { row := electionTogetherRow, standIns := [], harness := (true, "e41ca96c6682f67e93f303e03b9a86f7a25f74cfb795909474700fd80487605a"), looks := true }, kinds := [], alts := [], laidByText := true, laidKinds := [.data], laidTests := true, laidLooks := .later }
def ElectionTogetherCardSaid : Prop := Claim7.holds Tryz.pinned (.plain (OpenSpec.ofChange electionTogetherSpec)) electionTogetherCard

/-- THE TIED CARD OF 'selfstablaw32.ColouringShrinks'. -/
def colouringShrinksCard : Claim7 := { stood := { row := colouringShrinksRow, standIns := [], harness := (true, "e41ca96c6682f67e93f303e03b9a86f7a25f74cfb795909474700fd80487605a"), looks := true }, kinds := [], alts := [], laidByText := true, laidKinds := [.data], laidTests := true, laidLooks := .later }
def ColouringShrinksCardSaid : Prop := Claim7.holds Tryz.pinned (.plain (OpenSpec.ofChange colouringShrinksSpec)) colouringShrinksCard

/-- THE TIED CARD OF 'selfstablaw32.ColouringReaches'. -/
def colouringReachesCard : Claim7 := { stood := { row := colouringReachesRow, standIns := [], harness := (true, "e41ca96c6682f67e93f303e03b9a86f7a25f74cfb795909474700fd80487605a"), looks := true }, kinds := [], alts := [], laidByText := true, laidKinds := [.data], laidTests := true, laidLooks := .later }
def ColouringReachesCardSaid : Prop := Claim7.holds Tryz.pinned (.plain (OpenSpec.ofChange colouringReachesSpec)) colouringReachesCard

/-- THE TIED CARD OF 'selfstablaw32.ColouringRests'. -/
def colouringRestsCard : Claim7 := { stood := { row := colouringRestsRow, standIns := [], harness := (true, "e41ca96c6682f67e93f303e03b9a86f7a25f74cfb795909474700fd80487605a"), looks := true }, kinds := [], alts := [], laidByText := true, laidKinds := [.data], laidTests := true, laidLooks := .later }
def ColouringRestsCardSaid : Prop := Claim7.holds Tryz.pinned (.plain (OpenSpec.ofChange colouringRestsSpec)) colouringRestsCard

/-- THE TIED CARD OF 'selfstablaw30.MatchingMaximal'. -/
def matchingMaximalCard : Claim7 := { stood := { row := matchingMaximalRow, standIns := [], harness := (true, "e41ca96c6682f67e93f303e03b9a86f7a25f74cfb795909474700fd80487605a"), looks := true }, kinds := [], alts := [], laidByText := true, laidKinds := [.data], laidTests := true, laidLooks := .later }
def MatchingMaximalCardSaid : Prop := Claim7.holds Tryz.pinned (.plain (OpenSpec.ofChange matchingMaximalSpec)) matchingMaximalCard

/-- THE TIED CARD OF 'selfstablaw30.MatchingStays'. -/
def matchingStaysCard : Claim7 := { stood := { row := matchingStaysRow, standIns := [], harness := (true, "e41ca96c6682f67e93f303e03b9a86f7a25f74cfb795909474700fd80487605a"), looks := true }, kinds := [], alts := [], laidByText := true, laidKinds := [.data], laidTests := true, laidLooks := .later }
def MatchingStaysCardSaid : Prop := Claim7.holds Tryz.pinned (.plain (OpenSpec.ofChange matchingStaysSpec)) matchingStaysCard

/-- THE TIED CARD OF 'selfstablaw30.MatchingTogether'. -/
def matchingTogetherCard : Claim7 := { stood := { row := matchingTogetherRow, standIns := [], harness := (true, "e41ca96c6682f67e93f303e03b9a86f7a25f74cfb795909474700fd80487605a"), looks := true }, kinds := [], alts := [], laidByText := true, laidKinds := [.data], laidTests := true, laidLooks := .later }
def MatchingTogetherCardSaid : Prop := Claim7.holds Tryz.pinned (.plain (OpenSpec.ofChange matchingTogetherSpec)) matchingTogetherCard

/-- THE TIED CARD OF 'selfstablaw30.MatchingReaches'. -/
def matchingReachesCard : Claim7 := { stood := { row := matchingReachesRow, standIns := [], harness := (true, "e41ca96c6682f67e93f303e03b9a86f7a25f74cfb795909474700fd80487605a"), looks := true }, kinds := [], alts := [], laidByText := true, laidKinds := [.data], laidTests := true, laidLooks := .later }
def MatchingReachesCardSaid : Prop := Claim7.holds Tryz.pinned (.plain (OpenSpec.ofChange matchingReachesSpec)) matchingReachesCard

/-- THE TIED CARD OF 'selfstablaw30.MatchingRests'. -/
def matchingRestsCard : Claim7 := { stood := { row := matchingRestsRow, standIns := [], harness := (true, "e41ca96c6682f67e93f303e03b9a86f7a25f74cfb795909474700fd80487605a"), looks := true }, kinds := [], alts := [], laidByText := true, laidKinds := [.data], laidTests := true, laidLooks := .later }
def MatchingRestsCardSaid : Prop := Claim7.holds Tryz.pinned (.plain (OpenSpec.ofChange matchingRestsSpec)) matchingRestsCard

/-- THE TIED CARD OF 'selfstablaw26.LeaderAnywhere'. -/
def leaderAnywhereCard : Claim7 := { stood := { row := leaderAnywhereRow, standIns := [], harness := (true, "e41ca96c6682f67e93f303e03b9a86f7a25f74cfb795909474700fd80487605a"), looks := true }, kinds := [], alts := [], laidByText := true, laidKinds := [.data], laidTests := true, laidLooks := .later }
def LeaderAnywhereCardSaid : Prop := Claim7.holds Tryz.pinned (.plain (OpenSpec.ofChange leaderAnywhereSpec)) leaderAnywhereCard

/-- THE SECOND FORM's CARD OF 'selfstablaw27.CenterMiddle'. -/
def centerMiddleUptoCard : Claim7 := { stood := { row := centerMiddleUptoRow, standIns := [], harness := (true, "e41ca96c6682f67e93f303e03b9a86f7a25f74cfb795909474700fd80487605a"), looks := true }, kinds := [], alts := [], laidByText := true, laidKinds := [.data], laidTests := true, laidLooks := .later }
def CenterMiddleUptoCardSaid : Prop := Claim7.holds Tryz.pinned (.plain (OpenSpec.upto centerMiddleSpec)) centerMiddleUptoCard

/-- THE SECOND FORM's CARD OF 'selfstablaw27.CenterRounds'. -/
def centerRoundsUptoCard : Claim7 := { stood := { row := centerRoundsUptoRow, standIns := [], harness := (true, "e41ca96c6682f67e93f303e03b9a86f7a25f74cfb795909474700fd80487605a"), looks := true }, kinds := [], alts := [], laidByText := true, laidKinds := [.data], laidTests := true, laidLooks := .later }
def CenterRoundsUptoCardSaid : Prop := Claim7.holds Tryz.pinned (.plain (OpenSpec.upto centerRoundsSpec)) centerRoundsUptoCard

/-- THE SECOND FORM's CARD OF 'selfstablaw27.CenterReaches'. -/
def centerReachesUptoCard : Claim7 := { stood := { row := centerReachesUptoRow, standIns := [], harness := (true, "e41ca96c6682f67e93f303e03b9a86f7a25f74cfb795909474700fd80487605a"), looks := true }, kinds := [], alts := [], laidByText := true, laidKinds := [.data], laidTests := true, laidLooks := .later }
def CenterReachesUptoCardSaid : Prop := Claim7.holds Tryz.pinned (.plain (OpenSpec.upto centerReachesSpec)) centerReachesUptoCard

/-- THE SECOND FORM's CARD OF 'selfstablaw27.CenterRests'. -/
def centerRestsUptoCard : Claim7 := { stood := { row := centerRestsUptoRow, standIns := [], harness := (true, "e41ca96c6682f67e93f303e03b9a86f7a25f74cfb795909474700fd80487605a"), looks := true }, kinds := [], alts := [], laidByText := true, laidKinds := [.data], laidTests := true, laidLooks := .later }
def CenterRestsUptoCardSaid : Prop := Claim7.holds Tryz.pinned (.plain (OpenSpec.upto centerRestsSpec)) centerRestsUptoCard

/-- THE SECOND FORM's CARD OF 'selfstablaw27.CenterAnonymous'. -/
def centerAnonymousUptoCard : Claim7 := { stood := { row := centerAnonymousUptoRow, standIns := [], harness := (true, "e41ca96c6682f67e93f303e03b9a86f7a25f74cfb795909474700fd80487605a"), looks := true }, kinds := [], alts := [], laidByText := true, laidKinds := [.data], laidTests := true, laidLooks := .later }
def CenterAnonymousUptoCardSaid : Prop := Claim7.holds Tryz.pinned (.plain (OpenSpec.upto centerAnonymousSpec)) centerAnonymousUptoCard

/-- THE SECOND FORM's CARD OF 'selfstablaw28.ElectionReaches'. -/
def electionReachesUptoCard : Claim7 := { stood := { row := electionReachesUptoRow, standIns := [], harness := (true, "e41ca96c6682f67e93f303e03b9a86f7a25f74cfb795909474700fd80487605a"), looks := true }, kinds := [], alts := [], laidByText := true, laidKinds := [.data], laidTests := true, laidLooks := .later }
def ElectionReachesUptoCardSaid : Prop := Claim7.holds Tryz.pinned (.plain (OpenSpec.upto electionReachesSpec)) electionReachesUptoCard

/-- THE SECOND FORM's CARD OF 'selfstablaw28.ElectionRests'. -/
def electionRestsUptoCard : Claim7 := { stood := { row := electionRestsUptoRow, standIns := [], harness := (true, "e41ca96c6682f67e93f303e03b9a86f7a25f74cfb795909474700fd80487605a"), looks := true }, kinds := [], alts := [], laidByText := true, laidKinds := [.data], laidTests := true, laidLooks := .later }
def ElectionRestsUptoCardSaid : Prop := Claim7.holds Tryz.pinned (.plain (OpenSpec.upto electionRestsSpec)) electionRestsUptoCard

/-- THE SECOND FORM's CARD OF 'selfstablaw28.ElectionCentre'. -/
def electionCentreUptoCard : Claim7 := { stood := { row := electionCentreUptoRow, standIns := [], harness := (true, "e41ca96c6682f67e93f303e03b9a86f7a25f74cfb795909474700fd80487605a"), looks := true }, kinds := [], alts := [], laidByText := true, laidKinds := [.data], laidTests := true, laidLooks := .later }
def ElectionCentreUptoCardSaid : Prop := Claim7.holds Tryz.pinned (.plain (OpenSpec.upto electionCentreSpec)) electionCentreUptoCard

/-- THE SECOND FORM's CARD OF 'selfstablaw28.ElectionTogether'. -/
def electionTogetherUptoCard : Claim7 := { stood := { row := electionTogetherUptoRow, standIns := [], harness := (true, "e41ca96c6682f67e93f303e03b9a86f7a25f74cfb795909474700fd80487605a"), looks := true }, kinds := [], alts := [], laidByText := true, laidKinds := [.data], laidTests := true, laidLooks := .later }
def ElectionTogetherUptoCardSaid : Prop := Claim7.holds Tryz.pinned (.plain (OpenSpec.upto electionTogetherSpec)) electionTogetherUptoCard

/-- THE SECOND FORM's CARD OF 'selfstablaw32.ColouringShrinks'. -/
def colouringShrinksUptoCard : Claim7 := { stood := { row := colouringShrinksUptoRow, standIns := [], harness := (true, "e41ca96c6682f67e93f303e03b9a86f7a25f74cfb795909474700fd80487605a"), looks := true }, kinds := [], alts := [], laidByText := true, laidKinds := [.data], laidTests := true, laidLooks := .later }
def ColouringShrinksUptoCardSaid : Prop := Claim7.holds Tryz.pinned (.plain (OpenSpec.upto colouringShrinksSpec)) colouringShrinksUptoCard

/-- THE SECOND FORM's CARD OF 'selfstablaw32.ColouringReaches'. -/
def colouringReachesUptoCard : Claim7 := { stood := { row := colouringReachesUptoRow, standIns := [], harness := (true, "e41ca96c6682f67e93f303e03b9a86f7a25f74cfb795909474700fd80487605a"), looks := true }, kinds := [], alts := [], laidByText := true, laidKinds := [.data], laidTests := true, laidLooks := .later }
def ColouringReachesUptoCardSaid : Prop := Claim7.holds Tryz.pinned (.plain (OpenSpec.upto colouringReachesSpec)) colouringReachesUptoCard

/-- THE SECOND FORM's CARD OF 'selfstablaw32.ColouringRests'. -/
def colouringRestsUptoCard : Claim7 := { stood := { row := colouringRestsUptoRow, standIns := [], harness := (true, "e41ca96c6682f67e93f303e03b9a86f7a25f74cfb795909474700fd80487605a"), looks := true }, kinds := [], alts := [], laidByText := true, laidKinds := [.data], laidTests := true, laidLooks := .later }
def ColouringRestsUptoCardSaid : Prop := Claim7.holds Tryz.pinned (.plain (OpenSpec.upto colouringRestsSpec)) colouringRestsUptoCard

/-- THE SECOND FORM's CARD OF 'selfstablaw30.MatchingMaximal'. -/
def matchingMaximalUptoCard : Claim7 := { stood := { row := matchingMaximalUptoRow, standIns := [], harness := (true, "e41ca96c6682f67e93f303e03b9a86f7a25f74cfb795909474700fd80487605a"), looks := true }, kinds := [], alts := [], laidByText := true, laidKinds := [.data], laidTests := true, laidLooks := .later }
def MatchingMaximalUptoCardSaid : Prop := Claim7.holds Tryz.pinned (.plain (OpenSpec.upto matchingMaximalSpec)) matchingMaximalUptoCard

/-- THE SECOND FORM's CARD OF 'selfstablaw30.MatchingStays'. -/
def matchingStaysUptoCard : Claim7 := { stood := { row := matchingStaysUptoRow, standIns := [], harness := (true, "e41ca96c6682f67e93f303e03b9a86f7a25f74cfb795909474700fd80487605a"), looks := true }, kinds := [], alts := [], laidByText := true, laidKinds := [.data], laidTests := true, laidLooks := .later }
def MatchingStaysUptoCardSaid : Prop := Claim7.holds Tryz.pinned (.plain (OpenSpec.upto matchingStaysSpec)) matchingStaysUptoCard

/-- THE SECOND FORM's CARD OF 'selfstablaw30.MatchingTogether'. -/
def matchingTogetherUptoCard : Claim7 := { stood := { row := matchingTogetherUptoRow, standIns := [], harness := (true, "e41ca96c6682f67e93f303e03b9a86f7a25f74cfb795909474700fd80487605a"), looks := true }, kinds := [], alts := [], laidByText := true, laidKinds := [.data], laidTests := true, laidLooks := .later }
def MatchingTogetherUptoCardSaid : Prop := Claim7.holds Tryz.pinned (.plain (OpenSpec.upto matchingTogetherSpec)) matchingTogetherUptoCard

/-- THE SECOND FORM's CARD OF 'selfstablaw30.MatchingReaches'. -/
def matchingReachesUptoCard : Claim7 := { stood := { row := matchingReachesUptoRow, standIns := [], harness := (true, "e41ca96c6682f67e93f303e03b9a86f7a25f74cfb795909474700fd80487605a"), looks := true }, kinds := [], alts := [], laidByText := true, laidKinds := [.data], laidTests := true, laidLooks := .later }
def MatchingReachesUptoCardSaid : Prop := Claim7.holds Tryz.pinned (.plain (OpenSpec.upto matchingReachesSpec)) matchingReachesUptoCard

/-- THE SECOND FORM's CARD OF 'selfstablaw30.MatchingRests'. -/
def matchingRestsUptoCard : Claim7 := { stood := { row := matchingRestsUptoRow, standIns := [], harness := (true, "e41ca96c6682f67e93f303e03b9a86f7a25f74cfb795909474700fd80487605a"), looks := true }, kinds := [], alts := [], laidByText := true, laidKinds := [.data], laidTests := true, laidLooks := .later }
def MatchingRestsUptoCardSaid : Prop := Claim7.holds Tryz.pinned (.plain (OpenSpec.upto matchingRestsSpec)) matchingRestsUptoCard

/-- THE SECOND FORM's CARD OF 'selfstablaw26.LeaderAnywhere'. -/
def leaderAnywhereUptoCard : Claim7 := { stood := { row := leaderAnywhereUptoRow, standIns := [], harness := (true, "e41ca96c6682f67e93f303e03b9a86f7a25f74cfb795909474700fd80487605a"), looks := true }, kinds := [], alts := [], laidByText := true, laidKinds := [.data], laidTests := true, laidLooks := .later }
def LeaderAnywhereUptoCardSaid : Prop := Claim7.holds Tryz.pinned (.plain (OpenSpec.upto leaderAnywhereSpec)) leaderAnywhereUptoCard
end Rows
end Go.Proofs.YtiejahgklcjhkaaGreatDoor
