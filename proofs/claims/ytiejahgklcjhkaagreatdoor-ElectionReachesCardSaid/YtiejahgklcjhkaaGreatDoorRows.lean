/-
  NARROWER THAN 'FOR EVERY INPUT', by the rows' own cells (each row's printed sentence says how): CenterMiddle: laid · CenterRounds: laid · CenterReaches: laid · CenterRests: laid · CenterAnonymous: laid · ElectionReaches: laid · ElectionRests: laid · ElectionCentre: laid · ElectionTogether: laid · ColouringShrinks: laid · ColouringReaches: laid · ColouringRests: laid · MatchingMaximal: laid · MatchingStays: laid · MatchingTogether: laid · MatchingReaches: laid · MatchingRests: laid · LeaderAnywhere: laid.
  DERIVED. THE GIVEN ROWS OF THIS SEAT. 18 by the template 'for every input the law returns true; each argument reads behind the call as it read before'; 0 by the template 'total and deterministic' (their statements: YtiejahgklcjhkaaGreatDoorTotals.lean).
  GIVEN WITH THE SEED: the statements are not yours to turn. If you find one false, say at which input.
  Laid BY PROGRAM, IN A SANDBOX (cutbox-rows.mjs): the forced cells as the released guide's own fill.sh prints them over the translation 468c39a4ca4b8119… (all of the seat's roots in one cut). By AI agents, Wed Nov 11 2026. No macro, syntax, notation, axiom, sorry.
-/
import Derived.Test.YtiejahgklcjhkaaGreatDoorChecked
import GoSem.Claim
import GoSem.ClaimJoined
import GoSem.ClaimMapViews
import Derived.JoinedTies
import Derived.KernelRfl
namespace Go.Proofs.YtiejahgklcjhkaaGreatDoor
/- THE CELL 'sum', in the pinned program and in every row, IS THE sha256 OF THE DUMP (.gsa) THAT YtiejahgklcjhkaaGreatDoorProg.lean LOADS. Nothing in Lean hashes anything: it is a label: what it is worth is what the hold of that sum in a sandbox is worth. -/
noncomputable def Tryz.pinned : Pinned := { name := "ytiejahgklcjhkaagreatdoor", sum := "468c39a4ca4b81192846eb440f1d22441517cbb4ddb1d6bdd65d6b4a4be45d5d", checked := Tryz.checked }
namespace Rows
def none {H : Type} : Left H := { results := [], args := [] }

/- WHAT THE LISTED PACKAGE-LEVEL VARIABLES READ AS WHEN THE CALL BEGINS. Each datum BY PROGRAM (the guide's laid-datum.mjs) off the statement by which the dump's own 'gosem.cut.vars' lays the variable. In a bare row this is a premise. The card (YtiejahgklcjhkaaGreatDoorCards.lean) ties it to the program's text. -/
def laid_math_bits_deBruijn32tab {H : Type} : DataW H := .agg [.lit (.int .u8 0), .lit (.int .u8 1), .lit (.int .u8 28), .lit (.int .u8 2), .lit (.int .u8 29), .lit (.int .u8 14), .lit (.int .u8 24), .lit (.int .u8 3), .lit (.int .u8 30), .lit (.int .u8 22), .lit (.int .u8 20), .lit (.int .u8 15), .lit (.int .u8 25), .lit (.int .u8 17), .lit (.int .u8 4), .lit (.int .u8 8), .lit (.int .u8 31), .lit (.int .u8 27), .lit (.int .u8 13), .lit (.int .u8 23), .lit (.int .u8 21), .lit (.int .u8 19), .lit (.int .u8 16), .lit (.int .u8 7), .lit (.int .u8 26), .lit (.int .u8 12), .lit (.int .u8 18), .lit (.int .u8 6), .lit (.int .u8 11), .lit (.int .u8 5), .lit (.int .u8 10), .lit (.int .u8 9)]

/-- 'selfstablaw27.CenterMiddle': WHATEVER THE INPUT: true; the input reads as it did. -/
def centerMiddleSpec : ChangeSpec := { name := "centerMiddle", fn := fun _ => fun
  | [d1, d2] => { results := [.lit (.bool true)], args := [d1, d2] }
  | _ => none }
def centerMiddleRow : OpenClaim := { program := "ytiejahgklcjhkaagreatdoor", sum := "468c39a4ca4b81192846eb440f1d22441517cbb4ddb1d6bdd65d6b4a4be45d5d", func := "selfstab/selfstablaw27.CenterMiddle", spec := "centerMiddle", inPlace := ["internal/bytealg.IndexByteString"], unfollowed := true, recurses := true, named := ["math/bits.deBruijn32tab"], plainKeys := false, apart := false, laid := [("math/bits.deBruijn32tab", laid_math_bits_deBruijn32tab)] }
def CenterMiddleSaid : Prop := centerMiddleRow.holds Tryz.pinned (OpenSpec.ofChange centerMiddleSpec)

/-- ITS FALSE NEIGHBOUR: 'it returns false'. Refute it at one input. -/
def centerMiddleWrong : ChangeSpec := { name := "centerMiddle", fn := fun _ => fun
  | [d1, d2] => { results := [.lit (.bool false)], args := [d1, d2] }
  | _ => none }
def CenterMiddleWrongFalsely : Prop := centerMiddleRow.holds Tryz.pinned (OpenSpec.ofChange centerMiddleWrong)

/-- 'selfstablaw27.CenterRounds': WHATEVER THE INPUT: true; the input reads as it did. -/
def centerRoundsSpec : ChangeSpec := { name := "centerRounds", fn := fun _ => fun
  | [d1, d2, d3] => { results := [.lit (.bool true)], args := [d1, d2, d3] }
  | _ => none }
def centerRoundsRow : OpenClaim := { program := "ytiejahgklcjhkaagreatdoor", sum := "468c39a4ca4b81192846eb440f1d22441517cbb4ddb1d6bdd65d6b4a4be45d5d", func := "selfstab/selfstablaw27.CenterRounds", spec := "centerRounds", inPlace := ["internal/bytealg.IndexByteString"], unfollowed := true, recurses := true, named := ["math/bits.deBruijn32tab"], plainKeys := false, apart := false, laid := [("math/bits.deBruijn32tab", laid_math_bits_deBruijn32tab)] }
def CenterRoundsSaid : Prop := centerRoundsRow.holds Tryz.pinned (OpenSpec.ofChange centerRoundsSpec)

/-- ITS FALSE NEIGHBOUR: 'it returns false'. Refute it at one input. -/
def centerRoundsWrong : ChangeSpec := { name := "centerRounds", fn := fun _ => fun
  | [d1, d2, d3] => { results := [.lit (.bool false)], args := [d1, d2, d3] }
  | _ => none }
def CenterRoundsWrongFalsely : Prop := centerRoundsRow.holds Tryz.pinned (OpenSpec.ofChange centerRoundsWrong)

/-- 'selfstablaw27.CenterReaches': WHATEVER THE INPUT: true; the input reads as it did. -/
def centerReachesSpec : ChangeSpec := { name := "centerReaches", fn := fun _ => fun
  | [d1, d2, d3] => { results := [.lit (.bool true)], args := [d1, d2, d3] }
  | _ => none }
def centerReachesRow : OpenClaim := { program := "ytiejahgklcjhkaagreatdoor", sum := "468c39a4ca4b81192846eb440f1d22441517cbb4ddb1d6bdd65d6b4a4be45d5d", func := "selfstab/selfstablaw27.CenterReaches", spec := "centerReaches", inPlace := ["internal/bytealg.IndexByteString"], unfollowed := true, recurses := true, named := ["math/bits.deBruijn32tab"], plainKeys := false, apart := false, laid := [("math/bits.deBruijn32tab", laid_math_bits_deBruijn32tab)] }
def CenterReachesSaid : Prop := centerReachesRow.holds Tryz.pinned (OpenSpec.ofChange centerReachesSpec)

/-- ITS FALSE NEIGHBOUR: 'it returns false'. Refute it at one input. -/
def centerReachesWrong : ChangeSpec := { name := "centerReaches", fn := fun _ => fun
  | [d1, d2, d3] => { results := [.lit (.bool false)], args := [d1, d2, d3] }
  | _ => none }
def CenterReachesWrongFalsely : Prop := centerReachesRow.holds Tryz.pinned (OpenSpec.ofChange centerReachesWrong)

/-- 'selfstablaw27.CenterRests': WHATEVER THE INPUT: true; the input reads as it did. -/
def centerRestsSpec : ChangeSpec := { name := "centerRests", fn := fun _ => fun
  | [d1, d2, d3] => { results := [.lit (.bool true)], args := [d1, d2, d3] }
  | _ => none }
def centerRestsRow : OpenClaim := { program := "ytiejahgklcjhkaagreatdoor", sum := "468c39a4ca4b81192846eb440f1d22441517cbb4ddb1d6bdd65d6b4a4be45d5d", func := "selfstab/selfstablaw27.CenterRests", spec := "centerRests", inPlace := ["internal/bytealg.IndexByteString"], unfollowed := true, recurses := true, named := ["math/bits.deBruijn32tab"], plainKeys := false, apart := false, laid := [("math/bits.deBruijn32tab", laid_math_bits_deBruijn32tab)] }
def CenterRestsSaid : Prop := centerRestsRow.holds Tryz.pinned (OpenSpec.ofChange centerRestsSpec)

/-- ITS FALSE NEIGHBOUR: 'it returns false'. Refute it at one input. -/
def centerRestsWrong : ChangeSpec := { name := "centerRests", fn := fun _ => fun
  | [d1, d2, d3] => { results := [.lit (.bool false)], args := [d1, d2, d3] }
  | _ => none }
def CenterRestsWrongFalsely : Prop := centerRestsRow.holds Tryz.pinned (OpenSpec.ofChange centerRestsWrong)

/-- 'selfstablaw27.CenterAnonymous': WHATEVER THE INPUT: true; the input reads as it did. -/
def centerAnonymousSpec : ChangeSpec := { name := "centerAnonymous", fn := fun _ => fun
  | [d1, d2] => { results := [.lit (.bool true)], args := [d1, d2] }
  | _ => none }
def centerAnonymousRow : OpenClaim := { program := "ytiejahgklcjhkaagreatdoor", sum := "468c39a4ca4b81192846eb440f1d22441517cbb4ddb1d6bdd65d6b4a4be45d5d", func := "selfstab/selfstablaw27.CenterAnonymous", spec := "centerAnonymous", inPlace := ["internal/bytealg.IndexByteString"], unfollowed := true, recurses := true, named := ["math/bits.deBruijn32tab"], plainKeys := false, apart := false, laid := [("math/bits.deBruijn32tab", laid_math_bits_deBruijn32tab)] }
def CenterAnonymousSaid : Prop := centerAnonymousRow.holds Tryz.pinned (OpenSpec.ofChange centerAnonymousSpec)

/-- ITS FALSE NEIGHBOUR: 'it returns false'. Refute it at one input. -/
def centerAnonymousWrong : ChangeSpec := { name := "centerAnonymous", fn := fun _ => fun
  | [d1, d2] => { results := [.lit (.bool false)], args := [d1, d2] }
  | _ => none }
def CenterAnonymousWrongFalsely : Prop := centerAnonymousRow.holds Tryz.pinned (OpenSpec.ofChange centerAnonymousWrong)

/-- 'selfstablaw28.ElectionReaches': WHATEVER THE INPUT: true; the input reads as it did. -/
def electionReachesSpec : ChangeSpec := { name := "electionReaches", fn := fun _ => fun
  | [d1, d2, d3] => { results := [.lit (.bool true)], args := [d1, d2, d3] }
  | _ => none }
def electionReachesRow : OpenClaim := { program := "ytiejahgklcjhkaagreatdoor", sum := "468c39a4ca4b81192846eb440f1d22441517cbb4ddb1d6bdd65d6b4a4be45d5d", func := "selfstab/selfstablaw28.ElectionReaches", spec := "electionReaches", inPlace := ["internal/bytealg.IndexByteString"], unfollowed := true, recurses := true, named := ["math/bits.deBruijn32tab"], plainKeys := false, apart := false, laid := [("math/bits.deBruijn32tab", laid_math_bits_deBruijn32tab)] }
def ElectionReachesSaid : Prop := electionReachesRow.holds Tryz.pinned (OpenSpec.ofChange electionReachesSpec)

/-- ITS FALSE NEIGHBOUR: 'it returns false'. Refute it at one input. -/
def electionReachesWrong : ChangeSpec := { name := "electionReaches", fn := fun _ => fun
  | [d1, d2, d3] => { results := [.lit (.bool false)], args := [d1, d2, d3] }
  | _ => none }
def ElectionReachesWrongFalsely : Prop := electionReachesRow.holds Tryz.pinned (OpenSpec.ofChange electionReachesWrong)

/-- 'selfstablaw28.ElectionRests': WHATEVER THE INPUT: true; the input reads as it did. -/
def electionRestsSpec : ChangeSpec := { name := "electionRests", fn := fun _ => fun
  | [d1, d2, d3] => { results := [.lit (.bool true)], args := [d1, d2, d3] }
  | _ => none }
def electionRestsRow : OpenClaim := { program := "ytiejahgklcjhkaagreatdoor", sum := "468c39a4ca4b81192846eb440f1d22441517cbb4ddb1d6bdd65d6b4a4be45d5d", func := "selfstab/selfstablaw28.ElectionRests", spec := "electionRests", inPlace := ["internal/bytealg.IndexByteString"], unfollowed := true, recurses := true, named := ["math/bits.deBruijn32tab"], plainKeys := false, apart := false, laid := [("math/bits.deBruijn32tab", laid_math_bits_deBruijn32tab)] }
def ElectionRestsSaid : Prop := electionRestsRow.holds Tryz.pinned (OpenSpec.ofChange electionRestsSpec)

/-- ITS FALSE NEIGHBOUR: 'it returns false'. Refute it at one input. -/
def electionRestsWrong : ChangeSpec := { name := "electionRests", fn := fun _ => fun
  | [d1, d2, d3] => { results := [.lit (.bool false)], args := [d1, d2, d3] }
  | _ => none }
def ElectionRestsWrongFalsely : Prop := electionRestsRow.holds Tryz.pinned (OpenSpec.ofChange electionRestsWrong)

/-- 'selfstablaw28.ElectionCentre': WHATEVER THE INPUT: true; the input reads as it did. -/
def electionCentreSpec : ChangeSpec := { name := "electionCentre", fn := fun _ => fun
  | [d1, d2, d3] => { results := [.lit (.bool true)], args := [d1, d2, d3] }
  | _ => none }
def electionCentreRow : OpenClaim := { program := "ytiejahgklcjhkaagreatdoor", sum := "468c39a4ca4b81192846eb440f1d22441517cbb4ddb1d6bdd65d6b4a4be45d5d", func := "selfstab/selfstablaw28.ElectionCentre", spec := "electionCentre", inPlace := ["internal/bytealg.IndexByteString"], unfollowed := true, recurses := true, named := ["math/bits.deBruijn32tab"], plainKeys := false, apart := false, laid := [("math/bits.deBruijn32tab", laid_math_bits_deBruijn32tab)] }
def ElectionCentreSaid : Prop := electionCentreRow.holds Tryz.pinned (OpenSpec.ofChange electionCentreSpec)

/-- ITS FALSE NEIGHBOUR: 'it returns false'. Refute it at one input. -/
def electionCentreWrong : ChangeSpec := { name := "electionCentre", fn := fun _ => fun
  | [d1, d2, d3] => { results := [.lit (.bool false)], args := [d1, d2, d3] }
  | _ => none }
def ElectionCentreWrongFalsely : Prop := electionCentreRow.holds Tryz.pinned (OpenSpec.ofChange electionCentreWrong)

/-- 'selfstablaw28.ElectionTogether': WHATEVER THE INPUT: true; the input reads as it did. -/
def electionTogetherSpec : ChangeSpec := { name := "electionTogether", fn := fun _ => fun
  | [d] => { results := [.lit (.bool true)], args := [d] }
  | _ => none }
def electionTogetherRow : OpenClaim := { program := "ytiejahgklcjhkaagreatdoor", sum := "468c39a4ca4b81192846eb440f1d22441517cbb4ddb1d6bdd65d6b4a4be45d5d", func := "selfstab/selfstablaw28.ElectionTogether", spec := "electionTogether", inPlace := ["internal/bytealg.IndexByteString"], unfollowed := true, recurses := true, named := ["math/bits.deBruijn32tab"], plainKeys := false, apart := false, laid := [("math/bits.deBruijn32tab", laid_math_bits_deBruijn32tab)] }
def ElectionTogetherSaid : Prop := electionTogetherRow.holds Tryz.pinned (OpenSpec.ofChange electionTogetherSpec)

/-- ITS FALSE NEIGHBOUR: 'it returns false'. Refute it at one input. -/
def electionTogetherWrong : ChangeSpec := { name := "electionTogether", fn := fun _ => fun
  | [d] => { results := [.lit (.bool false)], args := [d] }
  | _ => none }
def ElectionTogetherWrongFalsely : Prop := electionTogetherRow.holds Tryz.pinned (OpenSpec.ofChange electionTogetherWrong)

/-- 'selfstablaw32.ColouringShrinks': WHATEVER THE INPUT: true; the input reads as it did. -/
def colouringShrinksSpec : ChangeSpec := { name := "colouringShrinks", fn := fun _ => fun
  | [d1, d2, d3] => { results := [.lit (.bool true)], args := [d1, d2, d3] }
  | _ => none }
def colouringShrinksRow : OpenClaim := { program := "ytiejahgklcjhkaagreatdoor", sum := "468c39a4ca4b81192846eb440f1d22441517cbb4ddb1d6bdd65d6b4a4be45d5d", func := "selfstab/selfstablaw32.ColouringShrinks", spec := "colouringShrinks", inPlace := ["internal/bytealg.IndexByteString"], unfollowed := true, recurses := true, named := ["math/bits.deBruijn32tab"], plainKeys := false, apart := false, laid := [("math/bits.deBruijn32tab", laid_math_bits_deBruijn32tab)] }
def ColouringShrinksSaid : Prop := colouringShrinksRow.holds Tryz.pinned (OpenSpec.ofChange colouringShrinksSpec)

/-- ITS FALSE NEIGHBOUR: 'it returns false'. Refute it at one input. -/
def colouringShrinksWrong : ChangeSpec := { name := "colouringShrinks", fn := fun _ => fun
  | [d1, d2, d3] => { results := [.lit (.bool false)], args := [d1, d2, d3] }
  | _ => none }
def ColouringShrinksWrongFalsely : Prop := colouringShrinksRow.holds Tryz.pinned (OpenSpec.ofChange colouringShrinksWrong)

/-- 'selfstablaw32.ColouringReaches': WHATEVER THE INPUT: true; the input reads as it did. -/
def colouringReachesSpec : ChangeSpec := { name := "colouringReaches", fn := fun _ => fun
  | [d1, d2, d3] => { results := [.lit (.bool true)], args := [d1, d2, d3] }
  | _ => none }
def colouringReachesRow : OpenClaim := { program := "ytiejahgklcjhkaagreatdoor", sum := "468c39a4ca4b81192846eb440f1d22441517cbb4ddb1d6bdd65d6b4a4be45d5d", func := "selfstab/selfstablaw32.ColouringReaches", spec := "colouringReaches", inPlace := ["internal/bytealg.IndexByteString"], unfollowed := true, recurses := true, named := ["math/bits.deBruijn32tab"], plainKeys := false, apart := false, laid := [("math/bits.deBruijn32tab", laid_math_bits_deBruijn32tab)] }
def ColouringReachesSaid : Prop := colouringReachesRow.holds Tryz.pinned (OpenSpec.ofChange colouringReachesSpec)

/-- ITS FALSE NEIGHBOUR: 'it returns false'. Refute it at one input. -/
def colouringReachesWrong : ChangeSpec := { name := "colouringReaches", fn := fun _ => fun
  | [d1, d2, d3] => { results := [.lit (.bool false)], args := [d1, d2, d3] }
  | _ => none }
def ColouringReachesWrongFalsely : Prop := colouringReachesRow.holds Tryz.pinned (OpenSpec.ofChange colouringReachesWrong)

/-- 'selfstablaw32.ColouringRests': WHATEVER THE INPUT: true; the input reads as it did. -/
def colouringRestsSpec : ChangeSpec := { name := "colouringRests", fn := fun _ => fun
  | [d1, d2, d3] => { results := [.lit (.bool true)], args := [d1, d2, d3] }
  | _ => none }
def colouringRestsRow : OpenClaim := { program := "ytiejahgklcjhkaagreatdoor", sum := "468c39a4ca4b81192846eb440f1d22441517cbb4ddb1d6bdd65d6b4a4be45d5d", func := "selfstab/selfstablaw32.ColouringRests", spec := "colouringRests", inPlace := ["internal/bytealg.IndexByteString"], unfollowed := true, recurses := true, named := ["math/bits.deBruijn32tab"], plainKeys := false, apart := false, laid := [("math/bits.deBruijn32tab", laid_math_bits_deBruijn32tab)] }
def ColouringRestsSaid : Prop := colouringRestsRow.holds Tryz.pinned (OpenSpec.ofChange colouringRestsSpec)

/-- ITS FALSE NEIGHBOUR: 'it returns false'. Refute it at one input. -/
def colouringRestsWrong : ChangeSpec := { name := "colouringRests", fn := fun _ => fun
  | [d1, d2, d3] => { results := [.lit (.bool false)], args := [d1, d2, d3] }
  | _ => none }
def ColouringRestsWrongFalsely : Prop := colouringRestsRow.holds Tryz.pinned (OpenSpec.ofChange colouringRestsWrong)

/-- 'selfstablaw30.MatchingMaximal': WHATEVER THE INPUT: true; the input reads as it did. -/
def matchingMaximalSpec : ChangeSpec := { name := "matchingMaximal", fn := fun _ => fun
  | [d1, d2, d3] => { results := [.lit (.bool true)], args := [d1, d2, d3] }
  | _ => none }
def matchingMaximalRow : OpenClaim := { program := "ytiejahgklcjhkaagreatdoor", sum := "468c39a4ca4b81192846eb440f1d22441517cbb4ddb1d6bdd65d6b4a4be45d5d", func := "selfstab/selfstablaw30.MatchingMaximal", spec := "matchingMaximal", inPlace := ["internal/bytealg.IndexByteString"], unfollowed := true, recurses := true, named := ["math/bits.deBruijn32tab"], plainKeys := false, apart := false, laid := [("math/bits.deBruijn32tab", laid_math_bits_deBruijn32tab)] }
def MatchingMaximalSaid : Prop := matchingMaximalRow.holds Tryz.pinned (OpenSpec.ofChange matchingMaximalSpec)

/-- ITS FALSE NEIGHBOUR: 'it returns false'. Refute it at one input. -/
def matchingMaximalWrong : ChangeSpec := { name := "matchingMaximal", fn := fun _ => fun
  | [d1, d2, d3] => { results := [.lit (.bool false)], args := [d1, d2, d3] }
  | _ => none }
def MatchingMaximalWrongFalsely : Prop := matchingMaximalRow.holds Tryz.pinned (OpenSpec.ofChange matchingMaximalWrong)

/-- 'selfstablaw30.MatchingStays': WHATEVER THE INPUT: true; the input reads as it did. -/
def matchingStaysSpec : ChangeSpec := { name := "matchingStays", fn := fun _ => fun
  | [d1, d2, d3] => { results := [.lit (.bool true)], args := [d1, d2, d3] }
  | _ => none }
def matchingStaysRow : OpenClaim := { program := "ytiejahgklcjhkaagreatdoor", sum := "468c39a4ca4b81192846eb440f1d22441517cbb4ddb1d6bdd65d6b4a4be45d5d", func := "selfstab/selfstablaw30.MatchingStays", spec := "matchingStays", inPlace := ["internal/bytealg.IndexByteString"], unfollowed := true, recurses := true, named := ["math/bits.deBruijn32tab"], plainKeys := false, apart := false, laid := [("math/bits.deBruijn32tab", laid_math_bits_deBruijn32tab)] }
def MatchingStaysSaid : Prop := matchingStaysRow.holds Tryz.pinned (OpenSpec.ofChange matchingStaysSpec)

/-- ITS FALSE NEIGHBOUR: 'it returns false'. Refute it at one input. -/
def matchingStaysWrong : ChangeSpec := { name := "matchingStays", fn := fun _ => fun
  | [d1, d2, d3] => { results := [.lit (.bool false)], args := [d1, d2, d3] }
  | _ => none }
def MatchingStaysWrongFalsely : Prop := matchingStaysRow.holds Tryz.pinned (OpenSpec.ofChange matchingStaysWrong)

/-- 'selfstablaw30.MatchingTogether': WHATEVER THE INPUT: true; the input reads as it did. -/
def matchingTogetherSpec : ChangeSpec := { name := "matchingTogether", fn := fun _ => fun
  | [d1, d2] => { results := [.lit (.bool true)], args := [d1, d2] }
  | _ => none }
def matchingTogetherRow : OpenClaim := { program := "ytiejahgklcjhkaagreatdoor", sum := "468c39a4ca4b81192846eb440f1d22441517cbb4ddb1d6bdd65d6b4a4be45d5d", func := "selfstab/selfstablaw30.MatchingTogether", spec := "matchingTogether", inPlace := ["internal/bytealg.IndexByteString"], unfollowed := true, recurses := true, named := ["math/bits.deBruijn32tab"], plainKeys := false, apart := false, laid := [("math/bits.deBruijn32tab", laid_math_bits_deBruijn32tab)] }
def MatchingTogetherSaid : Prop := matchingTogetherRow.holds Tryz.pinned (OpenSpec.ofChange matchingTogetherSpec)

/-- ITS FALSE NEIGHBOUR: 'it returns false'. Refute it at one input. -/
def matchingTogetherWrong : ChangeSpec := { name := "matchingTogether", fn := fun _ => fun
  | [d1, d2] => { results := [.lit (.bool false)], args := [d1, d2] }
  | _ => none }
def MatchingTogetherWrongFalsely : Prop := matchingTogetherRow.holds Tryz.pinned (OpenSpec.ofChange matchingTogetherWrong)

/-- 'selfstablaw30.MatchingReaches': WHATEVER THE INPUT: true; the input reads as it did. -/
def matchingReachesSpec : ChangeSpec := { name := "matchingReaches", fn := fun _ => fun
  | [d1, d2, d3] => { results := [.lit (.bool true)], args := [d1, d2, d3] }
  | _ => none }
def matchingReachesRow : OpenClaim := { program := "ytiejahgklcjhkaagreatdoor", sum := "468c39a4ca4b81192846eb440f1d22441517cbb4ddb1d6bdd65d6b4a4be45d5d", func := "selfstab/selfstablaw30.MatchingReaches", spec := "matchingReaches", inPlace := ["internal/bytealg.IndexByteString"], unfollowed := true, recurses := true, named := ["math/bits.deBruijn32tab"], plainKeys := false, apart := false, laid := [("math/bits.deBruijn32tab", laid_math_bits_deBruijn32tab)] }
def MatchingReachesSaid : Prop := matchingReachesRow.holds Tryz.pinned (OpenSpec.ofChange matchingReachesSpec)

/-- ITS FALSE NEIGHBOUR: 'it returns false'. Refute it at one input. -/
def matchingReachesWrong : ChangeSpec := { name := "matchingReaches", fn := fun _ => fun
  | [d1, d2, d3] => { results := [.lit (.bool false)], args := [d1, d2, d3] }
  | _ => none }
def MatchingReachesWrongFalsely : Prop := matchingReachesRow.holds Tryz.pinned (OpenSpec.ofChange matchingReachesWrong)

/-- 'selfstablaw30.MatchingRests': WHATEVER THE INPUT: true; the input reads as it did. -/
def matchingRestsSpec : ChangeSpec := { name := "matchingRests", fn := fun _ => fun
  | [d1, d2, d3] => { results := [.lit (.bool true)], args := [d1, d2, d3] }
  | _ => none }
def matchingRestsRow : OpenClaim := { program := "ytiejahgklcjhkaagreatdoor", sum := "468c39a4ca4b81192846eb440f1d22441517cbb4ddb1d6bdd65d6b4a4be45d5d", func := "selfstab/selfstablaw30.MatchingRests", spec := "matchingRests", inPlace := ["internal/bytealg.IndexByteString"], unfollowed := true, recurses := true, named := ["math/bits.deBruijn32tab"], plainKeys := false, apart := false, laid := [("math/bits.deBruijn32tab", laid_math_bits_deBruijn32tab)] }
def MatchingRestsSaid : Prop := matchingRestsRow.holds Tryz.pinned (OpenSpec.ofChange matchingRestsSpec)

/-- ITS FALSE NEIGHBOUR: 'it returns false'. Refute it at one input. -/
def matchingRestsWrong : ChangeSpec := { name := "matchingRests", fn := fun _ => fun
  | [d1, d2, d3] => { results := [.lit (.bool false)], args := [d1, d2, d3] }
  | _ => none }
def MatchingRestsWrongFalsely : Prop := matchingRestsRow.holds Tryz.pinned (OpenSpec.ofChange matchingRestsWrong)

/-- 'selfstablaw26.LeaderAnywhere': WHATEVER THE INPUT: true; the input reads as it did. -/
def leaderAnywhereSpec : ChangeSpec := { name := "leaderAnywhere", fn := fun _ => fun
  | [d1, d2, d3] => { results := [.lit (.bool true)], args := [d1, d2, d3] }
  | _ => none }
def leaderAnywhereRow : OpenClaim := { program := "ytiejahgklcjhkaagreatdoor", sum := "468c39a4ca4b81192846eb440f1d22441517cbb4ddb1d6bdd65d6b4a4be45d5d", func := "selfstab/selfstablaw26.LeaderAnywhere", spec := "leaderAnywhere", inPlace := ["internal/bytealg.IndexByteString"], unfollowed := true, recurses := true, named := ["math/bits.deBruijn32tab"], plainKeys := false, apart := false, laid := [("math/bits.deBruijn32tab", laid_math_bits_deBruijn32tab)] }
def LeaderAnywhereSaid : Prop := leaderAnywhereRow.holds Tryz.pinned (OpenSpec.ofChange leaderAnywhereSpec)

/-- ITS FALSE NEIGHBOUR: 'it returns false'. Refute it at one input. -/
def leaderAnywhereWrong : ChangeSpec := { name := "leaderAnywhere", fn := fun _ => fun
  | [d1, d2, d3] => { results := [.lit (.bool false)], args := [d1, d2, d3] }
  | _ => none }
def LeaderAnywhereWrongFalsely : Prop := leaderAnywhereRow.holds Tryz.pinned (OpenSpec.ofChange leaderAnywhereWrong)

/- THE SECOND FORM. 'bulk': how many values and letters a reading holds, each counted each time it is reached (what is shared counts as often as it is met; a slice's spare places count too). A statement '..UptoSaid' is the law's where the arguments, and the package variables that the reading takes, are together of bulk at most 1048576: NARROWER than '..Said'. Prove '..Said' where nothing that the law and all that it calls make is longer than what came in: it says more and counts as full. Else prove '..UptoSaid'. A law counts once. -/
mutual
def uptoBulk {H : Type} : DataW H → Nat
  | .lit (.string bytes) => bytes.length + 1
  | .lit _ => 1
  | .nil => 1
  | .ptr d => uptoBulk d + 1
  | .slice elems spare => uptoBulkAll elems + uptoBulkAll spare + 1
  | .agg parts => uptoBulkAll parts + 1
  | .iface _ d => uptoBulk d + 1
  | .map entries => uptoBulkEntries entries + 1
  | .held _ => 1
def uptoBulkAll {H : Type} : List (DataW H) → Nat
  | [] => 0
  | d :: r => uptoBulk d + uptoBulkAll r
def uptoBulkEntries {H : Type} : List (Lit × DataW H) → Nat
  | [] => 0
  | x :: r => uptoBulkEntry x + uptoBulkEntries r
def uptoBulkEntry {H : Type} : Lit × DataW H → Nat
  | (.string bytes, d) => bytes.length + uptoBulk d + 1
  | (_, d) => uptoBulk d + 1
 end
def uptoSmall : (H : Type) → List (DataW H) → Bool := fun _ ds => decide (uptoBulkAll ds ≤ 1048576)
def OpenSpec.upto (s : _root_.Go.ChangeSpec) : _root_.Go.OpenSpec := { _root_.Go.OpenSpec.ofChange s with cond := some uptoSmall }

/-- 'selfstablaw27.CenterMiddle', WHERE WHAT IT READS IS OF BULK AT MOST 1048576: true; the input reads as it did. -/
def centerMiddleUptoRow : OpenClaim := { program := "ytiejahgklcjhkaagreatdoor", sum := "468c39a4ca4b81192846eb440f1d22441517cbb4ddb1d6bdd65d6b4a4be45d5d", func := "selfstab/selfstablaw27.CenterMiddle", spec := "centerMiddle", inPlace := ["internal/bytealg.IndexByteString"], unfollowed := true, recurses := true, named := ["math/bits.deBruijn32tab"], plainKeys := false, apart := false, laid := [("math/bits.deBruijn32tab", laid_math_bits_deBruijn32tab)], narrowed := true }
def CenterMiddleUptoSaid : Prop := centerMiddleUptoRow.holds Tryz.pinned (OpenSpec.upto centerMiddleSpec)

/-- 'selfstablaw27.CenterRounds', WHERE WHAT IT READS IS OF BULK AT MOST 1048576: true; the input reads as it did. -/
def centerRoundsUptoRow : OpenClaim := { program := "ytiejahgklcjhkaagreatdoor", sum := "468c39a4ca4b81192846eb440f1d22441517cbb4ddb1d6bdd65d6b4a4be45d5d", func := "selfstab/selfstablaw27.CenterRounds", spec := "centerRounds", inPlace := ["internal/bytealg.IndexByteString"], unfollowed := true, recurses := true, named := ["math/bits.deBruijn32tab"], plainKeys := false, apart := false, laid := [("math/bits.deBruijn32tab", laid_math_bits_deBruijn32tab)], narrowed := true }
def CenterRoundsUptoSaid : Prop := centerRoundsUptoRow.holds Tryz.pinned (OpenSpec.upto centerRoundsSpec)

/-- 'selfstablaw27.CenterReaches', WHERE WHAT IT READS IS OF BULK AT MOST 1048576: true; the input reads as it did. -/
def centerReachesUptoRow : OpenClaim := { program := "ytiejahgklcjhkaagreatdoor", sum := "468c39a4ca4b81192846eb440f1d22441517cbb4ddb1d6bdd65d6b4a4be45d5d", func := "selfstab/selfstablaw27.CenterReaches", spec := "centerReaches", inPlace := ["internal/bytealg.IndexByteString"], unfollowed := true, recurses := true, named := ["math/bits.deBruijn32tab"], plainKeys := false, apart := false, laid := [("math/bits.deBruijn32tab", laid_math_bits_deBruijn32tab)], narrowed := true }
def CenterReachesUptoSaid : Prop := centerReachesUptoRow.holds Tryz.pinned (OpenSpec.upto centerReachesSpec)

/-- 'selfstablaw27.CenterRests', WHERE WHAT IT READS IS OF BULK AT MOST 1048576: true; the input reads as it did. -/
def centerRestsUptoRow : OpenClaim := { program := "ytiejahgklcjhkaagreatdoor", sum := "468c39a4ca4b81192846eb440f1d22441517cbb4ddb1d6bdd65d6b4a4be45d5d", func := "selfstab/selfstablaw27.CenterRests", spec := "centerRests", inPlace := ["internal/bytealg.IndexByteString"], unfollowed := true, recurses := true, named := ["math/bits.deBruijn32tab"], plainKeys := false, apart := false, laid := [("math/bits.deBruijn32tab", laid_math_bits_deBruijn32tab)], narrowed := true }
def CenterRestsUptoSaid : Prop := centerRestsUptoRow.holds Tryz.pinned (OpenSpec.upto centerRestsSpec)

/-- 'selfstablaw27.CenterAnonymous', WHERE WHAT IT READS IS OF BULK AT MOST 1048576: true; the input reads as it did. -/
def centerAnonymousUptoRow : OpenClaim := { program := "ytiejahgklcjhkaagreatdoor", sum := "468c39a4ca4b81192846eb440f1d22441517cbb4ddb1d6bdd65d6b4a4be45d5d", func := "selfstab/selfstablaw27.CenterAnonymous", spec := "centerAnonymous", inPlace := ["internal/bytealg.IndexByteString"], unfollowed := true, recurses := true, named := ["math/bits.deBruijn32tab"], plainKeys := false, apart := false, laid := [("math/bits.deBruijn32tab", laid_math_bits_deBruijn32tab)], narrowed := true }
def CenterAnonymousUptoSaid : Prop := centerAnonymousUptoRow.holds Tryz.pinned (OpenSpec.upto centerAnonymousSpec)

/-- 'selfstablaw28.ElectionReaches', WHERE WHAT IT READS IS OF BULK AT MOST 1048576: true; the input reads as it did. -/
def electionReachesUptoRow : OpenClaim := { program := "ytiejahgklcjhkaagreatdoor", sum := "468c39a4ca4b81192846eb440f1d22441517cbb4ddb1d6bdd65d6b4a4be45d5d", func := "selfstab/selfstablaw28.ElectionReaches", spec := "electionReaches", inPlace := ["internal/bytealg.IndexByteString"], unfollowed := true, recurses := true, named := ["math/bits.deBruijn32tab"], plainKeys := false, apart := false, laid := [("math/bits.deBruijn32tab", laid_math_bits_deBruijn32tab)], narrowed := true }
def ElectionReachesUptoSaid : Prop := electionReachesUptoRow.holds Tryz.pinned (OpenSpec.upto electionReachesSpec)

/-- 'selfstablaw28.ElectionRests', WHERE WHAT IT READS IS OF BULK AT MOST 1048576: true; the input reads as it did. -/
def electionRestsUptoRow : OpenClaim := { program := "ytiejahgklcjhkaagreatdoor", sum := "468c39a4ca4b81192846eb440f1d22441517cbb4ddb1d6bdd65d6b4a4be45d5d", func := "selfstab/selfstablaw28.ElectionRests", spec := "electionRests", inPlace := ["internal/bytealg.IndexByteString"], unfollowed := true, recurses := true, named := ["math/bits.deBruijn32tab"], plainKeys := false, apart := false, laid := [("math/bits.deBruijn32tab", laid_math_bits_deBruijn32tab)], narrowed := true }
def ElectionRestsUptoSaid : Prop := electionRestsUptoRow.holds Tryz.pinned (OpenSpec.upto electionRestsSpec)

/-- 'selfstablaw28.ElectionCentre', WHERE WHAT IT READS IS OF BULK AT MOST 1048576: true; the input reads as it did. -/
def electionCentreUptoRow : OpenClaim := { program := "ytiejahgklcjhkaagreatdoor", sum := "468c39a4ca4b81192846eb440f1d22441517cbb4ddb1d6bdd65d6b4a4be45d5d", func := "selfstab/selfstablaw28.ElectionCentre", spec := "electionCentre", inPlace := ["internal/bytealg.IndexByteString"], unfollowed := true, recurses := true, named := ["math/bits.deBruijn32tab"], plainKeys := false, apart := false, laid := [("math/bits.deBruijn32tab", laid_math_bits_deBruijn32tab)], narrowed := true }
def ElectionCentreUptoSaid : Prop := electionCentreUptoRow.holds Tryz.pinned (OpenSpec.upto electionCentreSpec)

/-- 'selfstablaw28.ElectionTogether', WHERE WHAT IT READS IS OF BULK AT MOST 1048576: true; the input reads as it did. -/
def electionTogetherUptoRow : OpenClaim := { program := "ytiejahgklcjhkaagreatdoor", sum := "468c39a4ca4b81192846eb440f1d22441517cbb4ddb1d6bdd65d6b4a4be45d5d", func := "selfstab/selfstablaw28.ElectionTogether", spec := "electionTogether", inPlace := ["internal/bytealg.IndexByteString"], unfollowed := true, recurses := true, named := ["math/bits.deBruijn32tab"], plainKeys := false, apart := false, laid := [("math/bits.deBruijn32tab", laid_math_bits_deBruijn32tab)], narrowed := true }
def ElectionTogetherUptoSaid : Prop := electionTogetherUptoRow.holds Tryz.pinned (OpenSpec.upto electionTogetherSpec)

/-- 'selfstablaw32.ColouringShrinks', WHERE WHAT IT READS IS OF BULK AT MOST 1048576: true; the input reads as it did. -/
def colouringShrinksUptoRow : OpenClaim := { program := "ytiejahgklcjhkaagreatdoor", sum := "468c39a4ca4b81192846eb440f1d22441517cbb4ddb1d6bdd65d6b4a4be45d5d", func := "selfstab/selfstablaw32.ColouringShrinks", spec := "colouringShrinks", inPlace := ["internal/bytealg.IndexByteString"], unfollowed := true, recurses := true, named := ["math/bits.deBruijn32tab"], plainKeys := false, apart := false, laid := [("math/bits.deBruijn32tab", laid_math_bits_deBruijn32tab)], narrowed := true }
def ColouringShrinksUptoSaid : Prop := colouringShrinksUptoRow.holds Tryz.pinned (OpenSpec.upto colouringShrinksSpec)

/-- 'selfstablaw32.ColouringReaches', WHERE WHAT IT READS IS OF BULK AT MOST 1048576: true; the input reads as it did. -/
def colouringReachesUptoRow : OpenClaim := { program := "ytiejahgklcjhkaagreatdoor", sum := "468c39a4ca4b81192846eb440f1d22441517cbb4ddb1d6bdd65d6b4a4be45d5d", func := "selfstab/selfstablaw32.ColouringReaches", spec := "colouringReaches", inPlace := ["internal/bytealg.IndexByteString"], unfollowed := true, recurses := true, named := ["math/bits.deBruijn32tab"], plainKeys := false, apart := false, laid := [("math/bits.deBruijn32tab", laid_math_bits_deBruijn32tab)], narrowed := true }
def ColouringReachesUptoSaid : Prop := colouringReachesUptoRow.holds Tryz.pinned (OpenSpec.upto colouringReachesSpec)

/-- 'selfstablaw32.ColouringRests', WHERE WHAT IT READS IS OF BULK AT MOST 1048576: true; the input reads as it did. -/
def colouringRestsUptoRow : OpenClaim := { program := "ytiejahgklcjhkaagreatdoor", sum := "468c39a4ca4b81192846eb440f1d22441517cbb4ddb1d6bdd65d6b4a4be45d5d", func := "selfstab/selfstablaw32.ColouringRests", spec := "colouringRests", inPlace := ["internal/bytealg.IndexByteString"], unfollowed := true, recurses := true, named := ["math/bits.deBruijn32tab"], plainKeys := false, apart := false, laid := [("math/bits.deBruijn32tab", laid_math_bits_deBruijn32tab)], narrowed := true }
def ColouringRestsUptoSaid : Prop := colouringRestsUptoRow.holds Tryz.pinned (OpenSpec.upto colouringRestsSpec)

/-- 'selfstablaw30.MatchingMaximal', WHERE WHAT IT READS IS OF BULK AT MOST 1048576: true; the input reads as it did. -/
def matchingMaximalUptoRow : OpenClaim := { program := "ytiejahgklcjhkaagreatdoor", sum := "468c39a4ca4b81192846eb440f1d22441517cbb4ddb1d6bdd65d6b4a4be45d5d", func := "selfstab/selfstablaw30.MatchingMaximal", spec := "matchingMaximal", inPlace := ["internal/bytealg.IndexByteString"], unfollowed := true, recurses := true, named := ["math/bits.deBruijn32tab"], plainKeys := false, apart := false, laid := [("math/bits.deBruijn32tab", laid_math_bits_deBruijn32tab)], narrowed := true }
def MatchingMaximalUptoSaid : Prop := matchingMaximalUptoRow.holds Tryz.pinned (OpenSpec.upto matchingMaximalSpec)

/-- 'selfstablaw30.MatchingStays', WHERE WHAT IT READS IS OF BULK AT MOST 1048576: true; the input reads as it did. -/
def matchingStaysUptoRow : OpenClaim := { program := "ytiejahgklcjhkaagreatdoor", sum := "468c39a4ca4b81192846eb440f1d22441517cbb4ddb1d6bdd65d6b4a4be45d5d", func := "selfstab/selfstablaw30.MatchingStays", spec := "matchingStays", inPlace := ["internal/bytealg.IndexByteString"], unfollowed := true, recurses := true, named := ["math/bits.deBruijn32tab"], plainKeys := false, apart := false, laid := [("math/bits.deBruijn32tab", laid_math_bits_deBruijn32tab)], narrowed := true }
def MatchingStaysUptoSaid : Prop := matchingStaysUptoRow.holds Tryz.pinned (OpenSpec.upto matchingStaysSpec)

/-- 'selfstablaw30.MatchingTogether', WHERE WHAT IT READS IS OF BULK AT MOST 1048576: true; the input reads as it did. -/
def matchingTogetherUptoRow : OpenClaim := { program := "ytiejahgklcjhkaagreatdoor", sum := "468c39a4ca4b81192846eb440f1d22441517cbb4ddb1d6bdd65d6b4a4be45d5d", func := "selfstab/selfstablaw30.MatchingTogether", spec := "matchingTogether", inPlace := ["internal/bytealg.IndexByteString"], unfollowed := true, recurses := true, named := ["math/bits.deBruijn32tab"], plainKeys := false, apart := false, laid := [("math/bits.deBruijn32tab", laid_math_bits_deBruijn32tab)], narrowed := true }
def MatchingTogetherUptoSaid : Prop := matchingTogetherUptoRow.holds Tryz.pinned (OpenSpec.upto matchingTogetherSpec)

/-- 'selfstablaw30.MatchingReaches', WHERE WHAT IT READS IS OF BULK AT MOST 1048576: true; the input reads as it did. -/
def matchingReachesUptoRow : OpenClaim := { program := "ytiejahgklcjhkaagreatdoor", sum := "468c39a4ca4b81192846eb440f1d22441517cbb4ddb1d6bdd65d6b4a4be45d5d", func := "selfstab/selfstablaw30.MatchingReaches", spec := "matchingReaches", inPlace := ["internal/bytealg.IndexByteString"], unfollowed := true, recurses := true, named := ["math/bits.deBruijn32tab"], plainKeys := false, apart := false, laid := [("math/bits.deBruijn32tab", laid_math_bits_deBruijn32tab)], narrowed := true }
def MatchingReachesUptoSaid : Prop := matchingReachesUptoRow.holds Tryz.pinned (OpenSpec.upto matchingReachesSpec)

/-- 'selfstablaw30.MatchingRests', WHERE WHAT IT READS IS OF BULK AT MOST 1048576: true; the input reads as it did. -/
def matchingRestsUptoRow : OpenClaim := { program := "ytiejahgklcjhkaagreatdoor", sum := "468c39a4ca4b81192846eb440f1d22441517cbb4ddb1d6bdd65d6b4a4be45d5d", func := "selfstab/selfstablaw30.MatchingRests", spec := "matchingRests", inPlace := ["internal/bytealg.IndexByteString"], unfollowed := true, recurses := true, named := ["math/bits.deBruijn32tab"], plainKeys := false, apart := false, laid := [("math/bits.deBruijn32tab", laid_math_bits_deBruijn32tab)], narrowed := true }
def MatchingRestsUptoSaid : Prop := matchingRestsUptoRow.holds Tryz.pinned (OpenSpec.upto matchingRestsSpec)

/-- 'selfstablaw26.LeaderAnywhere', WHERE WHAT IT READS IS OF BULK AT MOST 1048576: true; the input reads as it did. -/
def leaderAnywhereUptoRow : OpenClaim := { program := "ytiejahgklcjhkaagreatdoor", sum := "468c39a4ca4b81192846eb440f1d22441517cbb4ddb1d6bdd65d6b4a4be45d5d", func := "selfstab/selfstablaw26.LeaderAnywhere", spec := "leaderAnywhere", inPlace := ["internal/bytealg.IndexByteString"], unfollowed := true, recurses := true, named := ["math/bits.deBruijn32tab"], plainKeys := false, apart := false, laid := [("math/bits.deBruijn32tab", laid_math_bits_deBruijn32tab)], narrowed := true }
def LeaderAnywhereUptoSaid : Prop := leaderAnywhereUptoRow.holds Tryz.pinned (OpenSpec.upto leaderAnywhereSpec)

end Rows
end Go.Proofs.YtiejahgklcjhkaaGreatDoor
