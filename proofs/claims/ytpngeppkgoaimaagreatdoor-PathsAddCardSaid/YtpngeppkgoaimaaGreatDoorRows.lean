/-
  NARROWER THAN 'FOR EVERY INPUT', by the rows' own cells (each row's printed sentence says how): PathsRounds: laid · PathsHops: laid · PathsRests: laid · LeaderReal: laid · BfsRounds: laid · BfsWays: laid · PathsAdd: laid · LeaderReaches: laid · LeaderRests: laid · BfsReaches: laid · BfsRests: laid · LeaderAnywhere: laid.
  DERIVED. THE GIVEN ROWS OF THIS SEAT. 12 by the template 'for every input the law returns true; each argument reads behind the call as it read before'; 0 by the template 'total and deterministic' (their statements: YtpngeppkgoaimaaGreatDoorTotals.lean).
  GIVEN WITH THE SEED: the statements are not yours to turn. If you find one false, say at which input.
  Laid BY PROGRAM, IN A SANDBOX (cutbox-rows.mjs): the forced cells as the released guide's own fill.sh prints them over the translation ee27621e0304574c… (all of the seat's roots in one cut). By AI agents, Wed Nov 11 2026. No macro, syntax, notation, axiom, sorry.
-/
import Derived.Test.YtpngeppkgoaimaaGreatDoorChecked
import GoSem.Claim
import GoSem.ClaimJoined
import GoSem.ClaimMapViews
import Derived.JoinedTies
import Derived.KernelRfl
namespace Go.Proofs.YtpngeppkgoaimaaGreatDoor
/- THE CELL 'sum', in the pinned program and in every row, IS THE sha256 OF THE DUMP (.gsa) THAT YtpngeppkgoaimaaGreatDoorProg.lean LOADS. Nothing in Lean hashes anything: it is a label: what it is worth is what the hold of that sum in a sandbox is worth. -/
noncomputable def Tryz.pinned : Pinned := { name := "ytpngeppkgoaimaagreatdoor", sum := "ee27621e0304574c4c430dfebf5933c0a5247ccd8b116485fedf89a796200ae2", checked := Tryz.checked }
namespace Rows
def none {H : Type} : Left H := { results := [], args := [] }

/- WHAT THE LISTED PACKAGE-LEVEL VARIABLES READ AS WHEN THE CALL BEGINS. Each datum BY PROGRAM (the guide's laid-datum.mjs) off the statement by which the dump's own 'gosem.cut.vars' lays the variable. In a bare row this is a premise. The card (YtpngeppkgoaimaaGreatDoorCards.lean) ties it to the program's text. -/
def laid_math_bits_deBruijn32tab {H : Type} : DataW H := .agg [.lit (.int .u8 0), .lit (.int .u8 1), .lit (.int .u8 28), .lit (.int .u8 2), .lit (.int .u8 29), .lit (.int .u8 14), .lit (.int .u8 24), .lit (.int .u8 3), .lit (.int .u8 30), .lit (.int .u8 22), .lit (.int .u8 20), .lit (.int .u8 15), .lit (.int .u8 25), .lit (.int .u8 17), .lit (.int .u8 4), .lit (.int .u8 8), .lit (.int .u8 31), .lit (.int .u8 27), .lit (.int .u8 13), .lit (.int .u8 23), .lit (.int .u8 21), .lit (.int .u8 19), .lit (.int .u8 16), .lit (.int .u8 7), .lit (.int .u8 26), .lit (.int .u8 12), .lit (.int .u8 18), .lit (.int .u8 6), .lit (.int .u8 11), .lit (.int .u8 5), .lit (.int .u8 10), .lit (.int .u8 9)]

/-- 'selfstablaw24.PathsRounds': WHATEVER THE INPUT: true; the input reads as it did. -/
def pathsRoundsSpec : ChangeSpec := { name := "pathsRounds", fn := fun _ => fun
  | [d1, d2, d3] => { results := [.lit (.bool true)], args := [d1, d2, d3] }
  | _ => none }
def pathsRoundsRow : OpenClaim := { program := "ytpngeppkgoaimaagreatdoor", sum := "ee27621e0304574c4c430dfebf5933c0a5247ccd8b116485fedf89a796200ae2", func := "selfstab/selfstablaw24.PathsRounds", spec := "pathsRounds", inPlace := ["internal/bytealg.IndexByteString"], unfollowed := true, recurses := true, named := ["math/bits.deBruijn32tab"], plainKeys := false, apart := false, laid := [("math/bits.deBruijn32tab", laid_math_bits_deBruijn32tab)] }
def PathsRoundsSaid : Prop := pathsRoundsRow.holds Tryz.pinned (OpenSpec.ofChange pathsRoundsSpec)

/-- ITS FALSE NEIGHBOUR: 'it returns false'. Refute it at one input. -/
def pathsRoundsWrong : ChangeSpec := { name := "pathsRounds", fn := fun _ => fun
  | [d1, d2, d3] => { results := [.lit (.bool false)], args := [d1, d2, d3] }
  | _ => none }
def PathsRoundsWrongFalsely : Prop := pathsRoundsRow.holds Tryz.pinned (OpenSpec.ofChange pathsRoundsWrong)

/-- 'selfstablaw24.PathsHops': WHATEVER THE INPUT: true; the input reads as it did. -/
def pathsHopsSpec : ChangeSpec := { name := "pathsHops", fn := fun _ => fun
  | [d1, d2, d3] => { results := [.lit (.bool true)], args := [d1, d2, d3] }
  | _ => none }
def pathsHopsRow : OpenClaim := { program := "ytpngeppkgoaimaagreatdoor", sum := "ee27621e0304574c4c430dfebf5933c0a5247ccd8b116485fedf89a796200ae2", func := "selfstab/selfstablaw24.PathsHops", spec := "pathsHops", inPlace := ["internal/bytealg.IndexByteString"], unfollowed := true, recurses := true, named := ["math/bits.deBruijn32tab"], plainKeys := false, apart := false, laid := [("math/bits.deBruijn32tab", laid_math_bits_deBruijn32tab)] }
def PathsHopsSaid : Prop := pathsHopsRow.holds Tryz.pinned (OpenSpec.ofChange pathsHopsSpec)

/-- ITS FALSE NEIGHBOUR: 'it returns false'. Refute it at one input. -/
def pathsHopsWrong : ChangeSpec := { name := "pathsHops", fn := fun _ => fun
  | [d1, d2, d3] => { results := [.lit (.bool false)], args := [d1, d2, d3] }
  | _ => none }
def PathsHopsWrongFalsely : Prop := pathsHopsRow.holds Tryz.pinned (OpenSpec.ofChange pathsHopsWrong)

/-- 'selfstablaw24.PathsRests': WHATEVER THE INPUT: true; the input reads as it did. -/
def pathsRestsSpec : ChangeSpec := { name := "pathsRests", fn := fun _ => fun
  | [d1, d2, d3] => { results := [.lit (.bool true)], args := [d1, d2, d3] }
  | _ => none }
def pathsRestsRow : OpenClaim := { program := "ytpngeppkgoaimaagreatdoor", sum := "ee27621e0304574c4c430dfebf5933c0a5247ccd8b116485fedf89a796200ae2", func := "selfstab/selfstablaw24.PathsRests", spec := "pathsRests", inPlace := ["internal/bytealg.IndexByteString"], unfollowed := true, recurses := true, named := ["math/bits.deBruijn32tab"], plainKeys := false, apart := false, laid := [("math/bits.deBruijn32tab", laid_math_bits_deBruijn32tab)] }
def PathsRestsSaid : Prop := pathsRestsRow.holds Tryz.pinned (OpenSpec.ofChange pathsRestsSpec)

/-- ITS FALSE NEIGHBOUR: 'it returns false'. Refute it at one input. -/
def pathsRestsWrong : ChangeSpec := { name := "pathsRests", fn := fun _ => fun
  | [d1, d2, d3] => { results := [.lit (.bool false)], args := [d1, d2, d3] }
  | _ => none }
def PathsRestsWrongFalsely : Prop := pathsRestsRow.holds Tryz.pinned (OpenSpec.ofChange pathsRestsWrong)

/-- 'selfstablaw26.LeaderReal': WHATEVER THE INPUT: true; the input reads as it did. -/
def leaderRealSpec : ChangeSpec := { name := "leaderReal", fn := fun _ => fun
  | [d1, d2, d3] => { results := [.lit (.bool true)], args := [d1, d2, d3] }
  | _ => none }
def leaderRealRow : OpenClaim := { program := "ytpngeppkgoaimaagreatdoor", sum := "ee27621e0304574c4c430dfebf5933c0a5247ccd8b116485fedf89a796200ae2", func := "selfstab/selfstablaw26.LeaderReal", spec := "leaderReal", inPlace := ["internal/bytealg.IndexByteString"], unfollowed := true, recurses := true, named := ["math/bits.deBruijn32tab"], plainKeys := false, apart := false, laid := [("math/bits.deBruijn32tab", laid_math_bits_deBruijn32tab)] }
def LeaderRealSaid : Prop := leaderRealRow.holds Tryz.pinned (OpenSpec.ofChange leaderRealSpec)

/-- ITS FALSE NEIGHBOUR: 'it returns false'. Refute it at one input. -/
def leaderRealWrong : ChangeSpec := { name := "leaderReal", fn := fun _ => fun
  | [d1, d2, d3] => { results := [.lit (.bool false)], args := [d1, d2, d3] }
  | _ => none }
def LeaderRealWrongFalsely : Prop := leaderRealRow.holds Tryz.pinned (OpenSpec.ofChange leaderRealWrong)

/-- 'selfstablaw23.BfsRounds': WHATEVER THE INPUT: true; the input reads as it did. -/
def bfsRoundsSpec : ChangeSpec := { name := "bfsRounds", fn := fun _ => fun
  | [d1, d2, d3] => { results := [.lit (.bool true)], args := [d1, d2, d3] }
  | _ => none }
def bfsRoundsRow : OpenClaim := { program := "ytpngeppkgoaimaagreatdoor", sum := "ee27621e0304574c4c430dfebf5933c0a5247ccd8b116485fedf89a796200ae2", func := "selfstab/selfstablaw23.BfsRounds", spec := "bfsRounds", inPlace := ["internal/bytealg.IndexByteString"], unfollowed := true, recurses := true, named := ["math/bits.deBruijn32tab"], plainKeys := false, apart := false, laid := [("math/bits.deBruijn32tab", laid_math_bits_deBruijn32tab)] }
def BfsRoundsSaid : Prop := bfsRoundsRow.holds Tryz.pinned (OpenSpec.ofChange bfsRoundsSpec)

/-- ITS FALSE NEIGHBOUR: 'it returns false'. Refute it at one input. -/
def bfsRoundsWrong : ChangeSpec := { name := "bfsRounds", fn := fun _ => fun
  | [d1, d2, d3] => { results := [.lit (.bool false)], args := [d1, d2, d3] }
  | _ => none }
def BfsRoundsWrongFalsely : Prop := bfsRoundsRow.holds Tryz.pinned (OpenSpec.ofChange bfsRoundsWrong)

/-- 'selfstablaw23.BfsWays': WHATEVER THE INPUT: true; the input reads as it did. -/
def bfsWaysSpec : ChangeSpec := { name := "bfsWays", fn := fun _ => fun
  | [d1, d2, d3] => { results := [.lit (.bool true)], args := [d1, d2, d3] }
  | _ => none }
def bfsWaysRow : OpenClaim := { program := "ytpngeppkgoaimaagreatdoor", sum := "ee27621e0304574c4c430dfebf5933c0a5247ccd8b116485fedf89a796200ae2", func := "selfstab/selfstablaw23.BfsWays", spec := "bfsWays", inPlace := ["internal/bytealg.IndexByteString"], unfollowed := true, recurses := true, named := ["math/bits.deBruijn32tab"], plainKeys := false, apart := false, laid := [("math/bits.deBruijn32tab", laid_math_bits_deBruijn32tab)] }
def BfsWaysSaid : Prop := bfsWaysRow.holds Tryz.pinned (OpenSpec.ofChange bfsWaysSpec)

/-- ITS FALSE NEIGHBOUR: 'it returns false'. Refute it at one input. -/
def bfsWaysWrong : ChangeSpec := { name := "bfsWays", fn := fun _ => fun
  | [d1, d2, d3] => { results := [.lit (.bool false)], args := [d1, d2, d3] }
  | _ => none }
def BfsWaysWrongFalsely : Prop := bfsWaysRow.holds Tryz.pinned (OpenSpec.ofChange bfsWaysWrong)

/-- 'selfstablaw24.PathsAdd': WHATEVER THE INPUT: true; the input reads as it did. -/
def pathsAddSpec : ChangeSpec := { name := "pathsAdd", fn := fun _ => fun
  | [d1, d2, d3] => { results := [.lit (.bool true)], args := [d1, d2, d3] }
  | _ => none }
def pathsAddRow : OpenClaim := { program := "ytpngeppkgoaimaagreatdoor", sum := "ee27621e0304574c4c430dfebf5933c0a5247ccd8b116485fedf89a796200ae2", func := "selfstab/selfstablaw24.PathsAdd", spec := "pathsAdd", inPlace := ["internal/bytealg.IndexByteString"], unfollowed := true, recurses := true, named := ["math/bits.deBruijn32tab"], plainKeys := false, apart := false, laid := [("math/bits.deBruijn32tab", laid_math_bits_deBruijn32tab)] }
def PathsAddSaid : Prop := pathsAddRow.holds Tryz.pinned (OpenSpec.ofChange pathsAddSpec)

/-- ITS FALSE NEIGHBOUR: 'it returns false'. Refute it at one input. -/
def pathsAddWrong : ChangeSpec := { name := "pathsAdd", fn := fun _ => fun
  | [d1, d2, d3] => { results := [.lit (.bool false)], args := [d1, d2, d3] }
  | _ => none }
def PathsAddWrongFalsely : Prop := pathsAddRow.holds Tryz.pinned (OpenSpec.ofChange pathsAddWrong)

/-- 'selfstablaw26.LeaderReaches': WHATEVER THE INPUT: true; the input reads as it did. -/
def leaderReachesSpec : ChangeSpec := { name := "leaderReaches", fn := fun _ => fun
  | [d1, d2, d3] => { results := [.lit (.bool true)], args := [d1, d2, d3] }
  | _ => none }
def leaderReachesRow : OpenClaim := { program := "ytpngeppkgoaimaagreatdoor", sum := "ee27621e0304574c4c430dfebf5933c0a5247ccd8b116485fedf89a796200ae2", func := "selfstab/selfstablaw26.LeaderReaches", spec := "leaderReaches", inPlace := ["internal/bytealg.IndexByteString"], unfollowed := true, recurses := true, named := ["math/bits.deBruijn32tab"], plainKeys := false, apart := false, laid := [("math/bits.deBruijn32tab", laid_math_bits_deBruijn32tab)] }
def LeaderReachesSaid : Prop := leaderReachesRow.holds Tryz.pinned (OpenSpec.ofChange leaderReachesSpec)

/-- ITS FALSE NEIGHBOUR: 'it returns false'. Refute it at one input. -/
def leaderReachesWrong : ChangeSpec := { name := "leaderReaches", fn := fun _ => fun
  | [d1, d2, d3] => { results := [.lit (.bool false)], args := [d1, d2, d3] }
  | _ => none }
def LeaderReachesWrongFalsely : Prop := leaderReachesRow.holds Tryz.pinned (OpenSpec.ofChange leaderReachesWrong)

/-- 'selfstablaw26.LeaderRests': WHATEVER THE INPUT: true; the input reads as it did. -/
def leaderRestsSpec : ChangeSpec := { name := "leaderRests", fn := fun _ => fun
  | [d1, d2, d3] => { results := [.lit (.bool true)], args := [d1, d2, d3] }
  | _ => none }
def leaderRestsRow : OpenClaim := { program := "ytpngeppkgoaimaagreatdoor", sum := "ee27621e0304574c4c430dfebf5933c0a5247ccd8b116485fedf89a796200ae2", func := "selfstab/selfstablaw26.LeaderRests", spec := "leaderRests", inPlace := ["internal/bytealg.IndexByteString"], unfollowed := true, recurses := true, named := ["math/bits.deBruijn32tab"], plainKeys := false, apart := false, laid := [("math/bits.deBruijn32tab", laid_math_bits_deBruijn32tab)] }
def LeaderRestsSaid : Prop := leaderRestsRow.holds Tryz.pinned (OpenSpec.ofChange leaderRestsSpec)

/-- ITS FALSE NEIGHBOUR: 'it returns false'. Refute it at one input. -/
def leaderRestsWrong : ChangeSpec := { name := "leaderRests", fn := fun _ => fun
  | [d1, d2, d3] => { results := [.lit (.bool false)], args := [d1, d2, d3] }
  | _ => none }
def LeaderRestsWrongFalsely : Prop := leaderRestsRow.holds Tryz.pinned (OpenSpec.ofChange leaderRestsWrong)

/-- 'selfstablaw23.BfsReaches': WHATEVER THE INPUT: true; the input reads as it did. -/
def bfsReachesSpec : ChangeSpec := { name := "bfsReaches", fn := fun _ => fun
  | [d1, d2, d3] => { results := [.lit (.bool true)], args := [d1, d2, d3] }
  | _ => none }
def bfsReachesRow : OpenClaim := { program := "ytpngeppkgoaimaagreatdoor", sum := "ee27621e0304574c4c430dfebf5933c0a5247ccd8b116485fedf89a796200ae2", func := "selfstab/selfstablaw23.BfsReaches", spec := "bfsReaches", inPlace := ["internal/bytealg.IndexByteString"], unfollowed := true, recurses := true, named := ["math/bits.deBruijn32tab"], plainKeys := false, apart := false, laid := [("math/bits.deBruijn32tab", laid_math_bits_deBruijn32tab)] }
def BfsReachesSaid : Prop := bfsReachesRow.holds Tryz.pinned (OpenSpec.ofChange bfsReachesSpec)

/-- ITS FALSE NEIGHBOUR: 'it returns false'. Refute it at one input. -/
def bfsReachesWrong : ChangeSpec := { name := "bfsReaches", fn := fun _ => fun
  | [d1, d2, d3] => { results := [.lit (.bool false)], args := [d1, d2, d3] }
  | _ => none }
def BfsReachesWrongFalsely : Prop := bfsReachesRow.holds Tryz.pinned (OpenSpec.ofChange bfsReachesWrong)

/-- 'selfstablaw23.BfsRests': WHATEVER THE INPUT: true; the input reads as it did. -/
def bfsRestsSpec : ChangeSpec := { name := "bfsRests", fn := fun _ => fun
  | [d1, d2, d3] => { results := [.lit (.bool true)], args := [d1, d2, d3] }
  | _ => none }
def bfsRestsRow : OpenClaim := { program := "ytpngeppkgoaimaagreatdoor", sum := "ee27621e0304574c4c430dfebf5933c0a5247ccd8b116485fedf89a796200ae2", func := "selfstab/selfstablaw23.BfsRests", spec := "bfsRests", inPlace := ["internal/bytealg.IndexByteString"], unfollowed := true, recurses := true, named := ["math/bits.deBruijn32tab"], plainKeys := false, apart := false, laid := [("math/bits.deBruijn32tab", laid_math_bits_deBruijn32tab)] }
def BfsRestsSaid : Prop := bfsRestsRow.holds Tryz.pinned (OpenSpec.ofChange bfsRestsSpec)

/-- ITS FALSE NEIGHBOUR: 'it returns false'. Refute it at one input. -/
def bfsRestsWrong : ChangeSpec := { name := "bfsRests", fn := fun _ => fun
  | [d1, d2, d3] => { results := [.lit (.bool false)], args := [d1, d2, d3] }
  | _ => none }
def BfsRestsWrongFalsely : Prop := bfsRestsRow.holds Tryz.pinned (OpenSpec.ofChange bfsRestsWrong)

/-- 'selfstablaw26.LeaderAnywhere': WHATEVER THE INPUT: true; the input reads as it did. -/
def leaderAnywhereSpec : ChangeSpec := { name := "leaderAnywhere", fn := fun _ => fun
  | [d1, d2, d3] => { results := [.lit (.bool true)], args := [d1, d2, d3] }
  | _ => none }
def leaderAnywhereRow : OpenClaim := { program := "ytpngeppkgoaimaagreatdoor", sum := "ee27621e0304574c4c430dfebf5933c0a5247ccd8b116485fedf89a796200ae2", func := "selfstab/selfstablaw26.LeaderAnywhere", spec := "leaderAnywhere", inPlace := ["internal/bytealg.IndexByteString"], unfollowed := true, recurses := true, named := ["math/bits.deBruijn32tab"], plainKeys := false, apart := false, laid := [("math/bits.deBruijn32tab", laid_math_bits_deBruijn32tab)] }
def LeaderAnywhereSaid : Prop := leaderAnywhereRow.holds Tryz.pinned (OpenSpec.ofChange leaderAnywhereSpec)

/-- ITS FALSE NEIGHBOUR: 'it returns false'. Refute it at one input. -/
def leaderAnywhereWrong : ChangeSpec := { name := "leaderAnywhere", fn := fun _ => fun
  | [d1, d2, d3] => { results := [.lit (.bool false)], args := [d1, d2, d3] }
  | _ => none }
def LeaderAnywhereWrongFalsely : Prop := leaderAnywhereRow.holds Tryz.pinned (OpenSpec.ofChange leaderAnywhereWrong)

/- THE SECOND FORM. 'bulk': how many values and letters a reading holds, each counted each time it is reached (what is shared counts as often as it is met; a slice's spare places count too). A statement '..UptoSaid' is the law's where the arguments, and the package variables that the reading takes, are together of bulk at most 1048576: NARROWER than '..Said'. Prove '..Said' where nothing that the law and all that it calls make is longer than what came in: it says more and counts as full. Else prove '..UptoSaid'. A law counts once. -/
mutual
def uptoBulk {H : Type} : DataW H → Nat
  | .lit (.string bytes) => bytes.length + 1
  | .lit _ => 1
  | .nil => 1
  | .ptr d => uptoBulk d + 1
  | .slice elems spare => uptoBulkAll elems + uptoBulkAll spare + 1
  | .agg parts => uptoBulkAll parts + 1
  | .iface _ d => uptoBulk d + 1
  | .map entries => uptoBulkEntries entries + 1
  | .held _ => 1
def uptoBulkAll {H : Type} : List (DataW H) → Nat
  | [] => 0
  | d :: r => uptoBulk d + uptoBulkAll r
def uptoBulkEntries {H : Type} : List (Lit × DataW H) → Nat
  | [] => 0
  | x :: r => uptoBulkEntry x + uptoBulkEntries r
def uptoBulkEntry {H : Type} : Lit × DataW H → Nat
  | (.string bytes, d) => bytes.length + uptoBulk d + 1
  | (_, d) => uptoBulk d + 1
 end
def uptoSmall : (H : Type) → List (DataW H) → Bool := fun _ ds => decide (uptoBulkAll ds ≤ 1048576)
def OpenSpec.upto (s : _root_.Go.ChangeSpec) : _root_.Go.OpenSpec := { _root_.Go.OpenSpec.ofChange s with cond := some uptoSmall }

/-- 'selfstablaw24.PathsRounds', WHERE WHAT IT READS IS OF BULK AT MOST 1048576: true; the input reads as it did. -/
def pathsRoundsUptoRow : OpenClaim := { program := "ytpngeppkgoaimaagreatdoor", sum := "ee27621e0304574c4c430dfebf5933c0a5247ccd8b116485fedf89a796200ae2", func := "selfstab/selfstablaw24.PathsRounds", spec := "pathsRounds", inPlace := ["internal/bytealg.IndexByteString"], unfollowed := true, recurses := true, named := ["math/bits.deBruijn32tab"], plainKeys := false, apart := false, laid := [("math/bits.deBruijn32tab", laid_math_bits_deBruijn32tab)], narrowed := true }
def PathsRoundsUptoSaid : Prop := pathsRoundsUptoRow.holds Tryz.pinned (OpenSpec.upto pathsRoundsSpec)

/-- 'selfstablaw24.PathsHops', WHERE WHAT IT READS IS OF BULK AT MOST 1048576: true; the input reads as it did. -/
def pathsHopsUptoRow : OpenClaim := { program := "ytpngeppkgoaimaagreatdoor", sum := "ee27621e0304574c4c430dfebf5933c0a5247ccd8b116485fedf89a796200ae2", func := "selfstab/selfstablaw24.PathsHops", spec := "pathsHops", inPlace := ["internal/bytealg.IndexByteString"], unfollowed := true, recurses := true, named := ["math/bits.deBruijn32tab"], plainKeys := false, apart := false, laid := [("math/bits.deBruijn32tab", laid_math_bits_deBruijn32tab)], narrowed := true }
def PathsHopsUptoSaid : Prop := pathsHopsUptoRow.holds Tryz.pinned (OpenSpec.upto pathsHopsSpec)

/-- 'selfstablaw24.PathsRests', WHERE WHAT IT READS IS OF BULK AT MOST 1048576: true; the input reads as it did. -/
def pathsRestsUptoRow : OpenClaim := { program := "ytpngeppkgoaimaagreatdoor", sum := "ee27621e0304574c4c430dfebf5933c0a5247ccd8b116485fedf89a796200ae2", func := "selfstab/selfstablaw24.PathsRests", spec := "pathsRests", inPlace := ["internal/bytealg.IndexByteString"], unfollowed := true, recurses := true, named := ["math/bits.deBruijn32tab"], plainKeys := false, apart := false, laid := [("math/bits.deBruijn32tab", laid_math_bits_deBruijn32tab)], narrowed := true }
def PathsRestsUptoSaid : Prop := pathsRestsUptoRow.holds Tryz.pinned (OpenSpec.upto pathsRestsSpec)

/-- 'selfstablaw26.LeaderReal', WHERE WHAT IT READS IS OF BULK AT MOST 1048576: true; the input reads as it did. -/
def leaderRealUptoRow : OpenClaim := { program := "ytpngeppkgoaimaagreatdoor", sum := "ee27621e0304574c4c430dfebf5933c0a5247ccd8b116485fedf89a796200ae2", func := "selfstab/selfstablaw26.LeaderReal", spec := "leaderReal", inPlace := ["internal/bytealg.IndexByteString"], unfollowed := true, recurses := true, named := ["math/bits.deBruijn32tab"], plainKeys := false, apart := false, laid := [("math/bits.deBruijn32tab", laid_math_bits_deBruijn32tab)], narrowed := true }
def LeaderRealUptoSaid : Prop := leaderRealUptoRow.holds Tryz.pinned (OpenSpec.upto leaderRealSpec)

/-- 'selfstablaw23.BfsRounds', WHERE WHAT IT READS IS OF BULK AT MOST 1048576: true; the input reads as it did. -/
def bfsRoundsUptoRow : OpenClaim := { program := "ytpngeppkgoaimaagreatdoor", sum := "ee27621e0304574c4c430dfebf5933c0a5247ccd8b116485fedf89a796200ae2", func := "selfstab/selfstablaw23.BfsRounds", spec := "bfsRounds", inPlace := ["internal/bytealg.IndexByteString"], unfollowed := true, recurses := true, named := ["math/bits.deBruijn32tab"], plainKeys := false, apart := false, laid := [("math/bits.deBruijn32tab", laid_math_bits_deBruijn32tab)], narrowed := true }
def BfsRoundsUptoSaid : Prop := bfsRoundsUptoRow.holds Tryz.pinned (OpenSpec.upto bfsRoundsSpec)

/-- 'selfstablaw23.BfsWays', WHERE WHAT IT READS IS OF BULK AT MOST 1048576: true; the input reads as it did. -/
def bfsWaysUptoRow : OpenClaim := { program := "ytpngeppkgoaimaagreatdoor", sum := "ee27621e0304574c4c430dfebf5933c0a5247ccd8b116485fedf89a796200ae2", func := "selfstab/selfstablaw23.BfsWays", spec := "bfsWays", inPlace := ["internal/bytealg.IndexByteString"], unfollowed := true, recurses := true, named := ["math/bits.deBruijn32tab"], plainKeys := false, apart := false, laid := [("math/bits.deBruijn32tab", laid_math_bits_deBruijn32tab)], narrowed := true }
def BfsWaysUptoSaid : Prop := bfsWaysUptoRow.holds Tryz.pinned (OpenSpec.upto bfsWaysSpec)

/-- 'selfstablaw24.PathsAdd', WHERE WHAT IT READS IS OF BULK AT MOST 1048576: true; the input reads as it did. -/
def pathsAddUptoRow : OpenClaim := { program := "ytpngeppkgoaimaagreatdoor", sum := "ee27621e0304574c4c430dfebf5933c0a5247ccd8b116485fedf89a796200ae2", func := "selfstab/selfstablaw24.PathsAdd", spec := "pathsAdd", inPlace := ["internal/bytealg.IndexByteString"], unfollowed := true, recurses := true, named := ["math/bits.deBruijn32tab"], plainKeys := false, apart := false, laid := [("math/bits.deBruijn32tab", laid_math_bits_deBruijn32tab)], narrowed := true }
def PathsAddUptoSaid : Prop := pathsAddUptoRow.holds Tryz.pinned (OpenSpec.upto pathsAddSpec)

/-- 'selfstablaw26.LeaderReaches', WHERE WHAT IT READS IS OF BULK AT MOST 1048576: true; the input reads as it did. -/
def leaderReachesUptoRow : OpenClaim := { program := "ytpngeppkgoaimaagreatdoor", sum := "ee27621e0304574c4c430dfebf5933c0a5247ccd8b116485fedf89a796200ae2", func := "selfstab/selfstablaw26.LeaderReaches", spec := "leaderReaches", inPlace := ["internal/bytealg.IndexByteString"], unfollowed := true, recurses := true, named := ["math/bits.deBruijn32tab"], plainKeys := false, apart := false, laid := [("math/bits.deBruijn32tab", laid_math_bits_deBruijn32tab)], narrowed := true }
def LeaderReachesUptoSaid : Prop := leaderReachesUptoRow.holds Tryz.pinned (OpenSpec.upto leaderReachesSpec)

/-- 'selfstablaw26.LeaderRests', WHERE WHAT IT READS IS OF BULK AT MOST 1048576: true; the input reads as it did. -/
def leaderRestsUptoRow : OpenClaim := { program := "ytpngeppkgoaimaagreatdoor", sum := "ee27621e0304574c4c430dfebf5933c0a5247ccd8b116485fedf89a796200ae2", func := "selfstab/selfstablaw26.LeaderRests", spec := "leaderRests", inPlace := ["internal/bytealg.IndexByteString"], unfollowed := true, recurses := true, named := ["math/bits.deBruijn32tab"], plainKeys := false, apart := false, laid := [("math/bits.deBruijn32tab", laid_math_bits_deBruijn32tab)], narrowed := true }
def LeaderRestsUptoSaid : Prop := leaderRestsUptoRow.holds Tryz.pinned (OpenSpec.upto leaderRestsSpec)

/-- 'selfstablaw23.BfsReaches', WHERE WHAT IT READS IS OF BULK AT MOST 1048576: true; the input reads as it did. -/
def bfsReachesUptoRow : OpenClaim := { program := "ytpngeppkgoaimaagreatdoor", sum := "ee27621e0304574c4c430dfebf5933c0a5247ccd8b116485fedf89a796200ae2", func := "selfstab/selfstablaw23.BfsReaches", spec := "bfsReaches", inPlace := ["internal/bytealg.IndexByteString"], unfollowed := true, recurses := true, named := ["math/bits.deBruijn32tab"], plainKeys := false, apart := false, laid := [("math/bits.deBruijn32tab", laid_math_bits_deBruijn32tab)], narrowed := true }
def BfsReachesUptoSaid : Prop := bfsReachesUptoRow.holds Tryz.pinned (OpenSpec.upto bfsReachesSpec)

/-- 'selfstablaw23.BfsRests', WHERE WHAT IT READS IS OF BULK AT MOST 1048576: true; the input reads as it did. -/
def bfsRestsUptoRow : OpenClaim := { program := "ytpngeppkgoaimaagreatdoor", sum := "ee27621e0304574c4c430dfebf5933c0a5247ccd8b116485fedf89a796200ae2", func := "selfstab/selfstablaw23.BfsRests", spec := "bfsRests", inPlace := ["internal/bytealg.IndexByteString"], unfollowed := true, recurses := true, named := ["math/bits.deBruijn32tab"], plainKeys := false, apart := false, laid := [("math/bits.deBruijn32tab", laid_math_bits_deBruijn32tab)], narrowed := true }
def BfsRestsUptoSaid : Prop := bfsRestsUptoRow.holds Tryz.pinned (OpenSpec.upto bfsRestsSpec)

/-- 'selfstablaw26.LeaderAnywhere', WHERE WHAT IT READS IS OF BULK AT MOST 1048576: true; the input reads as it did. -/
def leaderAnywhereUptoRow : OpenClaim := { program := "ytpngeppkgoaimaagreatdoor", sum := "ee27621e0304574c4c430dfebf5933c0a5247ccd8b116485fedf89a796200ae2", func := "selfstab/selfstablaw26.LeaderAnywhere", spec := "leaderAnywhere", inPlace := ["internal/bytealg.IndexByteString"], unfollowed := true, recurses := true, named := ["math/bits.deBruijn32tab"], plainKeys := false, apart := false, laid := [("math/bits.deBruijn32tab", laid_math_bits_deBruijn32tab)], narrowed := true }
def LeaderAnywhereUptoSaid : Prop := leaderAnywhereUptoRow.holds Tryz.pinned (OpenSpec.upto leaderAnywhereSpec)

end Rows
end Go.Proofs.YtpngeppkgoaimaaGreatDoor
