/-
  NARROWER THAN 'FOR EVERY INPUT', by the rows' own cells (each row's printed sentence says how): PathsWhole: laid · ColouringWhole: laid · LeaderWhole: laid · BfsWhole: laid · CenterWhole: laid · MatchingWhole: laid · ElectionWhole: laid.
  DERIVED. THE GIVEN ROWS OF THIS SEAT. 7 by the template 'for every input the law returns true; each argument reads behind the call as it read before'; 0 by the template 'total and deterministic' (their statements: YthclbjjgfcgbgaaGreatDoorTotals.lean).
  GIVEN WITH THE SEED: the statements are not yours to turn. If you find one false, say at which input.
  Laid BY PROGRAM, IN A SANDBOX (cutbox-rows.mjs): the forced cells as the released guide's own fill.sh prints them over the translation ee67cd5f8baa1516… (all of the seat's roots in one cut). By AI agents, Wed Nov 11 2026. No macro, syntax, notation, axiom, sorry.
-/
import Derived.Test.YthclbjjgfcgbgaaGreatDoorChecked
import GoSem.Claim
import GoSem.ClaimJoined
import GoSem.ClaimMapViews
import Derived.JoinedTies
import Derived.KernelRfl
namespace Go.Proofs.YthclbjjgfcgbgaaGreatDoor
/- THE CELL 'sum', in the pinned program and in every row, IS THE sha256 OF THE DUMP (.gsa) THAT YthclbjjgfcgbgaaGreatDoorProg.lean LOADS. Nothing in Lean hashes anything: it is a label: what it is worth is what the hold of that sum in a sandbox is worth. -/
noncomputable def Tryz.pinned : Pinned := { name := "ythclbjjgfcgbgaagreatdoor", sum := "ee67cd5f8baa1516fad377977d7f260efc8b4849f3e7927315761757eb6aa8be", checked := Tryz.checked }
namespace Rows
def none {H : Type} : Left H := { results := [], args := [] }

/- WHAT THE LISTED PACKAGE-LEVEL VARIABLES READ AS WHEN THE CALL BEGINS. Each datum BY PROGRAM (the guide's laid-datum.mjs) off the statement by which the dump's own 'gosem.cut.vars' lays the variable. In a bare row this is a premise. The card (YthclbjjgfcgbgaaGreatDoorCards.lean) ties it to the program's text. -/
def laid_math_bits_deBruijn32tab {H : Type} : DataW H := .agg [.lit (.int .u8 0), .lit (.int .u8 1), .lit (.int .u8 28), .lit (.int .u8 2), .lit (.int .u8 29), .lit (.int .u8 14), .lit (.int .u8 24), .lit (.int .u8 3), .lit (.int .u8 30), .lit (.int .u8 22), .lit (.int .u8 20), .lit (.int .u8 15), .lit (.int .u8 25), .lit (.int .u8 17), .lit (.int .u8 4), .lit (.int .u8 8), .lit (.int .u8 31), .lit (.int .u8 27), .lit (.int .u8 13), .lit (.int .u8 23), .lit (.int .u8 21), .lit (.int .u8 19), .lit (.int .u8 16), .lit (.int .u8 7), .lit (.int .u8 26), .lit (.int .u8 12), .lit (.int .u8 18), .lit (.int .u8 6), .lit (.int .u8 11), .lit (.int .u8 5), .lit (.int .u8 10), .lit (.int .u8 9)]

/-- 'selfstablaw24.PathsWhole': WHATEVER THE INPUT: true; the input reads as it did. -/
def pathsWholeSpec : ChangeSpec := { name := "pathsWhole", fn := fun _ => fun
  | [d] => { results := [.lit (.bool true)], args := [d] }
  | _ => none }
def pathsWholeRow : OpenClaim := { program := "ythclbjjgfcgbgaagreatdoor", sum := "ee67cd5f8baa1516fad377977d7f260efc8b4849f3e7927315761757eb6aa8be", func := "selfstab/selfstablaw24.PathsWhole", spec := "pathsWhole", inPlace := ["internal/bytealg.IndexByteString"], unfollowed := true, recurses := true, named := ["math/bits.deBruijn32tab"], plainKeys := false, apart := false, laid := [("math/bits.deBruijn32tab", laid_math_bits_deBruijn32tab)] }
def PathsWholeSaid : Prop := pathsWholeRow.holds Tryz.pinned (OpenSpec.ofChange pathsWholeSpec)

/-- ITS FALSE NEIGHBOUR: 'it returns false'. Refute it at one input. -/
def pathsWholeWrong : ChangeSpec := { name := "pathsWhole", fn := fun _ => fun
  | [d] => { results := [.lit (.bool false)], args := [d] }
  | _ => none }
def PathsWholeWrongFalsely : Prop := pathsWholeRow.holds Tryz.pinned (OpenSpec.ofChange pathsWholeWrong)

/-- 'selfstablaw32.ColouringWhole': WHATEVER THE INPUT: true; the input reads as it did. -/
def colouringWholeSpec : ChangeSpec := { name := "colouringWhole", fn := fun _ => fun
  | [d] => { results := [.lit (.bool true)], args := [d] }
  | _ => none }
def colouringWholeRow : OpenClaim := { program := "ythclbjjgfcgbgaagreatdoor", sum := "ee67cd5f8baa1516fad377977d7f260efc8b4849f3e7927315761757eb6aa8be", func := "selfstab/selfstablaw32.ColouringWhole", spec := "colouringWhole", inPlace := ["internal/bytealg.IndexByteString"], unfollowed := true, recurses := true, named := ["math/bits.deBruijn32tab"], plainKeys := false, apart := false, laid := [("math/bits.deBruijn32tab", laid_math_bits_deBruijn32tab)] }
def ColouringWholeSaid : Prop := colouringWholeRow.holds Tryz.pinned (OpenSpec.ofChange colouringWholeSpec)

/-- ITS FALSE NEIGHBOUR: 'it returns false'. Refute it at one input. -/
def colouringWholeWrong : ChangeSpec := { name := "colouringWhole", fn := fun _ => fun
  | [d] => { results := [.lit (.bool false)], args := [d] }
  | _ => none }
def ColouringWholeWrongFalsely : Prop := colouringWholeRow.holds Tryz.pinned (OpenSpec.ofChange colouringWholeWrong)

/-- 'selfstablaw26.LeaderWhole': WHATEVER THE INPUT: true; the input reads as it did. -/
def leaderWholeSpec : ChangeSpec := { name := "leaderWhole", fn := fun _ => fun
  | [d] => { results := [.lit (.bool true)], args := [d] }
  | _ => none }
def leaderWholeRow : OpenClaim := { program := "ythclbjjgfcgbgaagreatdoor", sum := "ee67cd5f8baa1516fad377977d7f260efc8b4849f3e7927315761757eb6aa8be", func := "selfstab/selfstablaw26.LeaderWhole", spec := "leaderWhole", inPlace := ["internal/bytealg.IndexByteString"], unfollowed := true, recurses := true, named := ["math/bits.deBruijn32tab"], plainKeys := false, apart := false, laid := [("math/bits.deBruijn32tab", laid_math_bits_deBruijn32tab)] }
def LeaderWholeSaid : Prop := leaderWholeRow.holds Tryz.pinned (OpenSpec.ofChange leaderWholeSpec)

/-- ITS FALSE NEIGHBOUR: 'it returns false'. Refute it at one input. -/
def leaderWholeWrong : ChangeSpec := { name := "leaderWhole", fn := fun _ => fun
  | [d] => { results := [.lit (.bool false)], args := [d] }
  | _ => none }
def LeaderWholeWrongFalsely : Prop := leaderWholeRow.holds Tryz.pinned (OpenSpec.ofChange leaderWholeWrong)

/-- 'selfstablaw23.BfsWhole': WHATEVER THE INPUT: true; the input reads as it did. -/
def bfsWholeSpec : ChangeSpec := { name := "bfsWhole", fn := fun _ => fun
  | [d] => { results := [.lit (.bool true)], args := [d] }
  | _ => none }
def bfsWholeRow : OpenClaim := { program := "ythclbjjgfcgbgaagreatdoor", sum := "ee67cd5f8baa1516fad377977d7f260efc8b4849f3e7927315761757eb6aa8be", func := "selfstab/selfstablaw23.BfsWhole", spec := "bfsWhole", inPlace := ["internal/bytealg.IndexByteString"], unfollowed := true, recurses := true, named := ["math/bits.deBruijn32tab"], plainKeys := false, apart := false, laid := [("math/bits.deBruijn32tab", laid_math_bits_deBruijn32tab)] }
def BfsWholeSaid : Prop := bfsWholeRow.holds Tryz.pinned (OpenSpec.ofChange bfsWholeSpec)

/-- ITS FALSE NEIGHBOUR: 'it returns false'. Refute it at one input. -/
def bfsWholeWrong : ChangeSpec := { name := "bfsWhole", fn := fun _ => fun
  | [d] => { results := [.lit (.bool false)], args := [d] }
  | _ => none }
def BfsWholeWrongFalsely : Prop := bfsWholeRow.holds Tryz.pinned (OpenSpec.ofChange bfsWholeWrong)

/-- 'selfstablaw27.CenterWhole': WHATEVER THE INPUT: true; the input reads as it did. -/
def centerWholeSpec : ChangeSpec := { name := "centerWhole", fn := fun _ => fun
  | [d] => { results := [.lit (.bool true)], args := [d] }
  | _ => none }
def centerWholeRow : OpenClaim := { program := "ythclbjjgfcgbgaagreatdoor", sum := "ee67cd5f8baa1516fad377977d7f260efc8b4849f3e7927315761757eb6aa8be", func := "selfstab/selfstablaw27.CenterWhole", spec := "centerWhole", inPlace := ["internal/bytealg.IndexByteString"], unfollowed := true, recurses := true, named := ["math/bits.deBruijn32tab"], plainKeys := false, apart := false, laid := [("math/bits.deBruijn32tab", laid_math_bits_deBruijn32tab)] }
def CenterWholeSaid : Prop := centerWholeRow.holds Tryz.pinned (OpenSpec.ofChange centerWholeSpec)

/-- ITS FALSE NEIGHBOUR: 'it returns false'. Refute it at one input. -/
def centerWholeWrong : ChangeSpec := { name := "centerWhole", fn := fun _ => fun
  | [d] => { results := [.lit (.bool false)], args := [d] }
  | _ => none }
def CenterWholeWrongFalsely : Prop := centerWholeRow.holds Tryz.pinned (OpenSpec.ofChange centerWholeWrong)

/-- 'selfstablaw30.MatchingWhole': WHATEVER THE INPUT: true; the input reads as it did. -/
def matchingWholeSpec : ChangeSpec := { name := "matchingWhole", fn := fun _ => fun
  | [d] => { results := [.lit (.bool true)], args := [d] }
  | _ => none }
def matchingWholeRow : OpenClaim := { program := "ythclbjjgfcgbgaagreatdoor", sum := "ee67cd5f8baa1516fad377977d7f260efc8b4849f3e7927315761757eb6aa8be", func := "selfstab/selfstablaw30.MatchingWhole", spec := "matchingWhole", inPlace := ["internal/bytealg.IndexByteString"], unfollowed := true, recurses := true, named := ["math/bits.deBruijn32tab"], plainKeys := false, apart := false, laid := [("math/bits.deBruijn32tab", laid_math_bits_deBruijn32tab)] }
def MatchingWholeSaid : Prop := matchingWholeRow.holds Tryz.pinned (OpenSpec.ofChange matchingWholeSpec)

/-- ITS FALSE NEIGHBOUR: 'it returns false'. Refute it at one input. -/
def matchingWholeWrong : ChangeSpec := { name := "matchingWhole", fn := fun _ => fun
  | [d] => { results := [.lit (.bool false)], args := [d] }
  | _ => none }
def MatchingWholeWrongFalsely : Prop := matchingWholeRow.holds Tryz.pinned (OpenSpec.ofChange matchingWholeWrong)

/-- 'selfstablaw28.ElectionWhole': WHATEVER THE INPUT: true; the input reads as it did. -/
def electionWholeSpec : ChangeSpec := { name := "electionWhole", fn := fun _ => fun
  | [d] => { results := [.lit (.bool true)], args := [d] }
  | _ => none }
def electionWholeRow : OpenClaim := { program := "ythclbjjgfcgbgaagreatdoor", sum := "ee67cd5f8baa1516fad377977d7f260efc8b4849f3e7927315761757eb6aa8be", func := "selfstab/selfstablaw28.ElectionWhole", spec := "electionWhole", inPlace := ["internal/bytealg.IndexByteString"], unfollowed := true, recurses := true, named := ["math/bits.deBruijn32tab"], plainKeys := false, apart := false, laid := [("math/bits.deBruijn32tab", laid_math_bits_deBruijn32tab)] }
def ElectionWholeSaid : Prop := electionWholeRow.holds Tryz.pinned (OpenSpec.ofChange electionWholeSpec)

/-- ITS FALSE NEIGHBOUR: 'it returns false'. Refute it at one input. -/
def electionWholeWrong : ChangeSpec := { name := "electionWhole", fn := fun _ => fun
  | [d] => { results := [.lit (.bool false)], args := [d] }
  | _ => none }
def ElectionWholeWrongFalsely : Prop := electionWholeRow.holds Tryz.pinned (OpenSpec.ofChange electionWholeWrong)

/- THE SECOND FORM. 'bulk': how many values and letters a reading holds, each counted each time it is reached (what is shared counts as often as it is met; a slice's spare places count too). A statement '..UptoSaid' is the law's where the arguments, and the package variables that the reading takes, are together of bulk at most 1048576: NARROWER than '..Said'. Prove '..Said' where nothing that the law and all that it calls make is longer than what came in: it says more and counts as full. Else prove '..UptoSaid'. A law counts once. -/
mutual
def uptoBulk {H : Type} : DataW H → Nat
  | .lit (.string bytes) => bytes.length + 1
  | .lit _ => 1
  | .nil => 1
  | .ptr d => uptoBulk d + 1
  | .slice elems spare => uptoBulkAll elems + uptoBulkAll spare + 1
  | .agg parts => uptoBulkAll parts + 1
  | .iface _ d => uptoBulk d + 1
  | .map entries => uptoBulkEntries entries + 1
  | .held _ => 1
def uptoBulkAll {H : Type} : List (DataW H) → Nat
  | [] => 0
  | d :: r => uptoBulk d + uptoBulkAll r
def uptoBulkEntries {H : Type} : List (Lit × DataW H) → Nat
  | [] => 0
  | x :: r => uptoBulkEntry x + uptoBulkEntries r
def uptoBulkEntry {H : Type} : Lit × DataW H → Nat
  | (.string bytes, d) => bytes.length + uptoBulk d + 1
  | (_, d) => uptoBulk d + 1
 end
def uptoSmall : (H : Type) → List (DataW H) → Bool := fun _ ds => decide (uptoBulkAll ds ≤ 1048576)
def OpenSpec.upto (s : _root_.Go.ChangeSpec) : _root_.Go.OpenSpec := { _root_.Go.OpenSpec.ofChange s with cond := some uptoSmall }

/-- 'selfstablaw24.PathsWhole', WHERE WHAT IT READS IS OF BULK AT MOST 1048576: true; the input reads as it did. -/
def pathsWholeUptoRow : OpenClaim := { program := "ythclbjjgfcgbgaagreatdoor", sum := "ee67cd5f8baa1516fad377977d7f260efc8b4849f3e7927315761757eb6aa8be", func := "selfstab/selfstablaw24.PathsWhole", spec := "pathsWhole", inPlace := ["internal/bytealg.IndexByteString"], unfollowed := true, recurses := true, named := ["math/bits.deBruijn32tab"], plainKeys := false, apart := false, laid := [("math/bits.deBruijn32tab", laid_math_bits_deBruijn32tab)], narrowed := true }
def PathsWholeUptoSaid : Prop := pathsWholeUptoRow.holds Tryz.pinned (OpenSpec.upto pathsWholeSpec)

/-- 'selfstablaw32.ColouringWhole', WHERE WHAT IT READS IS OF BULK AT MOST 1048576: true; the input reads as it did. -/
def colouringWholeUptoRow : OpenClaim := { program := "ythclbjjgfcgbgaagreatdoor", sum := "ee67cd5f8baa1516fad377977d7f260efc8b4849f3e7927315761757eb6aa8be", func := "selfstab/selfstablaw32.ColouringWhole", spec := "colouringWhole", inPlace := ["internal/bytealg.IndexByteString"], unfollowed := true, recurses := true, named := ["math/bits.deBruijn32tab"], plainKeys := false, apart := false, laid := [("math/bits.deBruijn32tab", laid_math_bits_deBruijn32tab)], narrowed := true }
def ColouringWholeUptoSaid : Prop := colouringWholeUptoRow.holds Tryz.pinned (OpenSpec.upto colouringWholeSpec)

/-- 'selfstablaw26.LeaderWhole', WHERE WHAT IT READS IS OF BULK AT MOST 1048576: true; the input reads as it did. -/
def leaderWholeUptoRow : OpenClaim := { program := "ythclbjjgfcgbgaagreatdoor", sum := "ee67cd5f8baa1516fad377977d7f260efc8b4849f3e7927315761757eb6aa8be", func := "selfstab/selfstablaw26.LeaderWhole", spec := "leaderWhole", inPlace := ["internal/bytealg.IndexByteString"], unfollowed := true, recurses := true, named := ["math/bits.deBruijn32tab"], plainKeys := false, apart := false, laid := [("math/bits.deBruijn32tab", laid_math_bits_deBruijn32tab)], narrowed := true }
def LeaderWholeUptoSaid : Prop := leaderWholeUptoRow.holds Tryz.pinned (OpenSpec.upto leaderWholeSpec)

/-- 'selfstablaw23.BfsWhole', WHERE WHAT IT READS IS OF BULK AT MOST 1048576: true; the input reads as it did. -/
def bfsWholeUptoRow : OpenClaim := { program := "ythclbjjgfcgbgaagreatdoor", sum := "ee67cd5f8baa1516fad377977d7f260efc8b4849f3e7927315761757eb6aa8be", func := "selfstab/selfstablaw23.BfsWhole", spec := "bfsWhole", inPlace := ["internal/bytealg.IndexByteString"], unfollowed := true, recurses := true, named := ["math/bits.deBruijn32tab"], plainKeys := false, apart := false, laid := [("math/bits.deBruijn32tab", laid_math_bits_deBruijn32tab)], narrowed := true }
def BfsWholeUptoSaid : Prop := bfsWholeUptoRow.holds Tryz.pinned (OpenSpec.upto bfsWholeSpec)

/-- 'selfstablaw27.CenterWhole', WHERE WHAT IT READS IS OF BULK AT MOST 1048576: true; the input reads as it did. -/
def centerWholeUptoRow : OpenClaim := { program := "ythclbjjgfcgbgaagreatdoor", sum := "ee67cd5f8baa1516fad377977d7f260efc8b4849f3e7927315761757eb6aa8be", func := "selfstab/selfstablaw27.CenterWhole", spec := "centerWhole", inPlace := ["internal/bytealg.IndexByteString"], unfollowed := true, recurses := true, named := ["math/bits.deBruijn32tab"], plainKeys := false, apart := false, laid := [("math/bits.deBruijn32tab", laid_math_bits_deBruijn32tab)], narrowed := true }
def CenterWholeUptoSaid : Prop := centerWholeUptoRow.holds Tryz.pinned (OpenSpec.upto centerWholeSpec)

/-- 'selfstablaw30.MatchingWhole', WHERE WHAT IT READS IS OF BULK AT MOST 1048576: true; the input reads as it did. -/
def matchingWholeUptoRow : OpenClaim := { program := "ythclbjjgfcgbgaagreatdoor", sum := "ee67cd5f8baa1516fad377977d7f260efc8b4849f3e7927315761757eb6aa8be", func := "selfstab/selfstablaw30.MatchingWhole", spec := "matchingWhole", inPlace := ["internal/bytealg.IndexByteString"], unfollowed := true, recurses := true, named := ["math/bits.deBruijn32tab"], plainKeys := false, apart := false, laid := [("math/bits.deBruijn32tab", laid_math_bits_deBruijn32tab)], narrowed := true }
def MatchingWholeUptoSaid : Prop := matchingWholeUptoRow.holds Tryz.pinned (OpenSpec.upto matchingWholeSpec)

/-- 'selfstablaw28.ElectionWhole', WHERE WHAT IT READS IS OF BULK AT MOST 1048576: true; the input reads as it did. -/
def electionWholeUptoRow : OpenClaim := { program := "ythclbjjgfcgbgaagreatdoor", sum := "ee67cd5f8baa1516fad377977d7f260efc8b4849f3e7927315761757eb6aa8be", func := "selfstab/selfstablaw28.ElectionWhole", spec := "electionWhole", inPlace := ["internal/bytealg.IndexByteString"], unfollowed := true, recurses := true, named := ["math/bits.deBruijn32tab"], plainKeys := false, apart := false, laid := [("math/bits.deBruijn32tab", laid_math_bits_deBruijn32tab)], narrowed := true }
def ElectionWholeUptoSaid : Prop := electionWholeUptoRow.holds Tryz.pinned (OpenSpec.upto electionWholeSpec)

end Rows
end Go.Proofs.YthclbjjgfcgbgaaGreatDoor
