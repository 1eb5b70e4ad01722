/-
  No cell of these rows narrows 'for every input' (looked for: loops, veiled, ifaces, maps, wideKeys, modest, calm, conditions, laid).
  DERIVED. THE GIVEN ROWS OF THIS SEAT. 7 by the template 'for every input the law returns true; each argument reads behind the call as it read before'; 0 by the template 'total and deterministic' (their statements: YtbhjopjonoldmaaGreatTotals.lean).
  GIVEN WITH THE SEED: the statements are not yours to turn. If you find one false, say at which input.
  Laid BY PROGRAM, IN A SANDBOX (cutbox-rows.mjs): the forced cells as the released guide's own fill.sh prints them over the translation 50c7b9a009a44767… (all of the seat's roots in one cut). By AI agents, Wed Nov 11 2026. No macro, syntax, notation, axiom, sorry.
-/
import Derived.Test.YtbhjopjonoldmaaGreatChecked
import GoSem.Claim
import GoSem.ClaimJoined
import GoSem.ClaimMapViews
import Derived.JoinedTies
import Derived.KernelRfl
namespace Go.Proofs.YtbhjopjonoldmaaGreat
/- THE CELL 'sum', in the pinned program and in every row, IS THE sha256 OF THE DUMP (.gsa) THAT YtbhjopjonoldmaaGreatProg.lean LOADS. Nothing in Lean hashes anything: it is a label: what it is worth is what the hold of that sum in a sandbox is worth. -/
noncomputable def Tryz.pinned : Pinned := { name := "ytbhjopjonoldmaagreat", sum := "50c7b9a009a4476784b884fcb4cc1357bf3f73695d2a6f06de695269664384ae", checked := Tryz.checked }
namespace Rows
def none {H : Type} : Left H := { results := [], args := [] }

/-- 'selfstablaw24.PathsText': WHATEVER THE INPUT: true; the input reads as it did. -/
def pathsTextSpec : ChangeSpec := { name := "pathsText", fn := fun _ => fun
  | [d] => { results := [.lit (.bool true)], args := [d] }
  | _ => none }
def pathsTextRow : OpenClaim := { program := "ytbhjopjonoldmaagreat", sum := "50c7b9a009a4476784b884fcb4cc1357bf3f73695d2a6f06de695269664384ae", func := "selfstab/selfstablaw24.PathsText", spec := "pathsText", inPlace := ["internal/bytealg.IndexByteString"], unfollowed := true, recurses := true, plainKeys := false, apart := false }
def PathsTextSaid : Prop := pathsTextRow.holds Tryz.pinned (OpenSpec.ofChange pathsTextSpec)

/-- ITS FALSE NEIGHBOUR: 'it returns false'. Refute it at one input. -/
def pathsTextWrong : ChangeSpec := { name := "pathsText", fn := fun _ => fun
  | [d] => { results := [.lit (.bool false)], args := [d] }
  | _ => none }
def PathsTextWrongFalsely : Prop := pathsTextRow.holds Tryz.pinned (OpenSpec.ofChange pathsTextWrong)

/-- 'selfstablaw23.BfsText': WHATEVER THE INPUT: true; the input reads as it did. -/
def bfsTextSpec : ChangeSpec := { name := "bfsText", fn := fun _ => fun
  | [d] => { results := [.lit (.bool true)], args := [d] }
  | _ => none }
def bfsTextRow : OpenClaim := { program := "ytbhjopjonoldmaagreat", sum := "50c7b9a009a4476784b884fcb4cc1357bf3f73695d2a6f06de695269664384ae", func := "selfstab/selfstablaw23.BfsText", spec := "bfsText", inPlace := ["internal/bytealg.IndexByteString"], unfollowed := true, recurses := true, plainKeys := false, apart := false }
def BfsTextSaid : Prop := bfsTextRow.holds Tryz.pinned (OpenSpec.ofChange bfsTextSpec)

/-- ITS FALSE NEIGHBOUR: 'it returns false'. Refute it at one input. -/
def bfsTextWrong : ChangeSpec := { name := "bfsText", fn := fun _ => fun
  | [d] => { results := [.lit (.bool false)], args := [d] }
  | _ => none }
def BfsTextWrongFalsely : Prop := bfsTextRow.holds Tryz.pinned (OpenSpec.ofChange bfsTextWrong)

/-- 'selfstablaw26.LeaderText': WHATEVER THE INPUT: true; the input reads as it did. -/
def leaderTextSpec : ChangeSpec := { name := "leaderText", fn := fun _ => fun
  | [d] => { results := [.lit (.bool true)], args := [d] }
  | _ => none }
def leaderTextRow : OpenClaim := { program := "ytbhjopjonoldmaagreat", sum := "50c7b9a009a4476784b884fcb4cc1357bf3f73695d2a6f06de695269664384ae", func := "selfstab/selfstablaw26.LeaderText", spec := "leaderText", inPlace := ["internal/bytealg.IndexByteString"], unfollowed := true, recurses := true, plainKeys := false, apart := false }
def LeaderTextSaid : Prop := leaderTextRow.holds Tryz.pinned (OpenSpec.ofChange leaderTextSpec)

/-- ITS FALSE NEIGHBOUR: 'it returns false'. Refute it at one input. -/
def leaderTextWrong : ChangeSpec := { name := "leaderText", fn := fun _ => fun
  | [d] => { results := [.lit (.bool false)], args := [d] }
  | _ => none }
def LeaderTextWrongFalsely : Prop := leaderTextRow.holds Tryz.pinned (OpenSpec.ofChange leaderTextWrong)

/-- 'selfstablaw27.CenterText': WHATEVER THE INPUT: true; the input reads as it did. -/
def centerTextSpec : ChangeSpec := { name := "centerText", fn := fun _ => fun
  | [d] => { results := [.lit (.bool true)], args := [d] }
  | _ => none }
def centerTextRow : OpenClaim := { program := "ytbhjopjonoldmaagreat", sum := "50c7b9a009a4476784b884fcb4cc1357bf3f73695d2a6f06de695269664384ae", func := "selfstab/selfstablaw27.CenterText", spec := "centerText", inPlace := ["internal/bytealg.IndexByteString"], unfollowed := true, recurses := true, plainKeys := false, apart := false }
def CenterTextSaid : Prop := centerTextRow.holds Tryz.pinned (OpenSpec.ofChange centerTextSpec)

/-- ITS FALSE NEIGHBOUR: 'it returns false'. Refute it at one input. -/
def centerTextWrong : ChangeSpec := { name := "centerText", fn := fun _ => fun
  | [d] => { results := [.lit (.bool false)], args := [d] }
  | _ => none }
def CenterTextWrongFalsely : Prop := centerTextRow.holds Tryz.pinned (OpenSpec.ofChange centerTextWrong)

/-- 'selfstablaw32.ColouringText': WHATEVER THE INPUT: true; the input reads as it did. -/
def colouringTextSpec : ChangeSpec := { name := "colouringText", fn := fun _ => fun
  | [d] => { results := [.lit (.bool true)], args := [d] }
  | _ => none }
def colouringTextRow : OpenClaim := { program := "ytbhjopjonoldmaagreat", sum := "50c7b9a009a4476784b884fcb4cc1357bf3f73695d2a6f06de695269664384ae", func := "selfstab/selfstablaw32.ColouringText", spec := "colouringText", inPlace := ["internal/bytealg.IndexByteString"], unfollowed := true, recurses := true, plainKeys := false, apart := false }
def ColouringTextSaid : Prop := colouringTextRow.holds Tryz.pinned (OpenSpec.ofChange colouringTextSpec)

/-- ITS FALSE NEIGHBOUR: 'it returns false'. Refute it at one input. -/
def colouringTextWrong : ChangeSpec := { name := "colouringText", fn := fun _ => fun
  | [d] => { results := [.lit (.bool false)], args := [d] }
  | _ => none }
def ColouringTextWrongFalsely : Prop := colouringTextRow.holds Tryz.pinned (OpenSpec.ofChange colouringTextWrong)

/-- 'selfstablaw30.MatchingText': WHATEVER THE INPUT: true; the input reads as it did. -/
def matchingTextSpec : ChangeSpec := { name := "matchingText", fn := fun _ => fun
  | [d] => { results := [.lit (.bool true)], args := [d] }
  | _ => none }
def matchingTextRow : OpenClaim := { program := "ytbhjopjonoldmaagreat", sum := "50c7b9a009a4476784b884fcb4cc1357bf3f73695d2a6f06de695269664384ae", func := "selfstab/selfstablaw30.MatchingText", spec := "matchingText", inPlace := ["internal/bytealg.IndexByteString"], unfollowed := true, recurses := true, plainKeys := false, apart := false }
def MatchingTextSaid : Prop := matchingTextRow.holds Tryz.pinned (OpenSpec.ofChange matchingTextSpec)

/-- ITS FALSE NEIGHBOUR: 'it returns false'. Refute it at one input. -/
def matchingTextWrong : ChangeSpec := { name := "matchingText", fn := fun _ => fun
  | [d] => { results := [.lit (.bool false)], args := [d] }
  | _ => none }
def MatchingTextWrongFalsely : Prop := matchingTextRow.holds Tryz.pinned (OpenSpec.ofChange matchingTextWrong)

/-- 'selfstablaw28.ElectionText': WHATEVER THE INPUT: true; the input reads as it did. -/
def electionTextSpec : ChangeSpec := { name := "electionText", fn := fun _ => fun
  | [d] => { results := [.lit (.bool true)], args := [d] }
  | _ => none }
def electionTextRow : OpenClaim := { program := "ytbhjopjonoldmaagreat", sum := "50c7b9a009a4476784b884fcb4cc1357bf3f73695d2a6f06de695269664384ae", func := "selfstab/selfstablaw28.ElectionText", spec := "electionText", inPlace := ["internal/bytealg.IndexByteString"], unfollowed := true, recurses := true, plainKeys := false, apart := false }
def ElectionTextSaid : Prop := electionTextRow.holds Tryz.pinned (OpenSpec.ofChange electionTextSpec)

/-- ITS FALSE NEIGHBOUR: 'it returns false'. Refute it at one input. -/
def electionTextWrong : ChangeSpec := { name := "electionText", fn := fun _ => fun
  | [d] => { results := [.lit (.bool false)], args := [d] }
  | _ => none }
def ElectionTextWrongFalsely : Prop := electionTextRow.holds Tryz.pinned (OpenSpec.ofChange electionTextWrong)

/- THE SECOND FORM. 'bulk': how many values and letters a reading holds, each counted each time it is reached (what is shared counts as often as it is met; a slice's spare places count too). A statement '..UptoSaid' is the law's where the arguments, and the package variables that the reading takes, are together of bulk at most 1048576: NARROWER than '..Said'. Prove '..Said' where nothing that the law and all that it calls make is longer than what came in: it says more and counts as full. Else prove '..UptoSaid'. A law counts once. -/
mutual
def uptoBulk {H : Type} : DataW H → Nat
  | .lit (.string bytes) => bytes.length + 1
  | .lit _ => 1
  | .nil => 1
  | .ptr d => uptoBulk d + 1
  | .slice elems spare => uptoBulkAll elems + uptoBulkAll spare + 1
  | .agg parts => uptoBulkAll parts + 1
  | .iface _ d => uptoBulk d + 1
  | .map entries => uptoBulkEntries entries + 1
  | .held _ => 1
def uptoBulkAll {H : Type} : List (DataW H) → Nat
  | [] => 0
  | d :: r => uptoBulk d + uptoBulkAll r
def uptoBulkEntries {H : Type} : List (Lit × DataW H) → Nat
  | [] => 0
  | x :: r => uptoBulkEntry x + uptoBulkEntries r
def uptoBulkEntry {H : Type} : Lit × DataW H → Nat
  | (.string bytes, d) => bytes.length + uptoBulk d + 1
  | (_, d) => uptoBulk d + 1
 end
def uptoSmall : (H : Type) → List (DataW H) → Bool := fun _ ds => decide (uptoBulkAll ds ≤ 1048576)
def OpenSpec.upto (s : _root_.Go.ChangeSpec) : _root_.Go.OpenSpec := { _root_.Go.OpenSpec.ofChange s with cond := some uptoSmall }

/-- 'selfstablaw24.PathsText', WHERE WHAT IT READS IS OF BULK AT MOST 1048576: true; the input reads as it did. -/
def pathsTextUptoRow : OpenClaim := { program := "ytbhjopjonoldmaagreat", sum := "50c7b9a009a4476784b884fcb4cc1357bf3f73695d2a6f06de695269664384ae", func := "selfstab/selfstablaw24.PathsText", spec := "pathsText", inPlace := ["internal/bytealg.IndexByteString"], unfollowed := true, recurses := true, plainKeys := false, apart := false, narrowed := true }
def PathsTextUptoSaid : Prop := pathsTextUptoRow.holds Tryz.pinned (OpenSpec.upto pathsTextSpec)

/-- 'selfstablaw23.BfsText', WHERE WHAT IT READS IS OF BULK AT MOST 1048576: true; the input reads as it did. -/
def bfsTextUptoRow : OpenClaim := { program := "ytbhjopjonoldmaagreat", sum := "50c7b9a009a4476784b884fcb4cc1357bf3f73695d2a6f06de695269664384ae", func := "selfstab/selfstablaw23.BfsText", spec := "bfsText", inPlace := ["internal/bytealg.IndexByteString"], unfollowed := true, recurses := true, plainKeys := false, apart := false, narrowed := true }
def BfsTextUptoSaid : Prop := bfsTextUptoRow.holds Tryz.pinned (OpenSpec.upto bfsTextSpec)

/-- 'selfstablaw26.LeaderText', WHERE WHAT IT READS IS OF BULK AT MOST 1048576: true; the input reads as it did. -/
def leaderTextUptoRow : OpenClaim := { program := "ytbhjopjonoldmaagreat", sum := "50c7b9a009a4476784b884fcb4cc1357bf3f73695d2a6f06de695269664384ae", func := "selfstab/selfstablaw26.LeaderText", spec := "leaderText", inPlace := ["internal/bytealg.IndexByteString"], unfollowed := true, recurses := true, plainKeys := false, apart := false, narrowed := true }
def LeaderTextUptoSaid : Prop := leaderTextUptoRow.holds Tryz.pinned (OpenSpec.upto leaderTextSpec)

/-- 'selfstablaw27.CenterText', WHERE WHAT IT READS IS OF BULK AT MOST 1048576: true; the input reads as it did. -/
def centerTextUptoRow : OpenClaim := { program := "ytbhjopjonoldmaagreat", sum := "50c7b9a009a4476784b884fcb4cc1357bf3f73695d2a6f06de695269664384ae", func := "selfstab/selfstablaw27.CenterText", spec := "centerText", inPlace := ["internal/bytealg.IndexByteString"], unfollowed := true, recurses := true, plainKeys := false, apart := false, narrowed := true }
def CenterTextUptoSaid : Prop := centerTextUptoRow.holds Tryz.pinned (OpenSpec.upto centerTextSpec)

/-- 'selfstablaw32.ColouringText', WHERE WHAT IT READS IS OF BULK AT MOST 1048576: true; the input reads as it did. -/
def colouringTextUptoRow : OpenClaim := { program := "ytbhjopjonoldmaagreat", sum := "50c7b9a009a4476784b884fcb4cc1357bf3f73695d2a6f06de695269664384ae", func := "selfstab/selfstablaw32.ColouringText", spec := "colouringText", inPlace := ["internal/bytealg.IndexByteString"], unfollowed := true, recurses := true, plainKeys := false, apart := false, narrowed := true }
def ColouringTextUptoSaid : Prop := colouringTextUptoRow.holds Tryz.pinned (OpenSpec.upto colouringTextSpec)

/-- 'selfstablaw30.MatchingText', WHERE WHAT IT READS IS OF BULK AT MOST 1048576: true; the input reads as it did. -/
def matchingTextUptoRow : OpenClaim := { program := "ytbhjopjonoldmaagreat", sum := "50c7b9a009a4476784b884fcb4cc1357bf3f73695d2a6f06de695269664384ae", func := "selfstab/selfstablaw30.MatchingText", spec := "matchingText", inPlace := ["internal/bytealg.IndexByteString"], unfollowed := true, recurses := true, plainKeys := false, apart := false, narrowed := true }
def MatchingTextUptoSaid : Prop := matchingTextUptoRow.holds Tryz.pinned (OpenSpec.upto matchingTextSpec)

/-- 'selfstablaw28.ElectionText', WHERE WHAT IT READS IS OF BULK AT MOST 1048576: true; the input reads as it did. -/
def electionTextUptoRow : OpenClaim := { program := "ytbhjopjonoldmaagreat", sum := "50c7b9a009a4476784b884fcb4cc1357bf3f73695d2a6f06de695269664384ae", func := "selfstab/selfstablaw28.ElectionText", spec := "electionText", inPlace := ["internal/bytealg.IndexByteString"], unfollowed := true, recurses := true, plainKeys := false, apart := false, narrowed := true }
def ElectionTextUptoSaid : Prop := electionTextUptoRow.holds Tryz.pinned (OpenSpec.upto electionTextSpec)

end Rows
end Go.Proofs.YtbhjopjonoldmaaGreat
