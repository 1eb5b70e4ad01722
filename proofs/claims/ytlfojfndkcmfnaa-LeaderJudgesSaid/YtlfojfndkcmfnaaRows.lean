/-
  No cell of these rows narrows 'for every input' (looked for: loops, veiled, ifaces, maps, wideKeys, modest, calm, conditions, laid).
  DERIVED. THE GIVEN ROWS OF THIS SEAT. 3 by the template 'for every input the law returns true; each argument reads behind the call as it read before'; 0 by the template 'total and deterministic' (their statements: YtlfojfndkcmfnaaTotals.lean).
  GIVEN WITH THE SEED: the statements are not yours to turn. If you find one false, say at which input.
  Laid BY PROGRAM, IN A SANDBOX (cutbox-rows.mjs): the forced cells as the released guide's own fill.sh prints them over the translation 4009047a039609d8… (all of the seat's roots in one cut). By AI agents, Wed Nov 11 2026. No macro, syntax, notation, axiom, sorry.
-/
import Derived.Test.YtlfojfndkcmfnaaChecked
import GoSem.Claim
import GoSem.ClaimJoined
import GoSem.ClaimMapViews
import Derived.JoinedTies
import Derived.KernelRfl
namespace Go.Proofs.Ytlfojfndkcmfnaa
/- THE CELL 'sum', in the pinned program and in every row, IS THE sha256 OF THE DUMP (.gsa) THAT YtlfojfndkcmfnaaProg.lean LOADS. Nothing in Lean hashes anything: it is a label: what it is worth is what the hold of that sum in a sandbox is worth. -/
noncomputable def Try.pinned : Pinned := { name := "ytlfojfndkcmfnaa", sum := "4009047a039609d8f4fe7e63e1138c1d00c8bfd0c8f9ac5032961b4b55377c28", checked := Try.checked }
namespace Rows
def none {H : Type} : Left H := { results := [], args := [] }

/-- 'selfstablaw23.BfsJudges': WHATEVER THE INPUT: true; the input reads as it did. -/
def bfsJudgesSpec : ChangeSpec := { name := "bfsJudges", fn := fun _ => fun
  | [d1, d2] => { results := [.lit (.bool true)], args := [d1, d2] }
  | _ => none }
def bfsJudgesRow : OpenClaim := { program := "ytlfojfndkcmfnaa", sum := "4009047a039609d8f4fe7e63e1138c1d00c8bfd0c8f9ac5032961b4b55377c28", func := "selfstab/selfstablaw23.BfsJudges", spec := "bfsJudges", unfollowed := true, recurses := true, plainKeys := false, apart := false }
def BfsJudgesSaid : Prop := bfsJudgesRow.holds Try.pinned (OpenSpec.ofChange bfsJudgesSpec)

/-- ITS FALSE NEIGHBOUR: 'it returns false'. Refute it at one input. -/
def bfsJudgesWrong : ChangeSpec := { name := "bfsJudges", fn := fun _ => fun
  | [d1, d2] => { results := [.lit (.bool false)], args := [d1, d2] }
  | _ => none }
def BfsJudgesWrongFalsely : Prop := bfsJudgesRow.holds Try.pinned (OpenSpec.ofChange bfsJudgesWrong)

/-- 'selfstablaw26.LeaderJudges': WHATEVER THE INPUT: true; the input reads as it did. -/
def leaderJudgesSpec : ChangeSpec := { name := "leaderJudges", fn := fun _ => fun
  | [d1, d2] => { results := [.lit (.bool true)], args := [d1, d2] }
  | _ => none }
def leaderJudgesRow : OpenClaim := { program := "ytlfojfndkcmfnaa", sum := "4009047a039609d8f4fe7e63e1138c1d00c8bfd0c8f9ac5032961b4b55377c28", func := "selfstab/selfstablaw26.LeaderJudges", spec := "leaderJudges", unfollowed := true, recurses := true, plainKeys := false, apart := false }
def LeaderJudgesSaid : Prop := leaderJudgesRow.holds Try.pinned (OpenSpec.ofChange leaderJudgesSpec)

/-- ITS FALSE NEIGHBOUR: 'it returns false'. Refute it at one input. -/
def leaderJudgesWrong : ChangeSpec := { name := "leaderJudges", fn := fun _ => fun
  | [d1, d2] => { results := [.lit (.bool false)], args := [d1, d2] }
  | _ => none }
def LeaderJudgesWrongFalsely : Prop := leaderJudgesRow.holds Try.pinned (OpenSpec.ofChange leaderJudgesWrong)

/-- 'selfstablaw27.CenterJudges': WHATEVER THE INPUT: true; the input reads as it did. -/
def centerJudgesSpec : ChangeSpec := { name := "centerJudges", fn := fun _ => fun
  | [d1, d2] => { results := [.lit (.bool true)], args := [d1, d2] }
  | _ => none }
def centerJudgesRow : OpenClaim := { program := "ytlfojfndkcmfnaa", sum := "4009047a039609d8f4fe7e63e1138c1d00c8bfd0c8f9ac5032961b4b55377c28", func := "selfstab/selfstablaw27.CenterJudges", spec := "centerJudges", unfollowed := true, recurses := true, plainKeys := false, apart := false }
def CenterJudgesSaid : Prop := centerJudgesRow.holds Try.pinned (OpenSpec.ofChange centerJudgesSpec)

/-- ITS FALSE NEIGHBOUR: 'it returns false'. Refute it at one input. -/
def centerJudgesWrong : ChangeSpec := { name := "centerJudges", fn := fun _ => fun
  | [d1, d2] => { results := [.lit (.bool false)], args := [d1, d2] }
  | _ => none }
def CenterJudgesWrongFalsely : Prop := centerJudgesRow.holds Try.pinned (OpenSpec.ofChange centerJudgesWrong)

/- THE SECOND FORM. 'bulk': how many values and letters a reading holds, each counted each time it is reached (what is shared counts as often as it is met; a slice's spare places count too). A statement '..UptoSaid' is the law's where the arguments, and the package variables that the reading takes, are together of bulk at most 1048576: NARROWER than '..Said'. Prove '..Said' where nothing that the law and all that it calls make is longer than what came in: it says more and counts as full. Else prove '..UptoSaid'. A law counts once. -/
mutual
def uptoBulk {H : Type} : DataW H → Nat
  | .lit (.string bytes) => bytes.length + 1
  | .lit _ => 1
  | .nil => 1
  | .ptr d => uptoBulk d + 1
  | .slice elems spare => uptoBulkAll elems + uptoBulkAll spare + 1
  | .agg parts => uptoBulkAll parts + 1
  | .iface _ d => uptoBulk d + 1
  | .map entries => uptoBulkEntries entries + 1
  | .held _ => 1
def uptoBulkAll {H : Type} : List (DataW H) → Nat
  | [] => 0
  | d :: r => uptoBulk d + uptoBulkAll r
def uptoBulkEntries {H : Type} : List (Lit × DataW H) → Nat
  | [] => 0
  | x :: r => uptoBulkEntry x + uptoBulkEntries r
def uptoBulkEntry {H : Type} : Lit × DataW H → Nat
  | (.string bytes, d) => bytes.length + uptoBulk d + 1
  | (_, d) => uptoBulk d + 1
 end
def uptoSmall : (H : Type) → List (DataW H) → Bool := fun _ ds => decide (uptoBulkAll ds ≤ 1048576)
def OpenSpec.upto (s : _root_.Go.ChangeSpec) : _root_.Go.OpenSpec := { _root_.Go.OpenSpec.ofChange s with cond := some uptoSmall }

/-- 'selfstablaw23.BfsJudges', WHERE WHAT IT READS IS OF BULK AT MOST 1048576: true; the input reads as it did. -/
def bfsJudgesUptoRow : OpenClaim := { program := "ytlfojfndkcmfnaa", sum := "4009047a039609d8f4fe7e63e1138c1d00c8bfd0c8f9ac5032961b4b55377c28", func := "selfstab/selfstablaw23.BfsJudges", spec := "bfsJudges", unfollowed := true, recurses := true, plainKeys := false, apart := false, narrowed := true }
def BfsJudgesUptoSaid : Prop := bfsJudgesUptoRow.holds Try.pinned (OpenSpec.upto bfsJudgesSpec)

/-- 'selfstablaw26.LeaderJudges', WHERE WHAT IT READS IS OF BULK AT MOST 1048576: true; the input reads as it did. -/
def leaderJudgesUptoRow : OpenClaim := { program := "ytlfojfndkcmfnaa", sum := "4009047a039609d8f4fe7e63e1138c1d00c8bfd0c8f9ac5032961b4b55377c28", func := "selfstab/selfstablaw26.LeaderJudges", spec := "leaderJudges", unfollowed := true, recurses := true, plainKeys := false, apart := false, narrowed := true }
def LeaderJudgesUptoSaid : Prop := leaderJudgesUptoRow.holds Try.pinned (OpenSpec.upto leaderJudgesSpec)

/-- 'selfstablaw27.CenterJudges', WHERE WHAT IT READS IS OF BULK AT MOST 1048576: true; the input reads as it did. -/
def centerJudgesUptoRow : OpenClaim := { program := "ytlfojfndkcmfnaa", sum := "4009047a039609d8f4fe7e63e1138c1d00c8bfd0c8f9ac5032961b4b55377c28", func := "selfstab/selfstablaw27.CenterJudges", spec := "centerJudges", unfollowed := true, recurses := true, plainKeys := false, apart := false, narrowed := true }
def CenterJudgesUptoSaid : Prop := centerJudgesUptoRow.holds Try.pinned (OpenSpec.upto centerJudgesSpec)

end Rows
end Go.Proofs.Ytlfojfndkcmfnaa
