/- MatchingText at any number. Printed by wip/facts3.py. -/
import Derived.Test.YtbhjopjonoldmaaGreatRvV
import Derived.Test.YtbhjopjonoldmaaGreatTxB
import Derived.Test.YtbhjopjonoldmaaGreatMt6
import Derived.Test.YtbhjopjonoldmaaGreatMt10
namespace Go.Proofs.YtbhjopjonoldmaaGreat
namespace Ev
open Go Go.RowKit
noncomputable def mtBody : Code := Option.rec Code.skip (fun c => c) Tryz.f8.body
noncomputable def mtPre : List Code := [seqHead mtBody, seqHead (seqTail mtBody), seqHead (seqTail (seqTail mtBody)), seqHead (seqTail (seqTail (seqTail mtBody)))]
noncomputable def mtRest : Code := seqTail (seqTail (seqTail (seqTail (seqTail mtBody))))
def mtH : Hooks := hk [Mtg8_0, Mtg24_0]
theorem mtH_ok : AllOk [Mtg8_0, Mtg24_0] := (AllOk.cons (Mtg8L_ok _ (List.Mem.head _)) (AllOk.cons (Mtg24L_ok _ (List.Mem.head _)) AllOk.nil))
noncomputable def mtB (n k : Int) : Option (Option Value × Nat × Value) :=
  match evSeqs Tryz.prog mtH mtPre ⟨Nat.max 1 Tryz.f8.ntmps, tOf [.int .i64 n]⟩ (enterM mem0) with
  | some ⟨f, m⟩ => (match f.t.get 6 with
    | some (.slice (some A) len c) => (match putAll [(28, .int .i64 n), (29, .slice (some A) len c), (30, .int .i64 len), (31, .int .i64 k), (0, .int .i64 k)] f with
      | some f' => (match ev Tryz.prog mtH 3000 (.code mtRest f' m) with
        | some (.code .ret f2 m2) => (match leaveFn Tryz.prog mem0 Tryz.f8.results.toList f2 m2 with
          | some (.call v _) => some (f.t.get 0, len, v)
          | _ => none)
        | _ => none)
      | _ => none)
    | _ => none)
  | _ => none
set_option maxRecDepth 1000000 in
theorem mtB_0 (n : Int) : mtB n 0 = some (some (.int .i64 n), 1, .bool true) := by kernel_rfl
end Ev
end Go.Proofs.YtbhjopjonoldmaaGreat
