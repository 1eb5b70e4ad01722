/- ElectionText at any number. Printed by wip/facts3.py. -/
import Derived.Test.YtbhjopjonoldmaaGreatRvV
import Derived.Test.YtbhjopjonoldmaaGreatTxB
import Derived.Test.YtbhjopjonoldmaaGreatEt13
import Derived.Test.YtbhjopjonoldmaaGreatEt16
namespace Go.Proofs.YtbhjopjonoldmaaGreat
namespace Ev
open Go Go.RowKit
noncomputable def etBody : Code := Option.rec Code.skip (fun c => c) Tryz.f9.body
noncomputable def etPre : List Code := [seqHead etBody, seqHead (seqTail etBody), seqHead (seqTail (seqTail etBody)), seqHead (seqTail (seqTail (seqTail etBody)))]
noncomputable def etRest : Code := seqTail (seqTail (seqTail (seqTail (seqTail etBody))))
def etH : Hooks := hk [Etg15_0, Etg41_0]
theorem etH_ok : AllOk [Etg15_0, Etg41_0] := (AllOk.cons (Etg15L_ok _ (List.Mem.head _)) (AllOk.cons (Etg41L_ok _ (List.Mem.head _)) AllOk.nil))
noncomputable def etB (n k : Int) : Option (Option Value × Nat × Value) :=
  match evSeqs Tryz.prog etH etPre ⟨Nat.max 1 Tryz.f9.ntmps, tOf [.int .i64 n]⟩ (enterM mem0) with
  | some ⟨f, m⟩ => (match f.t.get 6 with
    | some (.slice (some A) len c) => (match putAll [(28, .int .i64 n), (29, .slice (some A) len c), (30, .int .i64 len), (31, .int .i64 k), (0, .int .i64 k)] f with
      | some f' => (match ev Tryz.prog etH 3000 (.code etRest f' m) with
        | some (.code .ret f2 m2) => (match leaveFn Tryz.prog mem0 Tryz.f9.results.toList f2 m2 with
          | some (.call v _) => some (f.t.get 0, len, v)
          | _ => none)
        | _ => none)
      | _ => none)
    | _ => none)
  | _ => none
set_option maxRecDepth 1000000 in
theorem etB_0 (n : Int) : etB n 0 = some (some (.int .i64 n), 2, .bool true) := by kernel_rfl
set_option maxRecDepth 1000000 in
theorem etB_1 (n : Int) : etB n 1 = some (some (.int .i64 n), 2, .bool true) := by kernel_rfl
end Ev
end Go.Proofs.YtbhjopjonoldmaaGreat
