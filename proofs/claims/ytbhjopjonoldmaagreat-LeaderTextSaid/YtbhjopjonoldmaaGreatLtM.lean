/- LeaderText at any number. Printed by wip/facts3.py. -/
import Derived.Test.YtbhjopjonoldmaaGreatRvV
import Derived.Test.YtbhjopjonoldmaaGreatTxB
import Derived.Test.YtbhjopjonoldmaaGreatLt6
import Derived.Test.YtbhjopjonoldmaaGreatLt14
namespace Go.Proofs.YtbhjopjonoldmaaGreat
namespace Ev
open Go Go.RowKit
noncomputable def ltBody : Code := Option.rec Code.skip (fun c => c) Tryz.f5.body
noncomputable def ltPre : List Code := [seqHead ltBody, seqHead (seqTail ltBody), seqHead (seqTail (seqTail ltBody)), seqHead (seqTail (seqTail (seqTail ltBody)))]
noncomputable def ltRest : Code := seqTail (seqTail (seqTail (seqTail (seqTail ltBody))))
def ltH : Hooks := hk [Ltg58_0, Ltg59_0]
theorem ltH_ok : AllOk [Ltg58_0, Ltg59_0] := (AllOk.cons (Ltg58L_ok _ (List.Mem.head _)) (AllOk.cons (Ltg59L_ok _ (List.Mem.head _)) AllOk.nil))
noncomputable def ltB (n k : Int) : Option (Option Value × Nat × Value) :=
  match evSeqs Tryz.prog ltH ltPre ⟨Nat.max 1 Tryz.f5.ntmps, tOf [.int .i64 n]⟩ (enterM mem0) with
  | some ⟨f, m⟩ => (match f.t.get 6 with
    | some (.slice (some A) len c) => (match putAll [(28, .int .i64 n), (29, .slice (some A) len c), (30, .int .i64 len), (31, .int .i64 k), (0, .int .i64 k)] f with
      | some f' => (match ev Tryz.prog ltH 3000 (.code ltRest f' m) with
        | some (.code .ret f2 m2) => (match leaveFn Tryz.prog mem0 Tryz.f5.results.toList f2 m2 with
          | some (.call v _) => some (f.t.get 0, len, v)
          | _ => none)
        | _ => none)
      | _ => none)
    | _ => none)
  | _ => none
set_option maxRecDepth 1000000 in
theorem ltB_0 (n : Int) : ltB n 0 = some (some (.int .i64 n), 3, .bool true) := by kernel_rfl
set_option maxRecDepth 1000000 in
theorem ltB_1 (n : Int) : ltB n 1 = some (some (.int .i64 n), 3, .bool true) := by kernel_rfl
set_option maxRecDepth 1000000 in
theorem ltB_2 (n : Int) : ltB n 2 = some (some (.int .i64 n), 3, .bool true) := by kernel_rfl
end Ev
end Go.Proofs.YtbhjopjonoldmaaGreat
