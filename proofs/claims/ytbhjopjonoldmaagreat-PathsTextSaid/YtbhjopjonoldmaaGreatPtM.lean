/- PathsText at any number. Printed by wip/facts3.py. -/
import Derived.Test.YtbhjopjonoldmaaGreatRvV
import Derived.Test.YtbhjopjonoldmaaGreatTxB
import Derived.Test.YtbhjopjonoldmaaGreatPt2
import Derived.Test.YtbhjopjonoldmaaGreatPt6
namespace Go.Proofs.YtbhjopjonoldmaaGreat
namespace Ev
open Go Go.RowKit
noncomputable def ptBody : Code := Option.rec Code.skip (fun c => c) Tryz.f3.body
noncomputable def ptPre : List Code := [seqHead ptBody, seqHead (seqTail ptBody), seqHead (seqTail (seqTail ptBody)), seqHead (seqTail (seqTail (seqTail ptBody)))]
noncomputable def ptRest : Code := seqTail (seqTail (seqTail (seqTail (seqTail ptBody))))
def ptH : Hooks := hk [Ptg15_0, Ptg16_0]
theorem ptH_ok : AllOk [Ptg15_0, Ptg16_0] := (AllOk.cons (Ptg15L_ok _ (List.Mem.head _)) (AllOk.cons (Ptg16L_ok _ (List.Mem.head _)) AllOk.nil))
noncomputable def ptB (n k : Int) : Option (Option Value × Nat × Value) :=
  match evSeqs Tryz.prog ptH ptPre ⟨Nat.max 1 Tryz.f3.ntmps, tOf [.int .i64 n]⟩ (enterM mem0) with
  | some ⟨f, m⟩ => (match f.t.get 6 with
    | some (.slice (some A) len c) => (match putAll [(28, .int .i64 n), (29, .slice (some A) len c), (30, .int .i64 len), (31, .int .i64 k), (0, .int .i64 k)] f with
      | some f' => (match ev Tryz.prog ptH 3000 (.code ptRest f' m) with
        | some (.code .ret f2 m2) => (match leaveFn Tryz.prog mem0 Tryz.f3.results.toList f2 m2 with
          | some (.call v _) => some (f.t.get 0, len, v)
          | _ => none)
        | _ => none)
      | _ => none)
    | _ => none)
  | _ => none
set_option maxRecDepth 1000000 in
theorem ptB_0 (n : Int) : ptB n 0 = some (some (.int .i64 n), 2, .bool true) := by kernel_rfl
set_option maxRecDepth 1000000 in
theorem ptB_1 (n : Int) : ptB n 1 = some (some (.int .i64 n), 2, .bool true) := by kernel_rfl
end Ev
end Go.Proofs.YtbhjopjonoldmaaGreat
