/- CenterText at any number. Printed by wip/facts3.py. -/
import Derived.Test.YtbhjopjonoldmaaGreatRvV
import Derived.Test.YtbhjopjonoldmaaGreatTxB
import Derived.Test.YtbhjopjonoldmaaGreatCt1
import Derived.Test.YtbhjopjonoldmaaGreatCt3
namespace Go.Proofs.YtbhjopjonoldmaaGreat
namespace Ev
open Go Go.RowKit
noncomputable def ctBody : Code := Option.rec Code.skip (fun c => c) Tryz.f6.body
noncomputable def ctPre : List Code := [seqHead ctBody, seqHead (seqTail ctBody), seqHead (seqTail (seqTail ctBody)), seqHead (seqTail (seqTail (seqTail ctBody)))]
noncomputable def ctRest : Code := seqTail (seqTail (seqTail (seqTail (seqTail ctBody))))
def ctH : Hooks := hk [Ctg6_0, Ctg7_0]
theorem ctH_ok : AllOk [Ctg6_0, Ctg7_0] := (AllOk.cons (Ctg6L_ok _ (List.Mem.head _)) (AllOk.cons (Ctg7L_ok _ (List.Mem.head _)) AllOk.nil))
noncomputable def ctB (n k : Int) : Option (Option Value × Nat × Value) :=
  match evSeqs Tryz.prog ctH ctPre ⟨Nat.max 1 Tryz.f6.ntmps, tOf [.int .i64 n]⟩ (enterM mem0) with
  | some ⟨f, m⟩ => (match f.t.get 6 with
    | some (.slice (some A) len c) => (match putAll [(28, .int .i64 n), (29, .slice (some A) len c), (30, .int .i64 len), (31, .int .i64 k), (0, .int .i64 k)] f with
      | some f' => (match ev Tryz.prog ctH 3000 (.code ctRest f' m) with
        | some (.code .ret f2 m2) => (match leaveFn Tryz.prog mem0 Tryz.f6.results.toList f2 m2 with
          | some (.call v _) => some (f.t.get 0, len, v)
          | _ => none)
        | _ => none)
      | _ => none)
    | _ => none)
  | _ => none
set_option maxRecDepth 1000000 in
theorem ctB_0 (n : Int) : ctB n 0 = some (some (.int .i64 n), 1, .bool true) := by kernel_rfl
end Ev
end Go.Proofs.YtbhjopjonoldmaaGreat
