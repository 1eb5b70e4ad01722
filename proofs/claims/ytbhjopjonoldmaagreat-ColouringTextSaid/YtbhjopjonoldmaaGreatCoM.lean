/- ColouringText at any number. Printed by wip/facts3.py. -/
import Derived.Test.YtbhjopjonoldmaaGreatRvV
import Derived.Test.YtbhjopjonoldmaaGreatTxB
import Derived.Test.YtbhjopjonoldmaaGreatCo1
import Derived.Test.YtbhjopjonoldmaaGreatCo2
namespace Go.Proofs.YtbhjopjonoldmaaGreat
namespace Ev
open Go Go.RowKit
noncomputable def coBody : Code := Option.rec Code.skip (fun c => c) Tryz.f7.body
noncomputable def coPre : List Code := [seqHead coBody, seqHead (seqTail coBody), seqHead (seqTail (seqTail coBody)), seqHead (seqTail (seqTail (seqTail coBody)))]
noncomputable def coRest : Code := seqTail (seqTail (seqTail (seqTail (seqTail coBody))))
def coH : Hooks := hk [Cog1_0, Cog5_0]
theorem coH_ok : AllOk [Cog1_0, Cog5_0] := (AllOk.cons (Cog1L_ok _ (List.Mem.head _)) (AllOk.cons (Cog5L_ok _ (List.Mem.head _)) AllOk.nil))
noncomputable def coB (n k : Int) : Option (Option Value × Nat × Value) :=
  match evSeqs Tryz.prog coH coPre ⟨Nat.max 1 Tryz.f7.ntmps, tOf [.int .i64 n]⟩ (enterM mem0) with
  | some ⟨f, m⟩ => (match f.t.get 6 with
    | some (.slice (some A) len c) => (match putAll [(28, .int .i64 n), (29, .slice (some A) len c), (30, .int .i64 len), (31, .int .i64 k), (0, .int .i64 k)] f with
      | some f' => (match ev Tryz.prog coH 3000 (.code coRest f' m) with
        | some (.code .ret f2 m2) => (match leaveFn Tryz.prog mem0 Tryz.f7.results.toList f2 m2 with
          | some (.call v _) => some (f.t.get 0, len, v)
          | _ => none)
        | _ => none)
      | _ => none)
    | _ => none)
  | _ => none
set_option maxRecDepth 1000000 in
theorem coB_0 (n : Int) : coB n 0 = some (some (.int .i64 n), 1, .bool true) := by kernel_rfl
end Ev
end Go.Proofs.YtbhjopjonoldmaaGreat
