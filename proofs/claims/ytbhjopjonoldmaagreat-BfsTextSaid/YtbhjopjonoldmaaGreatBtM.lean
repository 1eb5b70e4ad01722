/- BfsText at any number. -/
import Derived.Test.YtbhjopjonoldmaaGreatEvV
import Derived.Test.YtbhjopjonoldmaaGreatBt19
namespace Go.Proofs.YtbhjopjonoldmaaGreat
namespace Ev
open Go Go.RowKit
def seqHead : Code → Code
  | .seq a _ => a
  | c => c
def seqTail : Code → Code
  | .seq _ b => b
  | c => c
noncomputable def btBody : Code := Option.rec Code.skip (fun c => c) Tryz.f4.body
noncomputable def btPre : List Code := [seqHead btBody, seqHead (seqTail btBody), seqHead (seqTail (seqTail btBody)), seqHead (seqTail (seqTail (seqTail btBody)))]
noncomputable def btRest : Code := seqTail (seqTail (seqTail (seqTail (seqTail btBody))))
def btH : Hooks := hk [Bt18_0, Bt19_0]
theorem btH_ok : AllOk [Bt18_0, Bt19_0] := fun f hf => by
  rcases List.mem_cons.1 hf with rfl | hf
  · exact Bt18L_ok _ (List.mem_cons_self ..)
  · rcases List.mem_cons.1 hf with rfl | hf
    · exact Bt19L_ok _ (List.mem_cons_self ..)
    · cases hf
noncomputable def btB (n k : Int) : Option (Option Value × Nat × Value) :=
  match evSeqs Tryz.prog btH btPre ⟨Nat.max 1 Tryz.f4.ntmps, tOf [.int .i64 n]⟩ (enterM mem0) with
  | some ⟨f, m⟩ => (match f.t.get 6 with
    | some (.slice (some A) len c) => (match putAll [(28, .int .i64 n), (29, .slice (some A) len c), (30, .int .i64 len), (31, .int .i64 k), (0, .int .i64 k)] f with
      | some f' => (match ev Tryz.prog btH 3000 (.code btRest f' m) with
        | some (.code .ret f2 m2) => (match leaveFn Tryz.prog mem0 Tryz.f4.results.toList f2 m2 with
          | some (.call v _) => some (f.t.get 0, len, v)
          | _ => none)
        | _ => none)
      | _ => none)
    | _ => none)
  | _ => none
set_option maxRecDepth 1000000 in
theorem btB_0 (n : Int) : btB n 0 = some (some (.int .i64 n), 2, .bool true) := by kernel_rfl
set_option maxRecDepth 1000000 in
theorem btB_1 (n : Int) : btB n 1 = some (some (.int .i64 n), 2, .bool true) := by kernel_rfl
end Ev
end Go.Proofs.YtbhjopjonoldmaaGreat
