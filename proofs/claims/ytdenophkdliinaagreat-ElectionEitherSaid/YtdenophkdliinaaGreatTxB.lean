/- Shared by the Text laws: parts of a body, a call's contract, numbers in range. -/
import Derived.Test.YtdenophkdliinaaGreatRvV
import Derived.ProofKit
import Derived.OpenShut
namespace Go.Proofs.YtdenophkdliinaaGreat
namespace Ev
open Go Go.RowKit
def seqHead : Code → Code
  | .seq a _ => a
  | c => c
def seqTail : Code → Code
  | .seq _ b => b
  | c => c
theorem sound_calls {P : Program} (hn : NoNum P) {g : FuncId} {args : List Value} {v : Value} {m' : Mem} (h : SoundT P (.call g args mem0) (.call v m')) (ha : args.all atomA = true) (hva : atomA v = true) (hg : ∃ fn c, P.funcs[g]? = some fn ∧ fn.body = some c) (w : World) :
    Calls P g args.toArray w fun e w' => e = .returned v ∧ Below w.heap.size w w' := by
  have hs := (h wf0).2 (fun _ => none) (fun _ => none) w args ⟨fun i b hb => (by cases hb), fun i j x y li lj _ hx => (by cases hx)⟩ (fun i b hb => by cases hb) (VRL.atomA ha) (fun _ _ _ => rfl)
  obtain ⟨fn, c, h1, h2⟩ := hg
  rcases hs with ⟨_, hc⟩ | ⟨v', w', hrun, _⟩
  · refine hc.mono ?_
    rintro e w' ⟨v', rfl, φ', M', hgd, hv⟩
    rw [hv.eq_atomA hva]
    refine ⟨rfl, hgd.wg.os, hgd.wg.tape, hgd.wg.output, hgd.wg.size, fun k hk => hgd.wg.keep k hk ?_⟩
    rintro ⟨i, b, l, hb, _⟩
    cases hb
  · rw [callFunc_enter hn h1 h2] at hrun
    cases hrun
end Ev
theorem wf_i64 {n : Int} (h : (Lit.int .i64 n).wf = true) : I64 n := by
  simp only [Lit.wf, Bool.and_eq_true, decide_eq_true_eq] at h
  have e1 : IntKind.i64.min = -9223372036854775808 := rfl
  have e2 : IntKind.i64.max = 9223372036854775807 := rfl
  rw [e1, e2] at h
  exact h
theorem own : ownKnob Tryz.prog.godebug = Option.none := by kernel_rfl
end Go.Proofs.YtdenophkdliinaaGreat
