/- A drawn region that only reads, within a round. -/
import Derived.Test.YtegpikhfnhcjaaaGreatRvV
import Derived.Deep.Quiet
import Derived.Deep.QuietTactic
namespace Go.Proofs.YtegpikhfnhcjaaaGreat
namespace Ev
open Go Go.RowKit

section
variable {P : Program} {ops : Array Oper} {Q : Exit → Act → World → Prop} {md : Region.Mode} {r : Option Nat}
theorem wpOpIn_of (hd : ∀ o ∈ ops, ∀ c, o.op ≠ .defer c) (hQ : ¬ LetsOut Q) {i : Nat} {K K' : Act → World → Prop} {a : Act} {w : World} (hK : ∀ a w, K a w → K' a w) (h : wpOp P ops Q i K a w) : wpOpIn (wr r) 0 P ops Q i K' a w := by
  unfold wpOp at h
  unfold wpOpIn
  cases ho : ops[i]? with
  | none => rw [ho] at h; exact hK _ _ h
  | some o =>
    rw [ho] at h
    simp only at h ⊢
    split
    · rename_i hw
      rw [if_pos hw] at h
      exact Oper.wpIn_mono hK (opIn (hd o (Array.mem_of_getElem? ho)) (h.resolve_right fun q => hQ q.2))
    · rename_i hw
      rw [if_neg hw] at h
      exact ⟨fun _ _ => trivial, hK _ _ h⟩
theorem wpAnyIn_of (hd : ∀ o ∈ ops, ∀ c, o.op ≠ .defer c) (hQ : ¬ LetsOut Q) : ∀ (fuel : Nat) (L : Array Bool) (a : Act) (w : World), wpAny P md ops Q fuel L a w → wpAnyIn (wr r) 0 P md ops Q fuel L a w
  | 0, _, _, _, h => h
  | fuel + 1, _, _, _, h => ⟨h.1, fun i hi => wpOpIn_of hd hQ (fun a w q => wpAnyIn_of hd hQ fuel _ a w q) (h.2 i hi)⟩
theorem wpIn_region_quiet_lit {id : Nat} {a : Act} {w : World} {l : List Oper} (hm : P.follows .mixedOrders = true) (hB : Region.lexB .any l.toArray = true) (hd : ∀ o ∈ l, ∀ c, o.op ≠ .defer c) (hQ : ¬ LetsOut Q)
    (h : wpQuiet P l.toArray (fun w' => ∃ n, w' = w.drewN n) (fun a' => ∀ w', (∃ n, w' = w.drewN n) → Q .normal a' w') l a) : (Code.region id l.toArray true).wpIn (wr r) 0 P Q a w := by
  refine wpIn_region_any hm (wpAnyIn_of (fun o ho => hd o (by simpa using ho)) hQ _ _ _ _ ?_)
  have hB' := hB
  simp only [Region.lexB, Bool.and_eq_true] at hB'
  refine wpAny_of_quiet (C := fun w' => ∃ n, w' = w.drewN n) (Q := fun a' => ∀ w', (∃ n, w' = w.drewN n) → Q .normal a' w') (fun _ w' hw' h => h w' hw') _ _ _ _ ⟨1, rfl⟩ ?_
  have := wpAnyQ_lex (C := fun w' => ∃ n, w' = w.drewN n) (md := .any) hB'.1 l 0 (Array.replicate l.length false) a (by simp) (by simpa using hB'.2) h
  simpa using this
end
end Ev
end Go.Proofs.YtegpikhfnhcjaaaGreat
