/- internal/bytealg.IndexByteString, handed to the evaluator. -/
import Derived.Test.YtegpikhfnhcjaaaGreatRvD
import Derived.Test.YtegpikhfnhcjaaaGreatHead
import Derived.Lib.Bytealg
namespace Go.Proofs.YtegpikhfnhcjaaaGreat
namespace Ev
open Go Go.RowKit

theorem findByte_spec (c : UInt8) : ∀ (l : List UInt8) (k : Nat), (match findByte c l k with | some i => Int.ofNat i | none => -1) = (if Lib.indexByte l c == -1 then -1 else Lib.indexByte l c + (k : Int))
  | [], k => by simp [findByte, Lib.indexByte]
  | x :: l, k => by
    unfold findByte Lib.indexByte
    by_cases hx : x = c
    · subst hx; simp
    · have h1 : Nat.beq x.toNat c.toNat = false := by
        rw [Bool.eq_false_iff]; intro h; exact hx (UInt8.toNat_inj.1 (Nat.eq_of_beq_eq_true h))
      have h2 : (x == c) = false := by simpa using hx
      rw [h1, h2]
      have ih := findByte_spec c l (k + 1)
      simp only [Bool.cond_eq_ite, Bool.false_eq_true, if_false]
      rw [ih]
      have := Lib.indexByte_ge l c
      by_cases hm : Lib.indexByte l c = -1
      · simp [hm]
      · have hm' : (Lib.indexByte l c == -1) = false := by simpa using hm
        rw [hm']
        simp only [Bool.false_eq_true, if_false]
        rw [if_neg (by simp; omega)]
        push_cast; omega

theorem indexByte_ok (args : List Value) (m : Mem) (out : Out) (h : evIndexByte m args = some out) : SoundT Tryz.prog (.call 143 args m) out := by
  unfold evIndexByte at h
  split at h
  · rename_i s c
    have hf := findByte_spec c.toUInt8 s.data.toList 0
    have key : ∀ n : Int, n = Lib.indexByte s.data.toList c.toUInt8 → SoundT Tryz.prog (.call 143 [.string s, .int .u8 (.ofNat c)] m) (.call (.int .i64 n) (enterM m)) := by
      intro n hn hw
      refine ⟨⟨Nat.le_refl _, fun i b hb => .inl ⟨b, hb⟩, fun i b _ _ hb => hb, hw⟩, fun φ M w args' hR hs hv _ => .inr ⟨.int .i64 n, w, ?_, ?_⟩⟩
      · have e : args' = [.string s, .int .u8 (.ofNat c)] := by
          cases hv with
          | cons h1 h2 =>
            cases h2 with
            | cons h3 h4 =>
              cases h4
              rw [h1.eq_simple rfl, h3.eq_simple rfl]
        subst e
        rw [run_callFunc_extern Tryz.func143 (by kernel_rfl) (by kernel_rfl) (by kernel_rfl) (by kernel_rfl), Lib.run_indexByteString, hn]
        rfl
      · exact ⟨_, rfl, φ, M, ⟨φ.le_refl, fun _ _ => rfl, hR, hs, fun _ _ _ => rfl, WG.refl _ _ _⟩, .simple rfl⟩
    have h0 : (if Lib.indexByte s.data.toList c.toUInt8 == -1 then -1 else Lib.indexByte s.data.toList c.toUInt8 + ((0 : Nat) : Int)) = Lib.indexByte s.data.toList c.toUInt8 := by
      by_cases hm : Lib.indexByte s.data.toList c.toUInt8 = -1
      · simp [hm]
      · simp [hm]
    rw [h0] at hf
    split at h
    · rename_i i hi
      rw [hi] at hf
      simp only [forceN_eq] at h
      cases h
      exact key _ hf
    · rename_i hi
      rw [hi] at hf
      cases h
      exact key _ hf
  · cases h
end Ev
end Go.Proofs.YtegpikhfnhcjaaaGreat
