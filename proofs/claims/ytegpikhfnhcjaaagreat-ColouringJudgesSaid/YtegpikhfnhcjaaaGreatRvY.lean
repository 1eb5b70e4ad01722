/- expr.Catch, handed to the evaluator. -/
import Derived.Test.YtegpikhfnhcjaaaGreatRvS
import Derived.Test.YtegpikhfnhcjaaaGreatCatch
namespace Go.Proofs.YtegpikhfnhcjaaaGreat
namespace Ev
open Go Go.RowKit

theorem catchW_keep (w : World) (k : Nat) (hk : k < w.heap.size) : (catchW w).heap[k]? = w.heap[k]? := by
  unfold catchW
  rw [Below.heap_alloc _ _ _ (by simp [go_sem]; omega), Below.heap_alloc _ _ _ hk]
theorem catchW_size (w : World) : (catchW w).heap.size = w.heap.size + 2 := by simp [catchW, go_sem]
theorem catch_ok (self : Task → Option Out) (hself : SelfOk Tryz.prog self) (args : List Value) (m : Mem) (out : Out) (h : evCatch self m args = some out) : SoundT Tryz.prog (.call 45 args m) out := by
  unfold evCatch at h
  split at h
  · rename_i g first captured
    obtain ⟨o, ho, h2⟩ := ob_some h
    cases o with
    | code => cases h2
    | call v m1 =>
      cases h2
      have hs := hself _ _ ho
      intro hw
      obtain ⟨hext, hall⟩ := hs hw
      refine ⟨hext, fun φ M w args' hR hsub hv hfresh => .inl ⟨callFunc_enter noNum Tryz.func45 rfl _ _, ?_⟩⟩
      obtain ⟨u, rfl, hu⟩ := vrl_one hv
      obtain ⟨x', y', rfl, hf1, hf2⟩ := hu.func_inv
      have hR2 : Rel φ M (catchW w) := hR.keep fun k hk => catchW_keep w k hk
      have himg : ∀ k, w.heap.size ≤ k → ¬ Img φ M k := by
        rintro k hk ⟨i, b, l, h1, h2, h3⟩
        obtain ⟨l', h4, h5⟩ := hR.blk i b h1
        rw [h2] at h4
        cases h4
        have := h5.lt
        omega
      have hcall := hall φ M (catchW w) (x' ++ y') hR2 hsub (hf1.append hf2) hfresh
      rw [show (x' ++ y').toArray = x'.toArray ++ y'.toArray by simp] at hcall
      refine (catch_calls g x'.toArray y'.toArray w (fun w' => ∃ e, KPost φ M (catchW w) m v m1 e w') ?_ ?_).mono ?_
      · rintro w' ⟨e, v', rfl, φ', M', hgood, hvr⟩
        exact ⟨hgood.wg.keep _ (by rw [catchW_size]; omega) (himg _ (Nat.le_refl _)), hgood.wg.keep _ (by rw [catchW_size]; omega) (himg _ (by omega))⟩
      · rcases hcall with ⟨h1, h2⟩ | ⟨v', w', h1, h2⟩
        · refine .inl ⟨h1, h2.mono ?_⟩
          intro e w' hk
          have hk' := hk
          obtain ⟨v', rfl, _⟩ := hk
          exact ⟨⟨_, rfl⟩, _, hk'⟩
        · exact .inr ⟨v', w', h1, _, h2⟩
      · rintro e w'' ⟨rfl, w', ⟨e, v', rfl, φ', M', hgood, hvr⟩, hb⟩
        have hsz : w.heap.size + 2 ≤ w'.heap.size := by rw [← catchW_size]; exact hgood.wg.size
        have hheap : ∀ k, k < w'.heap.size → k ≠ w.heap.size → k ≠ w.heap.size + 1 → w''.heap[k]? = w'.heap[k]? := fun k hk h1 h2 => by
          rw [hb.block k hk, Below.heap_setCell _ _ _ _ h2, Below.heap_setCell _ _ _ _ h1]
        have hne : ∀ k, Img φ' M' k → k ≠ w.heap.size ∧ k ≠ w.heap.size + 1 := fun k hi => by
          refine ⟨?_, ?_⟩
          · rintro rfl
            exact himg _ (Nat.le_refl _) (hgood.wg.img _ (by rw [catchW_size]; omega) hi)
          · rintro rfl
            exact himg _ (by omega) (hgood.wg.img _ (by rw [catchW_size]; omega) hi)
        have hb2 : w'.heap.size ≤ w''.heap.size := by
          have := hb.size
          simpa [go_sem] using this
        refine ⟨_, rfl, φ', M', ⟨hgood.le, hgood.out, ⟨fun i b h1 => ?_, hgood.rel.inj⟩, hgood.sub, hgood.frame, ⟨hb.os.trans hgood.wg.os, hb.tape.trans hgood.wg.tape, hb.output.trans hgood.wg.output, by omega, fun k hk hi => ?_, fun k hk hi => hgood.wg.img k (by rw [catchW_size]; omega) hi⟩⟩, ?_⟩
        · obtain ⟨l, h2, h3⟩ := hgood.rel.blk i b h1
          have hn := hne l.blk ⟨i, b, l, h1, h2, rfl⟩
          exact ⟨l, h2, h3.keep (hheap _ h3.lt hn.1 hn.2)⟩
        · rw [hheap k (by omega) (by omega) (by omega), hgood.wg.keep k (by rw [catchW_size]; omega) hi, catchW_keep w k hk]
        · exact .tuple (.cons (.simple rfl) (.cons (.simple rfl) .nil))
  · cases h
end Ev
end Go.Proofs.YtegpikhfnhcjaaaGreat
