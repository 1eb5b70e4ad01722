/- A loop over the links of a graph that lies below, every round of which runs to its end. -/
import Derived.Test.YtegpikhfnhcjaaaGreatLnk
import Derived.RangeFuncNested
namespace Go.Proofs.YtegpikhfnhcjaaaGreat
namespace Ev
open Go Go.RowKit

/-- The loop's own blocks lie as they lay. -/
def KeepL (L : Nat) (W W' : World) : Prop := W'.heap[L]? = W.heap[L]? ∧ W'.heap[L - 1]? = W.heap[L - 1]?

set_option maxHeartbeats 1000000 in
theorem range_links {gx : Operand} {pv pl : Tmp} {assign body : Code} {Q : Exit → Act → World → Prop} {tmps : Array Value} {w w0 : World} {s : Value} {prt : List (List (Int × Int))} {b : Nat} (J : List El → World → Prop)
    (hP : PortsAt w0 s prt) (hg : (⟨tmps, []⟩ : Act).eval gx = .func (.func 57) #[] #[.pointer (some ⟨b, 0, none⟩)]) (hbox : w.cell? ⟨b, 1, none⟩ = some s)
    (hJ0 : ∀ pre W, J pre W → Below w0.heap.size w0 W) (hJg : ∀ pre W W', J pre W → Below W.heap.size W W' → J pre W') (hJp : ∀ pre W l o, J pre W → w.heap.size ≤ l → J pre (W.putObj l o)) (h0 : J [] w)
    (hround : ∀ L pre x post W, w.heap.size < L → L < W.heap.size → J pre W → flatAt 0 prt = pre ++ x :: post →
      assign.wpIn (Fence.wide.inRound L) 0 Tryz.prog (Exit.then (fun a₁ w₁ => KeepL L W w₁ ∧ W.heap.size ≤ w₁.heap.size ∧ ∀ o, body.wpIn (Fence.wide.inRound L) 0 Tryz.prog (fun e _ w₂ => e = .normal ∧ KeepL L (w₁.putObj L o) w₂ ∧ w₁.heap.size ≤ w₂.heap.size ∧ J (pre ++ [x]) w₂) a₁ (w₁.putObj L o)) (fun _ _ _ => False))
        { tmps := (tmps.setIfInBounds pv x.v0).setIfInBounds pl x.v1, defers := [] } W)
    (hdone : ∀ W D, J (flatAt 0 prt) W → w.heap.size ≤ D → W.heap[D]? = some (.deferred (some [])) → Q .normal ⟨tmps, [{ target := .collected D, args := #[] }]⟩ W) :
    (Code.rangeFunc gx #[pv, pl] assign body).wpIn Fence.wide 0 Tryz.prog Q ⟨tmps, []⟩ w := by
  refine wpIn_rangeFunc ?_
  intro fn _
  obtain ⟨rec, hrec⟩ : ∃ rec : LoopState → Option Code → Loop, rec = fun st pe => { state := st, pending := pe, fn, tmps, params := #[pv, pl], assign, body, defers := w.heap.size } := ⟨_, rfl⟩
  obtain ⟨W1, hW1⟩ : ∃ W1, (w.alloc (.deferred (some []))).alloc (.loop (rec .ready none)) = W1 := ⟨_, rfl⟩
  have hL1 : W1.heap[w.heap.size + 1]? = some (.loop (rec .ready none)) := by
    rw [← hW1]; have := World.alloc_heap_new (w.alloc (.deferred (some []))) (.loop (rec .ready none)); rwa [World.size_alloc] at this
  have hK1 : W1.heap[w.heap.size]? = some (.deferred (some [])) := by
    rw [← hW1]; exact (Below.heap_alloc _ _ _ (by simp)).trans (World.alloc_heap_new w _)
  have hb1 : Below w.heap.size w W1 := by
    rw [← hW1]; exact ((Below.refl _ w).alloc (Nat.le_refl _) _).alloc (by simp) _
  refine ⟨w.heap.size + 1, [{ target := .collected w.heap.size, args := #[] }], W1, { target := .fn (.func 57) #[.pointer (some ⟨b, 0, none⟩)], args := #[.func (.yield (w.heap.size + 1)) #[] #[]] }, W1, 57,
    #[.func (.yield (w.heap.size + 1)) #[] #[], .pointer (some ⟨b, 0, none⟩)], W1, ?_, ?_, fun _ _ => trivial, ?_, fun q => (by cases q), ?_⟩
  · rw [← hW1, hrec]; exact run_enterLoop_outer _ _ _ _ _
  · simp only [resolve, hg]
    simp [go_sem]
  · simp [invoke, go_sem, links_ok.1]
  · refine CallsIn.mono (links1_any w0 s prt hP (w.heap.size + 1) b 0 (fun pre W => J pre W ∧ W.heap[w.heap.size + 1]? = some (.loop (rec .ready none)) ∧ W.heap[w.heap.size]? = some (.deferred (some []))) (fun _ => False) ?_ ?_ ?_ W1 ?_ ⟨hJg _ _ _ h0 hb1, hL1, hK1⟩) ?_
    · exact fun pre W h => hJ0 pre W h.1
    · exact fun pre W W' h hb => ⟨hJg _ _ _ h.1 hb, (hb.block _ (Array.getElem?_eq_some_iff.1 h.2.1).1).trans h.2.1, (hb.block _ (Array.getElem?_eq_some_iff.1 h.2.2).1).trans h.2.2⟩
    · rintro pre x post W ⟨hj, hl, hd⟩ hfl
      have hlt : w.heap.size + 1 < W.heap.size := (Array.getElem?_eq_some_iff.1 hl).1
      have hy := run_yield (P := Tryz.prog) (args := x.enc) hl (by rw [hrec]; rfl)
      rw [hrec] at hy
      refine ⟨fn, _, assign, body, hy, roundIn_of_wpIn (F := Fence.wide) (n := 0) trivial ?_⟩
      have et : ((#[pv, pl] : Array Tmp).zip x.enc).foldl (fun tmps (t, a) => tmps.setIfInBounds t a) tmps = (tmps.setIfInBounds pv x.v0).setIfInBounds pl x.v1 := by
        simp [El.enc]
      rw [et]
      refine wpIn_mono (hround (w.heap.size + 1) pre x post W (by omega) hlt hj hfl) ?_
      intro e a₁ w₁ he
      cases e with
      | normal =>
        obtain ⟨hk, hsz, hb⟩ := he
        have hl1 : w₁.heap[w.heap.size + 1]? = some (.loop (rec .ready none)) := hk.1.trans hl
        have hd1 : w₁.heap[w.heap.size]? = some (.deferred (some [])) := hk.2.trans hd
        have hlt1 : w.heap.size + 1 < w₁.heap.size := (Array.getElem?_eq_some_iff.1 hl1).1
        refine ⟨_, run_beginRound hl1 (by rw [hrec]), ?_⟩
        refine wpIn_mono (hb _) ?_
        rintro e a₂ w₂ ⟨rfl, hk2, hsz2, hj2⟩
        have hl2 : w₂.heap[w.heap.size + 1]? = some (.loop { rec .ready none with state := .busy }) := hk2.1.trans (World.putObj_heap_same hlt1)
        have hd2 : w₂.heap[w.heap.size]? = some (.deferred (some [])) := hk2.2.trans ((World.putObj_heap_other (by simp)).trans hd1)
        have hlt2 : w.heap.size + 1 < w₂.heap.size := (Array.getElem?_eq_some_iff.1 hl2).1
        have hr := run_endRound (P := Tryz.prog) none hl2
        rw [hrec] at hr
        refine ⟨_, _, hr, .inl ⟨rfl, hJp _ _ _ _ hj2 (by omega), ?_, (World.putObj_heap_other (by omega)).trans hd2⟩⟩
        rw [hrec]
        exact World.putObj_heap_same hlt2
      | _ => exact he.elim
    · exact (hb1.cell (p := ⟨b, 1, none⟩) (World.block_lt_of_cell? _ _ hbox)).trans hbox
    · rintro e W ⟨⟨v, rfl⟩, (⟨hj, hl, hd⟩ | h)⟩
      · have hr := run_endLoop (P := Tryz.prog) hl (by rw [hrec]; simp)
        rw [hrec] at hr
        exact ⟨none, _, hr, hdone _ w.heap.size (hJp _ _ _ _ hj (by omega)) (Nat.le_refl _) ((World.putObj_heap_other (by omega)).trans hd)⟩
      · exact h.elim
end Ev
end Go.Proofs.YtegpikhfnhcjaaaGreat
