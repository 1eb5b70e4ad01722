/- Slices of slices, opened. -/
import Derived.Test.YtegpikhfnhcjaaaGreatHead
import Derived.Test.YtegpikhfnhcjaaaGreatPlainB
namespace Go.Proofs.YtegpikhfnhcjaaaGreat
open Go.RowKit

/-- Slice of slices: the cell of element k, and that element's own slice. -/
theorem rowsAt_at {α : Type} {size : Nat} {E : Elem α} {w : World} {A : Option Addr} {c n : Nat} {xs : List (List α)} (h : SlAt 1 (slE size E) w (.slice A n c) xs) {k : Nat} {ls : List α} (hk : xs[k]? = some ls) :
    ∃ b off v, A = some ⟨b, off, none⟩ ∧ b < w.heap.size ∧ w.cell? ⟨b, off + k, none⟩ = some v ∧ SlAt size E w v ls := by
  obtain ⟨A', c', e, h1, h2, h3⟩ := h
  cases e
  have hlt := (List.getElem?_eq_some_iff.1 hk).1
  obtain ⟨b, off, rfl, hb, h4⟩ := h3 (by omega)
  obtain ⟨v, hc, hv⟩ := h4 k ls hk
  rw [Nat.mul_one] at hc
  exact ⟨b, off, v, rfl, hb, hc, hv⟩
theorem intsAt_at {w : World} {A : Option Addr} {c n : Nat} {xs : List Int} (h : IntsAt w (.slice A n c) xs) {k : Nat} (hk : k < xs.length) :
    ∃ b off, A = some ⟨b, off, none⟩ ∧ b < w.heap.size ∧ w.cell? ⟨b, off + k, none⟩ = some (.int .i64 xs[k]) ∧ I64 xs[k] := by
  obtain ⟨b, off, c', e, hb, _, _, hc, hi⟩ := h.at_ hk
  cases e
  exact ⟨b, off, rfl, hb, hc, hi⟩
end Go.Proofs.YtegpikhfnhcjaaaGreat
