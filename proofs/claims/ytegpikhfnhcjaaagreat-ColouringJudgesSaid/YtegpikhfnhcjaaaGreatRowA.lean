/- Arguments of a row, opened: graphs and rows of numbers. -/
import Derived.Test.YtegpikhfnhcjaaaGreatHead
import Derived.ProofKit
import Derived.OpenShut
import Derived.ShutString
import Derived.ChangeOld
import Derived.Deep.Matrix
import Derived.Lib.SmallJoins
namespace Go.Proofs.YtegpikhfnhcjaaaGreat
open Go.ChangeShapes Go.WideShapes Go.ChangeAt Go.RowKit

theorem list_of {α : Type} {p : Nat → α → Prop} : ∀ (n : Nat), (∀ i, i < n → ∃ x, p i x) → ∃ xs : List α, xs.length = n ∧ ∀ (j : Nat) (x : α), xs[j]? = some x → p j x
  | 0, _ => ⟨[], rfl, by simp⟩
  | n + 1, h => by
    obtain ⟨xs, h1, h2⟩ := list_of n fun i hi => h i (by omega)
    obtain ⟨x, hx⟩ := h n (by omega)
    refine ⟨xs ++ [x], by simp [h1], fun j y hy => ?_⟩
    by_cases hj : j < xs.length
    · rw [List.getElem?_append_left hj] at hy; exact h2 j y hy
    · rw [List.getElem?_append_right (by omega)] at hy
      have : j - xs.length = 0 := by
        rcases Nat.eq_zero_or_pos (j - xs.length) with q | q
        · exact q
        · rw [List.getElem?_eq_none (by simp; omega)] at hy; cases hy
      rw [this] at hy
      simp at hy
      subst hy
      obtain rfl : j = n := by omega
      exact hx

section
variable {H : Type} {enc : TypeId × Value → H} {P : Program} {w : World} {base : Nat} {held : Bool}
/-- A slice that came in, read as a list. -/
theorem trod_sl {α : Type} {size : Nat} {E : Elem α} {t e : TypeId} {fuel : Nat} {v : Value} {x : DataW H × List MemPlace} (ht : P.underlying t = some (.slice e)) (hC : P.cellsOf e = size) (h0 : 0 < size)
    (hE : ∀ (n : Nat) (cs' : List Value) (y : DataW H × List MemPlace) (b off : Nat), DataW.trod enc P w base (fun _ => true) held n e cs' = some y → cs'.length = size → (∀ j, j < size → w.cell? ⟨b, off + j, none⟩ = cs'[j]?) → ∃ x, E w b off x)
    (h : DataW.trod enc P w base (fun _ => true) held fuel t [v] = some x) : ∃ xs, SlAt size E w v xs := by
  rcases Go.Deep.open_slice ht h with ⟨h1, _⟩ | ⟨a, len, cap, m, n, D, Pl, hcs, hb, hl, hm, hmm, hx, hi⟩
  · simp at h1
    subst h1
    exact ⟨[], SlAt.nil w⟩
  · simp at hcs
    subst hcs
    simp only [if_true] at hmm
    subst hmm
    unfold maxLen at hm
    rw [hC] at hi
    rcases Nat.eq_zero_or_pos len with rfl | hlen
    · exact ⟨[], some a, m, rfl, Nat.zero_le _, hm, fun q => absurd q (by simp)⟩
    · obtain ⟨b, off, spot⟩ := a
      have hspot : spot = none := by
        obtain ⟨cs', h2, _⟩ := hi 0 (by omega)
        obtain ⟨_, h3, h4⟩ := World.cells?_some h2
        have h5 := h4 0 h0
        have h6 : cs'[0]? = some (cs'[0]'(by omega)) := List.getElem?_eq_getElem (by omega)
        rw [h6] at h5
        have := World.cell?_spot h5
        simpa [Addr.add] using this
      subst hspot
      have hblk : b < w.heap.size := by
        obtain ⟨cs', h2, _⟩ := hi 0 (by omega)
        obtain ⟨_, h3, h4⟩ := World.cells?_some h2
        have h5 := h4 0 h0
        have h6 : cs'[0]? = some (cs'[0]'(by omega)) := List.getElem?_eq_getElem (by omega)
        rw [h6] at h5
        have := World.block_lt_of_cell? w _ h5
        simpa [Addr.add] using this
      obtain ⟨xs, x1, x2⟩ := list_of (p := fun i x => E w b (off + i * size) x) len fun i hil => by
        obtain ⟨cs', h2, h3⟩ := hi i (by omega)
        obtain ⟨_, h4, h5⟩ := World.cells?_some h2
        refine hE n cs' _ b (off + i * size) h3 h4 fun j hj => ?_
        rw [← h5 j hj]
        congr 1
        unfold Addr.add
        split <;> split <;> simp_all <;> omega
      refine ⟨xs, some ⟨b, off, none⟩, m, by rw [x1], by rw [x1]; exact hl, hm, fun _ => ⟨b, off, rfl, hblk, fun j x hx => x2 j x hx⟩⟩
theorem wf_i64 {n : Int} (h : (Lit.int .i64 n).wf = true) : I64 n := by
  simp only [Lit.wf, Bool.and_eq_true, decide_eq_true_eq] at h
  have e1 : IntKind.i64.min = -9223372036854775808 := rfl
  have e2 : IntKind.i64.max = 9223372036854775807 := rfl
  rw [e1, e2] at h
  exact h
theorem trod_ints {t e : TypeId} {fuel : Nat} {v : Value} {x : DataW H × List MemPlace} (ht : P.underlying t = some (.slice e)) (he : P.underlying e = some (.int .i64)) (hC : P.cellsOf e = 1)
    (h : DataW.trod enc P w base (fun _ => true) held fuel t [v] = some x) : ∃ xs, IntsAt w v xs := by
  refine trod_sl ht hC (by decide) (fun n cs' y b off h1 h2 h3 => ?_) h
  obtain ⟨k, rfl, _, hw⟩ := DataW.trod_int he h1
  exact ⟨k, by simpa using h3 0 (by decide), wf_i64 hw⟩
theorem trod_links {t e q q' : TypeId} {f0 f1 : Field} {fuel : Nat} {v : Value} {x : DataW H × List MemPlace} (ht : P.underlying t = some (.slice e)) (he : P.underlying e = some (.struct #[f0, f1])) (hC : P.cellsOf e = 2)
    (h0 : f0.type = q ∧ f0.offset = 0 ∧ P.cellsOf q = 1) (h1 : f1.type = q' ∧ f1.offset = 1 ∧ P.cellsOf q' = 1) (hq : P.underlying q = some (.int .i64)) (hq' : P.underlying q' = some (.int .i64))
    (h : DataW.trod enc P w base (fun _ => true) held fuel t [v] = some x) : ∃ xs, LinksAt w v xs := by
  refine trod_sl ht hC (by decide) (fun n cs' y b off k1 k2 k3 => ?_) h
  obtain ⟨xs, n', _, _, _, hlen, hf⟩ := DataW.trod_struct he k1
  match cs', k2 with
  | [c0, c1], _ =>
    have g0 := hf 0 f0 rfl
    have g1 := hf 1 f1 rfl
    rw [h0.1, h0.2.1, h0.2.2] at g0
    rw [h1.1, h1.2.1, h1.2.2] at g1
    match xs, hlen with
    | [y0, y1], _ =>
      obtain ⟨a0, e0, _, w0⟩ := DataW.trod_int hq (x := y0) (by simpa using g0)
      obtain ⟨a1, e1, _, w1⟩ := DataW.trod_int hq' (x := y1) (by simpa using g1)
      simp at e0 e1
      subst e0 e1
      exact ⟨(a0, a1), by simpa using k3 0 (by decide), by simpa using k3 1 (by decide), wf_i64 w0, wf_i64 w1⟩
/-- A slice of slices. -/
theorem trod_sls {α : Type} {size : Nat} {E : Elem α} {t e : TypeId} {fuel : Nat} {v : Value} {x : DataW H × List MemPlace} (ht : P.underlying t = some (.slice e)) (hC : P.cellsOf e = 1)
    (hE : ∀ (n : Nat) (u : Value) (y : DataW H × List MemPlace), DataW.trod enc P w base (fun _ => true) held n e [u] = some y → ∃ xs, SlAt size E w u xs)
    (h : DataW.trod enc P w base (fun _ => true) held fuel t [v] = some x) : ∃ xs, SlAt 1 (slE size E) w v xs := by
  refine trod_sl ht hC (by decide) (fun n cs' y b off h1 h2 h3 => ?_) h
  match cs', h2 with
  | [u], _ =>
    obtain ⟨xs, hxs⟩ := hE n u y h1
    exact ⟨xs, u, by simpa using h3 0 (by decide), hxs⟩
end

theorem own : ownKnob Tryz.prog.godebug = Option.none := by kernel_rfl
theorem laidOut : laidOutB Tryz.prog = true := by kernel_rfl

section
variable {H : Type} {enc : TypeId × Value → H} {w : World} {base : Nat} {held : Bool} {n : Nat} {v : Value} {x : DataW H × List MemPlace}
theorem open_ids (h : DataW.trod enc Tryz.prog w base (fun _ => true) held n 22 [v] = some x) : ∃ xs, IntsAt w v xs :=
  trod_ints Tryz.underlying22 Tryz.underlying3 (by kernel_rfl) h
theorem open_rows (h : DataW.trod enc Tryz.prog w base (fun _ => true) held n 26 [v] = some x) : ∃ xs, RowsAt w v xs :=
  trod_sls Tryz.underlying26 (by kernel_rfl) (fun _ _ _ h => open_ids h) h
theorem open_linksT (h : DataW.trod enc Tryz.prog w base (fun _ => true) held n 49 [v] = some x) : ∃ xs, LinksAt w v xs :=
  trod_links Tryz.underlying49 Tryz.underlying51 (by kernel_rfl) ⟨rfl, rfl, by kernel_rfl⟩ ⟨rfl, rfl, by kernel_rfl⟩ Tryz.underlying3 Tryz.underlying3 h
theorem open_portsT (h : DataW.trod enc Tryz.prog w base (fun _ => true) held n 23 [v] = some x) : ∃ xs, PortsAt w v xs :=
  trod_sls Tryz.underlying23 (by kernel_rfl) (fun _ _ _ h => open_linksT h) h
end
end Go.Proofs.YtegpikhfnhcjaaaGreat
