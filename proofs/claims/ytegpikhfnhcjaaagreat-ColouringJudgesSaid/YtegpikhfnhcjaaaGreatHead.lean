/- What every walk imports; small words for endings. -/
import Derived.Test.YtegpikhfnhcjaaaGreatRows
import Derived.Test.YtegpikhfnhcjaaaGreatMem
import Derived.WalkKit
import Derived.WalkSpells
import Derived.RegionTactic
import Derived.Deep.QuietTactic
import Derived.BigQuiet
import Derived.Outline
namespace Go.Proofs.YtegpikhfnhcjaaaGreat
open Go.RowKit
theorem ret_int {k : IntKind} {a b : Int} (h : a = b) : Ending.returned (.int k a) = .returned (.int k b) := by rw [h]
theorem ret_bool {a b : Bool} (h : a = b) : Ending.returned (.bool a) = .returned (.bool b) := by rw [h]

/-- A struct of two cells that the call has boxed, and whatever came after. -/
theorem box2 {w wr : World} {x y : Value} {t : TypeId} (h : Below (w.heap.size + 1) (w.alloc (.cells #[x, y] t)) wr) :
    wr.cell? ⟨w.heap.size, 0, none⟩ = some x ∧ wr.cell? ⟨w.heap.size, 1, none⟩ = some y ∧ Below w.heap.size w wr ∧ w.heap.size < wr.heap.size := by
  refine ⟨(h.cell (by simp)).trans (by simp), (h.cell (by simp)).trans (by simp), ?_, ?_⟩
  · exact ((Below.refl _ w).alloc (Nat.le_refl _) _).trans (h.mono (by omega))
  · have := h.size; simp at this; omega
theorem below_drewN {B : Nat} {a w : World} (h : Below B a w) (n : Nat) : Below B a (w.drewN n) := ⟨h.os, h.tape, h.output, h.size, h.block⟩
theorem below_of_drewN {B : Nat} {a w : World} (h : Below B a w) {n : Nat} {w' : World} (e : w' = w.drewN n) : Below B a w' := by subst e; exact below_drewN h n

theorem bcell {W w1 : World} (hb : Below W.heap.size W w1) : (∀ b o, b < W.heap.size → w1.cell? ⟨b, o, none⟩ = W.cell? ⟨b, o, none⟩) ∧ (∀ b o, b < W.heap.size → w1.frozen? ⟨b, o, none⟩ = W.frozen? ⟨b, o, none⟩) :=
  ⟨fun b o h => hb.cell (p := ⟨b, o, none⟩) h, fun b o h => hb.frozen (p := ⟨b, o, none⟩) h⟩
theorem cellA {w : World} {o : Obj} {a : Addr} {u : Value} (h : w.cell? a = some u) : (w.alloc o).cell? a = some u := (World.cell?_alloc_lt w o a (World.block_lt_of_cell? w a h)).trans h
theorem keepA {w w3 : World} {o : Obj} (hb : Below (w.alloc o).heap.size (w.alloc o) w3) : ∀ a u, w.cell? a = some u → w3.cell? a = some u := fun a u h => keepCells hb a u (cellA h)
theorem belowA {w w3 : World} {o : Obj} (hb : Below (w.alloc o).heap.size (w.alloc o) w3) : Below w.heap.size w w3 := ((Below.refl _ w).alloc (Nat.le_refl _) o).trans (hb.mono (by simp))
theorem newA2 {w w3 : World} {x y : Value} {t : TypeId} (hb : Below (w.alloc (.cells #[x, y] t)).heap.size (w.alloc (.cells #[x, y] t)) w3) : w3.cell? ⟨w.heap.size, 0, none⟩ = some x ∧ w3.cell? ⟨w.heap.size, 1, none⟩ = some y :=
  ⟨keepCells hb _ _ (by simp), keepCells hb _ _ (by simp)⟩
theorem farCell {w : World} {a p : Addr} {u : Value} (h : w.cell? a = some u) (hne : a.block ≠ p.block) (x : Value) : (w.setCell p x).cell? a = some u :=
  (World.cell?_setCell_other w p a x (fun e => hne (by rw [e]))).trans h
/-- Two blocks that the call has just laid, and whatever came after: the cells of both; the second is not frozen. -/
theorem twoNew {w w1 : World} {x y : Value} {t t2 : TypeId} {cs : Array Value} (h : Below ((w.alloc (.cells #[x, y] t)).alloc (.cells cs t2)).heap.size ((w.alloc (.cells #[x, y] t)).alloc (.cells cs t2)) w1) :
    w1.cell? ⟨w.heap.size, 0, none⟩ = some x ∧ w1.cell? ⟨w.heap.size, 1, none⟩ = some y ∧ (∀ o, w1.cell? ⟨w.heap.size + 1, o, none⟩ = cs[o]?) ∧ (∀ o, w1.frozen? ⟨w.heap.size + 1, o, none⟩ = false) ∧ Below w.heap.size w w1 ∧ w.heap.size + 1 < w1.heap.size := by
  have hs := h.size
  simp at hs
  have hb : w1.heap[w.heap.size + 1]? = some (.cells cs t2 (0, 0)) := by
    rw [h.block (w.heap.size + 1) (by simp)]
    have := heap_alloc_new (w.alloc (.cells #[x, y] t)) (.cells cs t2)
    simpa using this
  refine ⟨keepCells h _ _ (cellA (by simp)), keepCells h _ _ (cellA (by simp)), fun o => by simp [World.cell?, hb], fun o => by simp [World.frozen?, hb], ?_, by omega⟩
  exact (((Below.refl _ w).alloc (Nat.le_refl _) _).alloc (by simp) _).trans (h.mono (by simp; omega))
/-- A call that returns a bool, the bool written out. -/
theorem boolv {P : Program} {f : FuncId} {args : Array Value} {w : World} {B : World → Prop} {x b : Bool} (h : Calls P f args w fun e w' => e = .returned (.bool x) ∧ B w') (hx : x = b) : Calls P f args w fun e w' => e = .returned (.bool b) ∧ B w' := by
  subst hx; exact h
/-- The cell of element k of a slice of ints. -/
theorem IntsAt.at_ {w : World} {v : Value} {xs : List Int} (h : IntsAt w v xs) {k : Nat} (hk : k < xs.length) :
    ∃ b off c, v = .slice (some ⟨b, off, none⟩) xs.length c ∧ b < w.heap.size ∧ xs.length ≤ c ∧ c ≤ 9223372036854775807 ∧ w.cell? ⟨b, off + k, none⟩ = some (.int .i64 xs[k]) ∧ I64 xs[k] := by
  obtain ⟨A, c, rfl, h1, h2, h3⟩ := h
  obtain ⟨b, off, rfl, hb, h4⟩ := h3 (by omega)
  have := h4 k xs[k] (List.getElem?_eq_getElem hk)
  rw [Nat.mul_one] at this
  exact ⟨b, off, c, rfl, hb, h1, h2, this.1, this.2⟩
theorem slAt_form {α : Type} {size : Nat} {E : Elem α} {w : World} {v : Value} {xs : List α} (h : SlAt size E w v xs) : ∃ A c, v = .slice A xs.length c ∧ xs.length ≤ c ∧ c ≤ 9223372036854775807 := by
  obtain ⟨A, c, rfl, h1, h2, _⟩ := h
  exact ⟨A, c, rfl, h1, h2⟩
end Go.Proofs.YtegpikhfnhcjaaaGreat
