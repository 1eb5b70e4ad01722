/- Lemmas, joined: Mem Head RowA ShW PlainA PlainB SlB Own. -/
import Derived.Below
import Derived.Deep.Draws
import Derived.Laws.OwnMore
import Derived.Lib.Hide
import Derived.Test.YtlfojfndkcmfnaaRows
import Derived.WalkKit
import Derived.WalkSpells
import Derived.RegionTactic
import Derived.Deep.QuietTactic
import Derived.BigQuiet
import Derived.Outline
import Derived.ProofKit
import Derived.OpenShut
import Derived.ShutString
import Derived.ChangeOld
import Derived.Deep.Matrix
import Derived.Lib.SmallJoins
import Derived.Test.YtlfojfndkcmfnaaPkLe10
import Derived.ArgAppend
import Derived.Maps.AppendAt
import Derived.Deep.LoopGhost
import Derived.Deep.OwnRows
set_option linter.unusedSimpArgs false
set_option linter.unusedVariables false
namespace Go.Proofs.Ytlfojfndkcmfnaa
open Go.RowKit

def I64 (n : Int) : Prop := -9223372036854775808 ≤ n ∧ n ≤ 9223372036854775807

abbrev Elem (α : Type) := World → Nat → Nat → α → Prop

/-- The slice value v reads in w as the list xs; an element takes 'size' cells. -/
def SlAt {α : Type} (size : Nat) (E : Elem α) (w : World) (v : Value) (xs : List α) : Prop :=
  ∃ (A : Option Addr) (c : Nat), v = .slice A xs.length c ∧ xs.length ≤ c ∧ c ≤ 9223372036854775807 ∧
    (0 < xs.length → ∃ b off, A = some ⟨b, off, none⟩ ∧ b < w.heap.size ∧ ∀ j x, xs[j]? = some x → E w b (off + j * size) x)

def intE : Elem Int := fun w b o x => w.cell? ⟨b, o, none⟩ = some (.int .i64 x) ∧ I64 x
def linkE : Elem (Int × Int) := fun w b o x => w.cell? ⟨b, o, none⟩ = some (.int .i64 x.1) ∧ w.cell? ⟨b, o + 1, none⟩ = some (.int .i64 x.2) ∧ I64 x.1 ∧ I64 x.2
def slE {α : Type} (size : Nat) (E : Elem α) : Elem (List α) := fun w b o xs => ∃ v, w.cell? ⟨b, o, none⟩ = some v ∧ SlAt size E w v xs

/-- An element's reading hangs on old cells alone. -/
def Stable {α : Type} (E : Elem α) : Prop := ∀ w w' b o x, (∀ a v, w.cell? a = some v → w'.cell? a = some v) → w.heap.size ≤ w'.heap.size → E w b o x → E w' b o x

abbrev IntsAt := SlAt 1 intE
abbrev LinksAt := SlAt 2 linkE
abbrev PortsAt := SlAt 1 (slE 2 linkE)
abbrev RowsAt := SlAt 1 (slE 1 intE)

structure Gr where
  ids : List Int
  ports : List (List (Int × Int))

def GrAt (w : World) (v : Value) (g : Gr) : Prop := ∃ i p, v = .agg #[i, p] ∧ IntsAt w i g.ids ∧ PortsAt w p g.ports

section
variable {α : Type} {E : Elem α} {size : Nat} {w w' : World} {v : Value} {xs : List α}

theorem Stable.int : Stable intE := fun _ _ _ _ _ h _ hx => ⟨h _ _ hx.1, hx.2⟩
theorem Stable.link : Stable linkE := fun _ _ _ _ _ h _ hx => ⟨h _ _ hx.1, h _ _ hx.2.1, hx.2.2⟩
theorem SlAt.keep (hE : Stable E) (h : SlAt size E w v xs) (hk : ∀ a u, w.cell? a = some u → w'.cell? a = some u) (hs : w.heap.size ≤ w'.heap.size) : SlAt size E w' v xs := by
  obtain ⟨A, c, h1, h2, h3, h4⟩ := h
  refine ⟨A, c, h1, h2, h3, fun hp => ?_⟩
  obtain ⟨b, off, rfl, hb, h5⟩ := h4 hp
  exact ⟨b, off, rfl, Nat.lt_of_lt_of_le hb hs, fun j x hx => hE _ _ _ _ _ hk hs (h5 j x hx)⟩
theorem Stable.sl (hE : Stable E) : Stable (slE size E) := by
  rintro w w' b o x h hs ⟨v, hc, hv⟩
  exact ⟨v, h _ _ hc, hv.keep hE h hs⟩
theorem keepCells (hb : Below w.heap.size w w') : ∀ a u, w.cell? a = some u → w'.cell? a = some u :=
  fun a _ h => (hb.cell (World.block_lt_of_cell? w a h)).trans h
theorem SlAt.below (hE : Stable E) (h : SlAt size E w v xs) (hb : Below w.heap.size w w') : SlAt size E w' v xs := h.keep hE (keepCells hb) hb.size
theorem SlAt.nil (w : World) : SlAt size E w (.slice none 0 0) [] := ⟨none, 0, rfl, Nat.le_refl _, by omega, fun h => absurd h (by simp)⟩
end
theorem GrAt.below {w w' : World} {v : Value} {g : Gr} (h : GrAt w v g) (hb : Below w.heap.size w w') : GrAt w' v g := by
  obtain ⟨i, p, rfl, h1, h2⟩ := h
  exact ⟨i, p, rfl, h1.below Stable.int hb, h2.below (Stable.sl Stable.link) hb⟩
end Go.Proofs.Ytlfojfndkcmfnaa
namespace Go.Proofs.Ytlfojfndkcmfnaa
open Go.RowKit
theorem ret_int {k : IntKind} {a b : Int} (h : a = b) : Ending.returned (.int k a) = .returned (.int k b) := by rw [h]
theorem ret_bool {a b : Bool} (h : a = b) : Ending.returned (.bool a) = .returned (.bool b) := by rw [h]

/-- A struct of two cells that the call has boxed, and whatever came after. -/
theorem box2 {w wr : World} {x y : Value} {t : TypeId} (h : Below (w.heap.size + 1) (w.alloc (.cells #[x, y] t)) wr) :
    wr.cell? ⟨w.heap.size, 0, none⟩ = some x ∧ wr.cell? ⟨w.heap.size, 1, none⟩ = some y ∧ Below w.heap.size w wr ∧ w.heap.size < wr.heap.size := by
  refine ⟨(h.cell (by simp)).trans (by simp), (h.cell (by simp)).trans (by simp), ?_, ?_⟩
  · exact ((Below.refl _ w).alloc (Nat.le_refl _) _).trans (h.mono (by omega))
  · have := h.size; simp at this; omega
theorem below_drewN {B : Nat} {a w : World} (h : Below B a w) (n : Nat) : Below B a (w.drewN n) := ⟨h.os, h.tape, h.output, h.size, h.block⟩
theorem below_of_drewN {B : Nat} {a w : World} (h : Below B a w) {n : Nat} {w' : World} (e : w' = w.drewN n) : Below B a w' := by subst e; exact below_drewN h n

theorem bcell {W w1 : World} (hb : Below W.heap.size W w1) : (∀ b o, b < W.heap.size → w1.cell? ⟨b, o, none⟩ = W.cell? ⟨b, o, none⟩) ∧ (∀ b o, b < W.heap.size → w1.frozen? ⟨b, o, none⟩ = W.frozen? ⟨b, o, none⟩) :=
  ⟨fun b o h => hb.cell (p := ⟨b, o, none⟩) h, fun b o h => hb.frozen (p := ⟨b, o, none⟩) h⟩
theorem cellA {w : World} {o : Obj} {a : Addr} {u : Value} (h : w.cell? a = some u) : (w.alloc o).cell? a = some u := (World.cell?_alloc_lt w o a (World.block_lt_of_cell? w a h)).trans h
theorem keepA {w w3 : World} {o : Obj} (hb : Below (w.alloc o).heap.size (w.alloc o) w3) : ∀ a u, w.cell? a = some u → w3.cell? a = some u := fun a u h => keepCells hb a u (cellA h)
theorem belowA {w w3 : World} {o : Obj} (hb : Below (w.alloc o).heap.size (w.alloc o) w3) : Below w.heap.size w w3 := ((Below.refl _ w).alloc (Nat.le_refl _) o).trans (hb.mono (by simp))
theorem newA2 {w w3 : World} {x y : Value} {t : TypeId} (hb : Below (w.alloc (.cells #[x, y] t)).heap.size (w.alloc (.cells #[x, y] t)) w3) : w3.cell? ⟨w.heap.size, 0, none⟩ = some x ∧ w3.cell? ⟨w.heap.size, 1, none⟩ = some y :=
  ⟨keepCells hb _ _ (by simp), keepCells hb _ _ (by simp)⟩
theorem farCell {w : World} {a p : Addr} {u : Value} (h : w.cell? a = some u) (hne : a.block ≠ p.block) (x : Value) : (w.setCell p x).cell? a = some u :=
  (World.cell?_setCell_other w p a x (fun e => hne (by rw [e]))).trans h
/-- Two blocks that the call has just laid, and whatever came after: the cells of both; the second is not frozen. -/
theorem twoNew {w w1 : World} {x y : Value} {t t2 : TypeId} {cs : Array Value} (h : Below ((w.alloc (.cells #[x, y] t)).alloc (.cells cs t2)).heap.size ((w.alloc (.cells #[x, y] t)).alloc (.cells cs t2)) w1) :
    w1.cell? ⟨w.heap.size, 0, none⟩ = some x ∧ w1.cell? ⟨w.heap.size, 1, none⟩ = some y ∧ (∀ o, w1.cell? ⟨w.heap.size + 1, o, none⟩ = cs[o]?) ∧ (∀ o, w1.frozen? ⟨w.heap.size + 1, o, none⟩ = false) ∧ Below w.heap.size w w1 ∧ w.heap.size + 1 < w1.heap.size := by
  have hs := h.size
  simp at hs
  have hb : w1.heap[w.heap.size + 1]? = some (.cells cs t2 (0, 0)) := by
    rw [h.block (w.heap.size + 1) (by simp)]
    have := heap_alloc_new (w.alloc (.cells #[x, y] t)) (.cells cs t2)
    simpa using this
  refine ⟨keepCells h _ _ (cellA (by simp)), keepCells h _ _ (cellA (by simp)), fun o => by simp [World.cell?, hb], fun o => by simp [World.frozen?, hb], ?_, by omega⟩
  exact (((Below.refl _ w).alloc (Nat.le_refl _) _).alloc (by simp) _).trans (h.mono (by simp; omega))
/-- A call that returns a bool, the bool written out. -/
theorem boolv {P : Program} {f : FuncId} {args : Array Value} {w : World} {B : World → Prop} {x b : Bool} (h : Calls P f args w fun e w' => e = .returned (.bool x) ∧ B w') (hx : x = b) : Calls P f args w fun e w' => e = .returned (.bool b) ∧ B w' := by
  subst hx; exact h
/-- The cell of element k of a slice of ints. -/
theorem IntsAt.at_ {w : World} {v : Value} {xs : List Int} (h : IntsAt w v xs) {k : Nat} (hk : k < xs.length) :
    ∃ b off c, v = .slice (some ⟨b, off, none⟩) xs.length c ∧ b < w.heap.size ∧ xs.length ≤ c ∧ c ≤ 9223372036854775807 ∧ w.cell? ⟨b, off + k, none⟩ = some (.int .i64 xs[k]) ∧ I64 xs[k] := by
  obtain ⟨A, c, rfl, h1, h2, h3⟩ := h
  obtain ⟨b, off, rfl, hb, h4⟩ := h3 (by omega)
  have := h4 k xs[k] (List.getElem?_eq_getElem hk)
  rw [Nat.mul_one] at this
  exact ⟨b, off, c, rfl, hb, h1, h2, this.1, this.2⟩
theorem slAt_form {α : Type} {size : Nat} {E : Elem α} {w : World} {v : Value} {xs : List α} (h : SlAt size E w v xs) : ∃ A c, v = .slice A xs.length c ∧ xs.length ≤ c ∧ c ≤ 9223372036854775807 := by
  obtain ⟨A, c, rfl, h1, h2, _⟩ := h
  exact ⟨A, c, rfl, h1, h2⟩
end Go.Proofs.Ytlfojfndkcmfnaa
namespace Go.Proofs.Ytlfojfndkcmfnaa
open Go.ChangeShapes Go.WideShapes Go.ChangeAt Go.RowKit

theorem list_of {α : Type} {p : Nat → α → Prop} : ∀ (n : Nat), (∀ i, i < n → ∃ x, p i x) → ∃ xs : List α, xs.length = n ∧ ∀ (j : Nat) (x : α), xs[j]? = some x → p j x
  | 0, _ => ⟨[], rfl, by simp⟩
  | n + 1, h => by
    obtain ⟨xs, h1, h2⟩ := list_of n fun i hi => h i (by omega)
    obtain ⟨x, hx⟩ := h n (by omega)
    refine ⟨xs ++ [x], by simp [h1], fun j y hy => ?_⟩
    by_cases hj : j < xs.length
    · rw [List.getElem?_append_left hj] at hy; exact h2 j y hy
    · rw [List.getElem?_append_right (by omega)] at hy
      have : j - xs.length = 0 := by
        rcases Nat.eq_zero_or_pos (j - xs.length) with q | q
        · exact q
        · rw [List.getElem?_eq_none (by simp; omega)] at hy; cases hy
      rw [this] at hy
      simp at hy
      subst hy
      obtain rfl : j = n := by omega
      exact hx

section
variable {H : Type} {enc : TypeId × Value → H} {P : Program} {w : World} {base : Nat} {held : Bool}
/-- A slice that came in, read as a list. -/
theorem trod_sl {α : Type} {size : Nat} {E : Elem α} {t e : TypeId} {fuel : Nat} {v : Value} {x : DataW H × List MemPlace} (ht : P.underlying t = some (.slice e)) (hC : P.cellsOf e = size) (h0 : 0 < size)
    (hE : ∀ (n : Nat) (cs' : List Value) (y : DataW H × List MemPlace) (b off : Nat), DataW.trod enc P w base (fun _ => true) held n e cs' = some y → cs'.length = size → (∀ j, j < size → w.cell? ⟨b, off + j, none⟩ = cs'[j]?) → ∃ x, E w b off x)
    (h : DataW.trod enc P w base (fun _ => true) held fuel t [v] = some x) : ∃ xs, SlAt size E w v xs := by
  rcases Go.Deep.open_slice ht h with ⟨h1, _⟩ | ⟨a, len, cap, m, n, D, Pl, hcs, hb, hl, hm, hmm, hx, hi⟩
  · simp at h1
    subst h1
    exact ⟨[], SlAt.nil w⟩
  · simp at hcs
    subst hcs
    simp only [if_true] at hmm
    subst hmm
    unfold maxLen at hm
    rw [hC] at hi
    rcases Nat.eq_zero_or_pos len with rfl | hlen
    · exact ⟨[], some a, m, rfl, Nat.zero_le _, hm, fun q => absurd q (by simp)⟩
    · obtain ⟨b, off, spot⟩ := a
      have hspot : spot = none := by
        obtain ⟨cs', h2, _⟩ := hi 0 (by omega)
        obtain ⟨_, h3, h4⟩ := World.cells?_some h2
        have h5 := h4 0 h0
        have h6 : cs'[0]? = some (cs'[0]'(by omega)) := List.getElem?_eq_getElem (by omega)
        rw [h6] at h5
        have := World.cell?_spot h5
        simpa [Addr.add] using this
      subst hspot
      have hblk : b < w.heap.size := by
        obtain ⟨cs', h2, _⟩ := hi 0 (by omega)
        obtain ⟨_, h3, h4⟩ := World.cells?_some h2
        have h5 := h4 0 h0
        have h6 : cs'[0]? = some (cs'[0]'(by omega)) := List.getElem?_eq_getElem (by omega)
        rw [h6] at h5
        have := World.block_lt_of_cell? w _ h5
        simpa [Addr.add] using this
      obtain ⟨xs, x1, x2⟩ := list_of (p := fun i x => E w b (off + i * size) x) len fun i hil => by
        obtain ⟨cs', h2, h3⟩ := hi i (by omega)
        obtain ⟨_, h4, h5⟩ := World.cells?_some h2
        refine hE n cs' _ b (off + i * size) h3 h4 fun j hj => ?_
        rw [← h5 j hj]
        congr 1
        unfold Addr.add
        split <;> split <;> simp_all <;> omega
      refine ⟨xs, some ⟨b, off, none⟩, m, by rw [x1], by rw [x1]; exact hl, hm, fun _ => ⟨b, off, rfl, hblk, fun j x hx => x2 j x hx⟩⟩
theorem wf_i64 {n : Int} (h : (Lit.int .i64 n).wf = true) : I64 n := by
  simp only [Lit.wf, Bool.and_eq_true, decide_eq_true_eq] at h
  have e1 : IntKind.i64.min = -9223372036854775808 := rfl
  have e2 : IntKind.i64.max = 9223372036854775807 := rfl
  rw [e1, e2] at h
  exact h
theorem trod_ints {t e : TypeId} {fuel : Nat} {v : Value} {x : DataW H × List MemPlace} (ht : P.underlying t = some (.slice e)) (he : P.underlying e = some (.int .i64)) (hC : P.cellsOf e = 1)
    (h : DataW.trod enc P w base (fun _ => true) held fuel t [v] = some x) : ∃ xs, IntsAt w v xs := by
  refine trod_sl ht hC (by decide) (fun n cs' y b off h1 h2 h3 => ?_) h
  obtain ⟨k, rfl, _, hw⟩ := DataW.trod_int he h1
  exact ⟨k, by simpa using h3 0 (by decide), wf_i64 hw⟩
theorem trod_links {t e q q' : TypeId} {f0 f1 : Field} {fuel : Nat} {v : Value} {x : DataW H × List MemPlace} (ht : P.underlying t = some (.slice e)) (he : P.underlying e = some (.struct #[f0, f1])) (hC : P.cellsOf e = 2)
    (h0 : f0.type = q ∧ f0.offset = 0 ∧ P.cellsOf q = 1) (h1 : f1.type = q' ∧ f1.offset = 1 ∧ P.cellsOf q' = 1) (hq : P.underlying q = some (.int .i64)) (hq' : P.underlying q' = some (.int .i64))
    (h : DataW.trod enc P w base (fun _ => true) held fuel t [v] = some x) : ∃ xs, LinksAt w v xs := by
  refine trod_sl ht hC (by decide) (fun n cs' y b off k1 k2 k3 => ?_) h
  obtain ⟨xs, n', _, _, _, hlen, hf⟩ := DataW.trod_struct he k1
  match cs', k2 with
  | [c0, c1], _ =>
    have g0 := hf 0 f0 rfl
    have g1 := hf 1 f1 rfl
    rw [h0.1, h0.2.1, h0.2.2] at g0
    rw [h1.1, h1.2.1, h1.2.2] at g1
    match xs, hlen with
    | [y0, y1], _ =>
      obtain ⟨a0, e0, _, w0⟩ := DataW.trod_int hq (x := y0) (by simpa using g0)
      obtain ⟨a1, e1, _, w1⟩ := DataW.trod_int hq' (x := y1) (by simpa using g1)
      simp at e0 e1
      subst e0 e1
      exact ⟨(a0, a1), by simpa using k3 0 (by decide), by simpa using k3 1 (by decide), wf_i64 w0, wf_i64 w1⟩
/-- A slice of slices. -/
theorem trod_sls {α : Type} {size : Nat} {E : Elem α} {t e : TypeId} {fuel : Nat} {v : Value} {x : DataW H × List MemPlace} (ht : P.underlying t = some (.slice e)) (hC : P.cellsOf e = 1)
    (hE : ∀ (n : Nat) (u : Value) (y : DataW H × List MemPlace), DataW.trod enc P w base (fun _ => true) held n e [u] = some y → ∃ xs, SlAt size E w u xs)
    (h : DataW.trod enc P w base (fun _ => true) held fuel t [v] = some x) : ∃ xs, SlAt 1 (slE size E) w v xs := by
  refine trod_sl ht hC (by decide) (fun n cs' y b off h1 h2 h3 => ?_) h
  match cs', h2 with
  | [u], _ =>
    obtain ⟨xs, hxs⟩ := hE n u y h1
    exact ⟨xs, u, by simpa using h3 0 (by decide), hxs⟩
end

theorem own : ownKnob Try.prog.godebug = Option.none := by kernel_rfl
theorem laidOut : laidOutB Try.prog = true := by kernel_rfl

section
variable {H : Type} {enc : TypeId × Value → H} {w : World} {base : Nat} {held : Bool} {n : Nat} {v : Value} {x : DataW H × List MemPlace}
theorem open_ids (h : DataW.trod enc Try.prog w base (fun _ => true) held n 22 [v] = some x) : ∃ xs, IntsAt w v xs :=
  trod_ints Try.underlying22 Try.underlying3 (by kernel_rfl) h
theorem open_rows (h : DataW.trod enc Try.prog w base (fun _ => true) held n 26 [v] = some x) : ∃ xs, RowsAt w v xs :=
  trod_sls Try.underlying26 (by kernel_rfl) (fun _ _ _ h => open_ids h) h
theorem open_linksT (h : DataW.trod enc Try.prog w base (fun _ => true) held n 66 [v] = some x) : ∃ xs, LinksAt w v xs :=
  trod_links Try.underlying66 Try.underlying54 (by kernel_rfl) ⟨rfl, rfl, by kernel_rfl⟩ ⟨rfl, rfl, by kernel_rfl⟩ Try.underlying3 Try.underlying3 h
theorem open_portsT (h : DataW.trod enc Try.prog w base (fun _ => true) held n 23 [v] = some x) : ∃ xs, PortsAt w v xs :=
  trod_sls Try.underlying23 (by kernel_rfl) (fun _ _ _ h => open_linksT h) h
end
end Go.Proofs.Ytlfojfndkcmfnaa
namespace Go.Proofs.Ytlfojfndkcmfnaa
namespace Sh
open Go Ev Go.RowKit

noncomputable def tfrom {α : Type} (t : T α) : Nat → List (Option α) → T α
  | _, [] => t
  | i, x :: l => tfrom (T.set (Nat.succ i) t i x) (i + 1) l
theorem tfrom_get {α : Type} : ∀ (l : List (Option α)) (t : T α) (i j : Nat), (tfrom t i l).get j = if i ≤ j ∧ j < i + l.length then (l[j - i]?).join else t.get j
  | [], t, i, j => by rw [if_neg (by simp)]; rfl
  | x :: l, t, i, j => by
    unfold tfrom
    rw [tfrom_get l _ _ j]
    by_cases c : i + 1 ≤ j ∧ j < i + 1 + l.length
    · rw [if_pos c, if_pos (by simp; omega), show j - i = (j - (i + 1)) + 1 by omega]
      rfl
    · rw [if_neg c, T.set_at]
      by_cases q : j = i
      · subst q
        rw [if_pos rfl, if_pos (by simp)]
        simp
      · rw [if_neg q, if_neg (by simp; omega)]

/-- A value of the world, as it is told of: Z is a block that is not there. -/
def absV (Z : Nat) (v : Value) : Option Value := if simple v then some v else match v with
  | .slice (some ⟨b, o, none⟩) n c => if n ≤ c ∧ c ≤ 9223372036854775807 then (if c = 0 then some (.slice (some ⟨Z, 0, none⟩) n CU) else if b ≤ Z then some (.slice (some ⟨b, o, none⟩) n CU) else none) else none
  | .slice (some ⟨_, _, some _⟩) n c => if n ≤ c ∧ c = 0 then some (.slice (some ⟨Z, 0, none⟩) n CU) else none
  | _ => none
noncomputable def absB (Z : Nat) (w : World) (i : Nat) : Option ABlk := match w.heap[i]? with
  | some (.cells c _ _) => some (.cells (tfrom .leaf 0 (c.toList.map (absV Z))) c.size CU 0)
  | _ => none
def phiW (w : World) : Phi := fun i => match w.heap[i]? with
  | some (.cells c _ _) => some ⟨i, 0, c.size, 0, w.heap[i]?⟩
  | _ => if i ≤ w.heap.size then some ⟨i, 0, 0, 0, none⟩ else none
noncomputable def memW (w : World) : Mem := ⟨w.heap.size + 1, tfrom .leaf 0 ((List.range w.heap.size).map (absB w.heap.size w)), w.heap.size + 1⟩

theorem memW_get {w : World} {i : Nat} {b : ABlk} : (memW w).b.get i = some b ↔ absB w.heap.size w i = some b := by
  show (tfrom .leaf 0 _).get i = some b ↔ _
  rw [tfrom_get]
  by_cases h : i < w.heap.size
  · rw [if_pos (by simpa using h)]
    simp [h]
  · rw [if_neg (by simpa using h), T.get_leaf]
    have : absB w.heap.size w i = none := by unfold absB; rw [Array.getElem?_eq_none (by omega)]
    rw [this]
theorem memW_wf (w : World) : Wf (memW w) := fun i b h => by
  rw [memW_get] at h
  show i < w.heap.size + 1
  unfold absB at h
  split at h
  · rename_i hc; have := (Array.getElem?_eq_some_iff.1 hc).1; omega
  · cases h
theorem absV_vr {w : World} {v u : Value} (h : absV w.heap.size v = some u) : VR (phiW w) u v := by
  have hZ : ∃ l, phiW w w.heap.size = some l := by
    unfold phiW
    rw [Array.getElem?_eq_none (Nat.le_refl _)]
    simp
  have hφ : ∀ b, b ≤ w.heap.size → ∃ sz ob, phiW w b = some ⟨b, 0, sz, 0, ob⟩ := by
    intro b hb
    unfold phiW
    split
    · exact ⟨_, _, rfl⟩
    · rw [if_pos hb]; exact ⟨_, _, rfl⟩
  unfold absV at h
  split at h
  · rename_i hs; cases h; exact .simple hs
  · split at h
    · rename_i b o n c _
      split at h
      · rename_i hc
        split at h
        · rename_i h0
          cases h
          obtain ⟨l, hl⟩ := hZ
          exact .slice hl hc.1 (fun q => absurd rfl q) hc.2 (.inr h0)
        · split at h
          · rename_i hbl
            cases h
            obtain ⟨sz, ob', hl⟩ := hφ b hbl
            exact .slice hl hc.1 (fun q => absurd rfl q) hc.2 (.inl ⟨by simp, .inl rfl⟩)
          · cases h
      · cases h
    · rename_i b o sp n c _
      split at h
      · rename_i hc
        cases h
        obtain ⟨l, hl⟩ := hZ
        exact .slice hl hc.1 (fun q => absurd rfl q) (by omega) (.inr hc.2)
      · cases h
    · cases h
theorem relW (w : World) : Rel (phiW w) (memW w).b.get w := by
  have hblk : ∀ i b, (memW w).b.get i = some b → ∃ l, phiW w i = some l ∧ l.blk = i ∧ l.ob = w.heap[i]? ∧ BR (phiW w) l w b := by
    intro i b hb
    rw [memW_get] at hb
    unfold absB at hb
    split at hb
    · rename_i c e fz hc
      cases hb
      refine ⟨⟨i, 0, c.size, 0, w.heap[i]?⟩, by unfold phiW; rw [hc], rfl, rfl, rfl, by simp, c.toList, e, fz, ⟨fun q => absurd rfl q, fun o ho => ho⟩, by simpa using hc, by simp, fun j v hj hg => ?_⟩
      rw [tfrom_get] at hg
      split at hg
      · simp only [Nat.sub_zero, List.getElem?_map] at hg
        cases hcj : c.toList[j]? with
        | none => rw [hcj] at hg; cases hg
        | some x =>
          rw [hcj] at hg
          have hg : absV w.heap.size x = some v := by simpa using hg
          exact ⟨x, by rw [Nat.zero_add]; exact hcj, absV_vr hg⟩
      · rw [T.get_leaf] at hg; cases hg
    · cases hb
  refine ⟨fun i b hb => by obtain ⟨l, h1, _, _, h2⟩ := hblk i b hb; exact ⟨l, h1, h2⟩, fun i j x y li lj hne hx hy hi hj => ?_⟩
  obtain ⟨l, h1, h2, _⟩ := hblk i x hx
  obtain ⟨l', h3, h4, _⟩ := hblk j y hy
  rw [hi] at h1
  cases h1
  rw [hj] at h3
  cases h3
  rw [h2, h4]
  exact hne
theorem phiW_ob {w : World} {i : Nat} {b : ABlk} {l : Ev.Loc} (hb : (memW w).b.get i = some b) (hl : phiW w i = some l) : l.blk = i ∧ ∃ o, l.ob = some o ∧ w.heap[i]? = some o := by
  rw [memW_get] at hb
  unfold absB at hb
  split at hb
  · rename_i c e fz hc
    unfold phiW at hl
    rw [hc] at hl
    cases hl
    exact ⟨rfl, _, rfl, hc⟩
  · cases hb
theorem freshW (w : World) (n : Nat) : Fresh (phiW w) (memW w).next n := by
  intro i h1 _
  have h1 : w.heap.size + 1 ≤ i := h1
  unfold phiW
  rw [Array.getElem?_eq_none (by omega)]
  simp only
  rw [if_neg (by omega)]
/-- A contract, in the world: its arguments are those that are told of, and nothing old changes. -/
theorem calls_of {P : Program} {g : FuncId} {args : List SV} {r : SV} {v : Value} {us us' : List Value} {w : World} (h : Returns P g args r) (hg : ∃ fn c, P.funcs[g]? = some fn ∧ fn.body = some c) (hn : NoNum P)
    (ha : RVL (memW w).b.get om0 args us) (hv : VRL (phiW w) us us') (hr : ∀ F u, RV F om0 r u → u = v) (hat : ∀ φ v', VR φ v v' → v' = v) : Calls P g us'.toArray w fun e w' => e = .returned v ∧ Below w.heap.size w w' := by
  obtain ⟨u, m', x, h1, h2, h3, rfl, h5⟩ := h (memW w).b.get (memW w) us (memW_wf w) (Le.refl _) ha
  have hu := hr _ _ h5
  subst hu
  have hs := (h1 (memW_wf w)).2 (phiW w) (memW w).b.get w us' (relW w) (fun i b hb => hb) hv (freshW w _)
  obtain ⟨fn, c, k1, k2⟩ := hg
  rcases hs with ⟨_, hc⟩ | ⟨v', w', hrun, _⟩
  · refine hc.mono ?_
    rintro e w' ⟨v', rfl, φ', M', hgd, hvr⟩
    rw [hat _ _ hvr]
    refine ⟨rfl, hgd.wg.os, hgd.wg.tape, hgd.wg.output, hgd.wg.size, fun k hk => ?_⟩
    by_cases hi : Img (phiW w) (memW w).b.get k
    · obtain ⟨i, b, l, e1, e2, e3⟩ := hi
      obtain ⟨k4, o, k5, k6⟩ := phiW_ob e1 e2
      have hik : i = k := k4.symm.trans e3
      subst hik
      have hlt : i < (memW w).next := memW_wf w i b e1
      have hM : M' i = some b := by
        rw [hgd.frame i (fun q => by omega) (.inr (Nat.lt_of_lt_of_le hlt h2))]
        exact e1
      obtain ⟨l', q1, q2⟩ := hgd.rel.blk i b hM
      rw [hgd.le i l e2] at q1
      cases q1
      have hcells : ∃ c n, b = .cells c n CU 0 := by
        rw [memW_get] at e1
        unfold absB at e1
        split at e1
        · cases e1; exact ⟨_, _, rfl⟩
        · cases e1
      obtain ⟨c', n', rfl⟩ := hcells
      obtain ⟨_, _, cs, e', fz, h0, _⟩ := q2
      rw [k4] at h0
      rw [h0.2 o k5, k6]
    · exact hgd.wg.keep k hk hi
  · rw [callFunc_enter hn k1 k2] at hrun
    cases hrun
end Sh
end Go.Proofs.Ytlfojfndkcmfnaa
namespace Go.Proofs.Ytlfojfndkcmfnaa

def portTo (ls : List (Int × Int)) (u : Int) : Int := match ls.findIdx? (fun l => l.1 == u) with | some i => i | none => -1

def linkOk (v n : Int) (l : Int × Int) : Prop := 0 ≤ l.1 ∧ l.1 ≤ n - 1 ∧ l.1 ≠ v ∧ 1 ≤ l.2 ∧ l.2 ≤ 15
instance (v n : Int) (l : Int × Int) : Decidable (linkOk v n l) := by unfold linkOk; infer_instance

def linksOk (ls : List (Int × Int)) (v n : Int) : Prop := (∀ l ∈ ls, linkOk v n l) ∧ (ls.map (·.1)).Nodup
instance (ls : List (Int × Int)) (v n : Int) : Decidable (linksOk ls v n) := by unfold linksOk; infer_instance
def linksB (ls : List (Int × Int)) (v n : Int) : Bool := decide (linksOk ls v n)

theorem take_snoc {α : Type} (l : List α) (k : Nat) (h : k < l.length) : l.take (k + 1) = l.take k ++ [l[k]] := by
  rw [List.take_succ_eq_append_getElem h]

theorem linksOk_snoc (ls : List (Int × Int)) (v n : Int) (k : Nat) (h : k < ls.length) :
    linksOk (ls.take (k + 1)) v n ↔ linksOk (ls.take k) v n ∧ linkOk v n ls[k] ∧ ∀ j (hj : j < k), (ls[j]).1 ≠ (ls[k]).1 := by
  unfold linksOk
  rw [take_snoc ls k h]
  simp only [List.mem_append, List.mem_singleton, List.map_append, List.map_cons, List.map_nil, List.nodup_append]
  constructor
  · rintro ⟨h1, h2, _, h3⟩
    refine ⟨⟨fun l hl => h1 l (.inl hl), h2⟩, h1 _ (.inr rfl), fun j hj => ?_⟩
    refine h3 _ ?_ _ (by simp)
    exact List.mem_map.2 ⟨ls[j], List.mem_take_iff_getElem.2 ⟨j, by omega, rfl⟩, rfl⟩
  · rintro ⟨⟨h1, h2⟩, h3, h4⟩
    refine ⟨?_, h2, by simp, ?_⟩
    · rintro l (hl | rfl)
      · exact h1 l hl
      · exact h3
    · intro a ha b hb
      obtain ⟨l, hl, rfl⟩ := List.mem_map.1 ha
      obtain ⟨j, hj, rfl⟩ := List.mem_take_iff_getElem.1 hl
      subst hb
      exact h4 j (by omega)

theorem linksOk_take (ls : List (Int × Int)) (v n : Int) (k : Nat) (h : linksOk ls v n) : linksOk (ls.take k) v n := by
  refine ⟨fun l hl => h.1 l (List.mem_of_mem_take hl), ?_⟩
  rw [List.map_take]
  exact h.2.sublist (List.take_sublist _ _)

theorem linksB_false_of (ls : List (Int × Int)) (v n : Int) (k : Nat) (h : ¬ linksOk (ls.take k) v n) : linksB ls v n = false := by
  unfold linksB
  rw [decide_eq_false_iff_not]
  exact fun h' => h (linksOk_take ls v n k h')

theorem linksB_true_of (ls : List (Int × Int)) (v n : Int) (h : linksOk (ls.take ls.length) v n) : linksB ls v n = true := by
  unfold linksB
  rw [List.take_length] at h
  exact decide_eq_true h

theorem portTo_hit (ls : List (Int × Int)) (u : Int) (k : Nat) (hk : k < ls.length) (h : ls[k].1 = u) (hn : (ls.take k).findIdx? (fun l => l.1 == u) = none) : portTo ls u = k := by
  unfold portTo
  have : ls.findIdx? (fun l => l.1 == u) = some k := by
    rw [List.findIdx?_eq_some_iff_getElem]
    refine ⟨hk, by simp [h], fun j hj => ?_⟩
    rw [List.findIdx?_eq_none_iff] at hn
    have := hn ls[j] (List.mem_take_iff_getElem.2 ⟨j, by omega, rfl⟩)
    simp [this]
  rw [this]

theorem portTo_none (ls : List (Int × Int)) (u : Int) (hn : (ls.take ls.length).findIdx? (fun l => l.1 == u) = none) : portTo ls u = -1 := by
  rw [List.take_length] at hn
  unfold portTo
  rw [hn]

theorem findIdx_snoc (ls : List (Int × Int)) (u : Int) (k : Nat) (hk : k < ls.length) (h : ¬ ls[k].1 = u) (hn : (ls.take k).findIdx? (fun l => l.1 == u) = none) : (ls.take (k + 1)).findIdx? (fun l => l.1 == u) = none := by
  rw [take_snoc ls k hk, List.findIdx?_append, hn]
  simp [h]
end Go.Proofs.Ytlfojfndkcmfnaa
namespace Go.Proofs.Ytlfojfndkcmfnaa

def GoodG (g : Gr) : Prop :=
  1 ≤ g.ports.length ∧ g.ports.length ≤ 24 ∧ g.ids.length = g.ports.length ∧ (∀ x ∈ g.ids, 0 ≤ x ∧ x ≤ 255) ∧ g.ids.Nodup ∧
    (∀ v : Fin g.ports.length, linksOk g.ports[v] (v.1 : Int) (g.ports.length : Int)) ∧ (∀ v : Fin g.ports.length, ∀ l ∈ g.ports[v], ((v.1 : Int), l.2) ∈ g.ports.getD l.1.toNat [])
instance (g : Gr) : Decidable (GoodG g) := by unfold GoodG; infer_instance
def validB (g : Gr) : Bool := decide (GoodG g)

theorem validB_iff (g : Gr) : validB g = true ↔ GoodG g := by simp [validB]

theorem range_bound (n : Nat) (l : List Int) (h : ∀ x ∈ l, 0 ≤ x ∧ x < n) (hn : l.Nodup) : l.length ≤ n := by
  have h1 : (l.map Int.toNat).Nodup := by
    rw [List.Nodup, List.pairwise_map]
    refine (List.Pairwise.and_mem.1 hn).imp ?_
    rintro a b ⟨ha, hb, hne⟩ e
    have := h a ha; have := h b hb
    exact hne (by omega)
  have h2 : (l.map Int.toNat) ⊆ List.range n := by
    intro x hx
    obtain ⟨y, hy, rfl⟩ := List.mem_map.1 hx
    have := h y hy
    simp; omega
  have := List.Nodup.length_le_of_subset h1 h2
  simpa using this

theorem lt_of_links {ls : List (Int × Int)} {v n : Nat} (hv : v < n) (h : linksOk ls (v : Int) (n : Int)) : ls.length < n := by
  have h1 : ((v : Int) :: ls.map (·.1)).Nodup := by
    rw [List.nodup_cons]
    refine ⟨fun hm => ?_, h.2⟩
    obtain ⟨l, hl, e⟩ := List.mem_map.1 hm
    exact (h.1 l hl).2.2.1 e
  have := range_bound n ((v : Int) :: ls.map (·.1)) (by
    intro x hx
    rcases List.mem_cons.1 hx with rfl | hx
    · omega
    · obtain ⟨l, hl, rfl⟩ := List.mem_map.1 hx
      have := h.1 l hl
      unfold linkOk at this
      omega) h1
  simp at this
  omega

def V2 (g : Gr) (v : Nat) : Prop := ∀ x ls, g.ids[v]? = some x → g.ports[v]? = some ls →
  (0 ≤ x ∧ x ≤ 255) ∧ ls.length < g.ports.length ∧ linksB ls (v : Int) (g.ports.length : Int) = true ∧ ∀ u y, u < v → g.ids[u]? = some y → y ≠ x
def V3 (g : Gr) (v i : Nat) : Prop := ∀ ls l, g.ports[v]? = some ls → ls[i]? = some l →
  ∃ ls' : List (Int × Int), ∃ k : Nat, ∃ l' : Int × Int, g.ports[l.1.toNat]? = some ls' ∧ portTo ls' (v : Int) = k ∧ ls'[k]? = some l' ∧ l'.2 = l.2

theorem portTo_of_mem {ls : List (Int × Int)} {u x : Int} (hn : (ls.map (·.1)).Nodup) (h : (u, x) ∈ ls) : ∃ k : Nat, portTo ls u = k ∧ ls[k]? = some (u, x) := by
  obtain ⟨k, hk, e⟩ := List.mem_iff_getElem.1 h
  refine ⟨k, ?_, by rw [List.getElem?_eq_getElem hk, e]⟩
  refine portTo_hit ls u k hk (by rw [e]) ?_
  rw [List.findIdx?_eq_none_iff]
  intro l hl
  obtain ⟨j, hj, rfl⟩ := List.mem_take_iff_getElem.1 hl
  simp only [beq_eq_false_iff_ne]
  intro he
  have hjk : j < k := by omega
  have := (List.pairwise_iff_getElem.1 hn) j k (by simp; omega) (by simpa using hk) hjk
  simp [he, e] at this

theorem portTo_spec {ls : List (Int × Int)} {u : Int} {k : Nat} (h : portTo ls u = k) : ∃ l, ls[k]? = some l ∧ l.1 = u := by
  unfold portTo at h
  split at h
  · rename_i i hi
    obtain rfl : i = k := by omega
    obtain ⟨hlt, hx, _⟩ := List.findIdx?_eq_some_iff_getElem.1 hi
    exact ⟨_, List.getElem?_eq_getElem hlt, by simpa using hx⟩
  · omega

theorem portTo_neg_or {ls : List (Int × Int)} {u : Int} : portTo ls u = -1 ∨ ∃ k : Nat, portTo ls u = k ∧ k < ls.length := by
  unfold portTo
  split
  · rename_i i hi
    obtain ⟨hlt, hx, _⟩ := List.findIdx?_eq_some_iff_getElem.1 hi
    exact .inr ⟨i, rfl, hlt⟩
  · exact .inl rfl

theorem GoodG.v2 {g : Gr} (h : GoodG g) {v : Nat} (hv : v < g.ports.length) : V2 g v := by
  obtain ⟨h1, h2, h3, h4, h5, h6, h7⟩ := h
  intro x ls hx hls
  have hl := h6 ⟨v, hv⟩
  obtain ⟨hv', e⟩ := List.getElem?_eq_some_iff.1 hls
  simp only [Fin.getElem_fin, e] at hl
  refine ⟨h4 x (List.mem_of_getElem? hx), lt_of_links hv hl, decide_eq_true hl, fun u y hu hy he => ?_⟩
  subst he
  obtain ⟨a1, a2⟩ := List.getElem?_eq_some_iff.1 hx
  obtain ⟨b1, b2⟩ := List.getElem?_eq_some_iff.1 hy
  exact (List.pairwise_iff_getElem.1 h5) u v b1 a1 hu (by rw [a2, b2])

theorem GoodG.v3 {g : Gr} (h : GoodG g) {v i : Nat} (hv : v < g.ports.length) : V3 g v i := by
  obtain ⟨h1, h2, h3, h4, h5, h6, h7⟩ := h
  intro ls l hls hl
  obtain ⟨hv', e⟩ := List.getElem?_eq_some_iff.1 hls
  have hm := h7 ⟨v, hv⟩ l (by simp only [Fin.getElem_fin, e]; exact List.mem_of_getElem? hl)
  have hlk := (h6 ⟨v, hv⟩).1 l (by simp only [Fin.getElem_fin, e]; exact List.mem_of_getElem? hl)
  unfold linkOk at hlk
  have hto : l.1.toNat < g.ports.length := by omega
  have hls' : g.ports[l.1.toNat]? = some g.ports[l.1.toNat] := List.getElem?_eq_getElem hto
  have hl' := h6 ⟨l.1.toNat, hto⟩
  simp only [List.getD, hls', Option.getD_some] at hm
  obtain ⟨k, hk1, hk2⟩ := portTo_of_mem (ls := g.ports[l.1.toNat]) hl'.2 hm
  exact ⟨_, k, _, hls', hk1, hk2, rfl⟩

theorem GoodG.of {g : Gr} (h1 : 1 ≤ g.ports.length) (h2 : g.ports.length ≤ 24) (h3 : g.ids.length = g.ports.length) (hv2 : ∀ v, v < g.ports.length → V2 g v) (hv3 : ∀ v i, v < g.ports.length → V3 g v i) : GoodG g := by
  refine ⟨h1, h2, h3, ?_, ?_, ?_, ?_⟩
  · intro x hx
    obtain ⟨k, hk, rfl⟩ := List.mem_iff_getElem.1 hx
    exact (hv2 k (by omega) _ _ (List.getElem?_eq_getElem hk) (List.getElem?_eq_getElem (by omega))).1
  · rw [List.Nodup, List.pairwise_iff_getElem]
    intro i j hi hj hij
    exact (hv2 j (by omega) _ _ (List.getElem?_eq_getElem hj) (List.getElem?_eq_getElem (by omega))).2.2.2 i _ hij (List.getElem?_eq_getElem hi)
  · rintro ⟨v, hv⟩
    have := (hv2 v hv _ _ (List.getElem?_eq_getElem (by omega)) (List.getElem?_eq_getElem hv)).2.2.1
    simpa [linksB] using this
  · rintro ⟨v, hv⟩ l hl
    obtain ⟨i, hi, rfl⟩ := List.mem_iff_getElem.1 hl
    obtain ⟨ls', k, l', e1, e2, e3, e4⟩ := hv3 v i hv _ _ (List.getElem?_eq_getElem hv) (List.getElem?_eq_getElem hi)
    obtain ⟨l2, f1, f2⟩ := portTo_spec e2
    rw [e3] at f1
    cases f1
    simp only [List.getD, e1, Option.getD_some]
    obtain ⟨a, b⟩ := l'
    simp only at f2 e4
    rw [← e4, ← f2]
    exact List.mem_of_getElem? e3

theorem validB_false_v2 {g : Gr} {v : Nat} (hv : v < g.ports.length) (h : ¬ V2 g v) : validB g = false := by
  unfold validB; rw [decide_eq_false_iff_not]; exact fun hg => h (hg.v2 hv)
theorem validB_false_v3 {g : Gr} {v i : Nat} (hv : v < g.ports.length) (h : ¬ V3 g v i) : validB g = false := by
  unfold validB; rw [decide_eq_false_iff_not]; exact fun hg => h (hg.v3 hv)
theorem validB_false_1 {g : Gr} (h : ¬ (1 ≤ g.ports.length ∧ g.ports.length ≤ 24 ∧ g.ids.length = g.ports.length)) : validB g = false := by
  unfold validB; rw [decide_eq_false_iff_not]; exact fun hg => h ⟨hg.1, hg.2.1, hg.2.2.1⟩
end Go.Proofs.Ytlfojfndkcmfnaa
namespace Go.Proofs.Ytlfojfndkcmfnaa
open Go.RowKit

/-- Slice of slices: the cell of element k, and that element's own slice. -/
theorem rowsAt_at {α : Type} {size : Nat} {E : Elem α} {w : World} {A : Option Addr} {c n : Nat} {xs : List (List α)} (h : SlAt 1 (slE size E) w (.slice A n c) xs) {k : Nat} {ls : List α} (hk : xs[k]? = some ls) :
    ∃ b off v, A = some ⟨b, off, none⟩ ∧ b < w.heap.size ∧ w.cell? ⟨b, off + k, none⟩ = some v ∧ SlAt size E w v ls := by
  obtain ⟨A', c', e, h1, h2, h3⟩ := h
  cases e
  have hlt := (List.getElem?_eq_some_iff.1 hk).1
  obtain ⟨b, off, rfl, hb, h4⟩ := h3 (by omega)
  obtain ⟨v, hc, hv⟩ := h4 k ls hk
  rw [Nat.mul_one] at hc
  exact ⟨b, off, v, rfl, hb, hc, hv⟩
theorem intsAt_at {w : World} {A : Option Addr} {c n : Nat} {xs : List Int} (h : IntsAt w (.slice A n c) xs) {k : Nat} (hk : k < xs.length) :
    ∃ b off, A = some ⟨b, off, none⟩ ∧ b < w.heap.size ∧ w.cell? ⟨b, off + k, none⟩ = some (.int .i64 xs[k]) ∧ I64 xs[k] := by
  obtain ⟨b, off, c', e, hb, _, _, hc, hi⟩ := h.at_ hk
  cases e
  exact ⟨b, off, rfl, hb, hc, hi⟩
end Go.Proofs.Ytlfojfndkcmfnaa
namespace Go.Proofs.Ytlfojfndkcmfnaa
open Go.RowKit

/-- Block g is just the ints R. -/
def IBlk (w : World) (g : Nat) (R : List Int) : Prop := w.heap[g]? = some (.cells (R.map (Value.int .i64)).toArray 3 (0, 0))

section
variable {w w' : World} {g : Nat} {R : List Int}
theorem IBlk.lt (h : IBlk w g R) : g < w.heap.size := (Array.getElem?_eq_some_iff.1 h).1
theorem IBlk.cell (h : IBlk w g R) {k : Nat} (hk : k < R.length) : w.cell? ⟨g, k, none⟩ = some (.int .i64 R[k]) := by
  simp [World.cell?, show w.heap[g]? = _ from h, hk]
theorem IBlk.frozen (h : IBlk w g R) (k : Nat) : w.frozen? ⟨g, k, none⟩ = false := by simp [World.frozen?, show w.heap[g]? = _ from h]
theorem IBlk.set_ (h : IBlk w g R) (k : Nat) (x : Int) : IBlk (w.setCell ⟨g, k, none⟩ (.int .i64 x)) g (R.set k x) := by
  have h' : w.heap[g]? = _ := h
  unfold IBlk
  simp [World.setCell, Array.getElem?_modify, h', List.map_set]
theorem IBlk.far (h : IBlk w g R) {p : Addr} (hp : g ≠ p.block) (u : Value) : IBlk (w.setCell p u) g R := (Below.heap_setCell w p u g hp).trans h
theorem IBlk.alloc (h : IBlk w g R) (o : Obj) : IBlk (w.alloc o) g R := (Below.heap_alloc w o g h.lt).trans h
theorem IBlk.drewN (h : IBlk w g R) (n : Nat) : IBlk (w.drewN n) g R := h
theorem IBlk.drew (h : IBlk w g R) : IBlk w.drew g R := h
theorem IBlk.below {B : Nat} (h : IBlk w g R) (hb : Below B w w') (hg : g < B) : IBlk w' g R := (hb.block g hg).trans h
theorem IBlk.grown {row : Option Nat} (h : IBlk w g R) (hb : w.grownBy w' row) (hg : some g ≠ row) : IBlk w' g R := (hb.block g h.lt hg).trans h
theorem IBlk.ints (h : IBlk w g R) (hR : ∀ x ∈ R, I64 x) (hl : R.length ≤ 1000000) : IntsAt w (.slice (some ⟨g, 0, none⟩) R.length R.length) R := by
  refine ⟨_, _, rfl, Nat.le_refl _, by omega, fun hp => ⟨g, 0, rfl, h.lt, fun j x hx => ?_⟩⟩
  obtain ⟨hj, e⟩ := List.getElem?_eq_some_iff.1 hx
  refine ⟨?_, hR x (List.mem_of_getElem? hx)⟩
  rw [Nat.mul_one, Nat.zero_add, h.cell hj, e]
end

/-- Slice v of n elements (size cells each) reads xs; its block is the call's own (from base on), known to be plain. -/
def Owns (w : World) (base : Nat) (e : TypeId) (size : Nat) (v : Value) (n : Nat) (xs : List Value) : Prop :=
  xs.length = n * size ∧ ((v = .slice none 0 0 ∧ n = 0) ∨ ∃ g off cap cur, v = .slice (some ⟨g, off, none⟩) n cap ∧ base ≤ g ∧ w.heap[g]? = some (.cells cur e (0, 0)) ∧ n ≤ cap ∧ cap ≤ maxLen ∧
    off + cap * size ≤ cur.size ∧ ∀ j u, xs[j]? = some u → cur[off + j]? = some u)

section
variable {w w' : World} {base : Nat} {e : TypeId} {size : Nat} {v : Value} {n : Nat} {xs : List Value}
theorem Owns.of_row (h : w.ownsRow base e size v n xs) : Owns w base e size v n xs := by
  obtain ⟨h1, h2⟩ := h
  refine ⟨h1, h2.imp id ?_⟩
  rintro ⟨g, cap, cur, hv, hb, hh, hn, hc, hs, ht⟩
  refine ⟨g, 0, cap, cur, hv, hb, hh, hn, hc, by omega, fun j u hu => ?_⟩
  rw [← ht, List.getElem?_take] at hu
  split at hu
  · simpa using hu
  · cases hu
theorem Owns.nil (w : World) (base : Nat) (e : TypeId) (size : Nat) : Owns w base e size (.slice none 0 0) 0 [] := ⟨by simp, .inl ⟨rfl, rfl⟩⟩
theorem Owns.keep (h : Owns w base e size v n xs) (hk : ∀ g, v.ownBlock = some g → w'.heap[g]? = w.heap[g]?) : Owns w' base e size v n xs := by
  obtain ⟨h1, h2⟩ := h
  refine ⟨h1, h2.imp id ?_⟩
  rintro ⟨g, off, cap, cur, rfl, hb, hh, r⟩
  exact ⟨g, off, cap, cur, rfl, hb, by rw [hk g rfl]; exact hh, r⟩
theorem Owns.lt (h : Owns w base e size v n xs) {g : Nat} (hg : v.ownBlock = some g) : base ≤ g ∧ g < w.heap.size := by
  rcases h.2 with ⟨rfl, _⟩ | ⟨g', off, cap, cur, rfl, hb, hh, _⟩
  · simp [Value.ownBlock] at hg
  · obtain rfl : g' = g := by simpa [Value.ownBlock] using hg
    exact ⟨hb, (Array.getElem?_eq_some_iff.1 hh).1⟩
theorem Owns.alloc (h : Owns w base e size v n xs) (o : Obj) : Owns (w.alloc o) base e size v n xs := h.keep fun g hg => Below.heap_alloc w o g (h.lt hg).2
theorem Owns.drewN (h : Owns w base e size v n xs) (k : Nat) : Owns (w.drewN k) base e size v n xs := h
theorem Owns.far (h : Owns w base e size v n xs) {p : Addr} (hp : v.ownBlock ≠ some p.block) (u : Value) : Owns (w.setCell p u) base e size v n xs :=
  h.keep fun g hg => Below.heap_setCell w p u g (fun e' => hp (by rw [hg, e']))
theorem Owns.low (h : Owns w base e size v n xs) {p : Addr} (hp : p.block < base) (u : Value) : Owns (w.setCell p u) base e size v n xs :=
  h.far (fun e' => by have := (h.lt e').1; omega) u
theorem Owns.drew (h : Owns w base e size v n xs) : Owns w.drew base e size v n xs := h
theorem Owns.form (h : Owns w base e size v n xs) (hn : 0 < n) : ∃ g off cap, v = .slice (some ⟨g, off, none⟩) n cap ∧ base ≤ g ∧ g < w.heap.size ∧ n ≤ cap ∧ cap ≤ maxLen ∧ ∀ j u, xs[j]? = some u → w.cell? ⟨g, off + j, none⟩ = some u := by
  rcases h.2 with ⟨rfl, h0⟩ | ⟨g, off, cap, cur, rfl, hb, hh, h1, h2, h3, h4⟩
  · omega
  · exact ⟨g, off, cap, rfl, hb, (Array.getElem?_eq_some_iff.1 hh).1, h1, h2, fun j u hu => by simp [World.cell?, hh, h4 j u hu]⟩
theorem Owns.val (h : Owns w base e size v n xs) : ∃ A c, v = .slice A n c := by
  rcases h.2 with ⟨rfl, rfl⟩ | ⟨g, off, cap, cur, rfl, _⟩
  · exact ⟨_, _, rfl⟩
  · exact ⟨_, _, rfl⟩
theorem Owns.cut1 {a : Addr} {c : Nat} (h : Owns w base e size (.slice (some a) n c) n xs) (hn : 0 < n) {k : Nat} (hk : k ≤ n) :
    Owns w base e size (.slice (some (if c = k then a else a.add (k * size))) (n - k) (c - k)) (n - k) (xs.drop (k * size)) := by
  obtain ⟨h1, h2⟩ := h
  refine ⟨by rw [List.length_drop, h1, Nat.sub_mul], .inr ?_⟩
  rcases h2 with ⟨e, _⟩ | ⟨g, off, cap, cur, e, hb, hh, hc, hm, hs, hx⟩
  · cases e
  · injection e with e1 e2 e3
    injection e1 with e1
    subst e1 e3
    by_cases hck : c = k
    · subst hck
      obtain rfl : n = c := by omega
      refine ⟨g, off, 0, cur, by simp, hb, hh, by omega, by omega, by omega, fun j u hu => ?_⟩
      rw [List.drop_eq_nil_of_le (by omega)] at hu
      simp at hu
    · have hsz : off + k * size + (c - k) * size ≤ cur.size := by
        rw [Nat.add_assoc, ← Nat.add_mul, show k + (c - k) = c by omega]
        exact hs
      refine ⟨g, off + k * size, c - k, cur, ?_, hb, hh, by omega, by simp only [maxLen] at hm ⊢; omega, hsz, fun j u hu => ?_⟩
      · rw [if_neg hck, Addr.add_lit]
      · rw [List.getElem?_drop] at hu
        rw [Nat.add_assoc]
        exact hx _ u hu

theorem Owns.store1 {g off cap : Nat} (h : Owns w base e 1 (.slice (some ⟨g, off, none⟩) n cap) n xs) {k : Nat} (hk : k < n) (u : Value) : Owns (w.setCell ⟨g, off + k, none⟩ u) base e 1 (.slice (some ⟨g, off, none⟩) n cap) n (xs.set k u) := by
  obtain ⟨h1, h2⟩ := h
  refine ⟨by simpa using h1, .inr ?_⟩
  rcases h2 with ⟨e', _⟩ | ⟨g', off', cap', cur, e', hb, hh, hc, hm, hs, hx⟩
  · cases e'
  · injection e' with e1 e2 e3
    injection e1 with e1
    injection e1 with e4 e5
    subst e3 e4 e5
    refine ⟨g, off, cap, cur.setIfInBounds (off + k) u, rfl, hb, by simp [World.setCell, Array.getElem?_modify, hh], hc, hm, by simpa using hs, fun j v hj => ?_⟩
    rw [Array.getElem?_setIfInBounds]
    rw [List.getElem?_set] at hj
    by_cases hjk : k = j
    · subst hjk
      rw [if_pos rfl] at hj ⊢
      rw [if_pos (by omega)]
      rw [if_pos (by omega)] at hj
      exact hj
    · rw [if_neg (by omega)]
      rw [if_neg hjk] at hj
      exact hx j v hj
theorem Owns.frozen {g off cap : Nat} (h : Owns w base e size (.slice (some ⟨g, off, none⟩) n cap) n xs) (k : Nat) : w.frozen? ⟨g, k, none⟩ = false := by
  rcases h.2 with ⟨e', _⟩ | ⟨g', off', cap', cur, e', hb, hh, _⟩
  · cases e'
  · injection e' with e1 e2 e3
    injection e1 with e1
    injection e1 with e4 e5
    subst e4
    simp [World.frozen?, hh]
theorem Owns.ints {R : List Int} (h : Owns w base e 1 v n (R.map (Value.int .i64))) (hR : ∀ x ∈ R, I64 x) : IntsAt w v R := by
  have hl : R.length = n := by have := h.1; simpa using this
  rcases h.2 with ⟨rfl, hn⟩ | ⟨g, off, cap, cur, rfl, hb, hh, hc, hm, hs, hx⟩
  · subst hn
    obtain rfl : R = [] := List.eq_nil_of_length_eq_zero hl
    exact SlAt.nil _
  · refine ⟨_, cap, by rw [hl], by omega, by simp only [maxLen] at hm; omega, fun _ => ⟨g, off, rfl, (Array.getElem?_eq_some_iff.1 hh).1, fun j x hj => ⟨?_, hR x (List.mem_of_getElem? hj)⟩⟩⟩
    have := hx j (.int .i64 x) (by simp [hj])
    simp [World.cell?, hh, this]
/-- 's[k:]' of a slice of the call's own. -/
theorem run_cut1 {P : Program} {t : TypeId} (ht : P.underlying t = some (.slice e)) {i : TypeInfo} (hi : P.info? e = some i) (hsize : i.size = size) (h : Owns w base e size v n xs) {k : Nat} (hk : k ≤ n) (hn : 0 < n) :
    ∃ v', (∀ W, (Instr.slice t v (some (.int .i64 (k : Int))) none none).run P W = .ok v' W) ∧ Owns w base e size v' (n - k) (xs.drop (k * size)) ∧ v'.ownBlock = v.ownBlock := by
  obtain ⟨g, off, cap, rfl, hg, _, hc, hm, _⟩ := h.form hn
  refine ⟨_, ?_, h.cut1 hn hk, by simp only [Value.ownBlock]; split <;> simp [Addr.add_lit]⟩
  intro W
  have h1 : ¬ ((n : Int) < (k : Int)) := by omega
  simp [Instr.slice, Instr.sliceBounds, Instr.sliceBound, asIntOf, run_underlying ht, sizeOf, typeInfo, hi, hsize, hk, go_sem]
  split <;> simp
end

theorem heap_setCells (b : Nat) : ∀ (vs : List Value) (o : Nat) (w : World) (k : Nat), k ≠ b → (w.setCells b o vs).heap[k]? = w.heap[k]?
  | [], _, _, _, _ => rfl
  | v :: vs, o, w, k, h => by
    show ((w.setCell ⟨b, o, none⟩ v).setCells b (o + 1) vs).heap[k]? = _
    rw [heap_setCells b vs (o + 1) _ k h, Below.heap_setCell w ⟨b, o, none⟩ v k h]
theorem heap_setCells_at (b : Nat) (e : TypeId) : ∀ (vs : List Value) (o : Nat) (w : World) (cur : Array Value), w.heap[b]? = some (.cells cur e (0, 0)) → o + vs.length ≤ cur.size →
    ∃ cur', (w.setCells b o vs).heap[b]? = some (.cells cur' e (0, 0)) ∧ cur'.size = cur.size ∧ (∀ j, j < o → cur'[j]? = cur[j]?) ∧ ∀ j u, vs[j]? = some u → cur'[o + j]? = some u
  | [], o, w, cur, h, _ => ⟨cur, h, rfl, fun _ _ => rfl, fun j u hu => by simp at hu⟩
  | v :: vs, o, w, cur, h, hl => by
    simp only [List.length_cons] at hl
    have h1 : (w.setCell ⟨b, o, none⟩ v).heap[b]? = some (.cells (cur.setIfInBounds o v) e (0, 0)) := by simp [World.setCell, Array.getElem?_modify, h]
    obtain ⟨cur', g1, g2, g3, g4⟩ := heap_setCells_at b e vs (o + 1) (w.setCell ⟨b, o, none⟩ v) (cur.setIfInBounds o v) h1 (by simp; omega)
    refine ⟨cur', g1, by rw [g2]; simp, fun j hj => ?_, fun j u hu => ?_⟩
    · rw [g3 j (by omega), Array.getElem?_setIfInBounds, if_neg (by omega)]
    · cases j with
      | zero =>
        rw [g3 _ (by omega), Nat.add_zero, Array.getElem?_setIfInBounds, if_pos rfl, if_pos (by omega)]
        simpa using hu
      | succ j => rw [show o + (j + 1) = o + 1 + j by omega]; exact g4 j u (by simpa using hu)
theorem size_setCells (b : Nat) : ∀ (vs : List Value) (o : Nat) (w : World), (w.setCells b o vs).heap.size = w.heap.size
  | [], _, _ => rfl
  | v :: vs, o, w => by show ((w.setCell ⟨b, o, none⟩ v).setCells b (o + 1) vs).heap.size = _; rw [size_setCells b vs]; simp
theorem streams_setCells (b : Nat) : ∀ (vs : List Value) (o : Nat) (w : World), (w.setCells b o vs).os = w.os ∧ (w.setCells b o vs).tape = w.tape ∧ (w.setCells b o vs).output = w.output
  | [], _, _ => ⟨rfl, rfl, rfl⟩
  | v :: vs, o, w => by
    have := streams_setCells b vs (o + 1) (w.setCell ⟨b, o, none⟩ v)
    exact ⟨this.1, this.2.1, this.2.2⟩

section
variable {P : Program} (w : World)
theorem run_append_owns (base : Nat) (t ty e : TypeId) (i : TypeInfo) (z : Value) (size bytes : Nat) (ht : P.underlying t = some (.slice e)) (hi : P.info? e = some i) (hz : i.zero = some z)
    (hsize : i.size = size) (hby : i.bytes = bytes) (hzs : z.cells.size = size) (hsz : 0 < size)
    (v : Value) (n : Nat) (xs : List Value) (hown : Owns w base e size v n xs)
    (a : Addr) (m c : Nat) (news : List Value) (hl : news.length = m * size) (hnews : ∀ j u, news[j]? = some u → w.cell? (a.add j) = some u) (h1 : ∀ u ∈ news, u.oneCell' = true)
    (h63 : n + m ≤ maxLen) (hbytes : (n + m) * bytes ≤ 140737488355328) (hbase : base ≤ w.heap.size) :
    ∃ v' w', (Builtin.append_ #[t, t] ty #[v, .slice (some a) m c]).run P w = .ok v' w' ∧ Owns w' base e size v' (n + m) (xs ++ news) ∧ w.grownBy w' v.ownBlock ∧
      (v'.ownBlock = v.ownBlock ∨ v'.ownBlock = some w.heap.size) := by
  rcases hown.2 with ⟨rfl, rfl⟩ | ⟨g, off, cap, cur, rfl, hb, hh, hn, hc, hs, hx⟩
  · obtain rfl : xs = [] := List.eq_nil_of_length_eq_zero (by simpa using hown.1)
    obtain ⟨v', w', hrun, h2, h3, _, h5⟩ := run_append_own_at (P := P) w base t ty e i z size bytes ht hi hz hsize hby hzs hsz (.slice none 0 0) 0 [] (World.ownsRow_nil w base e size) a m c news hl hnews h1 h63 hbytes hbase
    exact ⟨v', w', hrun, Owns.of_row h2, h3, h5⟩
  · by_cases hr : n + m ≤ cap
    · subst hsize
      have hfit : off + n * i.size + news.length ≤ cur.size := by
        rw [hl, Nat.add_assoc, ← Nat.add_mul]
        exact Nat.le_trans (Nat.add_le_add_left (Nat.mul_le_mul_right _ hr) _) hs
      have hcell : ∀ j, j < news.length → w.cell? ⟨g, off + n * i.size + j, none⟩ = some (cur[off + n * i.size + j]!) := fun j hj => by
        have : off + n * i.size + j < cur.size := by omega
        simp [World.cell?, hh, this]
      have hrun := run_append_room_cells (P := P) w t ty e i ht hi g off n cap a m c news hl hnews h1 hr (fun j hj => by rw [hcell j hj]; rfl) (fun j _ => by simp [World.frozen?, hh])
      obtain ⟨cur', g1, g2, g3, g4⟩ := heap_setCells_at g e news (off + n * i.size) w cur hh hfit
      have hst := streams_setCells g news (off + n * i.size) w
      refine ⟨_, _, hrun, ⟨by rw [List.length_append, hown.1, hl, Nat.add_mul], .inr ⟨g, off, cap, cur', rfl, hb, g1, hr, hc, by rw [g2]; exact hs, fun j u hu => ?_⟩⟩, ⟨hst.1, hst.2.1, hst.2.2, by rw [size_setCells]; exact Nat.le_refl _, fun k _ hk => ?_⟩, .inl rfl⟩
      · by_cases hj : j < xs.length
        · rw [List.getElem?_append_left hj] at hu
          rw [g3 _ (by have := hown.1; omega)]
          exact hx j u hu
        · rw [List.getElem?_append_right (by omega)] at hu
          have := g4 _ u hu
          rw [← this]
          congr 1
          have := hown.1
          omega
      · exact heap_setCells g news _ w k (fun e' => hk (by simp [Value.ownBlock, e']))
    · have holds : ∀ j u, xs[j]? = some u → w.cell? ((⟨g, off, none⟩ : Addr).add j) = some u := fun j u hu => by
        rw [Addr.add_lit]
        simp [World.cell?, hh, hx j u hu]
      obtain ⟨v', w', hrun, r1, r2⟩ := run_append_arg_grows (P := P) w t ty e i z size bytes ht hi hz hsize hby hzs hsz ⟨g, off, none⟩ n cap xs hown.1 holds a m c news hl hnews (by omega) h63 hbytes
      refine ⟨v', w', hrun, ?_, ⟨r2.os, r2.tape, r2.output, r2.size, fun k hk _ => r2.block k hk (by simp)⟩, ?_⟩
      · have := Owns.of_row r1
        obtain ⟨q1, q2⟩ := this
        refine ⟨q1, q2.imp id ?_⟩
        rintro ⟨g', off', cap', cur', a1, a2, a3⟩
        exact ⟨g', off', cap', cur', a1, Nat.le_trans hbase a2, a3⟩
      · subst hsize
        subst hby
        have hr2 := run_append_grow (P := P) w t ty e i z ht hi hz ⟨g, off, none⟩ n cap xs hown.1 holds a m c news hl hnews (by omega) (by simp only [maxLen] at h63; omega) (growslice_fits (by omega) hbytes)
        rw [hr2] at hrun
        injection hrun with e1 _
        subst e1
        exact .inr rfl

theorem wp_append_owns {o : Oper} {a : Act} {K : Act → World → Prop} {Q : Exit → Act → World → Prop} (s x : Operand) (t : TypeId)
    (ho : o.op = .call { callee := .builtin .append, args := #[s, x], argTypes := #[t, t] })
    (base : Nat) (e : TypeId) (i : TypeInfo) (z : Value) (size bytes : Nat) (ht : P.underlying t = some (.slice e)) (hi : P.info? e = some i) (hz : i.zero = some z)
    (hsize : i.size = size) (hby : i.bytes = bytes) (hzs : z.cells.size = size) (hsz : 0 < size)
    (v : Value) (n : Nat) (xs : List Value) (hs : a.eval s = v) (hown : Owns w base e size v n xs)
    (ad : Addr) (m c : Nat) (news : List Value) (hx : a.eval x = .slice (some ad) m c) (hl : news.length = m * size) (hnews : ∀ j u, news[j]? = some u → w.cell? (ad.add j) = some u) (h1 : ∀ u ∈ news, u.oneCell' = true)
    (h63 : n + m ≤ maxLen) (hbytes : (n + m) * bytes ≤ 140737488355328) (hbase : base ≤ w.heap.size)
    (h : ∀ v' w', Owns w' base e size v' (n + m) (xs ++ news) → w.grownBy w' v.ownBlock → (v'.ownBlock = v.ownBlock ∨ v'.ownBlock = some w.heap.size) → K (a.put o.dst v') w') : o.wp P a w K Q := by
  obtain ⟨v', w', hr, h2, h3, h4⟩ := run_append_owns (P := P) w base t o.type e i z size bytes ht hi hz hsize hby hzs hsz v n xs hown ad m c news hl hnews h1 h63 hbytes hbase
  unfold Oper.wp execOp
  simp only [ho, resolve, invoke, builtin, Sem.run_bind, Sem.run_pure, Result.andThen_ok, List.map_toArray, List.map_cons, List.map_nil, hs, hx, hr]
  exact h v' w' h2 h3 h4
theorem wpList_append_owns {ops : Array Oper} {rest : List Oper} {o : Oper} {a : Act} {Q : Exit → Act → World → Prop} (hgd : o.guard = none) (s x : Operand) (t : TypeId)
    (ho : o.op = .call { callee := .builtin .append, args := #[s, x], argTypes := #[t, t] })
    (base : Nat) (e : TypeId) (i : TypeInfo) (z : Value) (size bytes : Nat) (ht : P.underlying t = some (.slice e)) (hi : P.info? e = some i) (hz : i.zero = some z)
    (hsize : i.size = size) (hby : i.bytes = bytes) (hzs : z.cells.size = size) (hsz : 0 < size)
    (v : Value) (n : Nat) (xs : List Value) (hs : a.eval s = v) (hown : Owns w base e size v n xs)
    (ad : Addr) (m c : Nat) (news : List Value) (hx : a.eval x = .slice (some ad) m c) (hl : news.length = m * size) (hnews : ∀ j u, news[j]? = some u → w.cell? (ad.add j) = some u) (h1 : ∀ u ∈ news, u.oneCell' = true)
    (h63 : n + m ≤ maxLen) (hbytes : (n + m) * bytes ≤ 140737488355328) (hbase : base ≤ w.heap.size)
    (h : ∀ v' w', Owns w' base e size v' (n + m) (xs ++ news) → w.grownBy w' v.ownBlock → (v'.ownBlock = v.ownBlock ∨ v'.ownBlock = some w.heap.size) → wpList P ops Q rest (a.put o.dst v') w') : wpList P ops Q (o :: rest) a w :=
  wpList_plain hgd fun _ hK => wp_append_owns w s x t ho base e i z size bytes ht hi hz hsize hby hzs hsz v n xs hs hown ad m c news hx hl hnews h1 h63 hbytes hbase fun v' w' h2 h3 h4 => hK _ _ (h v' w' h2 h3 h4)
end

theorem int_info : (Try.prog.info? 3).map (fun i => (i.zero, i.size, i.bytes)) = some (some (.int .i64 0), 1, 8) := by kernel_rfl
theorem madeCells_int (n : Nat) : madeCells #[Value.int .i64 0] n = ((List.replicate n (0 : Int)).map (Value.int .i64)).toArray := by
  apply Array.ext
  · simp [madeCells]
  · intro i h1 h2
    simp [madeCells, Nat.mod_one]
theorem run_makeInts (n : Nat) (hn : n ≤ 1000000) (w : World) : (Instr.makeSlice 22 (.int .i64 (n : Int)) (.int .i64 (n : Int))).run Try.prog w =
    .ok (.slice (some ⟨w.heap.size, 0, none⟩) n n) (w.alloc (.cells ((List.replicate n (0 : Int)).map (Value.int .i64)).toArray 3)) := by
  rw [← madeCells_int]
  exact run_make_row' 22 3 (.int .i64 0) 8 Try.underlying22 int_info rfl .i64 .i64 n (by omega) (by omega) w
theorem IBlk.new (w : World) (R : List Int) : IBlk (w.alloc (.cells (R.map (Value.int .i64)).toArray 3)) w.heap.size R := heap_alloc_new w _

/-- A slice of one element, laid for an append: its cell. -/
theorem cell_one {w : World} {v : Value} {t : TypeId} {g : Nat} (hg : g = w.heap.size) : ∀ j u, [v][j]? = some u → ((w.alloc (.cells #[v] t)).cell? ((⟨g, 0, none⟩ : Addr).add j)) = some u := by
  intro j u hu
  subst hg
  cases j with
  | zero => simp at hu; subst hu; rw [Addr.add_lit]; simp
  | succ j => simp at hu
/-- What a call that hands back a new slice of ints leaves. -/
def RetInts (D : List Int) (w : World) (e : Ending) (w' : World) : Prop := ∃ v, e = .returned v ∧ IntsAt w' v D ∧ Below w.heap.size w w'
end Go.Proofs.Ytlfojfndkcmfnaa
