/- Words for memory: a slice that reads as a list, whatever its elements. -/
import Derived.Below
import Derived.Deep.Draws
import Derived.Laws.OwnMore
import Derived.Lib.Hide
namespace Go.Proofs.YtegpikhfnhcjaaaGreat
open Go.RowKit

def I64 (n : Int) : Prop := -9223372036854775808 ≤ n ∧ n ≤ 9223372036854775807

abbrev Elem (α : Type) := World → Nat → Nat → α → Prop

/-- The slice value v reads in w as the list xs; an element takes 'size' cells. -/
def SlAt {α : Type} (size : Nat) (E : Elem α) (w : World) (v : Value) (xs : List α) : Prop :=
  ∃ (A : Option Addr) (c : Nat), v = .slice A xs.length c ∧ xs.length ≤ c ∧ c ≤ 9223372036854775807 ∧
    (0 < xs.length → ∃ b off, A = some ⟨b, off, none⟩ ∧ b < w.heap.size ∧ ∀ j x, xs[j]? = some x → E w b (off + j * size) x)

def intE : Elem Int := fun w b o x => w.cell? ⟨b, o, none⟩ = some (.int .i64 x) ∧ I64 x
def linkE : Elem (Int × Int) := fun w b o x => w.cell? ⟨b, o, none⟩ = some (.int .i64 x.1) ∧ w.cell? ⟨b, o + 1, none⟩ = some (.int .i64 x.2) ∧ I64 x.1 ∧ I64 x.2
def slE {α : Type} (size : Nat) (E : Elem α) : Elem (List α) := fun w b o xs => ∃ v, w.cell? ⟨b, o, none⟩ = some v ∧ SlAt size E w v xs

/-- An element's reading hangs on old cells alone. -/
def Stable {α : Type} (E : Elem α) : Prop := ∀ w w' b o x, (∀ a v, w.cell? a = some v → w'.cell? a = some v) → w.heap.size ≤ w'.heap.size → E w b o x → E w' b o x

abbrev IntsAt := SlAt 1 intE
abbrev LinksAt := SlAt 2 linkE
abbrev PortsAt := SlAt 1 (slE 2 linkE)
abbrev RowsAt := SlAt 1 (slE 1 intE)

structure Gr where
  ids : List Int
  ports : List (List (Int × Int))

def GrAt (w : World) (v : Value) (g : Gr) : Prop := ∃ i p, v = .agg #[i, p] ∧ IntsAt w i g.ids ∧ PortsAt w p g.ports

section
variable {α : Type} {E : Elem α} {size : Nat} {w w' : World} {v : Value} {xs : List α}

theorem Stable.int : Stable intE := fun _ _ _ _ _ h _ hx => ⟨h _ _ hx.1, hx.2⟩
theorem Stable.link : Stable linkE := fun _ _ _ _ _ h _ hx => ⟨h _ _ hx.1, h _ _ hx.2.1, hx.2.2⟩
theorem SlAt.keep (hE : Stable E) (h : SlAt size E w v xs) (hk : ∀ a u, w.cell? a = some u → w'.cell? a = some u) (hs : w.heap.size ≤ w'.heap.size) : SlAt size E w' v xs := by
  obtain ⟨A, c, h1, h2, h3, h4⟩ := h
  refine ⟨A, c, h1, h2, h3, fun hp => ?_⟩
  obtain ⟨b, off, rfl, hb, h5⟩ := h4 hp
  exact ⟨b, off, rfl, Nat.lt_of_lt_of_le hb hs, fun j x hx => hE _ _ _ _ _ hk hs (h5 j x hx)⟩
theorem Stable.sl (hE : Stable E) : Stable (slE size E) := by
  rintro w w' b o x h hs ⟨v, hc, hv⟩
  exact ⟨v, h _ _ hc, hv.keep hE h hs⟩
theorem keepCells (hb : Below w.heap.size w w') : ∀ a u, w.cell? a = some u → w'.cell? a = some u :=
  fun a _ h => (hb.cell (World.block_lt_of_cell? w a h)).trans h
theorem SlAt.below (hE : Stable E) (h : SlAt size E w v xs) (hb : Below w.heap.size w w') : SlAt size E w' v xs := h.keep hE (keepCells hb) hb.size
theorem SlAt.nil (w : World) : SlAt size E w (.slice none 0 0) [] := ⟨none, 0, rfl, Nat.le_refl _, by omega, fun h => absurd h (by simp)⟩
end
theorem GrAt.below {w w' : World} {v : Value} {g : Gr} (h : GrAt w v g) (hb : Below w.heap.size w w') : GrAt w' v g := by
  obtain ⟨i, p, rfl, h1, h2⟩ := h
  exact ⟨i, p, rfl, h1.below Stable.int hb, h2.below (Stable.sl Stable.link) hb⟩
end Go.Proofs.YtegpikhfnhcjaaaGreat
