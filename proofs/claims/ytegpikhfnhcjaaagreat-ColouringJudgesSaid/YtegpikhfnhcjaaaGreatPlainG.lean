/- Plain words: configurations. -/
import Derived.Test.YtegpikhfnhcjaaaGreatPlainF
namespace Go.Proofs.YtegpikhfnhcjaaaGreat

abbrev Conf := List (List Int)
abbrev Bounds := List (Int × Int)

def stateB (bs : Bounds) (s : List Int) : Bool := decide (s.length = bs.length) && (bs.zip s).all (fun p => decide (p.1.1 ≤ p.2) && decide (p.2 ≤ p.1.2))
def confB (n : Nat) (bs : Nat → Bounds) (c : Conf) : Bool := decide (c.length = n) && c.zipIdx.all (fun p => stateB (bs p.2) p.1)

def StateOk (bs : Bounds) (s : List Int) : Prop := s.length = bs.length ∧ ∀ (i : Nat) b x, bs[i]? = some b → s[i]? = some x → b.1 ≤ x ∧ x ≤ b.2
def ConfOk (n : Nat) (bs : Nat → Bounds) (c : Conf) : Prop := c.length = n ∧ ∀ (v : Nat) s, c[v]? = some s → StateOk (bs v) s

theorem stateB_iff (bs : Bounds) (s : List Int) : stateB bs s = true ↔ StateOk bs s := by
  unfold stateB StateOk
  rw [Bool.and_eq_true, decide_eq_true_iff, List.all_eq_true]
  refine and_congr_right fun _ => ⟨fun h i b x hb hx => ?_, fun h p hp => ?_⟩
  · have := h (b, x) (List.mem_of_getElem? (i := i) (by simp [List.getElem?_zip_eq_some, hb, hx]))
    simpa using this
  · obtain ⟨i, hi⟩ := List.mem_iff_getElem?.1 hp
    obtain ⟨b, x⟩ := p
    rw [List.getElem?_zip_eq_some] at hi
    simpa using h i b x hi.1 hi.2
theorem confB_iff (n : Nat) (bs : Nat → Bounds) (c : Conf) : confB n bs c = true ↔ ConfOk n bs c := by
  unfold confB ConfOk
  rw [Bool.and_eq_true, decide_eq_true_iff, List.all_eq_true]
  refine and_congr_right fun _ => ⟨fun h v s hs => ?_, fun h p hp => ?_⟩
  · refine (stateB_iff _ _).1 (h (s, v) ?_)
    rw [List.mem_zipIdx_iff_getElem?]
    exact hs
  · rw [List.mem_zipIdx_iff_getElem?] at hp
    exact (stateB_iff _ _).2 (h p.2 p.1 hp)
theorem confB_false {n : Nat} {bs : Nat → Bounds} {c : Conf} (h : ¬ ConfOk n bs c) : confB n bs c = false := by
  cases hb : confB n bs c with
  | false => rfl
  | true => exact absurd ((confB_iff n bs c).1 hb) h
theorem confB_true {n : Nat} {bs : Nat → Bounds} {c : Conf} (h : ConfOk n bs c) : confB n bs c = true := (confB_iff n bs c).2 h
theorem stateOk_of {bs : Bounds} {s : List Int} (hl : s.length = bs.length) (h : ∀ i (hi : i < s.length) (hb : i < bs.length), bs[i].1 ≤ s[i] ∧ s[i] ≤ bs[i].2) : StateOk bs s := by
  refine ⟨hl, fun i b x hb hx => ?_⟩
  obtain ⟨h1, rfl⟩ := List.getElem?_eq_some_iff.1 hb
  obtain ⟨h2, rfl⟩ := List.getElem?_eq_some_iff.1 hx
  exact h i h2 h1

/-- The degree of node v. -/
def degOf (g : Gr) (v : Nat) : Nat := (g.ports.getD v []).length
/-- bfs.Configuration's bounds: -1 stands for a port. -/
def boundsG (g : Gr) (G : List Int) (v : Nat) : Bounds := G.map (fun h => if h = -1 then (-1, (degOf g v : Int) - 1) else (0, h))
def topID (g : Gr) : Int := g.ids.foldl max 0
end Go.Proofs.YtegpikhfnhcjaaaGreat
