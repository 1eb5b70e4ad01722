/- Plain words: connected, eccentricity, distances. -/
import Derived.Test.YtegpikhfnhcjaaaGreatPlainD
namespace Go.Proofs.YtegpikhfnhcjaaaGreat

def connB (g : Gr) : Bool := validB g && (distL g 0).all (fun x => decide (0 ≤ x))
def greatestP (D : List Int) : Int := D.foldl max (-1)
def distsP (g : Gr) (v : Int) : List Int := if validB g = true ∧ 0 ≤ v ∧ v < g.ports.length then distL g v.toNat else []
def eccP (g : Gr) (v : Int) : Int := if connB g = true ∧ 0 ≤ v ∧ v < g.ports.length then greatestP (distL g v.toNat) else -1
/-- The reference's way: -1 at the first node that is not reached. -/
def refGreatest (D : List Int) : Int := if D.all (fun x => decide (0 ≤ x)) = true then greatestP D else -1

theorem foldl_max_ge (D : List Int) : ∀ m : Int, m ≤ D.foldl max m := by
  induction D with
  | nil => intro m; exact Int.le_refl _
  | cons x D ih => intro m; exact Int.le_trans (Int.le_max_left m x) (ih _)
theorem greatestP_snoc (D : List Int) (k : Nat) (hk : k < D.length) : greatestP (D.take (k + 1)) = max (greatestP (D.take k)) D[k] := by
  unfold greatestP
  rw [take_snoc D k hk, List.foldl_append]
  rfl
theorem greatestP_le (D : List Int) (m : Int) (hm : -1 ≤ m) (h : ∀ x ∈ D, x ≤ m) : greatestP D ≤ m := by
  unfold greatestP
  suffices ∀ a : Int, a ≤ m → D.foldl max a ≤ m from this _ hm
  induction D with
  | nil => intro a ha; exact ha
  | cons x D ih => intro a ha; exact ih (fun y hy => h y (by simp [hy])) _ (Int.max_le.2 ⟨ha, h x (by simp)⟩)
theorem greatestP_ge (D : List Int) : ∀ x ∈ D, x ≤ greatestP D := by
  unfold greatestP
  suffices ∀ a : Int, ∀ x ∈ D, x ≤ D.foldl max a from this _
  induction D with
  | nil => intro a x hx; simp at hx
  | cons y D ih =>
    intro a x hx
    rcases List.mem_cons.1 hx with rfl | hx
    · exact Int.le_trans (Int.le_max_right a x) (foldl_max_ge D _)
    · exact ih _ x hx
theorem greatestP_min (D : List Int) : -1 ≤ greatestP D := foldl_max_ge D _

theorem distL_length {g : Gr} (hg : GoodG g) {a : Nat} (ha : a < g.ports.length) : (distL g a).length = g.ports.length := (distL_isDist hg ha).1

theorem Walk.trans {g : Gr} {a b : Nat} : ∀ {j : Nat} {c : Nat} {k : Nat}, Walk g a k b → Walk g b j c → Walk g a (k + j) c
  | 0, c, k, h1, h2 => by obtain rfl : c = b := h2; exact h1
  | j + 1, c, k, h1, h2 => by
    obtain ⟨u, hu, huc⟩ := h2
    exact ⟨u, Walk.trans h1 hu, huc⟩
theorem Walk.one {g : Gr} {a b : Nat} (h : adj g a b) : Walk g a 1 b := ⟨a, rfl, h⟩
theorem Walk.symm {g : Gr} (hg : GoodG g) {a : Nat} : ∀ {k : Nat} {b : Nat}, Walk g a k b → Walk g b k a
  | 0, b, h => by obtain rfl : b = a := h; exact rfl
  | k + 1, b, h => by
    obtain ⟨u, hu, hub⟩ := h
    have := Walk.trans (Walk.one (hg.adj_symm hub)) (Walk.symm hg hu)
    rwa [Nat.add_comm] at this

theorem all_iff {g : Gr} (hg : GoodG g) {a : Nat} (ha : a < g.ports.length) : (distL g a).all (fun x => decide (0 ≤ x)) = true ↔ ∀ v, v < g.ports.length → ∃ k, Walk g a k v := by
  have hd := distL_isDist hg ha
  rw [List.all_eq_true]
  constructor
  · intro h v hv
    have hv' : v < (distL g a).length := by rw [hd.1]; exact hv
    rcases hd.2 v _ (List.getElem?_eq_getElem hv') with ⟨e, _⟩ | ⟨k, _, hk, _⟩
    · have := of_decide_eq_true (h _ (List.getElem_mem hv'))
      omega
    · exact ⟨k, hk⟩
  · intro h x hx
    obtain ⟨v, hv, rfl⟩ := List.mem_iff_getElem.1 hx
    obtain ⟨k, hk⟩ := h v (by rw [← hd.1]; exact hv)
    rcases hd.2 v _ (List.getElem?_eq_getElem hv) with ⟨e, h1⟩ | ⟨k, e, _⟩
    · exact absurd hk (h1 k)
    · rw [e]; simp

theorem all_same {g : Gr} (hg : GoodG g) {a b : Nat} (ha : a < g.ports.length) (hb : b < g.ports.length) (h : (distL g a).all (fun x => decide (0 ≤ x)) = true) : (distL g b).all (fun x => decide (0 ≤ x)) = true := by
  rw [all_iff hg ha] at h
  rw [all_iff hg hb]
  intro v hv
  obtain ⟨k, hk⟩ := h v hv
  obtain ⟨j, hj⟩ := h b hb
  exact ⟨_, Walk.trans (Walk.symm hg hj) hk⟩

theorem distsP_in {g : Gr} (hv : validB g = true) {v : Int} (h1 : 0 ≤ v) (h2 : v < g.ports.length) : distsP g v = distL g v.toNat := if_pos ⟨hv, h1, h2⟩
theorem distsP_out {g : Gr} {v : Int} (h : ¬ (validB g = true ∧ 0 ≤ v ∧ v < g.ports.length)) : distsP g v = [] := if_neg h
theorem refGreatest_nil : refGreatest [] = -1 := rfl
theorem refConn_eq (g : Gr) : decide (0 ≤ refGreatest (distsP g 0)) = connB g := by
  unfold connB
  cases hv : validB g with
  | false =>
    rw [distsP_out (by simp [hv]), refGreatest_nil]
    rfl
  | true =>
    have hg := (validB_iff g).1 hv
    have hn := hg.1
    rw [distsP_in hv (by omega) (by omega)]
    unfold refGreatest
    simp only [Int.toNat_zero]
    cases ha : (distL g 0).all (fun x => decide (0 ≤ x)) with
    | false => simp
    | true =>
      have hl := distL_length hg (a := 0) (by omega)
      have h0 : (0 : Int) ≤ greatestP (distL g 0) := by
        have hm : (distL g 0)[0]'(by omega) ∈ distL g 0 := List.getElem_mem _
        exact Int.le_trans (of_decide_eq_true (List.all_eq_true.1 ha _ hm)) (greatestP_ge _ _ hm)
      simp [h0]
theorem refEcc_eq (g : Gr) (v : Int) : refGreatest (distsP g v) = eccP g v := by
  unfold eccP connB
  by_cases hr : validB g = true ∧ 0 ≤ v ∧ v < g.ports.length
  · obtain ⟨hv, h1, h2⟩ := hr
    have hg := (validB_iff g).1 hv
    rw [distsP_in hv h1 h2, hv]
    unfold refGreatest
    cases ha : (distL g v.toNat).all (fun x => decide (0 ≤ x)) with
    | true =>
      have := all_same hg (a := v.toNat) (b := 0) (by omega) (by omega) ha
      simp [this, h1, h2]
    | false =>
      have : (distL g 0).all (fun x => decide (0 ≤ x)) = false := by
        cases h0 : (distL g 0).all (fun x => decide (0 ≤ x)) with
        | false => rfl
        | true =>
          have := all_same hg (a := 0) (b := v.toNat) (by omega) (by omega) h0
          rw [ha] at this
          cases this
      simp [this]
  · rw [distsP_out hr, refGreatest_nil, if_neg]
    intro h
    exact hr ⟨(Bool.and_eq_true _ _ ▸ h.1).1, h.2⟩
end Go.Proofs.YtegpikhfnhcjaaaGreat
