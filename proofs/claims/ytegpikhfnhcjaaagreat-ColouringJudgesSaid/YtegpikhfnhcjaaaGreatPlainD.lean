/- Plain words: the reference's way to the distances, layer by layer. -/
import Derived.Test.YtegpikhfnhcjaaaGreatPlainC
namespace Go.Proofs.YtegpikhfnhcjaaaGreat

/-- Node v has a link to a node whose entry is x. -/
def hasAt (R : List Int) (x : Int) (ls : List (Int × Int)) : Bool := ls.any (fun l => decide (R[l.1.toNat]? = some x))
def stepV (g : Gr) (d : Int) (R : List Int) (v : Nat) : List Int :=
  if decide (R.getD v 0 < 0) && hasAt R (d - 1) (g.ports.getD v []) then R.set v d else R
def stepD (g : Gr) (R : List Int) (d : Nat) : List Int := (List.range g.ports.length).foldl (stepV g d) R
def start (g : Gr) (a : Nat) : List Int := (List.replicate g.ports.length (-1)).set a 0
/-- The distances from node a. -/
def distL (g : Gr) (a : Nat) : List Int := (List.range (g.ports.length - 1)).foldl (fun R d => stepD g R (d + 1)) (start g a)

/-- What is known of node v when all distances up to d have been found. -/
def Upto (g : Gr) (a d v : Nat) (x : Int) : Prop := (x = -1 ∧ ∀ k, k ≤ d → ¬ Walk g a k v) ∨ ∃ k : Nat, k ≤ d ∧ x = k ∧ Walk g a k v ∧ ∀ j, j < k → ¬ Walk g a j v

theorem Upto.eq {g : Gr} {a d v : Nat} {x : Int} (h : Upto g a d v x) {k : Nat} (hk : k ≤ d) : x = k ↔ Walk g a k v ∧ ∀ j, j < k → ¬ Walk g a j v := by
  rcases h with ⟨rfl, h1⟩ | ⟨i, hi, rfl, h1, h2⟩
  · exact ⟨fun e => by omega, fun e => absurd e.1 (h1 k hk)⟩
  · constructor
    · intro e
      obtain rfl : i = k := by omega
      exact ⟨h1, h2⟩
    · rintro ⟨h3, h4⟩
      rcases Nat.lt_trichotomy i k with h | h | h
      · exact absurd h1 (h4 i h)
      · omega
      · exact absurd h3 (h2 k h)

theorem Upto.more {g : Gr} {a d v : Nat} {x : Int} (h : Upto g a d v x) (hx : 0 ≤ x) : Upto g a (d + 1) v x := by
  rcases h with ⟨rfl, h1⟩ | ⟨i, hi, rfl, h1, h2⟩
  · omega
  · exact .inr ⟨i, by omega, rfl, h1, h2⟩

structure LayerInv (g : Gr) (a d v : Nat) (R : List Int) : Prop where
  len : R.length = g.ports.length
  new : ∀ (u : Nat) (x : Int), R[u]? = some x → u < v → Upto g a (d + 1) u x
  old : ∀ (u : Nat) (x : Int), R[u]? = some x → v ≤ u → Upto g a d u x

theorem LayerInv.at_ {g : Gr} {a d v : Nat} {R : List Int} (h : LayerInv g a d v R) {u : Nat} (hu : u < g.ports.length) : R[u]? = some (d : Int) ↔ Walk g a d u ∧ ∀ j, j < d → ¬ Walk g a j u := by
  have hl := h.len
  have e : R[u]? = some R[u] := List.getElem?_eq_getElem (by omega)
  have hx : R[u] = (d : Int) ↔ Walk g a d u ∧ ∀ j, j < d → ¬ Walk g a j u := by
    by_cases hv : u < v
    · exact (h.new u _ e hv).eq (by omega)
    · exact (h.old u _ e (by omega)).eq (by omega)
  rw [e]
  simpa using hx

theorem LayerInv.step {g : Gr} (hg : GoodG g) {a d v : Nat} {R : List Int} (h : LayerInv g a d v R) (hv : v < g.ports.length) : LayerInv g a d (v + 1) (stepV g ((d : Int) + 1) R v) := by
  have hlen := h.len
  have ev : R[v]? = some R[v] := List.getElem?_eq_getElem (by omega)
  have eg : R.getD v 0 = R[v] := by simp [List.getD, ev]
  have ep : g.ports.getD v [] = g.ports[v] := by simp [List.getD, List.getElem?_eq_getElem hv]
  have hhas : hasAt R ((d : Int) + 1 - 1) g.ports[v] = true ↔ ∃ u, adj g u v ∧ Walk g a d u ∧ ∀ j, j < d → ¬ Walk g a j u := by
    unfold hasAt
    rw [List.any_eq_true]
    constructor
    · rintro ⟨l, hl, h1⟩
      have hlk := hg.link (List.getElem?_eq_getElem hv) hl
      have h1 := of_decide_eq_true h1
      rw [show (d : Int) + 1 - 1 = d by omega] at h1
      refine ⟨l.1.toNat, hg.adj_symm ⟨_, List.getElem?_eq_getElem hv, l, hl, by omega⟩, ?_⟩
      exact (h.at_ (by omega)).1 h1
    · rintro ⟨u, hu, hw⟩
      obtain ⟨hu1, _⟩ := hg.adj_lt hu
      obtain ⟨ls, h1, l, hl, e⟩ := hg.adj_symm hu
      rw [List.getElem?_eq_getElem hv] at h1
      cases h1
      refine ⟨l, hl, decide_eq_true ?_⟩
      rw [e, Int.toNat_natCast, show (d : Int) + 1 - 1 = d by omega]
      exact (h.at_ hu1).2 hw
  have hov := h.old v _ ev (Nat.le_refl _)
  unfold stepV
  rw [eg, ep]
  by_cases c1 : R[v] < 0
  · have hx : R[v] = -1 ∧ ∀ k, k ≤ d → ¬ Walk g a k v := by
      rcases hov with h1 | ⟨k, _, e, _⟩
      · exact h1
      · omega
    by_cases c2 : hasAt R ((d : Int) + 1 - 1) g.ports[v] = true
    · rw [if_pos (by rw [Bool.and_eq_true]; exact ⟨decide_eq_true c1, c2⟩)]
      obtain ⟨p, hp, hw, _⟩ := hhas.1 c2
      have hset : ∀ t, t ≠ v → (R.set v ((d : Int) + 1))[t]? = R[t]? := fun t ht => by rw [List.getElem?_set, if_neg (by omega)]
      refine ⟨by simp [hlen], fun u x hu huv => ?_, fun u x hu huv => ?_⟩
      · by_cases e : u = v
        · subst e
          rw [List.getElem?_set, if_pos rfl, if_pos (by omega)] at hu
          cases hu
          exact .inr ⟨d + 1, Nat.le_refl _, by omega, ⟨p, hw, hp⟩, fun j hj => hx.2 j (by omega)⟩
        · rw [hset u e] at hu
          exact h.new u x hu (by omega)
      · rw [hset u (by omega)] at hu
        exact h.old u x hu (by omega)
    · rw [if_neg (fun e => c2 (Bool.and_eq_true _ _ ▸ e).2)]
      refine ⟨hlen, fun u x hu huv => ?_, fun u x hu huv => h.old u x hu (by omega)⟩
      by_cases e : u = v
      · subst e
        rw [ev] at hu
        cases hu
        refine .inl ⟨hx.1, fun k hk hw => ?_⟩
        rcases Nat.lt_or_ge d k with hlt | hge
        · obtain rfl : k = d + 1 := by omega
          obtain ⟨p, hp, hpv⟩ := hw
          refine c2 (hhas.2 ⟨p, hpv, hp, fun j hj hw' => hx.2 (j + 1) (by omega) ⟨p, hw', hpv⟩⟩)
        · exact hx.2 k hge hw
      · exact h.new u x hu (by omega)
  · rw [if_neg (by simp [c1])]
    refine ⟨hlen, fun u x hu huv => ?_, fun u x hu huv => h.old u x hu (by omega)⟩
    by_cases e : u = v
    · subst e
      exact (h.old u x hu (Nat.le_refl _)).more (by rw [ev] at hu; cases hu; omega)
    · exact h.new u x hu (by omega)

theorem layer_fold {g : Gr} (hg : GoodG g) {a d : Nat} {R : List Int} (h : LayerInv g a d 0 R) : ∀ v, v ≤ g.ports.length → LayerInv g a d v ((List.range v).foldl (stepV g ((d : Int) + 1)) R)
  | 0, _ => h
  | v + 1, hv => by
    rw [List.range_succ, List.foldl_append]
    exact (layer_fold hg h v (by omega)).step hg (by omega)

def AllUpto (g : Gr) (a d : Nat) (R : List Int) : Prop := R.length = g.ports.length ∧ ∀ (u : Nat) (x : Int), R[u]? = some x → Upto g a d u x

theorem start_upto {g : Gr} {a : Nat} (ha : a < g.ports.length) : AllUpto g a 0 (start g a) := by
  refine ⟨by simp [start], fun u x hu => ?_⟩
  unfold start at hu
  rw [List.getElem?_set] at hu
  split at hu
  · rename_i e
    subst e
    simp [ha] at hu
    subst hu
    exact .inr ⟨0, Nat.le_refl _, rfl, rfl, fun j hj => absurd hj (by omega)⟩
  · rename_i e
    rw [List.getElem?_replicate] at hu
    split at hu
    · cases hu
      refine .inl ⟨rfl, fun k hk hw => ?_⟩
      obtain rfl : k = 0 := by omega
      exact e hw.symm
    · cases hu

theorem stepD_upto {g : Gr} (hg : GoodG g) {a d : Nat} {R : List Int} (h : AllUpto g a d R) : AllUpto g a (d + 1) (stepD g R (d + 1)) := by
  have h0 : LayerInv g a d 0 R := ⟨h.1, fun _ _ _ hu => absurd hu (by omega), fun u x hu _ => h.2 u x hu⟩
  have h1 := layer_fold hg h0 g.ports.length (Nat.le_refl _)
  unfold stepD
  rw [show ((d + 1 : Nat) : Int) = (d : Int) + 1 by omega]
  exact ⟨h1.len, fun u x hu => h1.new u x hu (by rw [← h1.len]; exact (List.getElem?_eq_some_iff.1 hu).1)⟩

theorem rounds_upto {g : Gr} (hg : GoodG g) {a : Nat} (ha : a < g.ports.length) : ∀ d, AllUpto g a d ((List.range d).foldl (fun R d => stepD g R (d + 1)) (start g a))
  | 0 => start_upto ha
  | d + 1 => by rw [List.range_succ, List.foldl_append]; exact stepD_upto hg (rounds_upto hg ha d)

/-- A node at distance k has, for each j up to k, a node at distance j. -/
theorem chain {g : Gr} {a : Nat} : ∀ k v, Walk g a k v → (∀ j, j < k → ¬ Walk g a j v) → ∃ f : Nat → Nat, ∀ j, j ≤ k → Walk g a j (f j) ∧ ∀ i, i < j → ¬ Walk g a i (f j)
  | 0, v, h, _ => ⟨fun _ => v, fun j hj => by obtain rfl : j = 0 := by omega
                                              exact ⟨h, fun i hi => absurd hi (by omega)⟩⟩
  | k + 1, v, h, hm => by
    obtain ⟨p, hp, hpv⟩ := h
    obtain ⟨f, hf⟩ := chain k p hp (fun j hj hw => hm (j + 1) (by omega) ⟨p, hw, hpv⟩)
    refine ⟨fun j => if j ≤ k then f j else v, fun j hj => ?_⟩
    by_cases hjk : j ≤ k
    · simp only [if_pos hjk]; exact hf j hjk
    · obtain rfl : j = k + 1 := by omega
      simp only [if_neg hjk]
      exact ⟨⟨p, hp, hpv⟩, hm⟩

theorem walk_lt {g : Gr} (hg : GoodG g) {a : Nat} (ha : a < g.ports.length) : ∀ k v, Walk g a k v → v < g.ports.length
  | 0, v, h => by obtain rfl : v = a := h; exact ha
  | k + 1, v, h => by obtain ⟨u, _, hu⟩ := h; exact (hg.adj_lt hu).2

theorem least_walk {g : Gr} {a v : Nat} : ∀ k, Walk g a k v → ∃ j, j ≤ k ∧ Walk g a j v ∧ ∀ i, i < j → ¬ Walk g a i v := by
  intro k
  induction k using Nat.strongRecOn with
  | _ k ih =>
    intro hw
    by_cases h : ∃ j, j < k ∧ Walk g a j v
    · obtain ⟨j, hj, hwj⟩ := h
      obtain ⟨i, hi, r⟩ := ih j hj hwj
      exact ⟨i, by omega, r⟩
    · exact ⟨k, Nat.le_refl _, hw, fun i hi hwi => h ⟨i, hi, hwi⟩⟩

theorem dist_lt {g : Gr} (hg : GoodG g) {a v k : Nat} (ha : a < g.ports.length) (h : Walk g a k v) (hm : ∀ j, j < k → ¬ Walk g a j v) : k < g.ports.length := by
  obtain ⟨f, hf⟩ := chain k v h hm
  have hinj : ∀ i j, i < j → j ≤ k → f i ≠ f j := fun i j hij hj e => (hf j hj).2 i hij (by rw [← e]; exact (hf i (by omega)).1)
  have h1 : ((List.range (k + 1)).map f).Nodup := by
    rw [List.Nodup, List.pairwise_map]
    refine (List.Pairwise.and_mem.1 List.pairwise_lt_range).imp ?_
    rintro i j ⟨_, hj, hij⟩
    exact hinj i j hij (by simp at hj; omega)
  have h2 : (List.range (k + 1)).map f ⊆ List.range g.ports.length := by
    intro x hx
    obtain ⟨j, hj, rfl⟩ := List.mem_map.1 hx
    simp only [List.mem_range] at hj ⊢
    exact walk_lt hg ha j _ (hf j (by omega)).1
  have := List.Nodup.length_le_of_subset h1 h2
  simp at this
  omega

theorem distL_isDist {g : Gr} (hg : GoodG g) {a : Nat} (ha : a < g.ports.length) : IsDist g a (distL g a) := by
  obtain ⟨h1, h2⟩ := rounds_upto hg ha (g.ports.length - 1)
  refine ⟨h1, fun v x hx => ?_⟩
  rcases h2 v x hx with ⟨rfl, h3⟩ | ⟨k, _, r⟩
  · refine .inl ⟨rfl, fun k hk => ?_⟩
    obtain ⟨j, _, hj, hm⟩ := least_walk k hk
    have := dist_lt hg ha hj hm
    exact h3 j (by omega) hj
  · exact .inr ⟨k, r⟩

theorem IsDist.bound {g : Gr} (hg : GoodG g) {a : Nat} (ha : a < g.ports.length) {D : List Int} (h : IsDist g a D) : ∀ x ∈ D, -1 ≤ x ∧ x ≤ 24 := by
  intro x hx
  obtain ⟨v, hv, rfl⟩ := List.mem_iff_getElem.1 hx
  rcases h.2 v _ (List.getElem?_eq_getElem hv) with ⟨e, _⟩ | ⟨k, e, h1, h2⟩
  · omega
  · have := dist_lt hg ha h1 h2
    have := hg.2.1
    omega
end Go.Proofs.YtegpikhfnhcjaaaGreat
