/- Plain words: valid graphs. -/
import Derived.Test.YtegpikhfnhcjaaaGreatPlainA
namespace Go.Proofs.YtegpikhfnhcjaaaGreat

def GoodG (g : Gr) : Prop :=
  1 ≤ g.ports.length ∧ g.ports.length ≤ 24 ∧ g.ids.length = g.ports.length ∧ (∀ x ∈ g.ids, 0 ≤ x ∧ x ≤ 255) ∧ g.ids.Nodup ∧
    (∀ v : Fin g.ports.length, linksOk g.ports[v] (v.1 : Int) (g.ports.length : Int)) ∧ (∀ v : Fin g.ports.length, ∀ l ∈ g.ports[v], ((v.1 : Int), l.2) ∈ g.ports.getD l.1.toNat [])
instance (g : Gr) : Decidable (GoodG g) := by unfold GoodG; infer_instance
def validB (g : Gr) : Bool := decide (GoodG g)

theorem validB_iff (g : Gr) : validB g = true ↔ GoodG g := by simp [validB]

theorem range_bound (n : Nat) (l : List Int) (h : ∀ x ∈ l, 0 ≤ x ∧ x < n) (hn : l.Nodup) : l.length ≤ n := by
  have h1 : (l.map Int.toNat).Nodup := by
    rw [List.Nodup, List.pairwise_map]
    refine (List.Pairwise.and_mem.1 hn).imp ?_
    rintro a b ⟨ha, hb, hne⟩ e
    have := h a ha; have := h b hb
    exact hne (by omega)
  have h2 : (l.map Int.toNat) ⊆ List.range n := by
    intro x hx
    obtain ⟨y, hy, rfl⟩ := List.mem_map.1 hx
    have := h y hy
    simp; omega
  have := List.Nodup.length_le_of_subset h1 h2
  simpa using this

theorem lt_of_links {ls : List (Int × Int)} {v n : Nat} (hv : v < n) (h : linksOk ls (v : Int) (n : Int)) : ls.length < n := by
  have h1 : ((v : Int) :: ls.map (·.1)).Nodup := by
    rw [List.nodup_cons]
    refine ⟨fun hm => ?_, h.2⟩
    obtain ⟨l, hl, e⟩ := List.mem_map.1 hm
    exact (h.1 l hl).2.2.1 e
  have := range_bound n ((v : Int) :: ls.map (·.1)) (by
    intro x hx
    rcases List.mem_cons.1 hx with rfl | hx
    · omega
    · obtain ⟨l, hl, rfl⟩ := List.mem_map.1 hx
      have := h.1 l hl
      unfold linkOk at this
      omega) h1
  simp at this
  omega

def V2 (g : Gr) (v : Nat) : Prop := ∀ x ls, g.ids[v]? = some x → g.ports[v]? = some ls →
  (0 ≤ x ∧ x ≤ 255) ∧ ls.length < g.ports.length ∧ linksB ls (v : Int) (g.ports.length : Int) = true ∧ ∀ u y, u < v → g.ids[u]? = some y → y ≠ x
def V3 (g : Gr) (v i : Nat) : Prop := ∀ ls l, g.ports[v]? = some ls → ls[i]? = some l →
  ∃ ls' : List (Int × Int), ∃ k : Nat, ∃ l' : Int × Int, g.ports[l.1.toNat]? = some ls' ∧ portTo ls' (v : Int) = k ∧ ls'[k]? = some l' ∧ l'.2 = l.2

theorem portTo_of_mem {ls : List (Int × Int)} {u x : Int} (hn : (ls.map (·.1)).Nodup) (h : (u, x) ∈ ls) : ∃ k : Nat, portTo ls u = k ∧ ls[k]? = some (u, x) := by
  obtain ⟨k, hk, e⟩ := List.mem_iff_getElem.1 h
  refine ⟨k, ?_, by rw [List.getElem?_eq_getElem hk, e]⟩
  refine portTo_hit ls u k hk (by rw [e]) ?_
  rw [List.findIdx?_eq_none_iff]
  intro l hl
  obtain ⟨j, hj, rfl⟩ := List.mem_take_iff_getElem.1 hl
  simp only [beq_eq_false_iff_ne]
  intro he
  have hjk : j < k := by omega
  have := (List.pairwise_iff_getElem.1 hn) j k (by simp; omega) (by simpa using hk) hjk
  simp [he, e] at this

theorem portTo_spec {ls : List (Int × Int)} {u : Int} {k : Nat} (h : portTo ls u = k) : ∃ l, ls[k]? = some l ∧ l.1 = u := by
  unfold portTo at h
  split at h
  · rename_i i hi
    obtain rfl : i = k := by omega
    obtain ⟨hlt, hx, _⟩ := List.findIdx?_eq_some_iff_getElem.1 hi
    exact ⟨_, List.getElem?_eq_getElem hlt, by simpa using hx⟩
  · omega

theorem portTo_neg_or {ls : List (Int × Int)} {u : Int} : portTo ls u = -1 ∨ ∃ k : Nat, portTo ls u = k ∧ k < ls.length := by
  unfold portTo
  split
  · rename_i i hi
    obtain ⟨hlt, hx, _⟩ := List.findIdx?_eq_some_iff_getElem.1 hi
    exact .inr ⟨i, rfl, hlt⟩
  · exact .inl rfl

theorem GoodG.v2 {g : Gr} (h : GoodG g) {v : Nat} (hv : v < g.ports.length) : V2 g v := by
  obtain ⟨h1, h2, h3, h4, h5, h6, h7⟩ := h
  intro x ls hx hls
  have hl := h6 ⟨v, hv⟩
  obtain ⟨hv', e⟩ := List.getElem?_eq_some_iff.1 hls
  simp only [Fin.getElem_fin, e] at hl
  refine ⟨h4 x (List.mem_of_getElem? hx), lt_of_links hv hl, decide_eq_true hl, fun u y hu hy he => ?_⟩
  subst he
  obtain ⟨a1, a2⟩ := List.getElem?_eq_some_iff.1 hx
  obtain ⟨b1, b2⟩ := List.getElem?_eq_some_iff.1 hy
  exact (List.pairwise_iff_getElem.1 h5) u v b1 a1 hu (by rw [a2, b2])

theorem GoodG.v3 {g : Gr} (h : GoodG g) {v i : Nat} (hv : v < g.ports.length) : V3 g v i := by
  obtain ⟨h1, h2, h3, h4, h5, h6, h7⟩ := h
  intro ls l hls hl
  obtain ⟨hv', e⟩ := List.getElem?_eq_some_iff.1 hls
  have hm := h7 ⟨v, hv⟩ l (by simp only [Fin.getElem_fin, e]; exact List.mem_of_getElem? hl)
  have hlk := (h6 ⟨v, hv⟩).1 l (by simp only [Fin.getElem_fin, e]; exact List.mem_of_getElem? hl)
  unfold linkOk at hlk
  have hto : l.1.toNat < g.ports.length := by omega
  have hls' : g.ports[l.1.toNat]? = some g.ports[l.1.toNat] := List.getElem?_eq_getElem hto
  have hl' := h6 ⟨l.1.toNat, hto⟩
  simp only [List.getD, hls', Option.getD_some] at hm
  obtain ⟨k, hk1, hk2⟩ := portTo_of_mem (ls := g.ports[l.1.toNat]) hl'.2 hm
  exact ⟨_, k, _, hls', hk1, hk2, rfl⟩

theorem GoodG.of {g : Gr} (h1 : 1 ≤ g.ports.length) (h2 : g.ports.length ≤ 24) (h3 : g.ids.length = g.ports.length) (hv2 : ∀ v, v < g.ports.length → V2 g v) (hv3 : ∀ v i, v < g.ports.length → V3 g v i) : GoodG g := by
  refine ⟨h1, h2, h3, ?_, ?_, ?_, ?_⟩
  · intro x hx
    obtain ⟨k, hk, rfl⟩ := List.mem_iff_getElem.1 hx
    exact (hv2 k (by omega) _ _ (List.getElem?_eq_getElem hk) (List.getElem?_eq_getElem (by omega))).1
  · rw [List.Nodup, List.pairwise_iff_getElem]
    intro i j hi hj hij
    exact (hv2 j (by omega) _ _ (List.getElem?_eq_getElem hj) (List.getElem?_eq_getElem (by omega))).2.2.2 i _ hij (List.getElem?_eq_getElem hi)
  · rintro ⟨v, hv⟩
    have := (hv2 v hv _ _ (List.getElem?_eq_getElem (by omega)) (List.getElem?_eq_getElem hv)).2.2.1
    simpa [linksB] using this
  · rintro ⟨v, hv⟩ l hl
    obtain ⟨i, hi, rfl⟩ := List.mem_iff_getElem.1 hl
    obtain ⟨ls', k, l', e1, e2, e3, e4⟩ := hv3 v i hv _ _ (List.getElem?_eq_getElem hv) (List.getElem?_eq_getElem hi)
    obtain ⟨l2, f1, f2⟩ := portTo_spec e2
    rw [e3] at f1
    cases f1
    simp only [List.getD, e1, Option.getD_some]
    obtain ⟨a, b⟩ := l'
    simp only at f2 e4
    rw [← e4, ← f2]
    exact List.mem_of_getElem? e3

theorem validB_false_v2 {g : Gr} {v : Nat} (hv : v < g.ports.length) (h : ¬ V2 g v) : validB g = false := by
  unfold validB; rw [decide_eq_false_iff_not]; exact fun hg => h (hg.v2 hv)
theorem validB_false_v3 {g : Gr} {v i : Nat} (hv : v < g.ports.length) (h : ¬ V3 g v i) : validB g = false := by
  unfold validB; rw [decide_eq_false_iff_not]; exact fun hg => h (hg.v3 hv)
theorem validB_false_1 {g : Gr} (h : ¬ (1 ≤ g.ports.length ∧ g.ports.length ≤ 24 ∧ g.ids.length = g.ports.length)) : validB g = false := by
  unfold validB; rw [decide_eq_false_iff_not]; exact fun hg => h ⟨hg.1, hg.2.1, hg.2.2.1⟩
end Go.Proofs.YtegpikhfnhcjaaaGreat
