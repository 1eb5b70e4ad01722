/- Plain words: what graph.symmetric's map holds, and what it decides. -/
import Derived.Test.YtegpikhfnhcjaaaGreatPlainB
import Derived.Test.YtegpikhfnhcjaaaGreatMapA
namespace Go.Proofs.YtegpikhfnhcjaaaGreat

abbrev Ports := List (List (Int × Int))
def SymOk (ports : Ports) : Prop :=
  (∀ v : Fin ports.length, linksOk ports[v] (v.1 : Int) (ports.length : Int)) ∧ (∀ v : Fin ports.length, ∀ l ∈ ports[v], ((v.1 : Int), l.2) ∈ ports.getD l.1.toNat [])
instance (ports : Ports) : Decidable (SymOk ports) := by unfold SymOk; infer_instance
def symB (ports : Ports) : Bool := decide (SymOk ports)

def tri (v : Nat) (l : Int × Int) : Tri := ((v : Int), l.1, l.2)
def trisTo (ports : Ports) (v : Nat) : List Tri := ((List.range v).map (fun u => (ports.getD u []).map (tri u))).flatten
def trisAt (ports : Ports) (v i : Nat) : List Tri := trisTo ports v ++ ((ports.getD v []).take i).map (tri v)

theorem trisTo_succ (ports : Ports) (v : Nat) : trisTo ports (v + 1) = trisTo ports v ++ (ports.getD v []).map (tri v) := by
  simp [trisTo, List.range_succ]
theorem trisAt_zero (ports : Ports) (v : Nat) : trisAt ports v 0 = trisTo ports v := by simp [trisAt]
theorem trisAt_snoc (ports : Ports) (v i : Nat) (ls : List (Int × Int)) (hls : ports[v]? = some ls) (hi : i < ls.length) : trisAt ports v (i + 1) = trisAt ports v i ++ [((v : Int), ls[i].1, ls[i].2)] := by
  have e : ports.getD v [] = ls := by simp [List.getD, hls]
  unfold trisAt
  rw [e, take_snoc ls i hi, List.map_append, List.append_assoc]
  rfl
theorem trisAt_full (ports : Ports) (v : Nat) (ls : List (Int × Int)) (hls : ports[v]? = some ls) : trisAt ports v ls.length = trisTo ports (v + 1) := by
  have e : ports.getD v [] = ls := by simp [List.getD, hls]
  rw [trisTo_succ]
  unfold trisAt
  rw [e, List.take_length]
theorem mem_trisTo {ports : Ports} {v : Nat} {p : Tri} : p ∈ trisTo ports v ↔ ∃ u, u < v ∧ ∃ l ∈ ports.getD u [], p = tri u l := by
  unfold trisTo
  simp only [List.mem_flatten, List.mem_map, List.mem_range]
  constructor
  · rintro ⟨q, ⟨u, hu, rfl⟩, hp⟩
    obtain ⟨l, hl, rfl⟩ := List.mem_map.1 hp
    exact ⟨u, hu, l, hl, rfl⟩
  · rintro ⟨u, hu, l, hl, rfl⟩
    exact ⟨_, ⟨u, hu, rfl⟩, List.mem_map.2 ⟨l, hl, rfl⟩⟩
theorem hasPair_iff {L : List Tri} {x y : Int} : hasPair L x y = true ↔ ∃ p ∈ L, p.1 = x ∧ p.2.1 = y := by
  unfold hasPair
  rw [List.find?_isSome]
  constructor
  · rintro ⟨p, hp, h⟩
    simp [hit] at h
    exact ⟨p, hp, h.1.symm, h.2.symm⟩
  · rintro ⟨p, hp, rfl, rfl⟩
    exact ⟨p, hp, by simp [hit]⟩
theorem hasPair_trisAt {ports : Ports} {v i : Nat} {ls : List (Int × Int)} (hls : ports[v]? = some ls) {y : Int} : hasPair (trisAt ports v i) (v : Int) y = true ↔ ∃ l ∈ ls.take i, l.1 = y := by
  have e : ports.getD v [] = ls := by simp [List.getD, hls]
  rw [hasPair_iff]
  unfold trisAt
  rw [e]
  constructor
  · rintro ⟨p, hp, h1, h2⟩
    rcases List.mem_append.1 hp with hp | hp
    · obtain ⟨u, hu, l, hl, rfl⟩ := mem_trisTo.1 hp
      simp [tri] at h1
      omega
    · obtain ⟨l, hl, rfl⟩ := List.mem_map.1 hp
      exact ⟨l, hl, h2⟩
  · rintro ⟨l, hl, rfl⟩
    exact ⟨tri v l, List.mem_append_right _ (List.mem_map.2 ⟨l, hl, rfl⟩), rfl, rfl⟩

theorem symB_false_links {ports : Ports} {v k : Nat} {ls : List (Int × Int)} (hls : ports[v]? = some ls) (h : ¬ linksOk (ls.take k) (v : Int) (ports.length : Int)) : symB ports = false := by
  unfold symB
  rw [decide_eq_false_iff_not]
  intro hs
  obtain ⟨hv, e⟩ := List.getElem?_eq_some_iff.1 hls
  have := hs.1 ⟨v, hv⟩
  simp only [Fin.getElem_fin, e] at this
  exact h (linksOk_take _ _ _ _ this)

def AllLinks (ports : Ports) : Prop := ∀ (v : Nat) ls, ports[v]? = some ls → linksOk ls (v : Int) (ports.length : Int)

theorem valAt_iff {ports : Ports} (ha : AllLinks ports) {v : Nat} {ls : List (Int × Int)} (hls : ports[v]? = some ls) {l : Int × Int} (hl : l ∈ ls) :
    valAt (trisTo ports ports.length) l.1 (v : Int) = l.2 ↔ ((v : Int), l.2) ∈ ports.getD l.1.toNat [] := by
  have hlk := (ha v ls hls).1 l hl
  unfold linkOk at hlk
  have hto : l.1.toNat < ports.length := by omega
  have hgd : ports[l.1.toNat]? = some (ports.getD l.1.toNat []) := by simp [List.getD, List.getElem?_eq_getElem hto]
  unfold valAt
  cases hf : (trisTo ports ports.length).find? (hit l.1 (v : Int)) with
  | none =>
    simp only [Option.map_none, Option.getD_none]
    constructor
    · intro e; omega
    · intro hm
      exfalso
      rw [List.find?_eq_none] at hf
      refine hf (tri l.1.toNat ((v : Int), l.2)) (mem_trisTo.2 ⟨_, hto, _, hm, rfl⟩) ?_
      simp [hit, tri]
      omega
  | some q =>
    have hq := List.mem_of_find?_eq_some hf
    have hh := List.find?_some hf
    simp [hit] at hh
    obtain ⟨u, hu, l', hl', rfl⟩ := mem_trisTo.1 hq
    simp only [tri] at hh ⊢
    obtain ⟨h1, h2⟩ := hh
    have hul : u = l.1.toNat := by omega
    subst hul
    simp only [Option.map_some, Option.getD_some]
    generalize ports.getD l.1.toNat [] = ls' at hgd hl' ⊢
    constructor
    · intro e
      have : l' = ((v : Int), l.2) := by
        obtain ⟨a, b⟩ := l'
        simp only at e h2
        rw [h2, e]
      rw [← this]
      exact hl'
    · intro hm
      have hnd := (ha _ _ hgd).2
      obtain ⟨i, hi, e1⟩ := List.mem_iff_getElem.1 hl'
      obtain ⟨j, hj, e2⟩ := List.mem_iff_getElem.1 hm
      have hij : i = j := by
        rcases Nat.lt_trichotomy i j with h | h | h
        · have h3 := (List.pairwise_iff_getElem.1 hnd) i j (by simpa using hi) (by simpa using hj) h
          simp [e1, e2, h2] at h3
        · exact h
        · have h3 := (List.pairwise_iff_getElem.1 hnd) j i (by simpa using hj) (by simpa using hi) h
          simp [e1, e2, h2] at h3
      subst hij
      rw [e1] at e2
      rw [e2]

theorem symB_false_val {ports : Ports} (ha : AllLinks ports) {p : Tri} (hp : p ∈ trisTo ports ports.length) (hv : valAt (trisTo ports ports.length) p.2.1 p.1 ≠ p.2.2) : symB ports = false := by
  obtain ⟨u, hu, l, hl, rfl⟩ := mem_trisTo.1 hp
  have hls : ports[u]? = some (ports.getD u []) := by simp [List.getD, List.getElem?_eq_getElem hu]
  unfold symB
  rw [decide_eq_false_iff_not]
  intro hs
  refine hv ((valAt_iff ha hls hl).2 ?_)
  have := hs.2 ⟨u, hu⟩ l (by simpa [List.getD, List.getElem?_eq_getElem hu] using hl)
  exact this
theorem symB_true {ports : Ports} (ha : AllLinks ports) (h : ∀ p ∈ trisTo ports ports.length, valAt (trisTo ports ports.length) p.2.1 p.1 = p.2.2) : symB ports = true := by
  refine decide_eq_true ⟨?_, ?_⟩
  · rintro ⟨v, hv⟩
    exact ha v _ (List.getElem?_eq_getElem hv)
  · rintro ⟨v, hv⟩ l hl
    have hls : ports[v]? = some ports[v] := List.getElem?_eq_getElem hv
    refine (valAt_iff ha hls hl).1 (h (tri v l) (mem_trisTo.2 ⟨v, hv, l, ?_, rfl⟩))
    simpa [List.getD, hls] using hl
end Go.Proofs.YtegpikhfnhcjaaaGreat
