/- Plain words: walks and distances; what a breadth-first search keeps. -/
import Derived.Test.YtegpikhfnhcjaaaGreatPlainB
namespace Go.Proofs.YtegpikhfnhcjaaaGreat

def adj (g : Gr) (u v : Nat) : Prop := ∃ ls, g.ports[u]? = some ls ∧ ∃ l ∈ ls, l.1 = (v : Int)
def Walk (g : Gr) (a : Nat) : Nat → Nat → Prop
  | 0, v => v = a
  | k + 1, v => ∃ u, Walk g a k u ∧ adj g u v
/-- x is the distance of v from a: -1 if no walk leads there. -/
def DistVal (g : Gr) (a v : Nat) (x : Int) : Prop := (x = -1 ∧ ∀ k, ¬ Walk g a k v) ∨ ∃ k : Nat, x = k ∧ Walk g a k v ∧ ∀ j, j < k → ¬ Walk g a j v
def IsDist (g : Gr) (a : Nat) (D : List Int) : Prop := D.length = g.ports.length ∧ ∀ v x, D[v]? = some x → DistVal g a v x

theorem DistVal.unique {g : Gr} {a v : Nat} {x y : Int} (h : DistVal g a v x) (h' : DistVal g a v y) : x = y := by
  rcases h with ⟨rfl, h1⟩ | ⟨k, rfl, h1, h2⟩ <;> rcases h' with ⟨rfl, h3⟩ | ⟨j, rfl, h3, h4⟩
  · rfl
  · exact absurd h3 (h1 j)
  · exact absurd h1 (h3 k)
  · rcases Nat.lt_trichotomy k j with h | h | h
    · exact absurd h1 (h4 k h)
    · rw [h]
    · exact absurd h3 (h2 j h)
theorem IsDist.unique {g : Gr} {a : Nat} {D D' : List Int} (h : IsDist g a D) (h' : IsDist g a D') : D = D' := by
  apply List.ext_getElem (by rw [h.1, h'.1])
  intro i h1 h2
  exact (h.2 i _ (List.getElem?_eq_getElem h1)).unique (h'.2 i _ (List.getElem?_eq_getElem h2))

theorem GoodG.link {g : Gr} (h : GoodG g) {v : Nat} {ls : List (Int × Int)} (hv : g.ports[v]? = some ls) {l : Int × Int} (hl : l ∈ ls) : 0 ≤ l.1 ∧ l.1 < g.ports.length ∧ l.1 ≠ v ∧ 1 ≤ l.2 ∧ l.2 ≤ 15 := by
  obtain ⟨hlt, e⟩ := List.getElem?_eq_some_iff.1 hv
  have := (h.2.2.2.2.2.1 ⟨v, hlt⟩).1 l (by simp only [Fin.getElem_fin, e]; exact hl)
  unfold linkOk at this
  simp only at this
  omega
theorem GoodG.adj_lt {g : Gr} (h : GoodG g) {u v : Nat} (ha : adj g u v) : u < g.ports.length ∧ v < g.ports.length := by
  obtain ⟨ls, h1, l, hl, e⟩ := ha
  have := h.link h1 hl
  exact ⟨(List.getElem?_eq_some_iff.1 h1).1, by omega⟩
theorem GoodG.adj_symm {g : Gr} (h : GoodG g) {u v : Nat} (ha : adj g u v) : adj g v u := by
  obtain ⟨hu, hv⟩ := h.adj_lt ha
  obtain ⟨ls, h1, l, hl, e⟩ := ha
  obtain ⟨hlt, e1⟩ := List.getElem?_eq_some_iff.1 h1
  have := h.2.2.2.2.2.2 ⟨u, hlt⟩ l (by simp only [Fin.getElem_fin, e1]; exact hl)
  rw [e, Int.toNat_natCast] at this
  simp only [List.getD, List.getElem?_eq_getElem hv, Option.getD_some] at this
  exact ⟨_, List.getElem?_eq_getElem hv, _, this, rfl⟩

/-- What holds at the head of the search's loop: R: the distances found so far, Q: the queue. -/
structure BfsInv (g : Gr) (a : Nat) (R : List Int) (Q : List Nat) : Prop where
  len : R.length = g.ports.length
  src : R[a]? = some 0
  val : ∀ (v : Nat) (x : Int), R[v]? = some x → x = -1 ∨ ∃ k : Nat, x = k ∧ Walk g a k v ∧ ∀ j, j < k → ¬ Walk g a j v
  qin : ∀ q ∈ Q, ∃ k : Nat, R[q]? = some (k : Int)
  sorted : Q.Pairwise (fun p q => ∀ x y, R[p]? = some x → R[q]? = some y → x ≤ y ∧ y ≤ x + 1)
  done : ∀ (v k : Nat), R[v]? = some (k : Int) → v ∉ Q → ∀ u, adj g v u → ∃ j : Nat, R[u]? = some (j : Int)

/-- In the middle of node v's links: i of them have been looked at. -/
structure BfsIn (g : Gr) (a v d : Nat) (ls : List (Int × Int)) (i : Nat) (R : List Int) (Q : List Nat) : Prop where
  len : R.length = g.ports.length
  src : R[a]? = some 0
  val : ∀ (v : Nat) (x : Int), R[v]? = some x → x = -1 ∨ ∃ k : Nat, x = k ∧ Walk g a k v ∧ ∀ j, j < k → ¬ Walk g a j v
  qin : ∀ q ∈ Q, ∃ k : Nat, R[q]? = some (k : Int)
  sorted : Q.Pairwise (fun p q => ∀ x y, R[p]? = some x → R[q]? = some y → x ≤ y ∧ y ≤ x + 1)
  rv : R[v]? = some (d : Int)
  low : ∀ q ∈ Q, ∀ y, R[q]? = some y → (d : Int) ≤ y ∧ y ≤ d + 1
  done : ∀ (u k : Nat), R[u]? = some (k : Int) → u ∉ Q → u ≠ v → ∀ t, adj g u t → ∃ j : Nat, R[t]? = some (j : Int)
  part : ∀ l ∈ ls.take i, ∃ j : Nat, R[l.1.toNat]? = some (j : Int)

theorem BfsInv.start {g : Gr} {a : Nat} (ha : a < g.ports.length) : BfsInv g a ((List.replicate g.ports.length (-1)).set a 0) [a] where
  len := by simp
  src := by simp [ha]
  val := by
    intro v x h
    rw [List.getElem?_set] at h
    split at h
    · rename_i e
      subst e
      simp [ha] at h
      subst h
      exact .inr ⟨0, rfl, rfl, fun j hj => absurd hj (by omega)⟩
    · rw [List.getElem?_replicate] at h
      split at h
      · cases h; exact .inl rfl
      · cases h
  qin := by
    intro q hq
    obtain rfl : q = a := by simpa using hq
    exact ⟨0, by simp [ha]⟩
  sorted := by simp
  done := by
    intro v k h hv u _
    rw [List.getElem?_set] at h
    split at h
    · rename_i e
      exact absurd (by simp [e]) hv
    · rw [List.getElem?_replicate] at h
      split at h
      · cases h
      · cases h

theorem BfsInv.pop {g : Gr} {a : Nat} {R : List Int} {v : Nat} {Q : List Nat} (h : BfsInv g a R (v :: Q)) {d : Nat} (hd : R[v]? = some (d : Int)) (ls : List (Int × Int)) : BfsIn g a v d ls 0 R Q where
  len := h.len
  src := h.src
  val := h.val
  qin := fun q hq => h.qin q (List.mem_cons_of_mem _ hq)
  sorted := (List.pairwise_cons.1 h.sorted).2
  rv := hd
  low := fun q hq y hy => (List.pairwise_cons.1 h.sorted).1 q hq _ y hd hy
  done := fun u k hu hq hv t ht => h.done u k hu (by simp [hq, hv]) t ht
  part := by simp

theorem BfsIn.finish {g : Gr} {a v d : Nat} {ls : List (Int × Int)} {R : List Int} {Q : List Nat} (h : BfsIn g a v d ls ls.length R Q) (hls : g.ports[v]? = some ls) : BfsInv g a R Q where
  len := h.len
  src := h.src
  val := h.val
  qin := h.qin
  sorted := h.sorted
  done := by
    intro u k hu hq t ht
    by_cases e : u = v
    · subst e
      obtain ⟨ls', h1, l, hl, e2⟩ := ht
      rw [hls] at h1
      cases h1
      have := h.part l (by rw [List.take_length]; exact hl)
      rwa [e2, Int.toNat_natCast] at this
    · exact h.done u k hu hq e t ht

theorem BfsIn.skip {g : Gr} {a v d : Nat} {ls : List (Int × Int)} {i : Nat} {R : List Int} {Q : List Nat} (h : BfsIn g a v d ls i R Q) (hi : i < ls.length) {j : Nat} (hj : R[ls[i].1.toNat]? = some (j : Int)) : BfsIn g a v d ls (i + 1) R Q :=
  ⟨h.len, h.src, h.val, h.qin, h.sorted, h.rv, h.low, h.done, by
      intro l hl
      rw [take_snoc ls i hi] at hl
      rcases List.mem_append.1 hl with hl | hl
      · exact h.part l hl
      · obtain rfl : l = ls[i] := by simpa using hl
        exact ⟨j, hj⟩⟩

theorem BfsIn.found {g : Gr} {a v d : Nat} {ls : List (Int × Int)} {i : Nat} {R : List Int} {Q : List Nat} (h : BfsIn g a v d ls i R Q) :
    ∀ k, k ≤ d → ∀ t, Walk g a k t → ∃ j : Nat, R[t]? = some (j : Int) := by
  intro k
  induction k with
  | zero => intro _ t ht; obtain rfl : t = a := ht; exact ⟨0, h.src⟩
  | succ k ih =>
    intro hk t ⟨p, hp, hpt⟩
    obtain ⟨j, hj⟩ := ih (by omega) p hp
    have hjk : j ≤ k := by
      rcases h.val p _ hj with e | ⟨k', e, _, hmin⟩
      · omega
      · have : j = k' := by omega
        subst this
        rcases Nat.lt_or_ge k j with hlt | hge
        · exact absurd hp (hmin k hlt)
        · exact hge
    refine h.done p j hj ?_ ?_ t hpt
    · intro hq
      have := (h.low p hq _ hj).1
      omega
    · rintro rfl
      have e1 := h.rv
      rw [hj] at e1
      have e2 := Option.some.inj e1
      omega

theorem BfsIn.discover {g : Gr} {a v d : Nat} {ls : List (Int × Int)} {i : Nat} {R : List Int} {Q : List Nat} (h : BfsIn g a v d ls i R Q) (hls : g.ports[v]? = some ls) (hi : i < ls.length) {u : Nat} (hu : ls[i].1 = (u : Int)) (hR : R[u]? = some (-1)) :
    BfsIn g a v d ls (i + 1) (R.set u ((d : Int) + 1)) (Q ++ [u]) := by
  have hul : u < R.length := (List.getElem?_eq_some_iff.1 hR).1
  have hne : ∀ t (k : Nat), R[t]? = some (k : Int) → t ≠ u := by
    rintro t k ht rfl
    rw [hR] at ht
    have := Option.some.inj ht
    omega
  have hset : ∀ t, t ≠ u → (R.set u ((d : Int) + 1))[t]? = R[t]? := fun t ht => by rw [List.getElem?_set, if_neg (by omega)]
  have hsu : (R.set u ((d : Int) + 1))[u]? = some ((d : Int) + 1) := by rw [List.getElem?_set, if_pos rfl, if_pos hul]
  have keep : ∀ t : Nat, (∃ j : Nat, R[t]? = some (j : Int)) → ∃ j : Nat, (R.set u ((d : Int) + 1))[t]? = some (j : Int) := by
    rintro t ⟨j, hj⟩
    exact ⟨j, by rw [hset t (hne t j hj)]; exact hj⟩
  have hadj : adj g v u := ⟨ls, hls, ls[i], List.getElem_mem hi, hu⟩
  have hnq : u ∉ Q := fun hq => by
    obtain ⟨k, hk⟩ := h.qin u hq
    exact hne u k hk rfl
  refine ⟨by simp [h.len], ?_, ?_, ?_, ?_, ?_, ?_, ?_, ?_⟩
  · rw [hset a (hne a 0 h.src)]; exact h.src
  · intro t x hx
    by_cases e : t = u
    · subst e
      rw [hsu] at hx
      cases hx
      refine .inr ⟨d + 1, by omega, ?_, ?_⟩
      · rcases h.val v _ h.rv with e | ⟨k, e, hk, _⟩
        · omega
        · have : d = k := by omega
          subst this
          exact ⟨v, hk, hadj⟩
      · intro j hj hw
        obtain ⟨k, hk⟩ := h.found j (by omega) t hw
        exact hne t k hk rfl
    · rw [hset t e] at hx
      exact h.val t x hx
  · intro q hq
    rcases List.mem_append.1 hq with hq | hq
    · exact keep q (h.qin q hq)
    · obtain rfl : q = u := by simpa using hq
      exact ⟨d + 1, by rw [hsu]; rfl⟩
  · rw [List.pairwise_append]
    refine ⟨?_, by simp, ?_⟩
    · refine (List.Pairwise.and_mem.1 h.sorted).imp ?_
      rintro p q ⟨hp, hq, hpq⟩ x y hx hy
      rw [hset p (fun e => hnq (e ▸ hp))] at hx
      rw [hset q (fun e => hnq (e ▸ hq))] at hy
      exact hpq x y hx hy
    · intro p hp q hq x y hx hy
      obtain rfl : q = u := by simpa using hq
      rw [hset p (fun e => hnq (e ▸ hp))] at hx
      rw [hsu] at hy
      cases hy
      have := h.low p hp x hx
      omega
  · rw [hset v (hne v d h.rv)]; exact h.rv
  · intro q hq y hy
    rcases List.mem_append.1 hq with hq | hq
    · rw [hset q (fun e => hnq (e ▸ hq))] at hy
      exact h.low q hq y hy
    · obtain rfl : q = u := by simpa using hq
      rw [hsu] at hy
      cases hy
      omega
  · intro t k ht hq hv s hs
    have htu : t ≠ u := fun e => hq (by simp [e])
    rw [hset t htu] at ht
    exact keep s (h.done t k ht (fun hh => hq (List.mem_append_left _ hh)) hv s hs)
  · intro l hl
    rw [take_snoc ls i hi] at hl
    rcases List.mem_append.1 hl with hl | hl
    · exact keep _ (h.part l hl)
    · obtain rfl : l = ls[i] := by simpa using hl
      rw [hu, Int.toNat_natCast]
      exact ⟨d + 1, by rw [hsu]; rfl⟩

theorem BfsInv.isDist {g : Gr} {a : Nat} {R : List Int} (h : BfsInv g a R []) : IsDist g a R := by
  have found : ∀ k t, Walk g a k t → ∃ j : Nat, R[t]? = some (j : Int) := by
    intro k
    induction k with
    | zero => intro t ht; obtain rfl : t = a := ht; exact ⟨0, h.src⟩
    | succ k ih =>
      intro t ⟨p, hp, hpt⟩
      obtain ⟨j, hj⟩ := ih p hp
      exact h.done p j hj (by simp) t hpt
  refine ⟨h.len, fun v x hx => ?_⟩
  rcases h.val v x hx with rfl | h1
  · refine .inl ⟨rfl, fun k hk => ?_⟩
    obtain ⟨j, hj⟩ := found k v hk
    rw [hx] at hj
    have := Option.some.inj hj
    omega
  · exact .inr h1

/-- How many nodes have not been found. -/
def unfound (R : List Int) : Nat := R.countP (fun x => decide (x < 0))
theorem unfound_set {R : List Int} {u : Nat} {x : Int} (hR : R[u]? = some (-1)) (hx : 0 ≤ x) : unfound (R.set u x) + 1 = unfound R := by
  obtain ⟨hlt, e⟩ := List.getElem?_eq_some_iff.1 hR
  have h1 : R = R.take u ++ R[u] :: R.drop (u + 1) := by rw [List.getElem_cons_drop, List.take_append_drop]
  have h2 : R.set u x = R.take u ++ x :: R.drop (u + 1) := by rw [List.set_eq_take_append_cons_drop, if_pos hlt]
  have hx' : decide (x < 0) = false := by simp; omega
  unfold unfound
  rw [h2]
  conv => rhs; rw [h1]
  rw [List.countP_append, List.countP_append, List.countP_cons, List.countP_cons, e, hx']
  simp
  omega
end Go.Proofs.YtegpikhfnhcjaaaGreat
