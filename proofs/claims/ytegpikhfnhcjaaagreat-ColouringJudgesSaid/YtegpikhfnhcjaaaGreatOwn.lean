/- Memory that the call itself made: a block of ints known whole; a slice, at whatever offset, whose block is the call's own; append onto it. -/
import Derived.Test.YtegpikhfnhcjaaaGreatHead
import Derived.ArgAppend
import Derived.Maps.AppendAt
import Derived.Deep.LoopGhost
import Derived.Deep.OwnRows
namespace Go.Proofs.YtegpikhfnhcjaaaGreat
open Go.RowKit

/-- Block g is just the ints R. -/
def IBlk (w : World) (g : Nat) (R : List Int) : Prop := w.heap[g]? = some (.cells (R.map (Value.int .i64)).toArray 3 (0, 0))

section
variable {w w' : World} {g : Nat} {R : List Int}
theorem IBlk.lt (h : IBlk w g R) : g < w.heap.size := (Array.getElem?_eq_some_iff.1 h).1
theorem IBlk.cell (h : IBlk w g R) {k : Nat} (hk : k < R.length) : w.cell? ⟨g, k, none⟩ = some (.int .i64 R[k]) := by
  simp [World.cell?, show w.heap[g]? = _ from h, hk]
theorem IBlk.frozen (h : IBlk w g R) (k : Nat) : w.frozen? ⟨g, k, none⟩ = false := by simp [World.frozen?, show w.heap[g]? = _ from h]
theorem IBlk.set_ (h : IBlk w g R) (k : Nat) (x : Int) : IBlk (w.setCell ⟨g, k, none⟩ (.int .i64 x)) g (R.set k x) := by
  have h' : w.heap[g]? = _ := h
  unfold IBlk
  simp [World.setCell, Array.getElem?_modify, h', List.map_set]
theorem IBlk.far (h : IBlk w g R) {p : Addr} (hp : g ≠ p.block) (u : Value) : IBlk (w.setCell p u) g R := (Below.heap_setCell w p u g hp).trans h
theorem IBlk.alloc (h : IBlk w g R) (o : Obj) : IBlk (w.alloc o) g R := (Below.heap_alloc w o g h.lt).trans h
theorem IBlk.drewN (h : IBlk w g R) (n : Nat) : IBlk (w.drewN n) g R := h
theorem IBlk.drew (h : IBlk w g R) : IBlk w.drew g R := h
theorem IBlk.below {B : Nat} (h : IBlk w g R) (hb : Below B w w') (hg : g < B) : IBlk w' g R := (hb.block g hg).trans h
theorem IBlk.grown {row : Option Nat} (h : IBlk w g R) (hb : w.grownBy w' row) (hg : some g ≠ row) : IBlk w' g R := (hb.block g h.lt hg).trans h
theorem IBlk.ints (h : IBlk w g R) (hR : ∀ x ∈ R, I64 x) (hl : R.length ≤ 1000000) : IntsAt w (.slice (some ⟨g, 0, none⟩) R.length R.length) R := by
  refine ⟨_, _, rfl, Nat.le_refl _, by omega, fun hp => ⟨g, 0, rfl, h.lt, fun j x hx => ?_⟩⟩
  obtain ⟨hj, e⟩ := List.getElem?_eq_some_iff.1 hx
  refine ⟨?_, hR x (List.mem_of_getElem? hx)⟩
  rw [Nat.mul_one, Nat.zero_add, h.cell hj, e]
end

/-- Slice v of n elements (size cells each) reads xs; its block is the call's own (from base on), known to be plain. -/
def Owns (w : World) (base : Nat) (e : TypeId) (size : Nat) (v : Value) (n : Nat) (xs : List Value) : Prop :=
  xs.length = n * size ∧ ((v = .slice none 0 0 ∧ n = 0) ∨ ∃ g off cap cur, v = .slice (some ⟨g, off, none⟩) n cap ∧ base ≤ g ∧ w.heap[g]? = some (.cells cur e (0, 0)) ∧ n ≤ cap ∧ cap ≤ maxLen ∧
    off + cap * size ≤ cur.size ∧ ∀ j u, xs[j]? = some u → cur[off + j]? = some u)

section
variable {w w' : World} {base : Nat} {e : TypeId} {size : Nat} {v : Value} {n : Nat} {xs : List Value}
theorem Owns.of_row (h : w.ownsRow base e size v n xs) : Owns w base e size v n xs := by
  obtain ⟨h1, h2⟩ := h
  refine ⟨h1, h2.imp id ?_⟩
  rintro ⟨g, cap, cur, hv, hb, hh, hn, hc, hs, ht⟩
  refine ⟨g, 0, cap, cur, hv, hb, hh, hn, hc, by omega, fun j u hu => ?_⟩
  rw [← ht, List.getElem?_take] at hu
  split at hu
  · simpa using hu
  · cases hu
theorem Owns.nil (w : World) (base : Nat) (e : TypeId) (size : Nat) : Owns w base e size (.slice none 0 0) 0 [] := ⟨by simp, .inl ⟨rfl, rfl⟩⟩
theorem Owns.keep (h : Owns w base e size v n xs) (hk : ∀ g, v.ownBlock = some g → w'.heap[g]? = w.heap[g]?) : Owns w' base e size v n xs := by
  obtain ⟨h1, h2⟩ := h
  refine ⟨h1, h2.imp id ?_⟩
  rintro ⟨g, off, cap, cur, rfl, hb, hh, r⟩
  exact ⟨g, off, cap, cur, rfl, hb, by rw [hk g rfl]; exact hh, r⟩
theorem Owns.lt (h : Owns w base e size v n xs) {g : Nat} (hg : v.ownBlock = some g) : base ≤ g ∧ g < w.heap.size := by
  rcases h.2 with ⟨rfl, _⟩ | ⟨g', off, cap, cur, rfl, hb, hh, _⟩
  · simp [Value.ownBlock] at hg
  · obtain rfl : g' = g := by simpa [Value.ownBlock] using hg
    exact ⟨hb, (Array.getElem?_eq_some_iff.1 hh).1⟩
theorem Owns.alloc (h : Owns w base e size v n xs) (o : Obj) : Owns (w.alloc o) base e size v n xs := h.keep fun g hg => Below.heap_alloc w o g (h.lt hg).2
theorem Owns.drewN (h : Owns w base e size v n xs) (k : Nat) : Owns (w.drewN k) base e size v n xs := h
theorem Owns.far (h : Owns w base e size v n xs) {p : Addr} (hp : v.ownBlock ≠ some p.block) (u : Value) : Owns (w.setCell p u) base e size v n xs :=
  h.keep fun g hg => Below.heap_setCell w p u g (fun e' => hp (by rw [hg, e']))
theorem Owns.low (h : Owns w base e size v n xs) {p : Addr} (hp : p.block < base) (u : Value) : Owns (w.setCell p u) base e size v n xs :=
  h.far (fun e' => by have := (h.lt e').1; omega) u
theorem Owns.drew (h : Owns w base e size v n xs) : Owns w.drew base e size v n xs := h
theorem Owns.form (h : Owns w base e size v n xs) (hn : 0 < n) : ∃ g off cap, v = .slice (some ⟨g, off, none⟩) n cap ∧ base ≤ g ∧ g < w.heap.size ∧ n ≤ cap ∧ cap ≤ maxLen ∧ ∀ j u, xs[j]? = some u → w.cell? ⟨g, off + j, none⟩ = some u := by
  rcases h.2 with ⟨rfl, h0⟩ | ⟨g, off, cap, cur, rfl, hb, hh, h1, h2, h3, h4⟩
  · omega
  · exact ⟨g, off, cap, rfl, hb, (Array.getElem?_eq_some_iff.1 hh).1, h1, h2, fun j u hu => by simp [World.cell?, hh, h4 j u hu]⟩
theorem Owns.val (h : Owns w base e size v n xs) : ∃ A c, v = .slice A n c := by
  rcases h.2 with ⟨rfl, rfl⟩ | ⟨g, off, cap, cur, rfl, _⟩
  · exact ⟨_, _, rfl⟩
  · exact ⟨_, _, rfl⟩
theorem Owns.cut1 {a : Addr} {c : Nat} (h : Owns w base e size (.slice (some a) n c) n xs) (hn : 0 < n) {k : Nat} (hk : k ≤ n) :
    Owns w base e size (.slice (some (if c = k then a else a.add (k * size))) (n - k) (c - k)) (n - k) (xs.drop (k * size)) := by
  obtain ⟨h1, h2⟩ := h
  refine ⟨by rw [List.length_drop, h1, Nat.sub_mul], .inr ?_⟩
  rcases h2 with ⟨e, _⟩ | ⟨g, off, cap, cur, e, hb, hh, hc, hm, hs, hx⟩
  · cases e
  · injection e with e1 e2 e3
    injection e1 with e1
    subst e1 e3
    by_cases hck : c = k
    · subst hck
      obtain rfl : n = c := by omega
      refine ⟨g, off, 0, cur, by simp, hb, hh, by omega, by omega, by omega, fun j u hu => ?_⟩
      rw [List.drop_eq_nil_of_le (by omega)] at hu
      simp at hu
    · have hsz : off + k * size + (c - k) * size ≤ cur.size := by
        rw [Nat.add_assoc, ← Nat.add_mul, show k + (c - k) = c by omega]
        exact hs
      refine ⟨g, off + k * size, c - k, cur, ?_, hb, hh, by omega, by simp only [maxLen] at hm ⊢; omega, hsz, fun j u hu => ?_⟩
      · rw [if_neg hck, Addr.add_lit]
      · rw [List.getElem?_drop] at hu
        rw [Nat.add_assoc]
        exact hx _ u hu

theorem Owns.store1 {g off cap : Nat} (h : Owns w base e 1 (.slice (some ⟨g, off, none⟩) n cap) n xs) {k : Nat} (hk : k < n) (u : Value) : Owns (w.setCell ⟨g, off + k, none⟩ u) base e 1 (.slice (some ⟨g, off, none⟩) n cap) n (xs.set k u) := by
  obtain ⟨h1, h2⟩ := h
  refine ⟨by simpa using h1, .inr ?_⟩
  rcases h2 with ⟨e', _⟩ | ⟨g', off', cap', cur, e', hb, hh, hc, hm, hs, hx⟩
  · cases e'
  · injection e' with e1 e2 e3
    injection e1 with e1
    injection e1 with e4 e5
    subst e3 e4 e5
    refine ⟨g, off, cap, cur.setIfInBounds (off + k) u, rfl, hb, by simp [World.setCell, Array.getElem?_modify, hh], hc, hm, by simpa using hs, fun j v hj => ?_⟩
    rw [Array.getElem?_setIfInBounds]
    rw [List.getElem?_set] at hj
    by_cases hjk : k = j
    · subst hjk
      rw [if_pos rfl] at hj ⊢
      rw [if_pos (by omega)]
      rw [if_pos (by omega)] at hj
      exact hj
    · rw [if_neg (by omega)]
      rw [if_neg hjk] at hj
      exact hx j v hj
theorem Owns.frozen {g off cap : Nat} (h : Owns w base e size (.slice (some ⟨g, off, none⟩) n cap) n xs) (k : Nat) : w.frozen? ⟨g, k, none⟩ = false := by
  rcases h.2 with ⟨e', _⟩ | ⟨g', off', cap', cur, e', hb, hh, _⟩
  · cases e'
  · injection e' with e1 e2 e3
    injection e1 with e1
    injection e1 with e4 e5
    subst e4
    simp [World.frozen?, hh]
theorem Owns.ints {R : List Int} (h : Owns w base e 1 v n (R.map (Value.int .i64))) (hR : ∀ x ∈ R, I64 x) : IntsAt w v R := by
  have hl : R.length = n := by have := h.1; simpa using this
  rcases h.2 with ⟨rfl, hn⟩ | ⟨g, off, cap, cur, rfl, hb, hh, hc, hm, hs, hx⟩
  · subst hn
    obtain rfl : R = [] := List.eq_nil_of_length_eq_zero hl
    exact SlAt.nil _
  · refine ⟨_, cap, by rw [hl], by omega, by simp only [maxLen] at hm; omega, fun _ => ⟨g, off, rfl, (Array.getElem?_eq_some_iff.1 hh).1, fun j x hj => ⟨?_, hR x (List.mem_of_getElem? hj)⟩⟩⟩
    have := hx j (.int .i64 x) (by simp [hj])
    simp [World.cell?, hh, this]
/-- 's[k:]' of a slice of the call's own. -/
theorem run_cut1 {P : Program} {t : TypeId} (ht : P.underlying t = some (.slice e)) {i : TypeInfo} (hi : P.info? e = some i) (hsize : i.size = size) (h : Owns w base e size v n xs) {k : Nat} (hk : k ≤ n) (hn : 0 < n) :
    ∃ v', (∀ W, (Instr.slice t v (some (.int .i64 (k : Int))) none none).run P W = .ok v' W) ∧ Owns w base e size v' (n - k) (xs.drop (k * size)) ∧ v'.ownBlock = v.ownBlock := by
  obtain ⟨g, off, cap, rfl, hg, _, hc, hm, _⟩ := h.form hn
  refine ⟨_, ?_, h.cut1 hn hk, by simp only [Value.ownBlock]; split <;> simp [Addr.add_lit]⟩
  intro W
  have h1 : ¬ ((n : Int) < (k : Int)) := by omega
  simp [Instr.slice, Instr.sliceBounds, Instr.sliceBound, asIntOf, run_underlying ht, sizeOf, typeInfo, hi, hsize, hk, go_sem]
  split <;> simp
end

theorem heap_setCells (b : Nat) : ∀ (vs : List Value) (o : Nat) (w : World) (k : Nat), k ≠ b → (w.setCells b o vs).heap[k]? = w.heap[k]?
  | [], _, _, _, _ => rfl
  | v :: vs, o, w, k, h => by
    show ((w.setCell ⟨b, o, none⟩ v).setCells b (o + 1) vs).heap[k]? = _
    rw [heap_setCells b vs (o + 1) _ k h, Below.heap_setCell w ⟨b, o, none⟩ v k h]
theorem heap_setCells_at (b : Nat) (e : TypeId) : ∀ (vs : List Value) (o : Nat) (w : World) (cur : Array Value), w.heap[b]? = some (.cells cur e (0, 0)) → o + vs.length ≤ cur.size →
    ∃ cur', (w.setCells b o vs).heap[b]? = some (.cells cur' e (0, 0)) ∧ cur'.size = cur.size ∧ (∀ j, j < o → cur'[j]? = cur[j]?) ∧ ∀ j u, vs[j]? = some u → cur'[o + j]? = some u
  | [], o, w, cur, h, _ => ⟨cur, h, rfl, fun _ _ => rfl, fun j u hu => by simp at hu⟩
  | v :: vs, o, w, cur, h, hl => by
    simp only [List.length_cons] at hl
    have h1 : (w.setCell ⟨b, o, none⟩ v).heap[b]? = some (.cells (cur.setIfInBounds o v) e (0, 0)) := by simp [World.setCell, Array.getElem?_modify, h]
    obtain ⟨cur', g1, g2, g3, g4⟩ := heap_setCells_at b e vs (o + 1) (w.setCell ⟨b, o, none⟩ v) (cur.setIfInBounds o v) h1 (by simp; omega)
    refine ⟨cur', g1, by rw [g2]; simp, fun j hj => ?_, fun j u hu => ?_⟩
    · rw [g3 j (by omega), Array.getElem?_setIfInBounds, if_neg (by omega)]
    · cases j with
      | zero =>
        rw [g3 _ (by omega), Nat.add_zero, Array.getElem?_setIfInBounds, if_pos rfl, if_pos (by omega)]
        simpa using hu
      | succ j => rw [show o + (j + 1) = o + 1 + j by omega]; exact g4 j u (by simpa using hu)
theorem size_setCells (b : Nat) : ∀ (vs : List Value) (o : Nat) (w : World), (w.setCells b o vs).heap.size = w.heap.size
  | [], _, _ => rfl
  | v :: vs, o, w => by show ((w.setCell ⟨b, o, none⟩ v).setCells b (o + 1) vs).heap.size = _; rw [size_setCells b vs]; simp
theorem streams_setCells (b : Nat) : ∀ (vs : List Value) (o : Nat) (w : World), (w.setCells b o vs).os = w.os ∧ (w.setCells b o vs).tape = w.tape ∧ (w.setCells b o vs).output = w.output
  | [], _, _ => ⟨rfl, rfl, rfl⟩
  | v :: vs, o, w => by
    have := streams_setCells b vs (o + 1) (w.setCell ⟨b, o, none⟩ v)
    exact ⟨this.1, this.2.1, this.2.2⟩

section
variable {P : Program} (w : World)
theorem run_append_owns (base : Nat) (t ty e : TypeId) (i : TypeInfo) (z : Value) (size bytes : Nat) (ht : P.underlying t = some (.slice e)) (hi : P.info? e = some i) (hz : i.zero = some z)
    (hsize : i.size = size) (hby : i.bytes = bytes) (hzs : z.cells.size = size) (hsz : 0 < size)
    (v : Value) (n : Nat) (xs : List Value) (hown : Owns w base e size v n xs)
    (a : Addr) (m c : Nat) (news : List Value) (hl : news.length = m * size) (hnews : ∀ j u, news[j]? = some u → w.cell? (a.add j) = some u) (h1 : ∀ u ∈ news, u.oneCell' = true)
    (h63 : n + m ≤ maxLen) (hbytes : (n + m) * bytes ≤ 140737488355328) (hbase : base ≤ w.heap.size) :
    ∃ v' w', (Builtin.append_ #[t, t] ty #[v, .slice (some a) m c]).run P w = .ok v' w' ∧ Owns w' base e size v' (n + m) (xs ++ news) ∧ w.grownBy w' v.ownBlock ∧
      (v'.ownBlock = v.ownBlock ∨ v'.ownBlock = some w.heap.size) := by
  rcases hown.2 with ⟨rfl, rfl⟩ | ⟨g, off, cap, cur, rfl, hb, hh, hn, hc, hs, hx⟩
  · obtain rfl : xs = [] := List.eq_nil_of_length_eq_zero (by simpa using hown.1)
    obtain ⟨v', w', hrun, h2, h3, _, h5⟩ := run_append_own_at (P := P) w base t ty e i z size bytes ht hi hz hsize hby hzs hsz (.slice none 0 0) 0 [] (World.ownsRow_nil w base e size) a m c news hl hnews h1 h63 hbytes hbase
    exact ⟨v', w', hrun, Owns.of_row h2, h3, h5⟩
  · by_cases hr : n + m ≤ cap
    · subst hsize
      have hfit : off + n * i.size + news.length ≤ cur.size := by
        rw [hl, Nat.add_assoc, ← Nat.add_mul]
        exact Nat.le_trans (Nat.add_le_add_left (Nat.mul_le_mul_right _ hr) _) hs
      have hcell : ∀ j, j < news.length → w.cell? ⟨g, off + n * i.size + j, none⟩ = some (cur[off + n * i.size + j]!) := fun j hj => by
        have : off + n * i.size + j < cur.size := by omega
        simp [World.cell?, hh, this]
      have hrun := run_append_room_cells (P := P) w t ty e i ht hi g off n cap a m c news hl hnews h1 hr (fun j hj => by rw [hcell j hj]; rfl) (fun j _ => by simp [World.frozen?, hh])
      obtain ⟨cur', g1, g2, g3, g4⟩ := heap_setCells_at g e news (off + n * i.size) w cur hh hfit
      have hst := streams_setCells g news (off + n * i.size) w
      refine ⟨_, _, hrun, ⟨by rw [List.length_append, hown.1, hl, Nat.add_mul], .inr ⟨g, off, cap, cur', rfl, hb, g1, hr, hc, by rw [g2]; exact hs, fun j u hu => ?_⟩⟩, ⟨hst.1, hst.2.1, hst.2.2, by rw [size_setCells]; exact Nat.le_refl _, fun k _ hk => ?_⟩, .inl rfl⟩
      · by_cases hj : j < xs.length
        · rw [List.getElem?_append_left hj] at hu
          rw [g3 _ (by have := hown.1; omega)]
          exact hx j u hu
        · rw [List.getElem?_append_right (by omega)] at hu
          have := g4 _ u hu
          rw [← this]
          congr 1
          have := hown.1
          omega
      · exact heap_setCells g news _ w k (fun e' => hk (by simp [Value.ownBlock, e']))
    · have holds : ∀ j u, xs[j]? = some u → w.cell? ((⟨g, off, none⟩ : Addr).add j) = some u := fun j u hu => by
        rw [Addr.add_lit]
        simp [World.cell?, hh, hx j u hu]
      obtain ⟨v', w', hrun, r1, r2⟩ := run_append_arg_grows (P := P) w t ty e i z size bytes ht hi hz hsize hby hzs hsz ⟨g, off, none⟩ n cap xs hown.1 holds a m c news hl hnews (by omega) h63 hbytes
      refine ⟨v', w', hrun, ?_, ⟨r2.os, r2.tape, r2.output, r2.size, fun k hk _ => r2.block k hk (by simp)⟩, ?_⟩
      · have := Owns.of_row r1
        obtain ⟨q1, q2⟩ := this
        refine ⟨q1, q2.imp id ?_⟩
        rintro ⟨g', off', cap', cur', a1, a2, a3⟩
        exact ⟨g', off', cap', cur', a1, Nat.le_trans hbase a2, a3⟩
      · subst hsize
        subst hby
        have hr2 := run_append_grow (P := P) w t ty e i z ht hi hz ⟨g, off, none⟩ n cap xs hown.1 holds a m c news hl hnews (by omega) (by simp only [maxLen] at h63; omega) (growslice_fits (by omega) hbytes)
        rw [hr2] at hrun
        injection hrun with e1 _
        subst e1
        exact .inr rfl

theorem wp_append_owns {o : Oper} {a : Act} {K : Act → World → Prop} {Q : Exit → Act → World → Prop} (s x : Operand) (t : TypeId)
    (ho : o.op = .call { callee := .builtin .append, args := #[s, x], argTypes := #[t, t] })
    (base : Nat) (e : TypeId) (i : TypeInfo) (z : Value) (size bytes : Nat) (ht : P.underlying t = some (.slice e)) (hi : P.info? e = some i) (hz : i.zero = some z)
    (hsize : i.size = size) (hby : i.bytes = bytes) (hzs : z.cells.size = size) (hsz : 0 < size)
    (v : Value) (n : Nat) (xs : List Value) (hs : a.eval s = v) (hown : Owns w base e size v n xs)
    (ad : Addr) (m c : Nat) (news : List Value) (hx : a.eval x = .slice (some ad) m c) (hl : news.length = m * size) (hnews : ∀ j u, news[j]? = some u → w.cell? (ad.add j) = some u) (h1 : ∀ u ∈ news, u.oneCell' = true)
    (h63 : n + m ≤ maxLen) (hbytes : (n + m) * bytes ≤ 140737488355328) (hbase : base ≤ w.heap.size)
    (h : ∀ v' w', Owns w' base e size v' (n + m) (xs ++ news) → w.grownBy w' v.ownBlock → (v'.ownBlock = v.ownBlock ∨ v'.ownBlock = some w.heap.size) → K (a.put o.dst v') w') : o.wp P a w K Q := by
  obtain ⟨v', w', hr, h2, h3, h4⟩ := run_append_owns (P := P) w base t o.type e i z size bytes ht hi hz hsize hby hzs hsz v n xs hown ad m c news hl hnews h1 h63 hbytes hbase
  unfold Oper.wp execOp
  simp only [ho, resolve, invoke, builtin, Sem.run_bind, Sem.run_pure, Result.andThen_ok, List.map_toArray, List.map_cons, List.map_nil, hs, hx, hr]
  exact h v' w' h2 h3 h4
theorem wpList_append_owns {ops : Array Oper} {rest : List Oper} {o : Oper} {a : Act} {Q : Exit → Act → World → Prop} (hgd : o.guard = none) (s x : Operand) (t : TypeId)
    (ho : o.op = .call { callee := .builtin .append, args := #[s, x], argTypes := #[t, t] })
    (base : Nat) (e : TypeId) (i : TypeInfo) (z : Value) (size bytes : Nat) (ht : P.underlying t = some (.slice e)) (hi : P.info? e = some i) (hz : i.zero = some z)
    (hsize : i.size = size) (hby : i.bytes = bytes) (hzs : z.cells.size = size) (hsz : 0 < size)
    (v : Value) (n : Nat) (xs : List Value) (hs : a.eval s = v) (hown : Owns w base e size v n xs)
    (ad : Addr) (m c : Nat) (news : List Value) (hx : a.eval x = .slice (some ad) m c) (hl : news.length = m * size) (hnews : ∀ j u, news[j]? = some u → w.cell? (ad.add j) = some u) (h1 : ∀ u ∈ news, u.oneCell' = true)
    (h63 : n + m ≤ maxLen) (hbytes : (n + m) * bytes ≤ 140737488355328) (hbase : base ≤ w.heap.size)
    (h : ∀ v' w', Owns w' base e size v' (n + m) (xs ++ news) → w.grownBy w' v.ownBlock → (v'.ownBlock = v.ownBlock ∨ v'.ownBlock = some w.heap.size) → wpList P ops Q rest (a.put o.dst v') w') : wpList P ops Q (o :: rest) a w :=
  wpList_plain hgd fun _ hK => wp_append_owns w s x t ho base e i z size bytes ht hi hz hsize hby hzs hsz v n xs hs hown ad m c news hx hl hnews h1 h63 hbytes hbase fun v' w' h2 h3 h4 => hK _ _ (h v' w' h2 h3 h4)
end

theorem int_info : (Tryz.prog.info? 3).map (fun i => (i.zero, i.size, i.bytes)) = some (some (.int .i64 0), 1, 8) := by kernel_rfl
theorem madeCells_int (n : Nat) : madeCells #[Value.int .i64 0] n = ((List.replicate n (0 : Int)).map (Value.int .i64)).toArray := by
  apply Array.ext
  · simp [madeCells]
  · intro i h1 h2
    simp [madeCells, Nat.mod_one]
theorem run_makeInts (n : Nat) (hn : n ≤ 1000000) (w : World) : (Instr.makeSlice 22 (.int .i64 (n : Int)) (.int .i64 (n : Int))).run Tryz.prog w =
    .ok (.slice (some ⟨w.heap.size, 0, none⟩) n n) (w.alloc (.cells ((List.replicate n (0 : Int)).map (Value.int .i64)).toArray 3)) := by
  rw [← madeCells_int]
  exact run_make_row' 22 3 (.int .i64 0) 8 Tryz.underlying22 int_info rfl .i64 .i64 n (by omega) (by omega) w
theorem IBlk.new (w : World) (R : List Int) : IBlk (w.alloc (.cells (R.map (Value.int .i64)).toArray 3)) w.heap.size R := heap_alloc_new w _

/-- A slice of one element, laid for an append: its cell. -/
theorem cell_one {w : World} {v : Value} {t : TypeId} {g : Nat} (hg : g = w.heap.size) : ∀ j u, [v][j]? = some u → ((w.alloc (.cells #[v] t)).cell? ((⟨g, 0, none⟩ : Addr).add j)) = some u := by
  intro j u hu
  subst hg
  cases j with
  | zero => simp at hu; subst hu; rw [Addr.add_lit]; simp
  | succ j => simp at hu
/-- What a call that hands back a new slice of ints leaves. -/
def RetInts (D : List Int) (w : World) (e : Ending) (w' : World) : Prop := ∃ v, e = .returned v ∧ IntsAt w' v D ∧ Below w.heap.size w w'
end Go.Proofs.YtegpikhfnhcjaaaGreat
