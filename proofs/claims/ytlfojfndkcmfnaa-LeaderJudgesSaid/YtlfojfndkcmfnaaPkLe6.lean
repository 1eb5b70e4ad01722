/- Lemmas, joined: ShI ShJ. -/
import Derived.Test.YtlfojfndkcmfnaaPkLe5
set_option linter.unusedSimpArgs false
set_option linter.unusedVariables false
namespace Go.Proofs.Ytlfojfndkcmfnaa
namespace Sh
open Go Ev

section
variable {P : Program} {lo : Nat} {F : AM} {ω : Om} {s : SS} {f : Fr} {m : Mem} {o : Oper} {c : Prop} {r : SRec}

/-- Elements, one behind another. -/
def flatL (L : Nat → List Value) : Nat → List Value
  | 0 => []
  | n + 1 => flatL L n ++ L n
theorem flatL_length {L : Nat → List Value} {z : Nat} : ∀ {n : Nat}, (∀ k, k < n → (L k).length = z) → (flatL L n).length = n * z
  | 0, _ => by simp [flatL]
  | n + 1, h => by
    rw [flatL, List.length_append, flatL_length (fun k hk => h k (by omega)), h n (by omega), Nat.succ_mul]
theorem flatL_get {L : Nat → List Value} {z : Nat} : ∀ {n : Nat}, (∀ k, k < n → (L k).length = z) → ∀ k j, k < n → j < z → (flatL L n)[k * z + j]? = (L k)[j]?
  | 0, _, k, j, h, _ => absurd h (Nat.not_lt_zero _)
  | n + 1, h, k, j, hk, hj => by
    have hl := flatL_length (L := L) (z := z) (n := n) (fun k hk => h k (by omega))
    rw [flatL]
    by_cases hkn : k < n
    · have := mul_in (z := z) hkn
      rw [List.getElem?_append_left (by omega)]
      exact flatL_get (fun k hk => h k (by omega)) k j hkn hj
    · obtain rfl : k = n := by omega
      rw [List.getElem?_append_right (by omega), hl]
      congr 1; omega
theorem flatL_join (L L' : Nat → List Value) (n : Nat) : ∀ k, flatL L n ++ flatL L' k = flatL (fun a => if a < n then L a else L' (a - n)) (n + k)
  | 0 => by
    rw [flatL, List.append_nil, Nat.add_zero]
    have : ∀ j, j ≤ n → flatL L j = flatL (fun a => if a < n then L a else L' (a - n)) j := by
      intro j
      induction j with
      | zero => intro _; rfl
      | succ j ih => intro hj; rw [flatL, flatL, ih (by omega), if_pos (show j < n by omega)]
    exact this n (Nat.le_refl _)
  | k + 1 => by
    rw [flatL, ← List.append_assoc, flatL_join L L' n k, show n + (k + 1) = (n + k) + 1 by omega]
    show _ = flatL _ (n + k) ++ (if n + k < n then L (n + k) else L' (n + k - n))
    rw [if_neg (by omega), Nat.add_sub_cancel_left]
theorem flatL_good {g : Nat → List SV} {L : Nat → List Value} : ∀ {n : Nat}, (∀ k, k < n → allGood (L k) = true) → allGood (flatL L n) = true
  | 0, _ => rfl
  | n + 1, h => by
    have happ : ∀ (a b : List Value), allGood a = true → allGood b = true → allGood (a ++ b) = true := by
      intro a b
      induction a with
      | nil => intro _ h; exact h
      | cons v a ih =>
        intro h1 h2
        cases v <;> first | exact ih h1 h2 | cases h1
    exact happ _ _ (flatL_good (g := g) fun k hk => h k (by omega)) (h n (by omega))
theorem good_of {l : List SV} {L : List Value} (hl : RVL F ω l L) (h1 : l.all one1 = true) : allGood L = true := by
  have := (cells_rvl (v := .ag l) (u := .agg L.toArray) (.ag hl) h1).2
  simpa [Value.cells] using this
/-- The row behind a slice. -/
theorem rowOfS_rv (hc : Conc lo F ω s f m) {z : Nat} {v : SV} {u : Value} {q : Row} (h : rowOfS s z v = some q) (hv : RV F ω v u) (h0 : 0 < q.n) (hqc : q.c) :
    ∃ (L : Nat → List Value) (k : Nat), rowOf m z u = some (flatL L q.n, [k]) ∧ lenA u = q.n ∧ (∀ a, a < q.n → (L a).length = z ∧ RVL F ω (q.g a) (L a) ∧ (q.g a).all one1 = true) ∧ ((∃ β z', β ∈ q.rd ∧ ω β = some (some (k, z'))) ∨ (q.fz = true ∧ ∃ b, F k = some b)) := by
  have row : ∀ {bk p n cp N e zz : Nat} {Tb : Ev.T Value} {L : Nat → List Value}, m.b.get bk = some (.cells Tb N e zz) → 0 < n → p + n * z ≤ N → (∀ a, a < n → (L a).length = z) → (∀ a, a < n → ∀ j, j < z → Tb.get (p + a * z + j) = (L a)[j]?) →
      rowOf m z (.slice (some ⟨bk, p, none⟩) n cp) = some (flatL L n, [bk]) := by
    intro bk p n cp N e zz Tb L h1 h2 h3 h4 h5
    have hl := flatL_length h4
    show (bif Nat.beq n 0 then _ else _) = _
    rw [show Nat.beq n 0 = false by cases n with | zero => omega | succ n => rfl]
    simp only [cond_false]
    rw [h1]
    simp only
    rw [Nat.ble_eq_true_of_le h3]
    simp only [cond_true]
    have hg := getCells_of (T := Tb) (L := flatL L n) (o := p) (fun j hj => by
      rw [hl] at hj
      rcases Nat.eq_zero_or_pos z with hz | hz
      · subst hz; omega
      · have hd := Nat.div_add_mod j z
        have hm := Nat.mod_lt j hz
        have hk : j / z < n := Nat.div_lt_of_lt_mul (by rwa [Nat.mul_comm] at hj)
        have e1 : j = j / z * z + j % z := by rw [Nat.mul_comm]; exact hd.symm
        rw [e1, flatL_get h4 _ _ hk hm, ← Nat.add_assoc]
        exact h5 _ hk _ hm)
    rw [hl] at hg
    rw [hg]
  unfold rowOfS at h
  split at h
  · rename_i z' n g
    split at h
    · rename_i hz; subst hz; cases h
      rcases hv.sl_inv with ⟨rfl, _⟩ | ⟨bk, p, cp, T, N, e, zz, L, rfl, g1, g2, g3, g4, g5, g6, g7⟩
      · exact absurd h0 (Nat.lt_irrefl _)
      · exact ⟨L, bk, row (hc.sub _ _ g1) h0 g3 g4 g5, rfl, fun a ha => ⟨g4 a ha, (g6 a ha).mono (Le.refl _) (om0_le _), g7 a ha⟩, .inr ⟨rfl, _, g1⟩⟩
    · cases h
  · rename_i β p n cp
    split at h
    · rename_i b hbl
      split at h
      · rename_i hz; subst hz; cases h
        have hb : p + n ≤ b.n := hqc
        rcases hv.os_inv with ⟨k, z, cp', hk, rfl, _⟩ | ⟨_, _, rfl, _⟩
        · obtain ⟨rfl, T, L, g1, g2⟩ := hc.ownAt hbl hk
          have hN : p * b.z + n * b.z ≤ b.n * b.z := by rw [← Nat.add_mul]; exact Nat.mul_le_mul_right _ hb
          refine ⟨fun a => L (p + a), k, row g1 h0 hN (fun a ha => (g2 (p + a) (by omega)).1) (fun a ha j hj => ?_), rfl, fun a ha => ?_, .inl ⟨β, _, by simp, hk⟩⟩
          · rw [← Nat.add_mul]; exact (g2 (p + a) (by omega)).2.2.2 j hj
          · have ha : a < n := ha
            obtain ⟨l1, l2, l3, _⟩ := g2 (p + a) (by omega); exact ⟨l1, l2, l3⟩
        · exact absurd h0 (Nat.lt_irrefl _)
      · cases h
    · cases h
  · cases h; exact absurd h0 (Nat.lt_irrefl _)
  · cases h

/-- An own block that is told of no more. -/
theorem Conc.drop (hc : Conc lo F ω s f m) {γ : Nm} {k z : Nat} (hex : ∃ c, lookO s.o γ = some c) (hk : ω γ = some (some (k, z))) : Conc lo F ω (s.own γ none) f ⟨m.next, Ev.T.set (Nat.succ k) m.b k none, Nat.min m.low k⟩ := by
  have hget : ∀ i, (Ev.T.set (Nat.succ k) m.b k none).get i = if i = k then none else m.b.get i := fun i => T.set_at _ _ _ _
  have hap := hc.apart γ k z hk
  refine ⟨fun i x hx => ?_, ?_, hc.nxt, fun i x hx => ?_, fun δ d hd => ?_, fun δ hδ => ?_, hc.inj, hc.apart, hc.fr⟩
  · have hx : (Ev.T.set (Nat.succ k) m.b k none).get i = some x := hx
    rw [hget] at hx
    split at hx
    · cases hx
    · exact hc.wf i x hx
  · show lo ≤ Nat.min m.low k
    have := hc.low; have := hap.2.1
    rw [Nat.le_min]; omega
  · show (Ev.T.set (Nat.succ k) m.b k none).get i = some x
    rw [hget, if_neg (fun q => by rw [q, hap.1] at hx; cases hx)]
    exact hc.sub i x hx
  · have hd' : (if γ = δ then none else lookO s.o δ) = some d := by rw [← own_at (.inr hex)]; exact hd
    clear hd
    split at hd'
    · cases hd'
    · rename_i q
      exact (hc.own δ d hd').mono (Om.le_refl _) fun k' z' hk' => by show (Ev.T.set (Nat.succ k) m.b k _).get k' = _; rw [hget, if_neg (fun e => hc.inj δ γ k' z' k _ hk' hk (Ne.symm q) e)]
  · exact hc.dom δ (own_none hδ).2
/-- The same, of a block that is not there. -/
theorem Conc.drop0 (hc : Conc lo F ω s f m) {γ : Nm} (hex : ∃ c, lookO s.o γ = some c) : Conc lo F ω (s.own γ none) f m := by
  refine ⟨hc.wf, hc.low, hc.nxt, hc.sub, fun δ d hd => ?_, fun δ hδ => ?_, hc.inj, hc.apart, hc.fr⟩
  · have hd' : (if γ = δ then none else lookO s.o δ) = some d := by rw [← own_at (.inr hex)]; exact hd
    clear hd
    split at hd'
    · cases hd'
    · exact hc.own δ d hd'
  · exact hc.dom δ (own_none hδ).2

theorem lookO_look {l : Own} {β : Nm} {b : OB} (h : lookO l β = some b) : look l β.1 ≠ none := fun q => by
  unfold lookO at h; rw [q] at h; cases h

/-- Nothing, read as a row. -/
theorem rowOfS_none {z : Nat} {w : SV} {q : Row} (h : rowOfS s z w = some q) {u : Value} (hv : RV F ω w u) (h0 : q.n = 0) : rowOf m z u = some ([], []) ∧ lenA u = 0 := by
  unfold rowOfS at h
  split at h
  · split at h
    · cases h
      rcases hv.sl_inv with ⟨rfl, hz⟩ | ⟨bk, p, cp, T, N, e, zz, L, rfl, _⟩
      · rcases hz with rfl | ⟨b, o, c, rfl⟩ <;> exact ⟨rfl, rfl⟩
      · obtain rfl := h0
        exact ⟨rfl, rfl⟩
    · cases h
  · split at h
    · split at h
      · cases h
        rcases hv.os_inv with ⟨k, z, cp', hk, rfl, _⟩ | ⟨_, _, rfl, rfl⟩
        · obtain rfl := h0
          exact ⟨rfl, rfl⟩
        · exact ⟨rfl, rfl⟩
      · cases h
    · cases h
  · cases h; cases hv; exact ⟨rfl, rfl⟩
  · cases h
theorem s_app0 (hc : Conc lo F ω s f m) {t elem : TypeId} {x y : Operand} {i : TypeInfo} {zv : List Value} (hop : o.op = .call { callee := .builtin .append, args := #[x, y], argTypes := #[t, t] }) (hd : P.underlying t = some (.slice elem)) (hi : P.info? elem = some i) (hz : zeroA i = some zv) (hby : i.bytes ≤ 100000000)
    {v w : SV} {q : Row} (hx : s.get x = some v) (hy : s.pget y = some w) (hq : rowOfS s i.size w = some q) (h0 : q.n = 0)
    (hX : v = .a (.slice none 0 0) ∨ ∃ γ p n, v = .os γ p n true ∧ n * i.bytes ≤ 100000000 ∧ n ≤ 100000000) : OpS P lo F ω f m o ⟨c, SRec.no, v, s⟩ := by
  obtain ⟨u1, e1, r1⟩ := hc.get hx
  obtain ⟨u2, e2, r2⟩ := hc.pget hy
  obtain ⟨w1, w2⟩ := rowOfS_none (m := m) hq r2 h0
  have hs : ∃ a n c, u1 = .slice a n c ∧ n * i.bytes ≤ 100000000 ∧ n ≤ 100000000 := by
    rcases hX with rfl | ⟨γ, p, n, rfl, b1, b2⟩
    · cases r1; exact ⟨_, _, _, rfl, by omega, by omega⟩
    · rcases r1.os_inv with ⟨k, z, cp, hk, rfl, _⟩ | ⟨_, _, rfl, rfl⟩
      · exact ⟨_, _, _, rfl, b1, b2⟩
      · exact ⟨_, _, _, rfl, by omega, by omega⟩
  obtain ⟨a, n, cp, rfl, b1, b2⟩ := hs
  refine OpS.idle hc (u := .slice a n cp) ?_ r1
  unfold evOp
  rw [hop]
  show (ob (valsA f [x, y]) fun vs => evAppend P m vs [t, t]) = _
  rw [vals2 e1 e2]
  show iteB (Nat.beq t t) (ob (P.underlying t) _) none = _
  rw [iteB_eq, if_pos (Nat.beq_refl _), hd]
  show appendA P m elem _ u2 = _
  unfold appendA
  rw [hi]
  show (ob (rowOf m i.size u2) fun q => appendA1 m elem _ u2 i q) = _
  rw [w1]
  show appendA1 m elem _ u2 i ([], []) = _
  unfold appendA1
  have e3 : lenA (.slice a n cp) = n := rfl
  rw [w2, e3, Nat.add_zero, iteB_eq, if_pos (by rw [Nat.ble_eq_true_of_le b1, Nat.ble_eq_true_of_le b2, Nat.ble_eq_true_of_le hby, hz]; rfl), iteB_eq, if_pos (by rfl)]
  rfl
theorem s_app (hc : Conc lo F ω s f m) {t elem : TypeId} {x y : Operand} {β : Nat} {i : TypeInfo} {zv : List Value} (hop : o.op = .call { callee := .builtin .append, args := #[x, y], argTypes := #[t, t] }) (hd : P.underlying t = some (.slice elem)) (hi : P.info? elem = some i) (hz : zeroA i = some zv) (hby : i.bytes ≤ 100000000) (hz0 : i.size ≠ 0)
    {v w : SV} {q : Row} (hx : s.get x = some v) (hy : s.pget y = some w) (hq : rowOfS s i.size w = some q) (hbd : q.c) (hn : newOK s elem β = true) (h0 : 0 < q.n)
    {X : XR} (hX : (v = .a (.slice none 0 0) ∧ q.n * i.bytes ≤ 100000000 ∧ q.n ≤ 100000000 ∧ X = ⟨c, ⟨q.rd, [], [(β, 0)], q.fz, false, false, false⟩, .os (β, 0) 0 q.n true, s.own (β, 0) (some ⟨elem, false, i.size, q.n, q.g⟩)⟩) ∨
      (∃ γ p n b, v = .os γ p n true ∧ lookO s.o γ = some b ∧ b.e = elem ∧ b.z = i.size ∧ b.bx = false ∧ p + n ≤ b.n ∧ (n + q.n) * i.bytes ≤ 100000000 ∧ n + q.n ≤ 100000000 ∧ X = ⟨c, ⟨γ :: q.rd, [γ], [(β, 0)], q.fz, false, false, false⟩, .os (β, 0) 0 (n + q.n) true, (s.own γ none).own (β, 0) (some ⟨elem, false, i.size, n + q.n, fun k => if k < n then b.g (p + k) else q.g (k - n)⟩)⟩)) : OpS P lo F ω f m o X := by
  obtain ⟨u1, e1, r1⟩ := hc.get hx
  obtain ⟨u2, e2, r2⟩ := hc.pget hy
  obtain ⟨L, k, w1, w2, w3, w4⟩ := rowOfS_rv hc hq r2 h0 hbd
  have hlen : (flatL L q.n).length = q.n * i.size := flatL_length fun a ha => (w3 a ha).1
  have hgood : allGood (flatL L q.n) = true := flatL_good (g := q.g) fun a ha => good_of (w3 a ha).2.1 (w3 a ha).2.2
  have hω := hc.dom (β, 0) (newOK_look hn)
  have hev : ∀ {R0 : Option R}, (lenA u1 + q.n) * i.bytes ≤ 100000000 → lenA u1 + q.n ≤ 100000000 → appendA2 m i elem q.n (flatL L q.n) [k] u1 = R0 → evOp P f o m = R0 := by
    intro R0 h1 h2 h3
    unfold evOp
    rw [hop]
    show (ob (valsA f [x, y]) fun vs => evAppend P m vs [t, t]) = _
    rw [vals2 e1 e2]
    show iteB (Nat.beq t t) (ob (P.underlying t) _) none = _
    rw [iteB_eq, if_pos (Nat.beq_refl _), hd]
    show appendA P m elem u1 u2 = _
    unfold appendA
    rw [hi]
    show (ob (rowOf m i.size u2) fun q => appendA1 m elem u1 u2 i q) = _
    rw [w1]
    show appendA1 m elem u1 u2 i (flatL L q.n, [k]) = _
    unfold appendA1
    rw [w2, iteB_eq, if_pos (by rw [Nat.ble_eq_true_of_le h1, Nat.ble_eq_true_of_le h2, Nat.ble_eq_true_of_le hby, hz, hgood]; rfl), iteB_eq, if_neg (fun e => by have := Nat.eq_of_beq_eq_true e; omega)]
    exact h3
  have hfoot : ∀ {rd : List Nm} {y : Nat}, (∀ z ∈ q.rd, z ∈ rd) → y ∈ [k] → (∃ β z, β ∈ rd ∧ ω β = some (some (y, z))) ∨ (q.fz = true ∧ ∃ b, F y = some b) := by
    intro rd y hsub hy
    simp at hy; subst hy
    exact w4.imp (fun ⟨β, z, a, b⟩ => ⟨β, z, hsub _ a, b⟩) id
  have hstep : ∀ γ k z, omSet ω (β, 0) m.next i.size γ = some (some (k, z)) → ω γ = some (some (k, z)) ∨ m.next ≤ k := fun γ k z hk => by
    unfold omSet at hk
    split at hk
    · cases hk; exact .inr (Nat.le_refl _)
    · exact .inl hk
  have hnil : u1 = .slice none 0 0 → q.n * i.bytes ≤ 100000000 → q.n ≤ 100000000 → evOp P f o m = some ⟨.slice (some ⟨m.next, 0, none⟩) q.n CU, .new (.cells (tOf (flatL L q.n)) (q.n * i.size) elem i.size), [k]⟩ := by
    rintro rfl h1 h2
    refine hev (by show (0 + q.n) * _ ≤ _; rw [Nat.zero_add]; exact h1) (by show 0 + q.n ≤ _; omega) ?_
    show appRes m q.n _ _ = _
    unfold appRes
    rw [forceN_eq, hlen]
  have hrow : ∀ a, a < q.n → (L a).length = i.size ∧ RVL F ω (q.g a) (L a) ∧ (q.g a).all one1 = true ∧ ∀ j, j < i.size → (tOf (flatL L q.n)).get (a * i.size + j) = (L a)[j]? := fun a ha =>
    ⟨(w3 a ha).1, (w3 a ha).2.1, (w3 a ha).2.2, fun j hj => by rw [tOf_get?]; exact flatL_get (fun a ha => (w3 a ha).1) a j ha hj⟩
  have hval : ∀ n, RV F (omSet ω (β, 0) m.next i.size) (.os (β, 0) 0 n true) (.slice (some ⟨m.next, 0, none⟩) n CU) := fun n => by
    have := RV.os (F := F) (ω := omSet ω (β, 0) m.next i.size) (o := 0) (n := n) (c := CU) (ap := true) omSet_self (fun _ => .inl rfl)
    simpa using this
  rcases hX with ⟨rfl, b1, b2, rfl⟩ | ⟨γ, p, n, b, rfl, hb, be, bz, bb, hpn, b1, b2, rfl⟩
  · have hu1 : u1 = .slice none 0 0 := by cases r1; rfl
    refine ⟨_, omSet ω (β, 0) m.next i.size, hnil hu1 b1 b2, omSet_le hω, hc.new (b := ⟨elem, false, i.size, q.n, q.g⟩) (newOK_look hn) (newOK_e hn) hrow, hval _, hstep, fun y hy => hfoot (fun _ h => h) hy, fun y hy => (by cases hy), fun q => (by cases q), fun _ => ⟨(β, 0), i.size, by simp, omSet_self⟩⟩
  · have hβγ : β ≠ γ.1 := fun e => lookO_look hb (by rw [← e]; exact newOK_look hn)
    have hn' : look (s.own γ none).o β = none := by
      show (if γ.1 = β then some (famSet (look s.o γ.1) γ.2 none) else look s.o β) = none
      rw [if_neg (Ne.symm hβγ)]; exact newOK_look hn
    have hz0' : Nat.beq i.size 0 = false := by cases he : i.size with | zero => exact absurd he hz0 | succ a => rfl
    rcases r1.os_inv with ⟨k1, z1, cp, hk1, rfl, hcp⟩ | ⟨hk1, h0p, h00, rfl⟩
    · obtain ⟨rfl, Tb, L1, g1, g2⟩ := hc.ownAt hb hk1
      rw [bb, be, bz] at g1
      have hin : p * b.z + n * i.size ≤ b.n * i.size := by rw [bz, ← Nat.add_mul]; exact Nat.mul_le_mul_right _ hpn
      have hl1 : ∀ a, a < n → (L1 (p + a)).length = i.size := fun a ha => by rw [← bz]; exact (g2 (p + a) (by omega)).1
      have hold : getCells Tb (p * b.z) (n * i.size) = some (flatL (fun a => L1 (p + a)) n) := by
        have hfl := flatL_length hl1
        have := getCells_of (T := Tb) (L := flatL (fun a => L1 (p + a)) n) (o := p * b.z) (fun j hj => by
          rw [hfl] at hj
          have hpos : 0 < i.size := Nat.pos_of_ne_zero hz0
          have hd := Nat.div_add_mod j i.size
          have hm := Nat.mod_lt j hpos
          have hk : j / i.size < n := Nat.div_lt_of_lt_mul (by rwa [Nat.mul_comm] at hj)
          have e1 : j = j / i.size * i.size + j % i.size := by rw [Nat.mul_comm]; exact hd.symm
          have e2 := (g2 (p + j / i.size) (by omega)).2.2.2 (j % i.size) (by rw [bz]; exact hm)
          rw [e1, flatL_get hl1 _ _ hk hm, ← e2, bz, Nat.add_mul, Nat.add_assoc])
        rwa [hfl] at this
      have hsome : ∀ {R0 : Option R}, appOut m ⟨k1, p * b.z, none⟩ Tb elem i.size n (n + q.n) cp (flatL L q.n) [k1, k] = R0 → evOp P f o m = R0 := by
        intro R0 h
        refine hev (by exact b1) (by exact b2) ?_
        show (ob (m.b.get k1) fun b' => appSome m i elem ⟨k1, p * b.z, none⟩ n (n + q.n) cp (flatL L q.n) [k] b') = _
        rw [g1]
        show iteB (Nat.beq elem elem && Nat.beq i.size i.size && !(Nat.beq i.size 0) && Nat.ble (p * b.z + n * i.size) (b.n * i.size) && true && !(Nat.beq elem CU)) (iteB (Nat.ble (n + q.n) cp && !(Nat.beq cp CU)) _ (appOut m ⟨k1, p * b.z, none⟩ Tb elem i.size n (n + q.n) cp (flatL L q.n) [k1, k])) none = _
        have hne : Nat.beq elem CU = false := by
          cases hq : Nat.beq elem CU with
          | false => rfl
          | true => exact absurd (Nat.eq_of_beq_eq_true hq) (newOK_e hn)
        rw [iteB_eq, if_pos (by rw [Nat.beq_refl, Nat.beq_refl, hz0', Nat.ble_eq_true_of_le hin, hne]; rfl), iteB_eq, if_neg]
        · exact h
        · rw [Bool.and_eq_true]
          rintro ⟨q1, q2⟩
          rcases hcp rfl with rfl | ⟨rfl, _⟩
          · rw [Nat.beq_refl] at q2; cases q2
          · have := Nat.le_of_ble_eq_true q1; omega
      have hL2 : ∀ {Tn : Ev.T Value}, (∀ a, a < n + q.n → ∀ j, j < i.size → Tn.get (a * i.size + j) = (if a < n then L1 (p + a) else L (a - n))[j]?) → ∀ a, a < n + q.n →
          ((if a < n then L1 (p + a) else L (a - n)).length = i.size ∧ RVL F ω (if a < n then b.g (p + a) else q.g (a - n)) (if a < n then L1 (p + a) else L (a - n)) ∧ (if a < n then b.g (p + a) else q.g (a - n)).all one1 = true ∧ ∀ j, j < i.size → Tn.get (a * i.size + j) = (if a < n then L1 (p + a) else L (a - n))[j]?) := by
        intro Tn hT a ha
        refine ⟨?_, ?_, ?_, hT a ha⟩ <;> by_cases h : a < n
        · rw [if_pos h]; exact hl1 a h
        · rw [if_neg h]; exact (w3 (a - n) (by omega)).1
        · rw [if_pos h, if_pos h]; exact (g2 (p + a) (by omega)).2.1
        · rw [if_neg h, if_neg h]; exact (w3 (a - n) (by omega)).2.1
        · rw [if_pos h]; exact (g2 (p + a) (by omega)).2.2.1
        · rw [if_neg h]; exact (w3 (a - n) (by omega)).2.2
      have hjoin : ∀ a, a < n + q.n → ∀ j, j < i.size → (tOf (flatL (fun a => L1 (p + a)) n ++ flatL L q.n)).get (a * i.size + j) = (if a < n then L1 (p + a) else L (a - n))[j]? := by
        intro a ha j hj
        rw [tOf_get?, flatL_join]
        refine flatL_get (L := fun a => if a < n then L1 (p + a) else L (a - n)) (z := i.size) (fun k hk => ?_) a j ha hj
        by_cases h : k < n
        · simp only [if_pos h]; exact hl1 k h
        · simp only [if_neg h]; exact (w3 (k - n) (by omega)).1
      have hjl : (flatL (fun a => L1 (p + a)) n).length + (flatL L q.n).length = (n + q.n) * i.size := by rw [flatL_length hl1, hlen, Nat.add_mul]
      have hfoot2 : ∀ y ∈ [k1, k], (∃ β z, β ∈ γ :: q.rd ∧ ω β = some (some (y, z))) ∨ (q.fz = true ∧ ∃ b, F y = some b) := fun y hy => by
        rcases List.mem_cons.1 hy with h | h
        · subst h; exact .inl ⟨γ, b.z, by simp, hk1⟩
        · exact hfoot (fun z hz => List.mem_cons_of_mem _ hz) h
      have hmove : ∀ {Tn : Ev.T Value}, evOp P f o m = some ⟨.slice (some ⟨m.next, 0, none⟩) (n + q.n) CU, .move k1 (.cells Tn ((n + q.n) * i.size) elem i.size), [k1, k]⟩ → (∀ a, a < n + q.n → ∀ j, j < i.size → Tn.get (a * i.size + j) = (if a < n then L1 (p + a) else L (a - n))[j]?) →
          OpS P lo F ω f m o ⟨c, ⟨γ :: q.rd, [γ], [(β, 0)], q.fz, false, false, false⟩, .os (β, 0) 0 (n + q.n) true, (s.own γ none).own (β, 0) (some ⟨elem, false, i.size, n + q.n, fun k => if k < n then b.g (p + k) else q.g (k - n)⟩)⟩ := by
        intro Tn hev2 hT
        have hcn := (hc.drop ⟨_, hb⟩ hk1).new (b := ⟨elem, false, i.size, n + q.n, fun k => if k < n then b.g (p + k) else q.g (k - n)⟩) hn' (newOK_e hn) (Tb := Tn) (L := fun a => if a < n then L1 (p + a) else L (a - n)) (hL2 hT)
        refine ⟨_, omSet ω (β, 0) m.next i.size, hev2, omSet_le hω, ?_, hval _, hstep, hfoot2, fun y hy => ?_, fun q => (by cases q), fun _ => ⟨(β, 0), i.size, by simp, omSet_self⟩⟩
        · rw [app_move]
          rw [app_new] at hcn
          exact hcn
        · simp [Eff.mods] at hy; subst hy; exact ⟨γ, b.z, by simp, hk1⟩
      rcases hcp rfl with rfl | ⟨rfl, hnc⟩
      · by_cases hp0 : p * b.z = 0
        · have hp : p = 0 := by
            rcases Nat.mul_eq_zero.1 hp0 with h | h
            · exact h
            · rw [bz] at h; exact absurd h hz0
          refine hmove (Tn := Ev.T.sets Tb (n * i.size) (flatL L q.n)) (hsome ?_) (fun a ha j hj => ?_)
          · unfold appOut
            rw [iteB_eq, if_pos (by rw [Nat.beq_refl, hp0]; rfl)]
            unfold appRes
            rw [forceN_eq, hlen, Nat.add_mul]
          · by_cases h : a < n
            · rw [if_pos h]
              have := mul_in (z := i.size) h
              have e2 := (g2 (p + a) (by omega)).2.2.2 j (by rw [bz]; exact hj)
              rw [T.sets_at, if_neg (by omega)]
              rw [← e2, bz, hp, Nat.zero_add]
            · rw [if_neg h]
              have e3 : a * i.size = n * i.size + (a - n) * i.size := by rw [← Nat.add_mul]; congr 1; omega
              have := mul_in (z := i.size) (show a - n < q.n by omega)
              rw [T.sets_at, if_pos (by omega), show a * i.size + j - n * i.size = (a - n) * i.size + j by omega]
              exact flatL_get (fun a ha => (w3 a ha).1) _ j (by omega) hj
        · refine hmove (Tn := tOf (flatL (fun a => L1 (p + a)) n ++ flatL L q.n)) (hsome ?_) hjoin
          unfold appOut
          rw [iteB_eq, if_neg (by rw [Bool.and_eq_true]; rintro ⟨_, q2⟩; exact hp0 (Nat.eq_of_beq_eq_true q2))]
          show (ob (getCells Tb (p * b.z) (n * i.size)) fun old => _) = _
          rw [hold]
          show appRes m (n + q.n) (iteB (Nat.beq CU CU) _ _) [k1, k] = _
          rw [iteB_eq, if_pos (Nat.beq_refl _)]
          unfold appRes
          rw [forceN_eq, hjl]
      · have hnb : Nat.beq cp CU = false := by
          cases hq : Nat.beq cp CU with
          | false => rfl
          | true => have := Nat.eq_of_beq_eq_true hq; omega
        have hev2 : evOp P f o m = some ⟨.slice (some ⟨m.next, 0, none⟩) (cp + q.n) CU, .new (.cells (tOf (flatL (fun a => L1 (p + a)) cp ++ flatL L q.n)) ((cp + q.n) * i.size) elem i.size), [k1, k]⟩ := by
          refine hsome ?_
          unfold appOut
          rw [iteB_eq, if_neg (by rw [hnb]; simp)]
          show (ob (getCells Tb (p * b.z) (cp * i.size)) fun old => _) = _
          rw [hold]
          show appRes m (cp + q.n) (iteB (Nat.beq cp CU) _ _) [k1, k] = _
          rw [iteB_eq, if_neg (by rw [hnb]; simp)]
          unfold appRes
          rw [forceN_eq, hjl]
        have hcn := (hc.drop0 ⟨_, hb⟩).new (b := ⟨elem, false, i.size, cp + q.n, fun k => if k < cp then b.g (p + k) else q.g (k - cp)⟩) hn' (newOK_e hn) (Tb := tOf (flatL (fun a => L1 (p + a)) cp ++ flatL L q.n)) (L := fun a => if a < cp then L1 (p + a) else L (a - cp)) (hL2 hjoin)
        exact ⟨_, omSet ω (β, 0) m.next i.size, hev2, omSet_le hω, hcn, hval _, hstep, hfoot2, fun y hy => (by cases hy), fun q => (by cases q), fun _ => ⟨(β, 0), i.size, by simp, omSet_self⟩⟩
    · have hq0 : n = 0 := h00
      subst hq0
      have hcd := hc.drop0 ⟨_, hb⟩
      have hcn := hcd.new (b := ⟨elem, false, i.size, 0 + q.n, fun k => if k < 0 then b.g (p + k) else q.g (k - 0)⟩) hn' (newOK_e hn) (Tb := tOf (flatL L q.n)) (L := L) (fun a ha => by
        have ha : a < 0 + q.n := ha
        simp only
        rw [if_neg (by omega), Nat.sub_zero]
        exact hrow a (by omega))
      refine ⟨_, omSet ω (β, 0) m.next i.size, hnil rfl (by rw [Nat.zero_add] at b1; exact b1) (by omega), omSet_le hω, ?_, ?_, hstep, fun y hy => hfoot (fun z hz => List.mem_cons_of_mem _ hz) hy, fun y hy => (by cases hy), fun q => (by cases q), fun _ => ⟨(β, 0), i.size, by simp, omSet_self⟩⟩
      · have : 0 + q.n = q.n := by omega
        simp only [this] at hcn ⊢
        exact hcn
      · rw [Nat.zero_add]
        exact hval _
end
end Sh
end Go.Proofs.Ytlfojfndkcmfnaa
namespace Go.Proofs.Ytlfojfndkcmfnaa
namespace Sh
open Go Ev

def placeOf (P : Program) : TypeDesc → Option (Nat → Option (Nat × Nat))
  | .struct fs => match placesA P fs.toList with
    | some pl => some fun k => pl[k]?
    | none => none
  | .array _ e => match P.info? e with
    | some j => some fun k => some (k * j.size, j.size)
    | none => none
  | _ => none
def partsOf (place : Nat → Option (Nat × Nat)) (ps : List (Nat × Operand)) : Option (List (Nat × Nat × Operand)) := ps.mapM fun p => (place p.1).map fun q => (q.1, q.2, p.2)
noncomputable def allocOf (P : Program) (t : TypeId) (z : List Value) : TypeDesc → SOp
  | .array n e => match P.info? e with
    | some j => (match zeroA j with
      | some zj => if eqL1 z (repl n zj) then .alloc t n (zj.map ofV) else .alloc t 1 (z.map ofV)
      | none => .alloc t 1 (z.map ofV))
    | none => .alloc t 1 (z.map ofV)
  | _ => .alloc t 1 (z.map ofV)
noncomputable def buildOf (z : List Value) (ps : List (Nat × Operand)) (pl : Nat → Option (Nat × Nat)) : Option SOp := match partsOf pl ps with
  | some qs => some (.build (z.map ofV) qs)
  | none => none
noncomputable def bsliceOf (n e : Nat) (ps : List (Nat × Operand)) (i : TypeInfo) (z : List Value) : Option SOp :=
  if n * i.size ≤ 10000 ∧ n ≤ 10000 then (match partsOf (fun k => some (k * i.size, i.size)) ps with
    | some qs => some (.bslice e i.size n ((repl n z).map ofV) qs)
    | none => none) else none
noncomputable def callOf (P : Program) : Callee → List Operand → List TypeId → Option SOp
  | .value f, xs, _ => some (.call f xs)
  | .builtin .len, [x], [t] => match P.underlying t with
    | some (.slice _) => some (.len x)
    | _ => none
  | .builtin .append, [x, y], [t, u] => if t = u then (match P.underlying t with
    | some (.slice e) => (match P.info? e with
      | some i => if (zeroA i).isSome ∧ i.bytes ≤ 100000000 ∧ i.size ≠ 0 then some (.app e i.size i.bytes x y) else none
      | none => none)
    | _ => none) else none
  | .builtin .max, [x, y], _ => some (.mm true x y)
  | .builtin .min, [x, y], _ => some (.mm false x y)
  | _, _, _ => none
/-- Differences that may wrap: those of the slots of the list. -/
def wideB : BinOp → Operand → Operand → Bool
  | .sub, .tmp k, .const (.int .i64 (.ofNat n)) => Nat.beq n 1 && Nat.beq k 11
  | _, _, _ => false
theorem wideB_sub {op : BinOp} {x y : Operand} (h : wideB op x y = true) : op = .sub := by
  unfold wideB at h
  split at h
  · rfl
  · cases h
noncomputable def binOf (P : Program) (op : BinOp) (t : TypeId) (x y : Operand) : SOp := if wideB op x y = true then .wsub x y else match op, P.underlying t with
  | .eql, some .bool => .beq false x y
  | .neq, some .bool => .beq true x y
  | .eql, some (.struct fa) => (match fsK P 0 fa.toList with
    | some ks => if P.eqGuardType P.depth t = false ∧ P.stoodInHeld t = false then .seq false ks x y else .no
    | none => .no)
  | .neq, some (.struct fa) => (match fsK P 0 fa.toList with
    | some ks => if P.eqGuardType P.depth t = false ∧ P.stoodInHeld t = false then .seq true ks x y else .no
    | none => .no)
  | op, _ => .bin op x y
noncomputable def res (P : Program) : Op → Option SOp
  | .move x => some (.mv x)
  | .assign x => some (.mv x)
  | .pick c a b => some (.pick c a b)
  | .alloc t => (P.info? t).bind fun i => (zeroA i).bind fun z => (P.underlying t).bind fun d => some (allocOf P t z d)
  | .box t x => some (.box t x)
  | .build t parts => (P.info? t).bind fun i => (zeroA i).bind fun z => (P.underlying t).bind fun d => (placeOf P d).bind fun pl => buildOf z parts.toList pl
  | .buildSlice t n parts => (P.underlying t).bind fun
    | .slice e => (P.info? e).bind fun i => (zeroA i).bind fun z => bsliceOf n e parts.toList i z
    | _ => none
  | .load t x => (P.underlying t).bind fun d => (P.info? t).bind fun i => some (.load (isAggD d) i.size x)
  | .store t x y => (P.info? t).bind fun i => some (.store i.size x y)
  | .nilCheck x => some (.nilck x)
  | .fieldAddr t x k => (P.underlying t).bind fun
    | .struct fs => fs[k]?.bind fun fd => (P.info? fd.type).bind fun i => if i.size = 0 then none else some (.faddr fd.offset i.size x)
    | _ => none
  | .field t x k => (P.underlying t).bind fun
    | .struct fs => fs[k]?.bind fun fd => (P.info? fd.type).bind fun i => (P.underlying fd.type).bind fun d => some (.field (isAggD d) fd.offset i.size x)
    | _ => none
  | .indexAddr t x y => (P.underlying t).bind fun
    | .slice e => (P.info? e).bind fun i => some (.idx i.size x y)
    | .array n e => (P.info? e).bind fun i => some (.idxA n i.size x y)
    | _ => none
  | .index t (.const (.string b)) k => (P.underlying t).bind fun
    | .string => some (.stri (b.data.toList.map UInt8.toNat) k)
    | _ => none
  | .extract x k => some (.extract x k)
  | .makeFunc (.func g) a b => some (.mkfn g a.toList b.toList)
  | .makeSlice t x y => (P.underlying t).bind fun
    | .slice e => (P.info? e).bind fun i => (zeroA i).bind fun z => some (.mk e i.size i.bytes (z.map ofV) x y)
    | _ => none
  | .slice t x lo hi none => (P.underlying t).bind fun
    | .slice e => (P.info? e).bind fun i => some (.cut i.size x lo hi)
    | .array n e => (P.info? e).bind fun i => some (.cutA n i.size x lo hi)
    | _ => none
  | .binOp op t x y _ => some (binOf P op t x y)
  | .unOp op _ x => some (.un op x)
  | .convert src dst x => (P.underlying src).bind fun _ => (P.underlying dst).bind fun
    | .int k => some (.conv k x)
    | _ => none
  | .call c => callOf P c.callee c.args.toList c.argTypes.toList
  | _ => none

section
variable {P : Program} {lo : Nat} {F : AM} {ω : Om} {s : SS} {f : Fr} {m : Mem} {o : Oper}

theorem bind_some {α β : Type} {x : Option α} {k : α → Option β} {r : β} (h : x.bind k = some r) : ∃ a, x = some a ∧ k a = some r := by
  cases x with
  | none => cases h
  | some a => exact ⟨a, rfl, h⟩
theorem x_alloc (hc : Conc lo F ω s f m) {t : TypeId} {i : TypeInfo} {z : List Value} {d : TypeDesc} (hop : o.op = .alloc t) (hi : P.info? t = some i) (hz : zeroA i = some z) {r : XR} (hx : xOp s o.dst (allocOf P t z d) = some r) : OpS P lo F ω f m o r := by
  have one : ∀ {r : XR}, xOp s o.dst (.alloc t 1 (z.map ofV)) = some r → OpS P lo F ω f m o r := by
    intro r hx
    simp only [xOp] at hx
    split at hx
    · rename_i β hd
      split at hx
      · rename_i hn
        cases hx
        exact s_alloc hc hop hi hz (n := 1) (zj := z) (by simp [repl_succ, repl_zero]) (zeroA_simple hz).1 hn
      · cases hx
    · cases hx
  unfold allocOf at hx
  split at hx
  · split at hx
    · split at hx
      · rename_i hzj
        split at hx
        · rename_i he
          simp only [xOp] at hx
          split at hx
          · split at hx
            · rename_i hn
              cases hx
              exact s_alloc hc hop hi hz (eqL1_eq he) (zeroA_simple hzj).1 hn
            · cases hx
          · cases hx
        · exact one hx
      · exact one hx
    · exact one hx
  · exact one hx
theorem x_build (hc : Conc lo F ω s f m) {t : TypeId} {parts : Array (Nat × Operand)} {i : TypeInfo} {z : List Value} {d : TypeDesc} {pl : Nat → Option (Nat × Nat)} {sop : SOp} (hop : o.op = .build t parts) (hi : P.info? t = some i) (hz : zeroA i = some z) (hd : P.underlying t = some d) (hp : placeOf P d = some pl)
    (hb : buildOf z parts.toList pl = some sop) {r : XR} (hx : xOp s o.dst sop = some r) : OpS P lo F ω f m o r := by
  unfold buildOf at hb
  split at hb
  · rename_i qs hq
    cases hb
    simp only [xOp] at hx
    split at hx
    · rename_i l hl
      cases hx
      refine s_build hc hop hi hz hd (place := pl) ?_ hq hl
      unfold placeOf at hp
      split at hp
      · split at hp
        · rename_i pl' h1; cases hp; exact .inl ⟨_, pl', rfl, h1, rfl⟩
        · cases hp
      · split at hp
        · rename_i j h1; cases hp; exact .inr ⟨_, _, j, rfl, h1, rfl⟩
        · cases hp
      · cases hp
    · cases hx
  · cases hb
theorem x_bslice (hc : Conc lo F ω s f m) {t e n : Nat} {parts : Array (Nat × Operand)} {i : TypeInfo} {z : List Value} {sop : SOp} (hop : o.op = .buildSlice t n parts) (hd : P.underlying t = some (.slice e)) (hi : P.info? e = some i) (hz : zeroA i = some z)
    (hb : bsliceOf n e parts.toList i z = some sop) {r : XR} (hx : xOp s o.dst sop = some r) : OpS P lo F ω f m o r := by
  unfold bsliceOf at hb
  split at hb
  · rename_i hle
    split at hb
    · rename_i qs hq
      cases hb
      simp only [xOp] at hx
      split at hx
      · rename_i β l hdst hl
        split at hx
        · rename_i hn
          cases hx
          exact s_bslice hc hop hd hi hz hle.1 hle.2 hq hl hn
        · cases hx
      · cases hx
    · cases hb
  · cases hb
theorem x_app (hc : Conc lo F ω s f m) {t e : Nat} {x y : Operand} {i : TypeInfo} (hop : o.op = .call { callee := .builtin .append, args := #[x, y], argTypes := #[t, t] }) (hd : P.underlying t = some (.slice e)) (hi : P.info? e = some i) (hz : (zeroA i).isSome ∧ i.bytes ≤ 100000000 ∧ i.size ≠ 0)
    {r : XR} (hx : xOp s o.dst (.app e i.size i.bytes x y) = some r) (hr : r.c) : OpS P lo F ω f m o r := by
  obtain ⟨zv, hzv⟩ := Option.isSome_iff_exists.1 hz.1
  simp only [xOp] at hx
  split at hx
  · rename_i β v w hdst hv hw
    split at hx
    · rename_i q hq
      split at hx
      · rename_i hn
        split at hx
        · rename_i hq0
          split at hx
          · cases hx
            exact s_app0 hc hop hd hi hzv hz.2.1 hv hw hq hq0 (.inl rfl)
          · cases hx
            obtain ⟨c1, c2, c3⟩ := hr
            exact s_app0 hc hop hd hi hzv hz.2.1 hv hw hq hq0 (.inr ⟨_, _, _, rfl, c2, c3⟩)
          · cases hx
        split at hx
        · cases hx
          obtain ⟨c1, c2, c3, c4⟩ := hr
          exact s_app hc hop hd hi hzv hz.2.1 hz.2.2 hv hw hq c1 hn c2 (.inl ⟨rfl, c3, c4, rfl⟩)
        · rename_i γ p n
          split at hx
          · rename_i b hb
            split at hx
            · rename_i hbb
              cases hx
              obtain ⟨c1, c2, c3, c4, c5⟩ := hr
              exact s_app hc hop hd hi hzv hz.2.1 hz.2.2 hv hw hq c1 hn c3 (.inr ⟨γ, p, n, b, rfl, hb, hbb.1, hbb.2.1, hbb.2.2, c2, c4, c5, rfl⟩)
            · cases hx
          · cases hx
        · cases hx
      · cases hx
    · cases hx
  · cases hx
theorem arr2 {x y : Operand} {a : Array Operand} (h : a.toList = [x, y]) : a = #[x, y] := by apply Array.toList_inj.1; simpa using h
theorem x_call (hc : Conc lo F ω s f m) {cl : Callee} {args : Array Operand} {ats : Array TypeId} {sop : SOp} (hop : o.op = .call { callee := cl, args := args, argTypes := ats }) (hb : callOf P cl args.toList ats.toList = some sop) {r : XR} (hx : xOp s o.dst sop = some r) (hr : r.c) : OpS P lo F ω f m o r := by
  unfold callOf at hb
  split at hb
  · cases hb; simp only [xOp] at hx; cases hx
  · rename_i x t ha ht
    have e1 : args = #[x] := by apply Array.toList_inj.1; simpa using ha
    have e2 : ats = #[t] := by apply Array.toList_inj.1; simpa using ht
    subst e1 e2
    split at hb
    · rename_i hd
      cases hb
      simp only [xOp] at hx
      split at hx
      · rename_i h; cases hx; exact s_len hc hop hd h (.inl ⟨_, _, rfl⟩)
      · rename_i h; cases hx; exact s_len hc hop hd h (.inr (.inl ⟨_, _, _, rfl⟩))
      · rename_i h; cases hx; exact s_len hc hop hd h (n := 0) (.inr (.inr ⟨rfl, rfl⟩))
      · cases hx
    · cases hb
  · rename_i x y t u ha ht
    have e1 := arr2 ha
    have e2 : ats = #[t, u] := by apply Array.toList_inj.1; simpa using ht
    subst e1 e2
    split at hb
    · rename_i htu
      subst htu
      split at hb
      · rename_i hd
        split at hb
        · rename_i hi
          split at hb
          · rename_i hz
            cases hb
            exact x_app hc hop hd hi hz hx hr
          · cases hb
        · cases hb
      · cases hb
    · cases hb
  · rename_i x y ha
    have e1 := arr2 ha
    subst e1
    cases hb
    simp only [xOp] at hx
    split at hx
    · rename_i h1 h2
      split at hx
      · rename_i hk; subst hk; cases hx
        exact s_mm hc (mx := true) hop h1 h2
      · cases hx
    · cases hx
  · rename_i x y ha
    have e1 := arr2 ha
    subst e1
    cases hb
    simp only [xOp] at hx
    split at hx
    · rename_i h1 h2
      split at hx
      · rename_i hk; subst hk; cases hx
        exact s_mm hc (mx := false) hop h1 h2
      · cases hx
    · cases hx
  · cases hb

theorem xOp_sound (hc : Conc lo F ω s f m) {sop : SOp} (hres : res P o.op = some sop) {r : XR} (hx : xOp s o.dst sop = some r) (hr : r.c) : OpS P lo F ω f m o r := by
  unfold res at hres
  split at hres
  · rename_i hop; cases hres; simp only [xOp] at hx
    split at hx
    · rename_i h; cases hx; exact s_mv hc (.inl hop) h
    · cases hx
  · rename_i hop; cases hres; simp only [xOp] at hx
    split at hx
    · rename_i h; cases hx; exact s_mv hc (.inr hop) h
    · cases hx
  · rename_i hop; cases hres; simp only [xOp] at hx
    split at hx
    · rename_i h
      split at hx
      · rename_i h2; cases hx; exact s_pick hc hop h h2
      · cases hx
    · cases hx
  · rename_i hop
    obtain ⟨i, h1, hres⟩ := bind_some hres
    obtain ⟨z, h2, hres⟩ := bind_some hres
    obtain ⟨d, h3, hres⟩ := bind_some hres
    cases hres
    exact x_alloc hc hop h1 h2 hx
  · rename_i hop; cases hres; simp only [xOp] at hx
    split at hx
    · rename_i h1 h2
      split at hx
      · rename_i h3; cases hx; exact s_box hc hop h2 h3.1 h3.2
      · cases hx
    · cases hx
  · rename_i hop
    obtain ⟨i, h1, hres⟩ := bind_some hres
    obtain ⟨z, h2, hres⟩ := bind_some hres
    obtain ⟨d, h3, hres⟩ := bind_some hres
    obtain ⟨pl, h4, hres⟩ := bind_some hres
    exact x_build hc hop h1 h2 h3 h4 hres hx
  · rename_i hop
    obtain ⟨d, h1, hres⟩ := bind_some hres
    split at hres
    · obtain ⟨i, h2, hres⟩ := bind_some hres
      obtain ⟨z, h3, hres⟩ := bind_some hres
      exact x_bslice hc hop h1 h2 h3 hres hx
    · cases hres
  · rename_i hop
    obtain ⟨d, h1, hres⟩ := bind_some hres
    obtain ⟨i, h2, hres⟩ := bind_some hres
    cases hres; simp only [xOp] at hx
    split at hx
    · rename_i h; exact s_load hc hop h1 h2 h hx hr
    · cases hx
  · rename_i hop
    obtain ⟨i, h2, hres⟩ := bind_some hres
    cases hres; simp only [xOp] at hx
    split at hx
    · rename_i h h'; exact s_store hc hop h2 h h' hx hr
    · cases hx
  · rename_i hop; cases hres; simp only [xOp] at hx
    split at hx
    · rename_i h; cases hx; exact s_nilck hc hop h (.inl ⟨_, rfl⟩)
    · rename_i h; cases hx; exact s_nilck hc hop h (.inr ⟨_, _, _, rfl⟩)
    · cases hx
  · rename_i hop
    obtain ⟨d, h1, hres⟩ := bind_some hres
    split at hres
    · obtain ⟨fd, h2, hres⟩ := bind_some hres
      obtain ⟨i, h3, hres⟩ := bind_some hres
      split at hres
      · cases hres
      · rename_i h0
        cases hres; simp only [xOp] at hx
        split at hx
        · rename_i h
          split at hx
          · rename_i hl; cases hx; exact s_faddr hc hop h1 h2 h3 h0 h (.inl ⟨_, rfl, hl, rfl⟩)
          · cases hx
        · rename_i h; cases hx; exact s_faddr hc hop h1 h2 h3 h0 h (.inr ⟨_, _, _, rfl, rfl⟩)
        · cases hx
    · cases hres
  · rename_i hop
    obtain ⟨d, h1, hres⟩ := bind_some hres
    split at hres
    · obtain ⟨fd, h2, hres⟩ := bind_some hres
      obtain ⟨i, h3, hres⟩ := bind_some hres
      obtain ⟨d', h4, hres⟩ := bind_some hres
      cases hres; simp only [xOp] at hx
      split at hx
      · rename_i h
        split at hx
        · rename_i hl; cases hx; exact s_field hc hop h1 h2 h3 h4 h hl
        · cases hx
      · cases hx
    · cases hres
  · rename_i hop
    obtain ⟨d, h1, hres⟩ := bind_some hres
    split at hres
    · obtain ⟨i, h2, hres⟩ := bind_some hres
      cases hres; simp only [xOp] at hx
      split at hx
      · rename_i h h'; exact s_idx hc hop h1 h2 h h' hx hr
      · cases hx
    · obtain ⟨i, h2, hres⟩ := bind_some hres
      cases hres; simp only [xOp] at hx
      split at hx
      · rename_i h h'
        split at hx
        · rename_i b hb
          split at hx
          · rename_i hbb; cases hx; exact s_idxA hc hop h1 h2 h h' hr (.inl ⟨_, b, _, _, rfl, hb, hbb, rfl⟩)
          · cases hx; exact s_idxA hc hop h1 h2 h h' hr (.inr (.inl ⟨_, _, _, rfl, rfl⟩))
        · cases hx
      · rename_i h h'; cases hx; exact s_idxA hc hop h1 h2 h h' ⟨hr.1, hr.2.1⟩ (.inr (.inr ⟨_, rfl, hr.2.2, rfl⟩))
      · cases hx
    · cases hres
  · rename_i hop
    obtain ⟨d, h1, hres⟩ := bind_some hres
    split at hres
    · cases hres; simp only [xOp] at hx
      split at hx
      · rename_i h; cases hx; exact s_stri hc hop h1 h hr
      · cases hx
    · cases hres
  · rename_i hop; cases hres; simp only [xOp] at hx
    split at hx
    · rename_i h
      split at hx
      · rename_i h2; cases hx; exact s_extract hc hop h h2
      · cases hx
    · cases hx
  · rename_i hop; cases hres; simp only [xOp] at hx
    split at hx
    · rename_i h h'; cases hx; exact s_mkfn hc hop h h'
    · cases hx
  · rename_i hop
    obtain ⟨d, h1, hres⟩ := bind_some hres
    split at hres
    · obtain ⟨i, h2, hres⟩ := bind_some hres
      obtain ⟨z, h3, hres⟩ := bind_some hres
      cases hres; simp only [xOp] at hx
      split at hx
      · rename_i β k n k' n' hd h h'
        split at hx
        · rename_i hn; cases hx
          obtain ⟨rfl, c1, c2, c3⟩ := hr
          exact s_mk hc hop h1 h2 h3 h h' c1 c2 c3 hn
        · cases hx
      · cases hx
    · cases hres
  · rename_i hop
    obtain ⟨d, h1, hres⟩ := bind_some hres
    split at hres
    · obtain ⟨i, h2, hres⟩ := bind_some hres
      cases hres; simp only [xOp] at hx
      split at hx
      · rename_i h
        split at hx
        · rename_i h3 h4
          split at hx
          · rename_i hz; subst hz; cases hx; exact s_cut hc hop h1 h2 h (.inl ⟨_, _, rfl, h3, h4, hr, rfl⟩)
          · cases hx
        · cases hx
      · rename_i h
        split at hx
        · rename_i h3 h4 h5
          split at hx
          · rename_i hz; cases hx; exact s_cut hc hop h1 h2 h (.inr ⟨_, _, _, _, _, rfl, h5, hz.1, hz.2, h3, h4, hr, rfl⟩)
          · cases hx
        · cases hx
      · cases hx
    · obtain ⟨i, h2, hres⟩ := bind_some hres
      cases hres; simp only [xOp] at hx
      split at hx
      · rename_i h
        split at hx
        · rename_i h3 h4 h5
          split at hx
          · rename_i hz; cases hx; exact s_cutA hc hop h1 h2 h h5 hz.2.1 hz.2.2 h3 h4 hr
          · cases hx
        · cases hx
      · cases hx
    · cases hres
  · rename_i op t x y yt hop
    replace hres := Option.some.inj hres
    have plain : sop = .bin op x y → OpS P lo F ω f m o r := by
      rintro rfl
      simp only [xOp] at hx
      split at hx
      · rename_i h h'
        unfold pureX at hx
        split at hx
        · rename_i h2; cases hx; exact s_bin hc hop h h' h2 hr
        · cases hx
      · cases hx
    unfold binOf at hres
    split at hres
    · rename_i hw
      cases wideB_sub hw
      subst hres
      simp only [xOp] at hx
      split at hx
      · rename_i h1 h2
        split at hx
        · rename_i hk; subst hk; cases hx; exact s_wsub hc hop h1 h2
        · cases hx
      · cases hx
    rename_i hnw
    clear hnw
    split at hres
    · rename_i ht
      subst hres
      simp only [xOp] at hx
      split at hx
      · rename_i h1 h2; cases hx; exact s_beq hc (ne := false) hop ht h1 h2
      · cases hx
    · rename_i ht
      subst hres
      simp only [xOp] at hx
      split at hx
      · rename_i h1 h2; cases hx; exact s_beq hc (ne := true) hop ht h1 h2
      · cases hx
    · rename_i ht
      split at hres
      · rename_i hk
        split at hres
        · rename_i hg
          subst hres
          simp only [xOp] at hx
          split at hx
          · rename_i h1 h2
            split at hx
            · rename_i h3; cases hx; exact s_seq hc (ne := false) hop ht hk hg.1 hg.2 h1 h2 h3
            · cases hx
          · cases hx
        · subst hres; cases hx
      · subst hres; cases hx
    · rename_i ht
      split at hres
      · rename_i hk
        split at hres
        · rename_i hg
          subst hres
          simp only [xOp] at hx
          split at hx
          · rename_i h1 h2
            split at hx
            · rename_i h3; cases hx; exact s_seq hc (ne := true) hop ht hk hg.1 hg.2 h1 h2 h3
            · cases hx
          · cases hx
        · subst hres; cases hx
      · subst hres; cases hx
    · exact plain hres.symm
  · rename_i hop; cases hres; simp only [xOp] at hx
    split at hx
    · rename_i h
      unfold pureX at hx
      split at hx
      · rename_i h2; cases hx; exact s_un hc hop h h2 hr
      · cases hx
    · cases hx
  · rename_i hop
    obtain ⟨d, h1, hres⟩ := bind_some hres
    obtain ⟨d', h2, hres⟩ := bind_some hres
    split at hres
    · cases hres; simp only [xOp] at hx
      split at hx
      · rename_i h; cases hx; exact s_conv hc hop h1 h2 h
      · cases hx
    · cases hres
  · rename_i c hop
    obtain ⟨cl, args, ats⟩ := c
    exact x_call hc hop hres hx hr
  · cases hres
end
end Sh
end Go.Proofs.Ytlfojfndkcmfnaa
