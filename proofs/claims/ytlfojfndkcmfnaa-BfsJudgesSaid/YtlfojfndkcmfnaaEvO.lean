/- Regions that draw their order: the evaluator's word holds. -/
import Derived.Test.YtlfojfndkcmfnaaEvN
namespace Go.Proofs.Ytlfojfndkcmfnaa
namespace Ev
open Go

section
variable {P : Program} {self : Task → Option Out}

/-- What an operation needs to know. -/
def needs (m : Mem) (r : R2) (i : Nat) : Prop := match r.foot with
  | none => ∃ b, m.b.get i = some b
  | some ft => i ∈ ft
/-- Two operations that may change places, in what they do. -/
structure Sep (m : Mem) (r : R2) (m' : Mem) (r' : R2) : Prop where
  s1 : ∀ i, needs m r i → touchB m' r' i = false
  s2 : ∀ i, needs m' r' i → touchB m r i = false
  s3 : ∀ i, touchB m' r' i = true → touchB m r i = false

theorem touch_none {m : Mem} {r : R2} (h1 : r.mods = some []) (h2 : m.next = r.m.next) (i : Nat) : touchB m r i = false := by
  cases h : touchB m r i with
  | false => rfl
  | true =>
    rcases touch_true h with t | ⟨t, _⟩ | ⟨l, t1, t2⟩
    · omega
    · rw [h1] at t; cases t
    · rw [h1] at t1; cases t1; cases t2
theorem idle_facts {r : R2} {lo hi : Nat} (h : Ev.idle r lo hi = true) : r.foot = some [] ∧ r.mods = some [] ∧ lo = hi := by
  unfold Ev.idle at h
  split at h
  · rename_i h1 h2; exact ⟨h1, h2, Nat.eq_of_beq_eq_true h⟩
  · cases h
theorem before1_facts {a b : Rec} (h : before1 a b = true) : ∃ ms, b.mods = some ms ∧ ((a.foot = none ∧ ms = [] ∧ b.lo = b.hi) ∨ ∃ fs, a.foot = some fs ∧ ∀ x ∈ fs, x ∉ ms ∧ ¬ (b.lo ≤ x ∧ x < b.hi)) := by
  unfold before1 at h
  split at h
  · cases h
  · rename_i ms hms
    refine ⟨ms, hms, ?_⟩
    split at h
    · rename_i hf
      simp only [Bool.and_eq_true] at h
      exact .inl ⟨hf, by simpa using h.1, Nat.eq_of_beq_eq_true h.2⟩
    · rename_i fs hf
      refine .inr ⟨fs, hf, fun x hx => ?_⟩
      have := List.all_eq_true.1 h x hx
      simp only [Bool.and_eq_true, Bool.not_eq_true', Bool.and_eq_false_iff] at this
      refine ⟨by simpa using this.1, fun q => ?_⟩
      rcases this.2 with t | t
      · rw [Nat.ble_eq_true_of_le q.1] at t; cases t
      · rw [show Nat.blt x b.hi = true from Nat.ble_eq_true_of_le q.2] at t; cases t
/-- From the evaluator's test. -/
theorem before1_sep {i j : Nat} {e q : Ent} (h : before1 (e.rec' i) (q.rec' j) = true) : ∀ k, needs e.m e.r k → touchB q.m q.r k = false := by
  intro k hk
  obtain ⟨ms, h1, h2⟩ := before1_facts h
  have h1 : q.r.mods = some ms := h1
  rcases h2 with ⟨h2, h3, h4⟩ | ⟨fs, h2, h3⟩
  · subst h3; exact touch_none h1 h4 k
  · have h2 : e.r.foot = some fs := h2
    unfold needs at hk
    rw [h2] at hk
    obtain ⟨t1, t2⟩ := h3 k hk
    cases ht : touchB q.m q.r k with
    | false => rfl
    | true =>
      rcases touch_true ht with t | ⟨t, _⟩ | ⟨l, t3, t4⟩
      · exact absurd t t2
      · rw [h1] at t; cases t
      · rw [h1] at t3; cases t3; exact absurd t4 t1

theorem mods_needed {f : Fr} {o : Oper} {m : Mem} {r : R2} (h : evOne P self f o m = some r) {l : List Nat} (hl : r.mods = some l) {i : Nat} (hi : i ∈ l) : needs m r i := by
  rcases evOne_cases h with ⟨r0, h1, rfl⟩ | ⟨fx, args, ats, g, first, captured, vs, v, m', hop, hg, hvs, hs, rfl⟩
  · cases hl; exact (evOp_eff h1 i hi).1
  · rw [iteB_eq] at hl
    split at hl
    · cases hl; cases hi
    · cases hl

theorem mods_low {f : Fr} {o : Oper} {m : Mem} {r : R2} (h : evOne P self f o m = some r) {l : List Nat} (hl : r.mods = some l) {i : Nat} (hi : i ∈ l) : r.m.low ≤ i := by
  rcases evOne_cases h with ⟨r0, h1, rfl⟩ | ⟨fx, args, ats, g, first, captured, vs, v, m', hop, hg, hvs, hs, rfl⟩
  · cases hl; exact (app_low m r0.e).2 i hi
  · rw [iteB_eq] at hl
    split at hl
    · cases hl; cases hi
    · cases hl

theorem draw_sound (hself : SelfOk P self) (hmix : P.follows .mixedOrders = true) {ops : Array Oper} {f : Fr} {m : Mem} {x : FM} (hslots : slotsOk ops.toList (ancs ops.toList []).reverse = true)
    (h : evDraw P self ops.toList ops.toList 0 (ancs ops.toList []).reverse [] f m = some x) (hw : Wf m) :
    Grow m x.m ∧ ∀ (id : Nat) φ M w a Q, Rel φ M w → Sub m M → FrR φ f a → Fresh φ m.next x.m.next → (∀ a' w' φ' M', Good φ M w m x.m φ' M' w' → FrR φ' x.f a' → Q .normal a' w') → (Code.region id ops true).wp P Q a w := by
  obtain ⟨es, htr, _, hap⟩ := evDraw_trace h
  obtain ⟨F, G, hF0, hG0, hFn, hGn, hst⟩ := htr.run
  simp only [Array.length_toList] at hFn hGn
  have hon : ∀ i o, ops[i]? = some o → ∀ e ∈ o.after.toList, Region.binds .any e = true → e.on < i := fun i o ho => slots_edges hslots (by simpa using ho)
  -- the run by numbers
  let R : Nat → R2 := fun k => match es[k]? with | some e => e.r | none => ⟨undef, x.m, some [], some []⟩
  have hent : ∀ k o, ops[k]? = some o → ∃ e, es[k]? = some e ∧ EntOk P self ops.toList o e ∧ e.f = F k ∧ e.m = G k ∧ R k = e.r ∧ (R k).m = G (k + 1) ∧ (F k).put o.dst (R k).v = some (F (k + 1)) := by
    intro k o ho
    obtain ⟨e, h1, h2, h3, h4, h5, h6⟩ := hst k o (by simpa using ho)
    have hR : R k = e.r := by show (match es[k]? with | some e => e.r | none => _) = _; rw [h1]
    exact ⟨e, h1, h2, h3, h4, hR, by rw [hR]; exact h5, by rw [hR, ← h3]; exact h6⟩
  have hop : ∀ k, k < ops.size → ops[k]? = some ops[k]! := fun k hk => by rw [Array.getElem?_eq_getElem hk]; simp [hk]
  have pure1 : ∀ k, k < ops.size → Wf (G k) → OnePure (G k) (R k) := by
    intro k hk hwk
    obtain ⟨e, h1, h2, h3, h4, h5, h6, h7⟩ := hent k _ (hop k hk)
    cases hwt : e.w with
    | true => rw [h5, ← h4]; rw [← h4] at hwk; exact evOne_pure hself (h2.2.1 hwt) hwk
    | false =>
      have := h2.2.2 hwt
      rw [h5, this, h4]
      exact ⟨Ext.refl hwk, Nat.le_refl _, fun i b _ hb => hb, fun l hl i hi => by cases hl; cases hi⟩
  have wfs : ∀ k, k ≤ ops.size → Wf (G k) := by
    intro k
    induction k with
    | zero => intro _; rw [hG0]; exact hw
    | succ k ih =>
      intro hk
      have := pure1 k hk (ih (by omega))
      obtain ⟨e, h1, h2, h3, h4, h5, h6, h7⟩ := hent k _ (hop k hk)
      rw [← h6]; exact this.ext.wf
  have pure2 : ∀ k, k < ops.size → OnePure (G k) (R k) := fun k hk => pure1 k hk (wfs k (by omega))
  have hRm : ∀ k, k < ops.size → (R k).m = G (k + 1) := fun k hk => (hent k _ (hop k hk)).choose_spec.2.2.2.2.2.1
  have grows : ∀ k q, q ≤ k → k ≤ ops.size → Grow (G q) (G k) := by
    intro k
    induction k with
    | zero => intro q hq hk; obtain rfl : q = 0 := by omega
              exact Grow.refl (wfs 0 hk)
    | succ k ih =>
      intro q hq hk
      rcases Nat.lt_or_ge q (k + 1) with hlt | hge
      · refine (ih q (by omega) (by omega)).trans ?_
        have := pure2 k hk
        rw [← hRm k hk]
        exact ⟨this.ext, this.low⟩
      · obtain rfl : q = k + 1 := by omega
        exact Grow.refl (wfs _ hk)
  have hgrow : Grow m x.m := by rw [← hG0, ← hGn]; exact grows _ 0 (by omega) (Nat.le_refl _)
  -- what may change places
  have sep : ∀ q k, q < k → k < ops.size → anc ops.toList k q ∨ Sep (G k) (R k) (G q) (R q) := by
    intro q k hqk hk
    obtain ⟨e, h1, h2, h3, h4, h5, h6, h7⟩ := hent k _ (hop k hk)
    obtain ⟨d, g1, g2, g3, g4, g5, g6, g7⟩ := hent q _ (hop q (by omega))
    rcases hap k q e d hqk h1 g1 with hb | hb
    · left; simpa [anc, anL] using hb
    right
    rw [h5, g5, ← h4, ← g4]
    unfold Ap at hb
    rcases hb with hb | hb | hb
    · obtain ⟨i1, i2, i3⟩ := idle_facts hb
      exact ⟨fun i hn => (by unfold needs at hn; rw [i1] at hn; exact absurd hn (by simp)), fun i _ => touch_none i2 i3 i, fun i _ => touch_none i2 i3 i⟩
    · obtain ⟨i1, i2, i3⟩ := idle_facts hb
      exact ⟨fun i _ => touch_none i2 i3 i, fun i hn => (by unfold needs at hn; rw [i1] at hn; exact absurd hn (by simp)), fun i ht => (by rw [touch_none i2 i3 i] at ht; cases ht)⟩
    · unfold apart2 at hb
      simp only [Bool.and_eq_true] at hb
      obtain ⟨⟨b1, b2⟩, b3⟩ := hb
      have s1 := before1_sep b1
      have s2 := before1_sep b2
      refine ⟨s1, s2, fun i ht => ?_⟩
      obtain ⟨mq, q1, _⟩ := before1_facts b1
      obtain ⟨mk, k1, _⟩ := before1_facts b2
      have q1 : d.r.mods = some mq := q1
      have k1 : e.r.mods = some mk := k1
      cases hte : touchB e.m e.r i with
      | false => rfl
      | true =>
        exfalso
        have hpq := pure2 q (by omega)
        have hgr := grows k (q + 1) (by omega) (by omega)
        have hn1 : d.r.m.next ≤ e.m.next := by rw [← g5, g6, h4]; exact hgr.ext.next
        have hnq : d.m.next ≤ d.r.m.next := by have := hpq.ext.next; rw [g5, ← g4] at this; exact this
        rcases touch_true hte with t | ⟨t, _⟩ | ⟨l, t1, t2⟩
        · rcases touch_true ht with u | ⟨u, _⟩ | ⟨l', u1, u2⟩
          · omega
          · rw [q1] at u; cases u
          · obtain ⟨b, hb⟩ := hpq.mods l' (by rw [g5]; exact u1) i u2
            have := wfs q (by omega) i b hb
            rw [← g4] at this
            omega
        · rw [k1] at t; cases t
        · have hwt : e.w = true := by
            cases hwt : e.w with
            | true => rfl
            | false => have := h2.2.2 hwt; rw [this] at t1; cases t1; cases t2
          have := s1 i (mods_needed (h2.2.1 hwt) t1 t2)
          rw [this] at ht; cases ht
  have hdst : ∀ q k, q < k → k < ops.size → anc ops.toList k q ∨ dstApart ops.toList ops[k]! ops[q]! = true := by
    intro q k hqk hk
    have h1 := hop k hk
    have h2 := hop q (by omega)
    rcases slots_apart hslots (i := k) (j := q) (by simpa using h1) (by simpa using h2) hqk with hb | hb
    · left; simpa [anc, anL] using hb
    · exact .inr hb
  refine ⟨hgrow, fun id φ M w a Q hR hs hf hfr hQ => wp_region_any hmix ?_⟩
  -- what the memory and the slots hold behind some operations
  let EM : List Nat → AM := fun s i => last (fun j => touchB (G j) (R j) i) (fun j => (R j).m.b.get i) (M i) s
  let ES : List Nat → Nat → Option Value := fun s t => last (fun j => decide ((ops[j]!).dst = some t)) (fun j => some (R j).v) (f.t.get t) s
  have EM_snoc : ∀ s j, EM (s ++ [j]) = tM (G j) (R j) (EM s) := fun s j => by
    funext i
    exact last_snoc _ _ _ s j
  have ES_snoc : ∀ s j t, ES (s ++ [j]) t = if decide ((ops[j]!).dst = some t) = true then some (R j).v else ES s t := fun s j t => last_snoc _ _ _ s j
  -- in the order of the text
  have EM_seq : ∀ k, k ≤ ops.size → ∀ i b, (G k).b.get i = some b → EM (List.range k) i = some b := by
    intro k
    induction k with
    | zero => intro _ i b hb; rw [hG0] at hb; exact hs i b hb
    | succ k ih =>
      intro hk i b hb
      rw [List.range_succ, EM_snoc]
      rw [← hRm k hk] at hb
      unfold tM
      split
      · exact hb
      · rename_i ht
        exact ih (by omega) i b ((pure2 k hk).same i b (by simpa using ht) hb)
  have ES_seq : ∀ k, k ≤ ops.size → ∀ t v, (F k).t.get t = some v → ES (List.range k) t = some v := by
    intro k
    induction k with
    | zero => intro _ t v hv; rw [hF0] at hv; exact hv
    | succ k ih =>
      intro hk t v hv
      rw [List.range_succ, ES_snoc]
      obtain ⟨e, h1, h2, h3, h4, h5, h6, h7⟩ := hent k _ (hop k hk)
      rcases put_some h7 with ⟨q1, q2⟩ | ⟨d, q1, q2, q3, q4⟩
      · rw [q2] at hv
        rw [q1, if_neg (by simp)]
        exact ih (by omega) t v hv
      · rw [q4] at hv
        have := T.get_set _ _ _ _ _ _ hv
        rw [q1]
        by_cases hd : t = d
        · subst hd
          rw [if_pos rfl] at this
          rw [if_pos (by simp)]
          exact this
        · rw [if_neg hd] at this
          rw [if_neg (by simp; exact fun q => hd q.symm)]
          exact ih (by omega) t v this
  -- agreement, whatever the order
  have ordM : ∀ i q k, q < k → k < ops.size → touchB (G q) (R q) i = true → touchB (G k) (R k) i = true → anc ops.toList k q := by
    intro i q k hqk hk h1 h2
    rcases sep q k hqk hk with h | h
    · exact h
    · rw [h.s3 i h1] at h2; cases h2
  have ordS : ∀ t q k, q < k → k < ops.size → decide ((ops[q]!).dst = some t) = true → decide ((ops[k]!).dst = some t) = true → anc ops.toList k q := by
    intro t q k hqk hk h1 h2
    rcases hdst q k hqk hk with h | h
    · exact h
    · simp only [decide_eq_true_eq] at h1 h2
      unfold dstApart at h
      rw [h1, h2] at h
      simp [tmpsOf, h2, h1] at h
  have agreeM : ∀ (s : List Nat) (j i : Nat), Ord ops s → j < ops.size → j ∉ s → (∀ e ∈ (ops[j]!).after.toList, Region.binds .any e = true → e.on ∈ s) → needs (G j) (R j) i → EM s i = EM (List.range j) i := by
    intro s j i ho hj hjs hje hn
    show last _ _ _ s = last _ _ _ (List.range j)
    rw [last_filter, last_filter _ _ (List.range j)]
    rw [filter_eq ho (ordM i) (fun q hq ht => ?_) (fun q hq ht => ?_)]
    · rcases Nat.lt_trichotomy q j with hlt | rfl | hgt
      · exact hlt
      · exact absurd hq hjs
      · rcases sep j q hgt (ho.lt q hq) with h | h
        · exact absurd (closedAnc hon ho q hq j h) hjs
        · rw [h.s2 i hn] at ht; cases ht
    · rcases sep q j hq hj with h | h
      · exact anc_done hon ho (hop j hj) hje h
      · rw [h.s1 i hn] at ht; cases ht
  have agreeS : ∀ (s : List Nat) (j t : Nat), Ord ops s → j < ops.size → j ∉ s → (∀ e ∈ (ops[j]!).after.toList, Region.binds .any e = true → e.on ∈ s) → t ∈ tmpsOf ops.toList ops[j]! → ES s t = ES (List.range j) t := by
    intro s j t ho hj hjs hje hn
    show last _ _ _ s = last _ _ _ (List.range j)
    rw [last_filter, last_filter _ _ (List.range j)]
    rw [filter_eq ho (ordS t) (fun q hq ht => ?_) (fun q hq ht => ?_)]
    · simp only [decide_eq_true_eq] at ht
      rcases Nat.lt_trichotomy q j with hlt | rfl | hgt
      · exact hlt
      · exact absurd hq hjs
      · rcases hdst j q hgt (ho.lt q hq) with h | h
        · exact absurd (closedAnc hon ho q hq j h) hjs
        · unfold dstApart at h
          rw [ht] at h
          simp only [Bool.and_eq_true, Bool.not_eq_true'] at h
          have := h.1
          simp at this
          exact absurd hn this
    · simp only [decide_eq_true_eq] at ht
      rcases hdst q j hq hj with h | h
      · exact anc_done hon ho (hop j hj) hje h
      · unfold dstApart at h
        rw [ht] at h
        simp only [Bool.and_eq_true, Bool.not_eq_true'] at h
        have := h.2
        simp at this
        exact absurd hn this
  have allM : ∀ (s : List Nat), Ord ops s → (∀ q, q < ops.size → q ∈ s) → (∀ i, EM s i = EM (List.range ops.size) i) ∧ ∀ t, ES s t = ES (List.range ops.size) t := by
    intro s ho hall
    refine ⟨fun i => ?_, fun t => ?_⟩
    · show last _ _ _ s = last _ _ _ (List.range ops.size)
      rw [last_filter, last_filter _ _ (List.range ops.size)]
      rw [filter_eq ho (ordM i) (fun q hq _ => ho.lt q hq) (fun q hq _ => hall q hq)]
    · show last _ _ _ s = last _ _ _ (List.range ops.size)
      rw [last_filter, last_filter _ _ (List.range ops.size)]
      rw [filter_eq ho (ordS t) (fun q hq _ => ho.lt q hq) (fun q hq _ => hall q hq)]
  -- the end
  have finish : ∀ (s : List Nat) (φ' : Phi) (a' : Act) (w' : World), Ord ops s → (∀ q, q < ops.size → q ∈ s) → Rel φ' (EM s) w' → φ.le φ' → (∀ i, ¬ (m.next ≤ i ∧ i < x.m.next) → φ' i = φ i) → a'.tmps.size = f.n → a'.defers = [] →
      (∀ t v, ES s t = some v → VR φ' v (a'.tmps.getD t undef)) → WG φ M w φ' (EM s) w' → Q .normal a' w' := by
    intro s φ' a' w' ho hall hrel hle hout hsz hdf hsl hwg
    obtain ⟨e1, e2⟩ := allM s ho hall
    have hfn : ∀ k, k ≤ ops.size → (F k).n = f.n := by
      intro k
      induction k with
      | zero => intro _; rw [hF0]
      | succ k ih =>
        intro hk
        obtain ⟨e, h1, h2, h3, h4, h5, h6, h7⟩ := hent k _ (hop k hk)
        rcases put_some h7 with ⟨q1, q2⟩ | ⟨d, q1, q2, q3, q4⟩
        · rw [q2]; exact ih (by omega)
        · rw [q3]; exact ih (by omega)
    refine hQ a' w' φ' (EM s) ⟨hle, hout, hrel, fun i b hb => ?_, fun i hi hn => ?_, hwg⟩ ⟨by rw [hsz, ← hFn, hfn _ (Nat.le_refl _)], hdf, fun t v hv => ?_⟩
    · rw [e1 i]; rw [← hGn] at hb; exact EM_seq _ (Nat.le_refl _) i b hb
    · refine last_none _ _ s (M i) fun j hj => ?_
      have hjn := ho.lt j hj
      cases ht : touchB (G j) (R j) i with
      | false => rfl
      | true =>
        exfalso
        have g1 := grows j 0 (by omega) (by omega)
        have g2 := grows ops.size (j + 1) (by omega) (Nat.le_refl _)
        rw [hG0] at g1
        rw [hGn] at g2
        rw [← hRm j hjn] at g2
        have hold : (∃ b, (G j).b.get i = some b) → (R j).m.low ≤ i → False := by
          rintro ⟨b, hb⟩ hlow
          rcases g1.ext.dom i b hb with ⟨b0, h0⟩ | h0
          · rcases hn with hn | hn
            · rw [hn] at h0; cases h0
            · have := g2.low; omega
          · have := (pure2 j hjn).ext.next
            have := g2.ext.next
            exact hi ⟨h0.1, by omega⟩
        rcases touch_true ht with t | ⟨_, t1, t2⟩ | ⟨l, t1, t2⟩
        · have := g1.ext.next
          have := g2.ext.next
          exact hi ⟨by omega, by omega⟩
        · exact hold t1 t2
        · obtain ⟨b, hb⟩ := (pure2 j hjn).mods l t1 i t2
          refine hold ⟨b, hb⟩ ?_
          obtain ⟨e, h1, h2, h3, h4, h5, h6, h7⟩ := hent j _ (hop j hjn)
          have hwt : e.w = true := by
            cases hwt : e.w with
            | true => rfl
            | false => have := h2.2.2 hwt; rw [h5, this] at t1; cases t1; cases t2
          rw [h5] at t1 ⊢
          exact mods_low (h2.2.1 hwt) t1 t2
    · refine hsl t v ?_
      rw [e2 t]; rw [← hFn] at hv; exact ES_seq _ (Nat.le_refl _) t v hv
  -- whatever order comes
  have main : ∀ (fuel : Nat) (L : Array Bool) (s : List Nat) (φ' : Phi) (a' : Act) (w' : World), (∀ i, i < ops.size → L[i]? = some (decide (i ∈ s))) → ((List.range ops.size).filter fun i => decide (i ∉ s)).length ≤ fuel →
      Ord ops s → Rel φ' (EM s) w' → φ.le φ' → (∀ i, ¬ (m.next ≤ i ∧ i < x.m.next) → φ' i = φ i) → (∀ j, j < ops.size → j ∉ s → Fresh φ' (G j).next (R j).m.next) → a'.tmps.size = f.n → a'.defers = [] →
      (∀ t v, ES s t = some v → VR φ' v (a'.tmps.getD t undef)) → WG φ M w φ' (EM s) w' → wpAny P .any ops Q fuel L a' w' := by
    have alldone : ∀ (L : Array Bool) (s : List Nat), (∀ i, i < ops.size → L[i]? = some (decide (i ∈ s))) → Region.ready .any ops L = [] → ∀ q, q < ops.size → q ∈ s := by
      intro L s hL hr q
      induction q using Nat.strongRecOn with
      | _ q ih =>
        intro hq
        cases Decidable.em (q ∈ s) with
        | inl h => exact h
        | inr hns =>
          exfalso
          have : q ∈ Region.ready .any ops L := mem_ready.2 ⟨by rw [Array.getD_eq_getD_getElem?, hL q hq]; simp [hns], _, hop q hq, fun e he hb => by
            have hlt := hon q _ (hop q hq) e (by simpa using he) hb
            have := ih e.on hlt (by omega)
            rw [Array.getD_eq_getD_getElem?, hL e.on (by omega)]; simp [this]⟩
          rw [hr] at this; cases this
    intro fuel
    induction fuel with
    | zero =>
      intro L s φ' a' w' hL hlen ho hrel hle hout hfresh hsz hdf hsl hwg
      have hall : ∀ q, q < ops.size → q ∈ s := by
        intro q hq
        have h0 : (List.range ops.size).filter (fun i => decide (i ∉ s)) = [] := List.eq_nil_of_length_eq_zero (by omega)
        have := List.filter_eq_nil_iff.1 h0 q (List.mem_range.2 hq)
        simpa using this
      refine ⟨?_, finish s φ' a' w' ho hall hrel hle hout hsz hdf hsl hwg⟩
      apply List.eq_nil_iff_forall_not_mem.2
      intro j hj
      obtain ⟨h1, o, h2, _⟩ := mem_ready.1 hj
      have hjn := (Array.getElem?_eq_some_iff.1 h2).1
      rw [Array.getD_eq_getD_getElem?, hL j hjn] at h1
      simp at h1
      exact h1 (hall j hjn)
    | succ fuel ih =>
      intro L s φ' a' w' hL hlen ho hrel hle hout hfresh hsz hdf hsl hwg
      refine ⟨fun hr => finish s φ' a' w' ho (alldone L s hL hr) hrel hle hout hsz hdf hsl hwg, fun j hj => ?_⟩
      obtain ⟨h1, o, h2, h3⟩ := mem_ready.1 hj
      have hjn := (Array.getElem?_eq_some_iff.1 h2).1
      have hjs : j ∉ s := by
        rw [Array.getD_eq_getD_getElem?, hL j hjn] at h1
        simpa using h1
      have hoj : ops[j]! = o := by have := hop j hjn; rw [h2] at this; exact (Option.some.inj this).symm
      have hje : ∀ e ∈ (ops[j]!).after.toList, Region.binds .any e = true → e.on ∈ s := by
        rw [hoj]
        intro e he hb
        have hlt := hon j o h2 e he hb
        have := h3 e (by simpa using he) hb
        rw [Array.getD_eq_getD_getElem?, hL e.on (by omega)] at this
        simpa using this
      have hje' : ∀ e ∈ o.after.toList, Region.binds .any e = true → e.on ∈ s := by rw [← hoj]; exact hje
      have ho' := ho.snoc hon h2 hjs hje'
      have hL' : ∀ i, i < ops.size → (L.setIfInBounds j true)[i]? = some (decide (i ∈ s ++ [j])) := by
        intro i hi
        rw [Array.getElem?_setIfInBounds]
        by_cases e : j = i
        · subst e
          have hjL : j < L.size := by
            have := hL j hjn
            exact (Array.getElem?_eq_some_iff.1 this).1
          rw [if_pos rfl, if_pos hjL]
          simp
        · rw [if_neg e, hL i hi]
          congr 1
          simp
          exact fun q => absurd q.symm e
      have hlen' : ((List.range ops.size).filter fun i => decide (i ∉ s ++ [j])).length ≤ fuel := by
        have hsubl : ((List.range ops.size).filter fun i => decide (i ∉ s ++ [j])).Sublist ((List.range ops.size).filter fun i => decide (i ∉ s)) := by
          have : (fun i => decide (i ∉ s ++ [j])) = fun i => (decide (i ≠ j) && decide (i ∉ s)) := by
            funext i; simp [Bool.and_comm]
          rw [this, ← List.filter_filter]
          exact List.filter_sublist
        rcases Nat.lt_or_ge fuel ((List.range ops.size).filter fun i => decide (i ∉ s ++ [j])).length with hlt | hge
        · exfalso
          have := hsubl.eq_of_length (by have := hsubl.length_le; omega)
          have hmem : j ∈ (List.range ops.size).filter (fun i => decide (i ∉ s)) := List.mem_filter.2 ⟨List.mem_range.2 hjn, by simpa using hjs⟩
          rw [← this] at hmem
          simp at hmem
        · exact hge
      obtain ⟨e, k1, k2, k3, k4, k5, k6, k7⟩ := hent j o h2
      -- what the operation is handed
      have hslot : ∀ t v, t ∈ tmpsOf ops.toList o → (F j).t.get t = some v → VR φ' v (a'.tmps.getD t undef) := by
        intro t v ht hv
        refine hsl t v ?_
        rw [agreeS s j t ho hjn hjs hje (by rw [hoj]; exact ht)]
        exact ES_seq j (by omega) t v hv
      have hwant : Region.wanted o (yielded ops a'.tmps) = e.w := by
        refine wantedA_sound (φ := φ') k2.1 fun i want oi d v hg hi hd hv => hslot d v ?_ (by rw [← k3]; exact hv)
        unfold tmpsOf
        rw [hg]
        simp [hi, hd]
      have next : ∀ (v' : Value) (φ'' : Phi) (w'' : World), VR φ'' (R j).v v' → φ'.le φ'' → (∀ i, ¬ ((G j).next ≤ i ∧ i < (R j).m.next) → φ'' i = φ' i) → Rel φ'' (EM (s ++ [j])) w'' → WG φ' (EM s) w' φ'' (EM (s ++ [j])) w'' →
          wpAny P .any ops Q fuel (L.setIfInBounds j true) (a'.put o.dst v') w'' := by
        intro v' φ'' w'' hv hle2 hout2 hrel2 hwg2
        have gj := grows j 0 (by omega) (by omega)
        have gn := grows ops.size (j + 1) (by omega) (Nat.le_refl _)
        rw [hG0] at gj
        rw [hGn, ← k6] at gn
        refine ih _ (s ++ [j]) φ'' _ w'' hL' hlen' ho' hrel2 (Phi.le_trans hle hle2) (fun i hi => ?_) (fun q hq hqs i hi1 hi2 => ?_) ?_ ?_ (fun t v ht => ?_) (hwg.trans hwg2)
        · rw [hout2 i (fun q => hi ⟨Nat.le_trans gj.ext.next q.1, Nat.lt_of_lt_of_le q.2 gn.ext.next⟩)]
          exact hout i hi
        · have hqs' : q ∉ s := fun h => hqs (List.mem_append_left _ h)
          have hqj : q ≠ j := fun h => hqs (by simp [h])
          rw [hout2 i (fun c => ?_)]
          · exact hfresh q hq hqs' i hi1 hi2
          · rcases Nat.lt_or_gt_of_ne hqj with hlt | hgt
            · have := (grows j (q + 1) (by omega) (by omega)).ext.next
              rw [← hRm q hq] at this
              omega
            · have := (grows q (j + 1) (by omega) (by omega)).ext.next
              rw [← k6] at this
              omega
        · cases hd : o.dst with
          | none => exact hsz
          | some d => simp [Act.put, hsz]
        · cases o.dst <;> exact hdf
        · rw [ES_snoc, hoj] at ht
          cases hd : o.dst with
          | none =>
            rw [hd] at ht
            simp only [Act.put]
            exact (hsl t v (by simpa using ht)).mono hle2
          | some d =>
            rw [hd] at ht
            have hdn : d < a'.tmps.size := by
              rw [hsz]
              rcases put_some k7 with ⟨q1, _⟩ | ⟨d', q1, q2, _, _⟩
              · rw [hd] at q1; cases q1
              · rw [hd] at q1; cases q1
                have hfn : ∀ k, k ≤ ops.size → (F k).n = f.n := by
                  intro k
                  induction k with
                  | zero => intro _; rw [hF0]
                  | succ k ih =>
                    intro hk
                    obtain ⟨e, h1, h2, h3, h4, h5, h6, h7⟩ := hent k _ (hop k hk)
                    rcases put_some h7 with ⟨q1, q2⟩ | ⟨d, q1, q2, q3, q4⟩
                    · rw [q2]; exact ih (by omega)
                    · rw [q3]; exact ih (by omega)
                rw [← hfn j (by omega)]; exact q2
            by_cases htd : d = t
            · subst htd
              simp at ht
              subst ht
              simp [Act.put, hdn]
              exact hv
            · rw [if_neg (by simpa using htd)] at ht
              have := (hsl t v ht).mono hle2
              simp only [Act.put, Array.getD_eq_getD_getElem?] at this ⊢
              rw [Array.getElem?_setIfInBounds, if_neg htd]
              exact this
      unfold wpOp
      rw [h2]
      simp only [hwant]
      cases hwt : e.w with
      | true =>
        rw [if_pos rfl]
        left
        have hev := k2.2.1 hwt
        rw [k3, k4] at hev
        rw [← k5] at hev
        refine evOne_draw hself hev (wfs j (by omega)) hrel ?_ ?_ (hfresh j hjn hjs) fun v' w'' φ'' hone => ?_
        · unfold Need
          have hneed : ∀ i b, needs (G j) (R j) i → (G j).b.get i = some b → EM s i = some b := fun i b hn hb => by
            rw [agreeM s j i ho hjn hjs hje hn]
            exact EM_seq j (by omega) i b hb
          split
          · rename_i hft
            exact fun i b hb => hneed i b (by unfold needs; rw [hft]; exact ⟨b, hb⟩) hb
          · rename_i ft hft
            exact fun i hi b hb => hneed i b (by unfold needs; rw [hft]; exact hi) hb
        · intro y hy v hv
          refine get_sound (f := F j) (fun t v hyt ht => hslot t v ?_ ht) hv
          subst hyt
          unfold tmpsOf
          simp only [List.mem_append, List.mem_filterMap]
          exact .inl (.inl ⟨.tmp t, by simpa using hy, rfl⟩)
        · rw [EM_snoc] at next
          exact next v' φ'' w'' hone.vr hone.le hone.out hone.rel hone.wg
      | false =>
        rw [if_neg (by simp)]
        have hr := k2.2.2 hwt
        rw [← k5, k4] at hr
        have htn : ∀ i, touchB (G j) (R j) i = false := fun i => touch_none (by rw [hr]) (by rw [hr]) i
        have hem : EM (s ++ [j]) = EM s := by
          rw [EM_snoc]; funext i; unfold tM; rw [htn i]; simp
        refine next undef φ' w' (by rw [hr]; exact VR.undef) φ'.le_refl (fun _ _ => rfl) ?_ ?_
        · rw [hem]; exact hrel
        · rw [hem]; exact WG.refl _ _ _
  have hnil : EM [] = M := rfl
  refine main ops.size _ [] φ a _ (fun i hi => by simp [hi]) ?_ Ord.nil (by rw [hnil]; exact hR.heap rfl) φ.le_refl (fun _ _ => rfl) (fun j hj _ => ?_) hf.size hf.defers (fun t v hv => hf.get t v hv) ?_
  · exact Nat.le_trans (List.length_filter_le _ _) (by simp)
  · have g1 := grows j 0 (by omega) (by omega)
    have g2 := grows ops.size (j + 1) (by omega) (Nat.le_refl _)
    rw [hG0] at g1
    rw [hGn, ← hRm j hj] at g2
    exact fun i h1 h2 => hfr i (Nat.le_trans g1.ext.next h1) (Nat.lt_of_lt_of_le h2 g2.ext.next)
  · rw [hnil]; exact ⟨rfl, rfl, rfl, Nat.le_refl _, fun _ _ _ => rfl, fun _ _ h => h⟩
end
end Ev
end Go.Proofs.Ytlfojfndkcmfnaa
