/- Facts under other block numbers. -/
import Derived.Test.YtegpikhfnhcjaaaGreatRvD
namespace Go.Proofs.YtegpikhfnhcjaaaGreat
namespace Ev
open Go

noncomputable section defs
def renA (ρ : Nat → Nat) (a : Addr) : Addr := forceN (ρ a.block) fun b => ⟨b, a.off, a.spot⟩
def ren1 (ρ : Nat → Nat) : Value → Value
  | .pointer (some a) => .pointer (some (renA ρ a))
  | .slice (some a) n c => .slice (some (renA ρ a)) n c
  | v => v
def ren2 (ρ : Nat → Nat) : Value → Value
  | .agg a => .agg (a.toList.map (ren1 ρ)).toArray
  | .func g a c => .func g (a.toList.map (ren1 ρ)).toArray (c.toList.map (ren1 ρ)).toArray
  | v => ren1 ρ v
def renV (ρ : Nat → Nat) : Value → Value
  | .tuple a => .tuple (a.toList.map (ren2 ρ)).toArray
  | v => ren2 ρ v
def flat1 : Value → Bool
  | .pointer (some a) => a.spot.isNone
  | .slice (some a) _ _ => a.spot.isNone
  | v => simple v
def flat2 : Value → Bool
  | .agg a => a.toList.all flat1
  | .func (.func _) a c => a.toList.all flat1 && c.toList.all flat1
  | v => flat1 v
def flatV : Value → Bool
  | .tuple a => a.toList.all flat2
  | v => flat2 v
def lookN : List BlkL → List Nat → Nat → Nat → Nat
  | b :: l, t :: k, d, i => bif Nat.beq b.i i then t else lookN l k d i
  | _, _, d, _ => d
/-- The new number of a block. -/
def Fact.rho (f : Fact) (tgt : List Nat) (n0 : Nat) (i : Nat) : Nat :=
  bif Nat.ble f.next0 i && Nat.blt i f.next1 then Nat.add (Nat.sub i f.next0) n0 else lookN f.pre tgt (Nat.add n0 (Nat.sub f.next1 f.next0)) i
def BlkL.ren (ρ : Nat → Nat) (b : BlkL) : BlkL := ⟨forceN (ρ b.i) fun i => i, b.e, b.z, b.l.map (ren2 ρ)⟩
def Fact.move (f : Fact) (tgt : List Nat) (n0 : Nat) : Fact :=
  ⟨f.g, f.args.map (ren2 (f.rho tgt n0)), n0, f.pre.map (BlkL.ren (f.rho tgt n0)), renV (f.rho tgt n0) f.v, Nat.add n0 (Nat.sub f.next1 f.next0), f.post.map (BlkL.ren (f.rho tgt n0)), n0⟩
def Fact.after (f : Fact) : Mem := ⟨f.next1, blksT f.mem.b f.post, f.next0⟩
def nodupN : List Nat → Bool
  | [] => true
  | x :: l => !(l.elem x) && nodupN l
/-- A fact may be moved. -/
def Fact.moves (f : Fact) (tgt : List Nat) (n0 : Nat) : Bool :=
  Nat.ble f.next0 f.low && f.args.all flat2 && flatV f.v && f.pre.all (fun b => Nat.blt b.i f.next0 && b.l.all flat2) && f.post.all (fun b => Nat.blt b.i f.next1 && b.l.all flat2) &&
    nodupN ((f.move tgt n0).pre.map (·.i)) && (f.move tgt n0).pre.all (fun b => Nat.blt b.i n0 && blkIs (f.move tgt n0).mem b) && (f.move tgt n0).post.all (blkIs (f.move tgt n0).after) && Nat.ble f.next0 f.next1
end defs

section
variable {φ φ2 : Phi} {ρ : Nat → Nat}

theorem renA_eq (a : Addr) : renA ρ a = ⟨ρ a.block, a.off, a.spot⟩ := by unfold renA; rw [forceN_eq]
theorem BlkL.ren_i (b : BlkL) : (b.ren ρ).i = ρ b.i := by show forceN (ρ b.i) (fun i => i) = _; rw [forceN_eq]
theorem vr1 (hφ : ∀ b, φ b = φ2 (ρ b)) {v v' : Value} (hf : flat1 v = true) : VR φ v v' ↔ VR φ2 (ren1 ρ v) v' := by
  unfold flat1 at hf
  split at hf
  · rename_i a
    obtain ⟨b, o, s⟩ := a
    have hs : s = none := by simpa using hf
    subst hs
    show VR φ _ _ ↔ VR φ2 (.pointer (some (renA ρ ⟨b, o, none⟩))) v'
    rw [renA_eq]
    constructor
    · intro h
      cases h with
      | simple q => cases q
      | ptr h => rw [hφ] at h; exact VR.ptr h
    · intro h
      cases h with
      | simple q => cases q
      | ptr h => rw [← hφ] at h; exact VR.ptr h
  · rename_i a n c
    obtain ⟨b, o, s⟩ := a
    have hs : s = none := by simpa using hf
    subst hs
    show VR φ _ _ ↔ VR φ2 (.slice (some (renA ρ ⟨b, o, none⟩)) n c) v'
    rw [renA_eq]
    constructor
    · intro h
      cases h with
      | simple q => cases q
      | slice h h1 h2 h3 h4 => rw [hφ] at h; exact VR.slice h h1 h2 h3 h4
    · intro h
      cases h with
      | simple q => cases q
      | slice h h1 h2 h3 h4 => rw [← hφ] at h; exact VR.slice h h1 h2 h3 h4
  · rename_i h1 h2
    have hr : ren1 ρ v = v := by
      unfold ren1
      split
      · rename_i a; exact absurd rfl (h1 a)
      · rename_i a n c; exact absurd rfl (h2 a n c)
      · rfl
    rw [hr]
    constructor
    · intro h; rw [h.eq_simple hf]; exact VR.simple hf
    · intro h; rw [h.eq_simple hf]; exact VR.simple hf
theorem vrl1 (hφ : ∀ b, φ b = φ2 (ρ b)) : ∀ {l l' : List Value}, l.all flat1 = true → (VRL φ l l' ↔ VRL φ2 (l.map (ren1 ρ)) l')
  | [], l', _ => by
    constructor
    · intro h; cases h; exact VRL.nil
    · intro h; cases h; exact VRL.nil
  | v :: l, l', hf => by
    simp only [List.all_cons, Bool.and_eq_true] at hf
    constructor
    · intro h
      cases h with
      | cons h1 h2 => exact VRL.cons ((vr1 hφ hf.1).1 h1) ((vrl1 hφ hf.2).1 h2)
    · intro h
      cases h with
      | cons h1 h2 => exact VRL.cons ((vr1 hφ hf.1).2 h1) ((vrl1 hφ hf.2).2 h2)
theorem vr2 (hφ : ∀ b, φ b = φ2 (ρ b)) {v v' : Value} (hf : flat2 v = true) : VR φ v v' ↔ VR φ2 (ren2 ρ v) v' := by
  unfold flat2 at hf
  split at hf
  · rename_i a
    obtain ⟨a⟩ := a
    show VR φ (.agg a.toArray) _ ↔ VR φ2 (.agg (a.map (ren1 ρ)).toArray) v'
    constructor
    · intro h
      cases h with
      | simple q => cases q
      | agg h => exact VR.agg ((vrl1 hφ hf).1 h)
    · intro h
      cases h with
      | simple q => cases q
      | agg h => exact VR.agg ((vrl1 hφ hf).2 h)
  · rename_i g a c
    obtain ⟨a⟩ := a
    obtain ⟨c⟩ := c
    simp only [Bool.and_eq_true] at hf
    show VR φ (.func (.func g) a.toArray c.toArray) _ ↔ VR φ2 (.func (.func g) (a.map (ren1 ρ)).toArray (c.map (ren1 ρ)).toArray) v'
    constructor
    · intro h
      cases h with
      | simple q => cases q
      | func h k => exact VR.func ((vrl1 hφ hf.1).1 h) ((vrl1 hφ hf.2).1 k)
    · intro h
      cases h with
      | simple q => cases q
      | func h k => exact VR.func ((vrl1 hφ hf.1).2 h) ((vrl1 hφ hf.2).2 k)
  · rename_i h1 h2
    have hr : ren2 ρ v = ren1 ρ v := by
      unfold ren2
      split
      · rename_i a; exact absurd rfl (h1 a)
      · rename_i g a c
        cases hf
      · rfl
    rw [hr]
    exact vr1 hφ hf
theorem vrl2 (hφ : ∀ b, φ b = φ2 (ρ b)) : ∀ {l l' : List Value}, l.all flat2 = true → (VRL φ l l' ↔ VRL φ2 (l.map (ren2 ρ)) l')
  | [], l', _ => by
    constructor
    · intro h; cases h; exact VRL.nil
    · intro h; cases h; exact VRL.nil
  | v :: l, l', hf => by
    simp only [List.all_cons, Bool.and_eq_true] at hf
    constructor
    · intro h
      cases h with
      | cons h1 h2 => exact VRL.cons ((vr2 hφ hf.1).1 h1) ((vrl2 hφ hf.2).1 h2)
    · intro h
      cases h with
      | cons h1 h2 => exact VRL.cons ((vr2 hφ hf.1).2 h1) ((vrl2 hφ hf.2).2 h2)
theorem vrV (hφ : ∀ b, φ b = φ2 (ρ b)) {v v' : Value} (hf : flatV v = true) (h : VR φ v v') : VR φ2 (renV ρ v) v' := by
  unfold flatV at hf
  split at hf
  · rename_i a
    obtain ⟨a⟩ := a
    show VR φ2 (.tuple (a.map (ren2 ρ)).toArray) v'
    cases h with
    | simple q => cases q
    | tuple h => exact VR.tuple ((vrl2 hφ hf).1 h)
  · rename_i h1
    have hr : renV ρ v = ren2 ρ v := by
      unfold renV
      split
      · rename_i a; exact absurd rfl (h1 a)
      · rfl
    rw [hr]
    exact (vr2 hφ hf).1 h
theorem nodupN_inj {α : Type} {g : α → Nat} : ∀ {l : List α}, nodupN (l.map g) = true → ∀ a ∈ l, ∀ b ∈ l, g a = g b → a = b
  | [], _, a, ha, _, _, _ => by cases ha
  | x :: l, h, a, ha, b, hb, e => by
    have h : (!(l.map g).elem (g x) && nodupN (l.map g)) = true := h
    simp only [Bool.and_eq_true, Bool.not_eq_true'] at h
    have hx : ∀ y ∈ l, g y ≠ g x := fun y hy q => by
      have : (l.map g).elem (g x) = true := List.elem_eq_true_of_mem (List.mem_map.2 ⟨y, hy, q⟩)
      rw [this] at h
      cases h.1
    rcases List.mem_cons.1 ha with ea | ha'
    · rcases List.mem_cons.1 hb with eb | hb'
      · rw [ea, eb]
      · exact absurd (by rw [← e, ea]) (hx b hb')
    · rcases List.mem_cons.1 hb with eb | hb'
      · exact absurd (by rw [e, eb]) (hx a ha')
      · exact nodupN_inj h.2 a ha' b hb' e
theorem lookN_or : ∀ (l : List BlkL) (k : List Nat) (d i : Nat), lookN l k d i = d ∨ ∃ b ∈ l, b.i = i
  | [], _, _, _ => .inl rfl
  | _ :: _, [], _, _ => .inl rfl
  | b :: l, t :: k, d, i => by
    unfold lookN
    rw [Bool.cond_eq_ite]
    split
    · rename_i h; exact .inr ⟨b, List.mem_cons_self, Nat.eq_of_beq_eq_true h⟩
    · rcases lookN_or l k d i with h | ⟨c, h1, h2⟩
      · exact .inl h
      · exact .inr ⟨c, List.mem_cons_of_mem _ h1, h2⟩
end

/-- A fact under other block numbers. -/
theorem fact_move {P : Program} {f : Fact} {tgt : List Nat} {n0 : Nat} (hok : FactOk P f) (hc : f.moves tgt n0 = true) : FactOk P (f.move tgt n0) := by
  obtain ⟨m', hs, e1, e2, e3⟩ := hok
  unfold Fact.moves at hc
  simp only [Bool.and_eq_true] at hc
  obtain ⟨⟨⟨⟨⟨⟨⟨⟨c1, c2⟩, c3⟩, c4⟩, c5⟩, c6⟩, c7⟩, c8⟩, c9⟩ := hc
  have c1 := Nat.le_of_ble_eq_true c1
  have c9 := Nat.le_of_ble_eq_true c9
  obtain ⟨ρ, hρ⟩ : ∃ ρ, f.rho tgt n0 = ρ := ⟨_, rfl⟩
  obtain ⟨n1, hn1⟩ : ∃ n1, n0 + (f.next1 - f.next0) = n1 := ⟨_, rfl⟩
  have hmv : f.move tgt n0 = ⟨f.g, f.args.map (ren2 ρ), n0, f.pre.map (BlkL.ren ρ), renV ρ f.v, n1, f.post.map (BlkL.ren ρ), n0⟩ := by
    unfold Fact.move
    rw [hρ, ← hn1]
    rfl
  rw [hmv] at c6 c7 c8 ⊢
  simp only at c6 c7 c8
  have hpre : ∀ b ∈ f.pre, b.i < f.next0 ∧ b.l.all flat2 = true := fun b hb => by
    have := List.all_eq_true.1 c4 b hb
    simp only [Bool.and_eq_true] at this
    exact ⟨Nat.lt_of_lt_of_le (Nat.lt_succ_self _) (Nat.le_of_ble_eq_true this.1), this.2⟩
  have hpostc : ∀ b ∈ f.post, b.i < f.next1 ∧ b.l.all flat2 = true := fun b hb => by
    have := List.all_eq_true.1 c5 b hb
    simp only [Bool.and_eq_true] at this
    exact ⟨Nat.lt_of_lt_of_le (Nat.lt_succ_self _) (Nat.le_of_ble_eq_true this.1), this.2⟩
  have hinj : ∀ b ∈ f.pre, ∀ c ∈ f.pre, ρ b.i = ρ c.i → b = c := by
    rw [List.map_map] at c6
    intro b hb c hc he
    exact nodupN_inj c6 b hb c hc (by show (b.ren ρ).i = (c.ren ρ).i; rw [b.ren_i, c.ren_i]; exact he)
  have hp2 : ∀ b ∈ f.pre, ρ b.i < n0 ∧ blkIs (Fact.mem ⟨f.g, f.args.map (ren2 ρ), n0, f.pre.map (BlkL.ren ρ), renV ρ f.v, n1, f.post.map (BlkL.ren ρ), n0⟩) (b.ren ρ) = true := fun b hb => by
    have := List.all_eq_true.1 c7 (b.ren ρ) (List.mem_map.2 ⟨b, hb, rfl⟩)
    simp only [Bool.and_eq_true] at this
    have h1 := Nat.lt_of_lt_of_le (Nat.lt_succ_self _) (Nat.le_of_ble_eq_true this.1)
    rw [b.ren_i] at h1
    exact ⟨h1, this.2⟩
  have hfresh : ∀ i, f.next0 ≤ i → i < f.next1 → ρ i = i - f.next0 + n0 := fun i h1 h2 => by
    rw [← hρ]
    unfold Fact.rho
    rw [Bool.cond_eq_ite, if_pos (by simp only [Bool.and_eq_true]; exact ⟨Nat.ble_eq_true_of_le h1, Nat.ble_eq_true_of_le h2⟩)]
    rfl
  have hold : ∀ i, ¬ (f.next0 ≤ i ∧ i < f.next1) → ρ i = n1 ∨ ρ i < n0 := fun i hi => by
    have h1 : ρ i = lookN f.pre tgt n1 i := by
      rw [← hρ, ← hn1]
      unfold Fact.rho
      rw [Bool.cond_eq_ite, if_neg]
      · rfl
      · simp only [Bool.and_eq_true]
        exact fun q => hi ⟨Nat.le_of_ble_eq_true q.1, Nat.lt_of_lt_of_le (Nat.lt_succ_self _) (Nat.le_of_ble_eq_true q.2)⟩
    rcases lookN_or f.pre tgt n1 i with h | ⟨b, hb, rfl⟩
    · exact .inl (h1.trans h)
    · exact .inr (hp2 b hb).1
  have hle : n0 ≤ n1 := by omega
  let f2 : Fact := ⟨f.g, f.args.map (ren2 ρ), n0, f.pre.map (BlkL.ren ρ), renV ρ f.v, n1, f.post.map (BlkL.ren ρ), n0⟩
  have hget : ∀ i x, f.mem.b.get i = some x → ∃ b ∈ f.pre, b.i = i ∧ x = b.blk := fun i x hx => by
    rcases blksT_get hx with h | h
    · exact h
    · cases h
  have hget2 : ∀ i x, f2.mem.b.get i = some x → ∃ b ∈ f.pre, ρ b.i = i ∧ x = (b.ren ρ).blk := fun i x hx => by
    rcases blksT_get hx with ⟨b', hb', h1, h2⟩ | h
    · obtain ⟨b, hb, rfl⟩ := List.mem_map.1 hb'
      rw [b.ren_i] at h1
      exact ⟨b, hb, h1, h2⟩
    · cases h
  have hpost : ∀ b ∈ f.post, f.next0 ≤ b.i ∧ b.i < f.next1 ∧ ∃ c, m'.b.get b.i = some (.cells c b.l.length b.e b.z) ∧ ∀ j v, j < b.l.length → (c.get j = some v ↔ b.l[j]? = some v) := fun b hb => by
    obtain ⟨c, k1, _, k2⟩ := blkIs_spec (e3 b hb).2
    exact ⟨Nat.le_trans c1 (e3 b hb).1, (hpostc b hb).1, c, k1, k2⟩
  have hget3 : ∀ i x, (blksT f2.mem.b f2.post).get i = some x → (∃ b ∈ f.post, ρ b.i = i ∧ x = (b.ren ρ).blk) ∨ f2.mem.b.get i = some x := fun i x hx => by
    rcases blksT_get hx with ⟨b', hb', h1, h2⟩ | h
    · obtain ⟨b, hb, rfl⟩ := List.mem_map.1 hb'
      rw [b.ren_i] at h1
      exact .inl ⟨b, hb, h1, h2⟩
    · exact .inr h
  have hpr : ∀ b ∈ f.post, n0 ≤ ρ b.i ∧ ρ b.i < n1 := fun b hb => by
    obtain ⟨k1, k2, _⟩ := hpost b hb
    rw [hfresh b.i k1 k2]
    omega
  have hwf1 : Wf f.mem := fun i x hx => by
    obtain ⟨b, hb, rfl, rfl⟩ := hget i x hx
    exact (hpre b hb).1
  refine ⟨f2.after, ?_, rfl, Nat.le_refl _, fun b hb => ?_⟩
  · intro hw
    obtain ⟨E, S⟩ := hs hwf1
    refine ⟨⟨hle, fun i x hx => ?_, fun i x hi hnf hx => ?_, fun i x hx => ?_⟩, fun φ2 M2 w args' hR hsub hv hfr => ?_⟩
    · rcases hget3 i x hx with ⟨b, hb, rfl, rfl⟩ | h
      · exact .inr (hpr b hb)
      · exact .inl ⟨x, h⟩
    · rcases hget3 i x hx with ⟨b, hb, rfl, rfl⟩ | h
      · exact absurd (hpr b hb) hnf
      · exact h
    · show i < n1
      rcases hget3 i x hx with ⟨b, hb, rfl, rfl⟩ | h
      · exact (hpr b hb).2
      · exact Nat.lt_of_lt_of_le (hw i x h) hle
    · have hfr : ∀ i, n0 ≤ i → i < n1 → φ2 i = none := hfr
      let φ : Phi := fun b => φ2 (ρ b)
      let M : AM := fun i => f.mem.b.get i
      have hφ : ∀ b, φ b = φ2 (ρ b) := fun _ => rfl
      -- the blocks that the fact needs
      have hpm : ∀ b ∈ f.pre, ∃ c, M2 (ρ b.i) = some (.cells c b.l.length b.e b.z) ∧ ∀ j v, j < b.l.length → (c.get j = some v ↔ (b.l.map (ren2 ρ))[j]? = some v) := fun b hb => by
        obtain ⟨c, k1, _, k2⟩ := blkIs_spec (hp2 b hb).2
        rw [b.ren_i] at k1
        have el : (b.ren ρ).l.length = b.l.length := List.length_map ..
        rw [el] at k1 k2
        exact ⟨c, hsub _ _ k1, k2⟩
      have hmapget : ∀ {l : List Value} {j : Nat} {v : Value}, l[j]? = some v → (l.map (ren2 ρ))[j]? = some (ren2 ρ v) := fun h => by rw [List.getElem?_map, h]; rfl
      have hRel : Rel φ M w := by
        refine ⟨fun i x hx => ?_, fun i j x y li lj hne hx hy hli hlj => ?_⟩
        · obtain ⟨b, hb, rfl, rfl⟩ := hget i x hx
          obtain ⟨c, k1, k2⟩ := hpm b hb
          obtain ⟨l, r1, r2, r3, cs, r4, r5, r6⟩ := hR.blk _ _ k1
          refine ⟨l, r1, r2, r3, cs, r4, r5, fun j v hj hg => ?_⟩
          have hv0 := tOf_get hg
          obtain ⟨v', s1, s2⟩ := r6 j _ hj ((k2 j _ hj).2 (hmapget hv0))
          exact ⟨v', s1, (vr2 hφ (List.all_eq_true.1 (hpre b hb).2 v (List.mem_of_getElem? hv0))).2 s2⟩
        · obtain ⟨b, hb, rfl, rfl⟩ := hget i x hx
          obtain ⟨c, hc, rfl, rfl⟩ := hget j y hy
          obtain ⟨cb, k1, _⟩ := hpm b hb
          obtain ⟨cc, k2, _⟩ := hpm c hc
          exact hR.inj _ _ _ _ li lj (fun q => hne (by rw [hinj b hb c hc q])) k1 k2 hli hlj
      have hSub : Sub f.mem M := fun i x hx => hx
      have hFr : Fresh φ f.mem.next m'.next := fun i h1 h2 => by
        rw [e1] at h2
        have h1 : f.next0 ≤ i := h1
        show φ2 (ρ i) = none
        rw [hfresh i h1 h2]
        exact hfr _ (by omega) (by omega)
      refine (S φ M w args' hRel hSub ((vrl2 hφ c2).2 hv) hFr).mono ?_
      rintro e w' ⟨v', rfl, φ', M', hgd, hvr⟩
      have hout : ∀ i, ¬ (f.next0 ≤ i ∧ i < f.next1) → φ' i = φ i := fun i hi => hgd.out i (by rw [e1]; exact hi)
      have hframe : ∀ i, ¬ (f.next0 ≤ i ∧ i < f.next1) → (f.mem.b.get i = none ∨ i < f.next0) → M' i = M i := fun i hi hn =>
        hgd.frame i (by rw [e1]; exact hi) (hn.imp id fun q => by omega)
      let φ3 : Phi := fun j => if n0 ≤ j ∧ j < n1 then φ' (j - n0 + f.next0) else φ2 j
      let M3 : AM := fun j => if n0 ≤ j ∧ j < n1 then f2.after.b.get j else M2 j
      have hφ3 : ∀ b, φ' b = φ3 (ρ b) := fun b => by
        by_cases hb : f.next0 ≤ b ∧ b < f.next1
        · have hr := hfresh b hb.1 hb.2
          have : n0 ≤ ρ b ∧ ρ b < n1 := by rw [hr]; omega
          show φ' b = if n0 ≤ ρ b ∧ ρ b < n1 then φ' (ρ b - n0 + f.next0) else φ2 (ρ b)
          rw [if_pos this, hr]
          congr 1
          omega
        · have : ¬ (n0 ≤ ρ b ∧ ρ b < n1) := by rcases hold b hb with h | h <;> omega
          show φ' b = if n0 ≤ ρ b ∧ ρ b < n1 then φ' (ρ b - n0 + f.next0) else φ2 (ρ b)
          rw [if_neg this, hout b hb]
      have hle3 : φ2.le φ3 := fun j l hj => by
        have : ¬ (n0 ≤ j ∧ j < n1) := fun q => by rw [hfr j q.1 q.2] at hj; cases hj
        show (if n0 ≤ j ∧ j < n1 then φ' (j - n0 + f.next0) else φ2 j) = some l
        rw [if_neg this]; exact hj
      have hout3 : ∀ j, ¬ (n0 ≤ j ∧ j < n1) → φ3 j = φ2 j := fun j hj => if_neg hj
      have hM3o : ∀ j, ¬ (n0 ≤ j ∧ j < n1) → M3 j = M2 j := fun j hj => if_neg hj
      have hM3f : ∀ j, n0 ≤ j ∧ j < n1 → M3 j = f2.after.b.get j := fun j hj => if_pos hj
      -- a block of the new ones
      have hnew : ∀ j x, n0 ≤ j ∧ j < n1 → M3 j = some x → ∃ b ∈ f.post, ρ b.i = j ∧ x = (b.ren ρ).blk := fun j x hj hx => by
        rw [hM3f j hj] at hx
        rcases hget3 j x hx with h | h
        · exact h
        · obtain ⟨b, hb, rfl, _⟩ := hget2 j x h
          have := (hp2 b hb).1
          omega
      have hnewR : ∀ b ∈ f.post, ∃ l c, φ' b.i = some l ∧ M' b.i = some (.cells c b.l.length b.e b.z) ∧ BR φ3 l w' (b.ren ρ).blk ∧ ¬ l.blk < w.heap.size := fun b hb => by
        obtain ⟨k1, k2, c, k3, k4⟩ := hpost b hb
        have hM := hgd.sub _ _ k3
        obtain ⟨l, r1, r2, r3, cs, r4, r5, r6⟩ := hgd.rel.blk _ _ hM
        have el : (b.ren ρ).l.length = b.l.length := List.length_map ..
        refine ⟨l, c, r1, hM, ⟨r2, by rw [el]; exact r3, cs, r4, r5, fun j v hj hg => ?_⟩, fun hlt => ?_⟩
        · rw [el] at hj
          have hg := tOf_get hg
          have hg' : (b.l.map (ren2 ρ))[j]? = some v := hg
          rw [List.getElem?_map] at hg'
          cases hq : b.l[j]? with
          | none => rw [hq] at hg'; cases hg'
          | some u =>
            rw [hq] at hg'
            cases hg'
            obtain ⟨v', s1, s2⟩ := r6 j u hj ((k4 j u hj).2 hq)
            exact ⟨v', s1, (vr2 hφ3 (List.all_eq_true.1 (hpostc b hb).2 u (List.mem_of_getElem? hq))).1 s2⟩
        · obtain ⟨i, x, l', a1, a2, a3⟩ := hgd.wg.img l.blk hlt ⟨_, _, l, hM, r1, rfl⟩
          obtain ⟨p, hp, rfl, rfl⟩ := hget i x a1
          have hpi := (hpre p hp).1
          have hnf : ¬ (f.next0 ≤ p.i ∧ p.i < f.next1) := fun q => by omega
          have hMp := hframe p.i hnf (.inr hpi)
          exact hgd.rel.inj p.i b.i _ _ l' l (by omega) (hMp.trans a1) hM ((hout p.i hnf).trans a2) r1 a3
      have hoimg : ∀ j x l, ¬ (n0 ≤ j ∧ j < n1) → M2 j = some x → φ2 j = some l → BR φ3 l w' x := fun j x l hj hx hl => by
        obtain ⟨l0, q1, q2⟩ := hR.blk j x hx
        rw [hl] at q1
        cases q1
        by_cases him : Img φ M l.blk
        · obtain ⟨i, y, l', a1, a2, a3⟩ := him
          obtain ⟨p, hp, rfl, rfl⟩ := hget i y a1
          obtain ⟨c, k1, k2⟩ := hpm p hp
          have hji : j = ρ p.i := by
            apply Classical.byContradiction
            intro hne
            exact hR.inj _ _ _ _ l l' hne hx k1 hl a2 a3.symm
          subst hji
          rw [k1] at hx
          cases hx
          have a2' : φ2 (ρ p.i) = some l' := a2
          rw [hl] at a2'
          cases a2'
          have hpi := (hpre p hp).1
          have hnf : ¬ (f.next0 ≤ p.i ∧ p.i < f.next1) := fun q => by omega
          have hMp := (hframe p.i hnf (.inr hpi)).trans a1
          obtain ⟨l2, r1, r2, r3, cs, r4, r5, r6⟩ := hgd.rel.blk _ _ hMp
          rw [hout p.i hnf, a2] at r1
          cases r1
          refine ⟨r2, r3, cs, r4, r5, fun j v hj' hg => ?_⟩
          have hg := (k2 j v hj').1 hg
          rw [List.getElem?_map] at hg
          cases hq : p.l[j]? with
          | none => rw [hq] at hg; cases hg
          | some u =>
            rw [hq] at hg
            cases hg
            have hlen : p.l.length < 1000000 := by
              obtain ⟨_, _, hl6, _⟩ := blkIs_spec (hp2 p hp).2
              have el : (p.ren ρ).l.length = p.l.length := List.length_map ..
              rwa [el] at hl6
            obtain ⟨v', s1, s2⟩ := r6 j u hj' (by rw [tOf_at (by omega)]; exact hq)
            exact ⟨v', s1, (vr2 hφ3 (List.all_eq_true.1 (hpre p hp).2 u (List.mem_of_getElem? hq))).1 s2⟩
        · exact (q2.keep (hgd.wg.keep _ q2.lt him)).mono hle3
      refine ⟨v', rfl, φ3, M3, ⟨hle3, hout3, ⟨fun j x hx => ?_, fun i j x y li lj hne hx hy hli hlj => ?_⟩, fun i x hx => ?_, fun i hi _ => hM3o i hi, ⟨hgd.wg.os, hgd.wg.tape, hgd.wg.output, hgd.wg.size, fun k hk hn => ?_, fun k hk hq => ?_⟩⟩, vrV hφ3 c3 hvr⟩
      · by_cases hj : n0 ≤ j ∧ j < n1
        · obtain ⟨b, hb, rfl, rfl⟩ := hnew j x hj hx
          obtain ⟨l, c, r1, _, r3, _⟩ := hnewR b hb
          exact ⟨l, by rw [← hφ3]; exact r1, r3⟩
        · rw [hM3o j hj] at hx
          obtain ⟨l, q1, _⟩ := hR.blk j x hx
          exact ⟨l, by rw [hout3 j hj]; exact q1, hoimg j x l hj hx q1⟩
      · by_cases hi : n0 ≤ i ∧ i < n1
        · obtain ⟨b, hb, rfl, rfl⟩ := hnew i x hi hx
          obtain ⟨l, c, r1, r2, _, r4⟩ := hnewR b hb
          rw [← hφ3, r1] at hli
          cases hli
          by_cases hj : n0 ≤ j ∧ j < n1
          · obtain ⟨b', hb', rfl, rfl⟩ := hnew j y hj hy
            obtain ⟨l', c', s1, s2, _, _⟩ := hnewR b' hb'
            rw [← hφ3, s1] at hlj
            cases hlj
            exact hgd.rel.inj _ _ _ _ _ _ (fun q => hne (by rw [q])) r2 s2 r1 s1
          · rw [hM3o j hj] at hy
            rw [hout3 j hj] at hlj
            obtain ⟨l', q1, q2⟩ := hR.blk j y hy
            rw [hlj] at q1
            cases q1
            exact fun q => r4 (by rw [q]; exact q2.lt)
        · rw [hM3o i hi] at hx
          rw [hout3 i hi] at hli
          by_cases hj : n0 ≤ j ∧ j < n1
          · obtain ⟨b', hb', rfl, rfl⟩ := hnew j y hj hy
            obtain ⟨l', c', s1, s2, _, s4⟩ := hnewR b' hb'
            rw [← hφ3, s1] at hlj
            cases hlj
            obtain ⟨l0, q1, q2⟩ := hR.blk i x hx
            rw [hli] at q1
            cases q1
            exact fun q => s4 (by rw [← q]; exact q2.lt)
          · rw [hM3o j hj] at hy
            rw [hout3 j hj] at hlj
            exact hR.inj i j x y li lj hne hx hy hli hlj
      · show M3 i = some x
        by_cases hi : n0 ≤ i ∧ i < n1
        · rw [hM3f i hi]; exact hx
        · rw [hM3o i hi]
          rcases hget3 i x hx with ⟨b, hb, rfl, rfl⟩ | h
          · exact absurd (hpr b hb) hi
          · exact hsub i x h
      · refine hgd.wg.keep k hk fun ⟨i, x, l, a1, a2, a3⟩ => hn ?_
        obtain ⟨b, hb, rfl, rfl⟩ := hget i x a1
        obtain ⟨c, k1, _⟩ := hpm b hb
        exact ⟨_, _, l, k1, a2, a3⟩
      · obtain ⟨i, x, l, a1, a2, rfl⟩ := hq
        by_cases hi : n0 ≤ i ∧ i < n1
        · obtain ⟨b, hb, rfl, rfl⟩ := hnew i x hi a1
          obtain ⟨l', c, r1, _, _, r4⟩ := hnewR b hb
          rw [← hφ3, r1] at a2
          cases a2
          exact absurd hk r4
        · rw [hM3o i hi] at a1
          rw [hout3 i hi] at a2
          exact ⟨i, x, l, a1, a2, rfl⟩
  · obtain ⟨b0, hb0, rfl⟩ := List.mem_map.1 hb
    refine ⟨?_, List.all_eq_true.1 c8 _ hb⟩
    show n0 ≤ (b0.ren ρ).i
    rw [b0.ren_i]
    exact (hpr b0 hb0).1
end Ev
end Go.Proofs.YtegpikhfnhcjaaaGreat
