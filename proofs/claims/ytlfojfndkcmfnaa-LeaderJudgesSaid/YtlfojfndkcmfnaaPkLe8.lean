/- Lemmas, joined: ShY ShL ShM. -/
import Derived.Test.YtlfojfndkcmfnaaPkLe7
set_option linter.unusedSimpArgs false
set_option linter.unusedVariables false
namespace Go.Proofs.Ytlfojfndkcmfnaa
namespace Sh
open Go Ev

/-- A function, called where own blocks are as told, comes to something, and the own blocks to something, of which Q holds; pr: names that go on to mean what they meant. -/
def Cm (P : Program) (g : FuncId) (pr : List Nm) (o : Own) (args : List SV) (Q : SV → Own → Prop) : Prop :=
  ∀ lo (G : AM) (ω : Om) (f : Fr) (m : Mem) (us : List Value), Conc lo G ω ⟨[], o⟩ f m → RVL G ω args us →
    ∃ v m' r o' G' ω', SoundT P (.call g us m) (.call v m') ∧ Conc lo G' ω' ⟨[], o'⟩ f m' ∧ RV G' ω' r v ∧ Le G G' ∧ (∀ x b, G' x = some b → G x = some b ∨ lo ≤ x) ∧ (∀ β ∈ pr, ∀ x, ω β = some x → ω' β = some x) ∧
      (cln (live o') 5 r = true ∧ allQ (fun p => famCln (live o') p.2) o' ∧ allQ (fun β => live o' β = true) pr) ∧ Q r o'
theorem Cm.mono {P : Program} {g : FuncId} {pr : List Nm} {o : Own} {args : List SV} {Q R : SV → Own → Prop} (h : Cm P g pr o args Q) (hq : ∀ r o', Q r o' → R r o') : Cm P g pr o args R := fun lo G ω f m us h1 h2 => by
  obtain ⟨v, m', r, o', G', ω', a1, a2, a3, a4, a5, a6, a7, a8⟩ := h lo G ω f m us h1 h2
  exact ⟨v, m', r, o', G', ω', a1, a2, a3, a4, a5, a6, a7, hq r o' a8⟩

/-- A memory with what it was not told of. -/
noncomputable def Mem.rest (m' m : Mem) (ft : List Nat) : Mem := ⟨m'.next, tmerge m'.b (T.filt m.b fun i => !(ft.elem i)), m'.low⟩
section
variable {P : Program} {lo : Nat} {F G : AM} {ω ψ : Om} {s t : SS} {f : Fr} {m : Mem} {o : Oper}

theorem rest_get {m' m : Mem} {ft : List Nat} {i : Nat} {b : ABlk} : (Mem.rest m' m ft).b.get i = some b ↔ m'.b.get i = some b ∨ (m'.b.get i = none ∧ i ∉ ft ∧ m.b.get i = some b) := by
  show (tmerge m'.b (T.filt m.b fun i => !(ft.elem i))).get i = some b ↔ _
  rw [tmerge_get]
  cases h : m'.b.get i with
  | some x => simp
  | none => simp only [T.filt_get]; simp
theorem SoundT.relow {g : FuncId} {us : List Value} {v : Value} {m' : Mem} {n l l' : Nat} {b : Ev.T ABlk} (h : SoundT P (.call g us ⟨n, b, l⟩) (.call v m')) : SoundT P (.call g us ⟨n, b, l'⟩) (.call v m') := by
  intro hw
  obtain ⟨e, h2⟩ := h hw
  refine ⟨⟨e.next, e.dom, e.old, e.wf⟩, fun φ M w args' hR hs ha hf => (h2 φ M w args' hR hs ha hf).mono ?_⟩
  rintro e' w' ⟨v', rfl, φ', M', hg, hv⟩
  exact ⟨v', rfl, φ', M', ⟨hg.le, hg.out, hg.rel, hg.sub, hg.frame, hg.wg⟩, hv⟩
theorem SoundT.rest {g : FuncId} {us : List Value} {v : Value} {m' : Mem} {ft : List Nat} (hw : Wf m) (h : SoundT P (.call g us (m.only ft)) (.call v m')) : SoundT P (.call g us m) (.call v (Mem.rest m' m ft)) := by
  intro _
  obtain ⟨e, h2⟩ := h (only_wf hw)
  have hnx : m.next ≤ m'.next := e.next
  refine ⟨⟨e.next, fun i b hb => ?_, fun i b h1 h3 hb => ?_, fun i b hb => ?_⟩, fun φ M w args' hR hs ha hf => ?_⟩
  · rcases rest_get.1 hb with hb | ⟨_, _, hb⟩
    · rcases e.dom i b hb with ⟨x, hx⟩ | q
      · exact .inl ⟨x, (only_get.1 hx).2⟩
      · exact .inr q
    · exact .inl ⟨b, hb⟩
  · rcases rest_get.1 hb with hb | ⟨_, _, hb⟩
    · exact (only_get.1 (e.old i b h1 h3 hb)).2
    · exact hb
  · rcases rest_get.1 hb with hb | ⟨_, _, hb⟩
    · exact e.wf i b hb
    · exact Nat.lt_of_lt_of_le (hw i b hb) hnx
  · refine (h2 φ M w args' hR (fun i b hb => hs i b (only_get.1 hb).2) ha hf).mono ?_
    rintro e' w' ⟨v', rfl, φ', M', hg, hv⟩
    have hfr : ∀ i, ¬ (m.next ≤ i ∧ i < m'.next) → (i ∉ ft ∨ m.b.get i = none ∨ i < m'.low) → M' i = M i := fun i hi hn => hg.frame i hi (by
      rcases hn with q | q | q
      · left
        cases hq : (m.only ft).b.get i with
        | none => rfl
        | some x => exact absurd (only_get.1 hq).1 q
      · left
        cases hq : (m.only ft).b.get i with
        | none => rfl
        | some x => rw [(only_get.1 hq).2] at q; cases q
      · exact .inr q)
    refine ⟨v', rfl, φ', M', ⟨hg.le, hg.out, hg.rel, fun i b hb => ?_, fun i hi hn => hfr i hi (.inr hn), hg.wg⟩, hv⟩
    rcases rest_get.1 hb with hb | ⟨_, q, hb⟩
    · exact hg.sub i b hb
    · rw [hfr i (fun z => by have := hw i b hb; omega) (.inl q)]
      exact hs i b hb
theorem RVL.of_slots : ∀ {as : List SV} {us : List Value}, as.length = us.length → (∀ (k : Nat) v, as[k]? = some v → ∃ u, us[k]? = some u ∧ RV F ω v u) → RVL F ω as us
  | [], [], _, _ => .nil
  | v :: as, u :: us, h, k => by
    obtain ⟨u', h1, h2⟩ := k 0 v rfl
    cases h1
    exact .cons h2 (RVL.of_slots (by simpa using h) fun j w hj => k (j + 1) w (by simpa using hj))
  | [], _ :: _, h, _ => by simp at h
  | _ :: _, [], h, _ => by simp at h
theorem keepF_look {l : List (Nat × SV)} {ks : List Nat} {t : Nat} {v : SV} (h : look (keepF l ks) t = some v) : look l t = some v := by
  induction ks with
  | nil => cases h
  | cons k ks ih =>
    unfold keepF at h
    split at h
    · rename_i x hx
      have h' : (if k = t then some x else look (keepF l ks) t) = some v := h
      clear h
      split at h'
      · rename_i q; subst q; rw [hx]; exact h'
      · exact ih h'
    · exact ih h
theorem keepO_look {l : Own} {ks : List Nat} {t : Nat} : look (keepO l ks) t = if t ∈ ks then look l t else none := by
  induction ks with
  | nil => simp [keepO, look]
  | cons k ks ih =>
    unfold keepO
    split
    · rename_i x hx
      show (if k = t then some x else look (keepO l ks) t) = _
      by_cases q : k = t
      · subst q; rw [if_pos rfl, if_pos List.mem_cons_self, hx]
      · rw [if_neg q, ih]
        simp [Ne.symm q]
    · rename_i hx
      rw [ih]
      by_cases q : t = k
      · subst q; simp [hx]
      · simp [q]
theorem look_append {α : Type} {a b : List (Nat × α)} {t : Nat} : look (a ++ b) t = match look a t with | some v => some v | none => look b t := by
  induction a with
  | nil => rfl
  | cons x a ih =>
    show (if x.1 = t then some x.2 else look (a ++ b) t) = match (if x.1 = t then some x.2 else look a t) with | some v => some v | none => look b t
    split
    · rfl
    · exact ih
theorem difN_map {α : Type} {k : Nat → Nat} {r : Nat → α → α} : ∀ {o : List (Nat × α)}, difN (o.map fun p => k p.1) = true → ∀ {c : Nat} {G : α}, look (o.map fun p => (k p.1, r p.1 p.2)) c = some G → ∃ b F, look o b = some F ∧ k b = c ∧ G = r b F
  | [], _, _, _, h => by cases h
  | (b, F) :: o, hd, c, G, h => by
    have h : (if k b = c then some (r b F) else look (o.map fun p => (k p.1, r p.1 p.2)) c) = some G := h
    have hd : (!(List.elem (k b) (o.map fun p => k p.1)) && difN (o.map fun p => k p.1)) = true := hd
    rw [Bool.and_eq_true, Bool.not_eq_true'] at hd
    split at h
    · rename_i q; cases h; exact ⟨b, F, by show (if b = b then some F else _) = _; rw [if_pos rfl], q, rfl⟩
    · obtain ⟨b', F', h1, h2, h3⟩ := difN_map hd.2 h
      refine ⟨b', F', ?_, h2, h3⟩
      show (if b = b' then some F else look o b') = _
      rw [if_neg]
      · exact h1
      · rintro rfl
        exact elem_false' hd.1 (List.mem_map.2 ⟨(b, F'), look_mem h1, rfl⟩)
where elem_false' {l : List Nat} {x : Nat} (h : l.elem x = false) : x ∉ l := by simpa using h
theorem difN_inj {k : Nat → Nat} {α : Type} : ∀ {o : List (Nat × α)}, difN (o.map fun p => k p.1) = true → ∀ {b c : Nat} {F G : α}, look o b = some F → look o c = some G → k b = k c → b = c
  | [], _, _, _, _, _, h, _, _ => by cases h
  | (a, A) :: o, hd, b, c, F, G, h1, h2, he => by
    have hd : (!(List.elem (k a) (o.map fun p => k p.1)) && difN (o.map fun p => k p.1)) = true := hd
    rw [Bool.and_eq_true, Bool.not_eq_true'] at hd
    have no : ∀ {x : Nat} {X : α}, look o x = some X → k a ≠ k x := fun {x X} hx e => by
      have : k a ∉ o.map fun p => k p.1 := by simpa using hd.1
      exact this (List.mem_map.2 ⟨(x, X), look_mem hx, e.symm⟩)
    have h1 : (if a = b then some A else look o b) = some F := h1
    have h2 : (if a = c then some A else look o c) = some G := h2
    split at h1 <;> split at h2
    · rename_i p q; rw [← p, ← q]
    · rename_i p q; rw [← p] at he; exact absurd he (no h2)
    · rename_i p q; rw [← q] at he; exact absurd he.symm (no h1)
    · exact difN_inj hd.2 h1 h2 he
theorem look_map {α : Type} {k : Nat → Nat} {r : Nat → α → α} : ∀ {o : List (Nat × α)}, difN (o.map fun p => k p.1) = true → ∀ {b : Nat} {F : α}, look o b = some F → look (o.map fun p => (k p.1, r p.1 p.2)) (k b) = some (r b F)
  | [], _, _, _, h => by cases h
  | (a, A) :: o, hd, b, F, h => by
    have hd' : (!(List.elem (k a) (o.map fun p => k p.1)) && difN (o.map fun p => k p.1)) = true := hd
    rw [Bool.and_eq_true, Bool.not_eq_true'] at hd'
    have h' : (if a = b then some A else look o b) = some F := h
    clear h
    show (if k a = k b then some (r a A) else look (o.map fun p => (k p.1, r p.1 p.2)) (k b)) = some (r b F)
    split at h'
    · rename_i q; subst q; cases h'; rw [if_pos rfl]
    · rename_i q
      rw [if_neg]
      · exact look_map hd'.2 h'
      · intro e
        have : k a ∉ o.map fun p => k p.1 := by simpa using hd'.1
        exact this (List.mem_map.2 ⟨(b, F), look_mem h', e.symm⟩)
open Classical in
/-- Where the own blocks lie behind a call. -/
noncomputable def omBack (ω ω' : Om) (ρ : List (Nat × Nat)) (base : Nat) (kb : List Nat) (o : Own) : Om := fun γ => if kb.elem γ.1 = true then ω γ else
  if h : ∃ b, (∃ F, look o b = some F) ∧ nuF ρ base b = γ.1 ∧ live o (b, γ.2) = true then ω' (Classical.choose h, γ.2) else none
theorem omBack_new {ω' : Om} {ρ : List (Nat × Nat)} {base : Nat} {kb : List Nat} {o' : Own} (hd : difN (o'.map fun p => nuF ρ base p.1) = true) (hk : (o'.all fun p => !(kb.elem (nuF ρ base p.1))) = true) {β : Nm} (hl : live o' β = true) : omBack ω ω' ρ base kb o' (nu ρ base β) = ω' β := by
  obtain ⟨b, hb⟩ := live_iff.1 hl
  obtain ⟨F, h1, h2⟩ := lookO_fam hb
  have hkb : kb.elem (nuF ρ base β.1) = false := by
    have := List.all_eq_true.1 hk _ (look_mem h1)
    simpa using this
  unfold omBack
  rw [if_neg (by show ¬ kb.elem (nuF ρ base β.1) = true; rw [hkb]; simp)]
  have hex : ∃ b, (∃ F, look o' b = some F) ∧ nuF ρ base b = (nu ρ base β).1 ∧ live o' (b, (nu ρ base β).2) = true := ⟨β.1, ⟨F, h1⟩, rfl, hl⟩
  rw [dif_pos hex]
  obtain ⟨⟨F', q1⟩, q2, q3⟩ := Classical.choose_spec hex
  have : Classical.choose hex = β.1 := difN_inj hd q1 h1 q2
  rw [this]
  rfl
theorem omBack_old {ω' : Om} {ρ : List (Nat × Nat)} {base : Nat} {kb : List Nat} {o' : Own} {γ : Nm} (h : kb.elem γ.1 = true) : omBack ω ω' ρ base kb o' γ = ω γ := by
  unfold omBack; rw [if_pos h]
theorem omBack_inv {ω' : Om} {ρ : List (Nat × Nat)} {base : Nat} {kb : List Nat} {o' : Own} {γ : Nm} {x : Option (Nat × Nat)} (h : omBack ω ω' ρ base kb o' γ = some x) : (kb.elem γ.1 = true ∧ ω γ = some x) ∨ (kb.elem γ.1 = false ∧ ∃ β, live o' β = true ∧ nu ρ base β = γ ∧ ω' β = some x) := by
  unfold omBack at h
  split at h
  · rename_i q; exact .inl ⟨q, h⟩
  · rename_i q
    split at h
    · rename_i hex
      obtain ⟨_, q2, q3⟩ := Classical.choose_spec hex
      exact .inr ⟨by simpa using q, (Classical.choose hex, γ.2), q3, Prod.ext q2 rfl, h⟩
    · cases h

/-- A call that may change what it is given. -/
theorem callM_one (hc : Conc lo F ω s f m) {fx : Operand} {args : Array Operand} {ats : Array TypeId} (hop : o.op = .call { callee := .value fx, args := args, argTypes := ats }) {g : FuncId} {a b xs : List SV} (hf : s.get fx = some (.fn g a b)) (hx : s.gets args.toList = some xs)
    {pc : List Nm} {ρ : List (Nat × Nat)} {base : Nat} {keep kb : List Nat} {pr : List Nm} {o0 : Own} {as : List SV} {Q : SV → Own → Prop} (hlen : (a ++ xs ++ b).length = as.length) (hw : WeakBy (to1 ρ) [] [] ⟨slots (a ++ xs ++ b) 0, s.o⟩ ⟨slots as 0, o0⟩)
    (hdom : ∀ p ∈ o0, (look ρ p.1).isSome = true) (hk : Kept pc s ρ pr o0 keep kb) (hct : Cm P g pr o0 as Q) :
    ∃ r2 F' ω'' rv o', One P f o m r2 ∧ Q rv o' ∧ ((difN (o'.map fun p => nuF ρ base p.1) = true ∧ (o'.all fun p => !(kb.elem (nuF ρ base p.1))) = true) → Conc lo F' ω'' (backS s ρ base keep kb o') f r2.m ∧ RV F' ω'' (ren (nu ρ base) 5 rv) r2.v) ∧
      m.next ≤ r2.m.next ∧ Le F F' ∧ (∀ x b, F' x = some b → F x = some b ∨ lo ≤ x) ∧ ((difN (o'.map fun p => nuF ρ base p.1) = true ∧ (o'.all fun p => !(kb.elem (nuF ρ base p.1))) = true) → ∀ β ∈ pc, ∀ x, ω β = some x → ω'' β = some x) ∧ r2.foot = none ∧ (o0 = [] → r2.mods = some []) := by
  classical
  obtain ⟨uf, e1, r1⟩ := hc.get hf
  obtain ⟨us, e2, r2⟩ := hc.gets hx
  obtain ⟨A, B, rfl, rA, rB⟩ : ∃ A B : List Value, uf = .func (.func g) A.toArray B.toArray ∧ RVL F ω a A ∧ RVL F ω b B := by
    cases r1 with
    | fn h1 h2 => exact ⟨_, _, rfl, h1, h2⟩
  have hall : RVL F ω (a ++ xs ++ b) (A ++ us ++ B) := (rA.append r2).append rB
  let f0 : Fr := ⟨0, tOf (A ++ us ++ B)⟩
  have hc1 : Conc lo F ω ⟨slots (a ++ xs ++ b) 0, s.o⟩ f0 m := ⟨hc.wf, hc.low, hc.nxt, hc.sub, hc.own, hc.dom, hc.inj, hc.apart, fun t v hv => by
    obtain ⟨_, h2⟩ := slots_look hv
    obtain ⟨u, h3, h4⟩ := hall.get h2
    exact ⟨u, by show (tOf (A ++ us ++ B)).get t = some u; rw [tOf_get?]; simpa using h3, h4⟩⟩
  have hc2 := hw.conc hc1
  rw [frzF_nil] at hc2
  let ω0 : Om := omTo ω (to1 ρ) [] o0
  have hargs : RVL F ω0 as (A ++ us ++ B) := RVL.of_slots (hlen.symm.trans hall.length) fun k v hv => by
    obtain ⟨u, h1, h2⟩ := hc2.fr (0 + k) v (slots_at hv)
    rw [Nat.zero_add] at h1
    have h1 : (tOf (A ++ us ++ B)).get k = some u := h1
    rw [tOf_get?] at h1
    exact ⟨u, h1, h2⟩
  have hc3 : Conc lo F ω0 ⟨[], o0⟩ f m := ⟨hc2.wf, hc2.low, hc2.nxt, hc2.sub, hc2.own, hc2.dom, hc2.inj, hc2.apart, fun t v hv => by cases hv⟩
  obtain ⟨ft, k1, k2, k3⟩ := hc3.only
  have hc4 : Conc lo F ω0 ⟨[], o0⟩ f (m.only ft) := ⟨only_wf hc.wf, hc.low, hc.nxt, k2, fun β b hb => by
    rcases hc3.own β b hb with ⟨k, T, L, h1, h0, h2, h3⟩ | h
    · exact .inl ⟨k, T, L, h1, h0, k3 β k _ h1 _ h2, h3⟩
    · exact .inr h, hc3.dom, hc3.inj, hc3.apart, fun t v hv => by cases hv⟩
  have hct2 : ∃ v m' r o' G' ω', SoundT P (.call g (A ++ us ++ B) (m.only ft)) (.call v m') ∧ Conc lo G' ω' ⟨[], o'⟩ f m' ∧ RV G' ω' r v ∧ Le F G' ∧ (∀ x b, G' x = some b → F x = some b ∨ lo ≤ x) ∧ (∀ β ∈ pr, ∀ x, ω0 β = some x → ω' β = some x) ∧
      (cln (live o') 5 r = true ∧ allQ (fun p => famCln (live o') p.2) o' ∧ allQ (fun β => live o' β = true) pr) ∧ Q r o' ∧ (o0 = [] → m.next ≤ m'.low) := by
    by_cases h0 : o0 = []
    · subst h0
      have hω00 : ∀ β, ω0 β = none := fun β => by
        show (if live [] β = true then _ else none) = none
        rw [if_neg (by intro q; cases q)]
      have hc5 : Conc m.next F ω0 ⟨[], []⟩ f ⟨m.next, (m.only ft).b, m.next⟩ := ⟨only_wf hc.wf, Nat.le_refl _, Nat.le_refl _, k2, fun β b hb => (by cases hb), fun β _ => hω00 β, fun β γ k z k' z' h1 => (by rw [hω00 β] at h1; cases h1), fun β k z h1 => (by rw [hω00 β] at h1; cases h1), fun t v hv => (by cases hv)⟩
      obtain ⟨v, m', r, o', G', ω', s1, c', rv, hle, hnew, hpr, hcl, hq⟩ := hct m.next F ω0 f _ _ hc5 hargs
      have hlo : lo ≤ m.next := hc.nxt
      exact ⟨v, m', r, o', G', ω', SoundT.relow (b := (m.only ft).b) s1, ⟨c'.wf, Nat.le_trans hlo c'.low, Nat.le_trans hlo c'.nxt, c'.sub, c'.own, c'.dom, c'.inj, fun β k z h => ⟨(c'.apart β k z h).1, Nat.le_trans hlo (c'.apart β k z h).2.1, (c'.apart β k z h).2.2⟩, c'.fr⟩, rv, hle, fun x b h => (hnew x b h).imp id (Nat.le_trans hlo), hpr, hcl, hq, fun _ => c'.low⟩
    · obtain ⟨v, m', r, o', G', ω', s1, c', rv, hle, hnew, hpr, hcl, hq⟩ := hct lo F ω0 f (m.only ft) _ hc4 hargs
      exact ⟨v, m', r, o', G', ω', s1, c', rv, hle, hnew, hpr, hcl, hq, fun e => absurd e h0⟩
  obtain ⟨v, m', r, o', G', ω', s1, c', rv, hle, hnew, hpr, ⟨cl1, cl2, cl3⟩, hq, hlow0⟩ := hct2
  have hs := SoundT.rest hc.wf s1
  have hext := (s1 (only_wf hc.wf)).1
  have hnext : m.next ≤ m'.next := hext.next
  -- what lies where
  have hft : ∀ {i x}, m'.b.get i = some x → i < m.next → i ∈ ft := fun {i x} q h => by
    rcases hext.dom i x q with ⟨y, hy⟩ | q2
    · exact (only_get.1 hy).1
    · exact absurd q2.1 (Nat.not_le.2 h)
  have hω0 : ∀ {β x}, ω0 β = some x → live o0 β = true ∧ ω (to1 ρ β) = some x := fun {β x} q => by
    have q : (if live o0 β = true then (if List.elem β.1 [] = true then some none else ω (to1 ρ β)) else none) = some x := q
    split at q
    · rename_i hl; rw [if_neg (by simp)] at q; exact ⟨hl, q⟩
    · cases q
  have hto : ∀ {β}, live o0 β = true → ∃ c, look ρ β.1 = some c ∧ to1 ρ β = (c, β.2) := fun {β} hl => by
    obtain ⟨b, hb⟩ := live_iff.1 hl
    obtain ⟨F1, h1, _⟩ := lookO_fam hb
    obtain ⟨c, hcc⟩ := Option.isSome_iff_exists.1 (hdom _ (look_mem h1))
    have hcc : look ρ β.1 = some c := hcc
    exact ⟨c, hcc, by unfold to1; rw [hcc]⟩
  have hkeep : ∀ {γ k z}, ω γ = some (some (k, z)) → kb.elem γ.1 = true → k ∉ ft := fun {γ k z} hk1 hkb hm => by
    rcases (k1 k hm).2 with ⟨x, hx⟩ | ⟨β, z', hb⟩
    · rw [(hc.apart γ k z hk1).1] at hx; cases hx
    · obtain ⟨q1, q2⟩ := hω0 hb
      obtain ⟨c, q3, q4⟩ := hto q1
      have hne : γ ≠ to1 ρ β := fun e => by
        have := hk.apart _ (look_mem q3)
        rw [e, q4] at hkb
        rw [this] at hkb; cases hkb
      exact hc.inj γ _ k z k z' hk1 q2 hne rfl
  have hback : backM m.low (Mem.rest m' m ft) = ⟨m'.next, (Mem.rest m' m ft).b, Nat.min m.low m'.low⟩ := backM_eq _ _
  let ω'' := omBack ω ω' ρ base kb o'
  have hmean : ((difN (o'.map fun p => nuF ρ base p.1) = true ∧ (o'.all fun p => !(kb.elem (nuF ρ base p.1))) = true) → ∀ β x, okN ρ pr kb β = true → ω β = some x → ω'' β = some x) := fun hd β x hok hx => by
    unfold okN at hok
    rw [Bool.or_eq_true] at hok
    rcases hok with h | h
    · exact (omBack_old h).trans hx
    · obtain ⟨q, hq1, hq2⟩ := List.any_eq_true.1 h
      rw [Bool.and_eq_true] at hq2
      have hlo0 := allQ_mem hk.prl q hq1
      obtain ⟨c, q3, q4⟩ := hto hlo0
      rw [q3] at hq2
      have e : β = nu ρ base q := by
        have h1 := of_decide_eq_true hq2.1
        have h2 := of_decide_eq_true hq2.2
        refine Prod.ext ?_ h2.symm
        show β.1 = nuF ρ base q.1
        unfold nuF; rw [q3]; exact h1.symm
      have e' : β = to1 ρ q := by
        rw [q4]
        exact Prod.ext (of_decide_eq_true hq2.1).symm (of_decide_eq_true hq2.2).symm
      have h0 : ω0 q = some x := by
        show (if live o0 q = true then (if List.elem q.1 [] = true then some none else ω (to1 ρ q)) else none) = some x
        rw [if_pos hlo0, if_neg (by simp), ← e']; exact hx
      have hl' := allQ_mem cl3 q hq1
      rw [e]
      exact (omBack_new hd.1 hd.2 hl').trans (hpr q hq1 x h0)
  have hself : SelfOk P (fun t => if t = .call g (A ++ us ++ B) m then some (.call v (Mem.rest m' m ft)) else none) := by
    intro t out h
    simp only at h
    split at h
    · rename_i e; subst e; cases h; exact hs
    · cases h
  refine ⟨⟨v, backM m.low (Mem.rest m' m ft), none, iteB (Nat.ble m.next (Mem.rest m' m ft).low) (some []) none⟩, G', ω'', r, o', .inl ⟨_, hself, ?_⟩, hq, fun hd => ⟨?_, ?_⟩, by rw [hback]; exact hnext, hle, hnew, fun hd β hβ x hx => hmean hd β x (allQ_mem hk.pin β hβ) hx, rfl, fun e => ?_⟩
  · unfold evOne evOne1
    rw [hop]
    show (ob (f.get fx) fun g => ob (valsA f args.toList) fun vs => evCall _ m vs g) = _
    rw [e1]
    show (ob (valsA f args.toList) fun vs => evCall _ m vs _) = _
    rw [e2]
    show ob ((fun t => if t = Task.call g (A ++ us ++ B) m then some (Out.call v (Mem.rest m' m ft)) else none) (.call g (A.toArray.toList ++ us ++ B.toArray.toList) m)) (afterCall m) = _
    simp only [if_true]
    rfl
  · -- the state behind
    show Conc lo G' ω'' _ f (backM m.low (Mem.rest m' m ft))
    rw [hback]
    have hnewAt : ∀ {γ ob}, lookO (o'.map (fun p => (nuF ρ base p.1, p.2.ren (nu ρ base)))) γ = some ob → ∃ β ob0, nu ρ base β = γ ∧ lookO o' β = some ob0 ∧ ob = ob0.ren (nu ρ base) := fun {γ ob} h => by
      obtain ⟨Fm, h1, h2⟩ := lookO_fam h
      obtain ⟨b', F', q1, q2, q3⟩ := difN_map (r := fun _ F => F.ren (nu ρ base)) hd.1 h1
      subst q3
      refine ⟨(b', γ.2), ?_⟩
      rcases at_some h2 with ⟨e, hz⟩ | ⟨gg, e, hg⟩
      · cases F' with
        | one x =>
          cases x with
          | none => cases e
          | some ob0 =>
            simp only [Fam.ren] at e
            cases e
            refine ⟨ob0, Prod.ext q2 rfl, ?_, rfl⟩
            unfold lookO; simp only [q1, Fam.at, hz, if_true]
        | many _ => cases e
      · cases F' with
        | one x => cases x <;> cases e
        | many g0 =>
          simp only [Fam.ren] at e
          cases e
          simp only at hg
          split at hg
          · rename_i ob0 hg0
            cases hg
            refine ⟨ob0, Prod.ext q2 rfl, ?_, rfl⟩
            unfold lookO; simp only [q1, Fam.at]; exact hg0
          · cases hg
    have hbk : ∀ {γ ob}, lookO (backS s ρ base keep kb o').o γ = some ob → (∃ β ob0, nu ρ base β = γ ∧ lookO o' β = some ob0 ∧ ob = ob0.ren (nu ρ base)) ∨ (kb.elem γ.1 = true ∧ lookO s.o γ = some ob) := fun {γ ob} h => by
      have h : (match look (o'.map (fun p => (nuF ρ base p.1, p.2.ren (nu ρ base))) ++ keepO s.o kb) γ.1 with | some F => F.at γ.2 | none => none) = some ob := h
      rw [look_append] at h
      cases hl : look (o'.map (fun p => (nuF ρ base p.1, p.2.ren (nu ρ base)))) γ.1 with
      | some Fm =>
        rw [hl] at h
        exact .inl (hnewAt (by unfold lookO; rw [hl]; exact h))
      | none =>
        rw [hl] at h
        simp only [keepO_look] at h
        by_cases hm : γ.1 ∈ kb
        · rw [if_pos hm] at h
          exact .inr ⟨by simpa using hm, h⟩
        · rw [if_neg hm] at h; cases h
    refine ⟨fun i x hx => ?_, ?_, Nat.le_trans hc.nxt hnext, fun i x hx => rest_get.2 (.inl (c'.sub i x hx)), fun γ ob hob => ?_, fun γ hγ => ?_, fun γ δ k z k' z' h1 h2 hne => ?_, fun γ k z h1 => ?_, fun t w hw' => ?_⟩
    · rcases rest_get.1 hx with q | ⟨_, _, q⟩
      · exact c'.wf i x q
      · exact Nat.lt_of_lt_of_le (hc.wf i x q) hnext
    · show lo ≤ Nat.min m.low m'.low
      have := hc.low; have := c'.low
      rw [Nat.le_min]; omega
    · rcases hbk hob with ⟨β, ob0, rfl, h2, rfl⟩ | ⟨h1, h2⟩
      · have hlive : live o' β = true := live_iff.2 ⟨_, h2⟩
        have hcln : obCln (live o') ob0 := by
          obtain ⟨Fm, q1, q2⟩ := lookO_fam h2
          have := allQ_mem cl2 _ (look_mem q1)
          rcases at_some q2 with ⟨rfl, _⟩ | ⟨gg, rfl, hg⟩
          · exact this
          · exact this _ _ hg
        have hom : ω'' (nu ρ base β) = ω' β := omBack_new hd.1 hd.2 hlive
        rcases c'.own β ob0 h2 with ⟨k, T, L, g1, g0, g2, g3⟩ | ⟨g1, g2, g3⟩
        · refine .inl ⟨k, T, L, hom.trans g1, g0, rest_get.2 (.inl g2), fun i hi => ?_⟩
          obtain ⟨l1, l2, l3, l4⟩ := g3 i hi
          exact ⟨l1, l2.map_get fun v u hv hr => ren_fwd (fun β x hl hx => (omBack_new hd.1 hd.2 hl).trans hx) hr (List.all_eq_true.1 (hcln i hi) v hv), map_one1_of (ren_one1 _ _) l3, l4⟩
        · exact .inr ⟨hom.trans g1, g2, g3⟩
      · have hom : ω'' γ = ω γ := omBack_old h1
        have hcln : obCln (okN ρ pr kb) ob := by
          obtain ⟨Fm, q1, q2⟩ := lookO_fam h2
          have hmem : look (keepO s.o kb) γ.1 = some Fm := by rw [keepO_look, if_pos (by simpa using h1)]; exact q1
          have := allQ_mem hk.own _ (look_mem hmem)
          rcases at_some q2 with ⟨rfl, _⟩ | ⟨gg, rfl, hg⟩
          · exact this
          · exact this _ _ hg
        rcases hc.own γ ob h2 with ⟨k, T, L, g1, g0, g2, g3⟩ | ⟨g1, g2, g3⟩
        · have hkft := hkeep g1 h1
          have hlt := (hc.apart γ k _ g1).2.2
          refine .inl ⟨k, T, L, hom.trans g1, g0, rest_get.2 (.inr ⟨?_, hkft, g2⟩), fun i hi => ?_⟩
          · cases hq' : m'.b.get k with
            | none => rfl
            | some y => exact absurd (hft hq' hlt) hkft
          · obtain ⟨l1, l2, l3, l4⟩ := g3 i hi
            exact ⟨l1, (l2.of_get fun v u hv hr => cln_rv (hmean hd) hr (List.all_eq_true.1 (hcln i hi) v hv)).mono hle (Om.le_refl _), l3, l4⟩
        · exact .inr ⟨hom.trans g1, g2, g3⟩
    · have hγ : look (o'.map (fun p => (nuF ρ base p.1, p.2.ren (nu ρ base))) ++ keepO s.o kb) γ.1 = none := hγ
      rw [look_append] at hγ
      cases hw2 : ω'' γ with
      | none => rfl
      | some x =>
        exfalso
        rcases omBack_inv hw2 with ⟨h1, h2⟩ | ⟨_, β, h1, rfl, _⟩
        · cases hl : look (o'.map (fun p => (nuF ρ base p.1, p.2.ren (nu ρ base)))) γ.1 with
          | some Fm => rw [hl] at hγ; cases hγ
          | none =>
            rw [hl, keepO_look, if_pos (by simpa using h1)] at hγ
            rw [hc.dom γ hγ] at h2; cases h2
        · obtain ⟨b, hb⟩ := live_iff.1 h1
          obtain ⟨Fm, q1, _⟩ := lookO_fam hb
          have := look_map (r := fun _ F => F.ren (nu ρ base)) hd.1 q1
          have e : (nu ρ base β).1 = nuF ρ base β.1 := rfl
          rw [e, this] at hγ
          cases hγ
    · have key : ∀ {γ k z}, ω γ = some (some (k, z)) → kb.elem γ.1 = true → ∀ {β z'}, live o' β = true → ω' β = some (some (k, z')) → False := fun {γ k z} hk1 hkb {β z'} hl hk2 => by
        obtain ⟨ob, hb⟩ := live_iff.1 hl
        obtain ⟨rfl, T, L, g1, _⟩ := c'.ownAt hb hk2
        exact hkeep hk1 hkb (hft g1 (hc.apart γ k z hk1).2.2)
      intro e
      subst e
      rcases omBack_inv h1 with ⟨a1, a2⟩ | ⟨a1, β, a2, a3, a4⟩ <;> rcases omBack_inv h2 with ⟨b1, b2⟩ | ⟨b1, β', b2, b3, b4⟩
      · exact hc.inj γ δ k z k z' a2 b2 hne rfl
      · exact key a2 a1 b2 b4
      · exact key b2 b1 a2 a4
      · exact c'.inj β β' k z k z' a4 b4 (fun e => hne (by rw [← a3, ← b3, e])) rfl
    · rcases omBack_inv h1 with ⟨a1, a2⟩ | ⟨a1, β, a2, a3, a4⟩
      · obtain ⟨q1, q2, q3⟩ := hc.apart γ k z a2
        refine ⟨?_, q2, Nat.lt_of_lt_of_le q3 hnext⟩
        cases hG : G' k with
        | none => rfl
        | some y => exact absurd (hft (c'.sub _ _ hG) q3) (hkeep a2 a1)
      · exact c'.apart β k z a4
    · have hw' : look (keepF s.f keep) t = some w := hw'
      obtain ⟨u, g1, g2⟩ := hc.fr t w (keepF_look hw')
      exact ⟨u, g1, (cln_rv (hmean hd) g2 (allQ_mem hk.slot _ (look_mem hw'))).mono hle (Om.le_refl _)⟩
  · exact ren_fwd (fun β x hl hx => (omBack_new hd.1 hd.2 hl).trans hx) rv cl1
  · show iteB (Nat.ble m.next m'.low) (some []) none = some []
    rw [iteB_eq, if_pos (Nat.ble_eq_true_of_le (hlow0 e))]
end
end Sh
end Go.Proofs.Ytlfojfndkcmfnaa
namespace Go.Proofs.Ytlfojfndkcmfnaa
namespace Sh
open Go Ev

def guardOf (ops : List Oper) : Option (Nat × Bool) → Option (Option (Nat × Bool))
  | none => some none
  | some (j, w) => match ops[j]? with
    | some oj => (match oj.dst with
      | some d => some (some (d, w))
      | none => none)
    | none => none
def dstOk (nt : Nat) : Option Nat → Bool
  | none => true
  | some d => Nat.blt d nt
noncomputable def cmpL (P : Program) (nt : Nat) (ops : List Oper) (an : List Nat) : List Oper → Nat → Option (List SOper)
  | [], _ => some []
  | o :: l, i => (some ((res P o.op).getD .no)).bind fun sop => (guardOf ops o.guard).bind fun g => (cmpL P nt ops an l (i + 1)).bind fun r => if dstOk nt o.dst then some (⟨sop, o.dst, g, an.getD i 0⟩ :: r) else none

/-- What an operation has done, seen from later on. -/
structure Past0 (F : AM) (ω : Om) (rc : SRec) (e : Ent) : Prop where
  mods : ∃ ms, e.r.mods = some ms ∧ ∀ x ∈ ms, ∃ β z, β ∈ rc.wr ∧ ω β = some (some (x, z))
  foot : (rc.cl = true ∧ rc.gr = true ∧ e.r.foot = none) ∨ ∃ ft, e.r.foot = some ft ∧ ∀ x ∈ ft, x < e.m.next ∧ ((∃ β z, β ∈ rc.rd ∧ ω β = some (some (x, z))) ∨ (rc.fz = true ∧ ∃ b, F x = some b) ∨ (rc.cl = true ∧ ∃ β z, ω β = some (some (x, z))))
  own : ∀ β k z, ω β = some (some (k, z)) → e.m.next ≤ k → k < e.r.m.next → β ∈ rc.nw
  frz : rc.gr = false → ∀ x b, F x = some b → ¬ (e.m.next ≤ x ∧ x < e.r.m.next)
  still : rc.nw = [] → rc.cl = false → e.m.next = e.r.m.next
structure Past (F : AM) (ω : Om) (nxt : Nat) (rc : SRec) (e : Ent) : Prop where
  le : e.m.next ≤ e.r.m.next ∧ e.r.m.next ≤ nxt
  rest : rc.mu = true ∨ Past0 F ω rc e

section
variable {P : Program} {lo nt : Nat} {F F' : AM} {ω ω' : Om} {s : SS} {f : Fr} {m : Mem} {o : Oper}

theorem Past.mono {nxt nxt' : Nat} {rc : SRec} {e : Ent} (h : Past F ω nxt rc e) (hF : Le F F') (ho : ω.le ω') (h1 : ∀ β k z, ω' β = some (some (k, z)) → ω β = some (some (k, z)) ∨ nxt ≤ k) (h2 : ∀ x b, F' x = some b → F x = some b ∨ nxt ≤ x) (h3 : nxt ≤ nxt') : Past F' ω' nxt' rc e := by
  refine ⟨⟨h.le.1, Nat.le_trans h.le.2 h3⟩, h.rest.imp id fun q => ⟨?_, ?_, fun β k z hk a b => ?_, fun hg x b hb q' => ?_, q.still⟩⟩
  · obtain ⟨ms, a, b⟩ := q.mods
    exact ⟨ms, a, fun x hx => by obtain ⟨β, z, c, d⟩ := b x hx; exact ⟨β, z, c, ho _ _ d⟩⟩
  · rcases q.foot with q | ⟨ft, a, b⟩
    · exact .inl q
    · refine .inr ⟨ft, a, fun x hx => ⟨(b x hx).1, ?_⟩⟩
      rcases (b x hx).2 with ⟨β, z, c, d⟩ | ⟨c, y, d⟩ | ⟨c, β, z, d⟩
      · exact .inl ⟨β, z, c, ho _ _ d⟩
      · exact .inr (.inl ⟨c, y, hF _ _ d⟩)
      · exact .inr (.inr ⟨c, β, z, ho _ _ d⟩)
  · rcases h1 β k z hk with c | c
    · exact q.own β k z c a b
    · have := h.le.2; omega
  · rcases h2 x b hb with c | c
    · exact q.frz hg x b c q'
    · have := h.le.2; omega
theorem pure_facts {r : SRec} (h : r.pure = true) : r.rd = [] ∧ r.wr = [] ∧ r.nw = [] ∧ r.fz = false ∧ r.cl = false ∧ r.gr = false ∧ r.mu = false := by
  unfold SRec.pure at h
  simp only [Bool.and_eq_true, Bool.not_eq_true', List.isEmpty_iff] at h
  obtain ⟨⟨⟨⟨⟨⟨a, b⟩, c⟩, d⟩, e⟩, f⟩, g⟩ := h
  exact ⟨a, b, c, d, e, f, g⟩
theorem idle_of {r : R2} {a b : Nat} (h1 : r.foot = some []) (h2 : r.mods = some []) (h3 : a = b) : Ev.idle r a b = true := by
  unfold Ev.idle; rw [h1, h2, h3]; simp
theorem Past.pure {nxt : Nat} {rc : SRec} {e : Ent} (h : Past F ω nxt rc e) (hp : rc.pure = true) : e.idle = true := by
  obtain ⟨h1, h2, h3, h4, h5, h6, h7⟩ := pure_facts hp
  have q := h.rest.resolve_left (by rw [h7]; simp)
  obtain ⟨ms, a1, a2⟩ := q.mods
  have hms : ms = [] := by
    cases ms with
    | nil => rfl
    | cons x l => obtain ⟨β, z, v, _⟩ := a2 x List.mem_cons_self; rw [h2] at v; cases v
  have hft : e.r.foot = some [] := by
    rcases q.foot with ⟨v, _⟩ | ⟨ft, b1, b2⟩
    · rw [h5] at v; cases v
    · cases ft with
      | nil => exact b1
      | cons x l =>
        rcases (b2 x List.mem_cons_self).2 with ⟨β, z, v, _⟩ | ⟨v, _⟩ | ⟨v, _⟩
        · rw [h1] at v; cases v
        · rw [h4] at v; cases v
        · rw [h5] at v; cases v
  subst hms
  exact idle_of hft a1 (q.still h3 h5)
/-- What is left of that behind a call that may have changed things. -/
theorem Past.dim {nxt nxt' : Nat} {rc : SRec} {e : Ent} (h : Past F ω nxt rc e) (h3 : nxt ≤ nxt') : e.idle = true ∨ Past F' ω' nxt' (if rc.pure = true then rc else SRec.top) e := by
  split
  · rename_i q; exact .inl (h.pure q)
  · exact .inr ⟨⟨h.le.1, Nat.le_trans h.le.2 h3⟩, .inl rfl⟩

theorem elem_false {l : List Nm} {x : Nm} (h : nmem l x = false) : x ∉ l := fun q => by rw [nmem_iff.2 q] at h; cases h
theorem apart_of (hc : Conc lo F ω s f m) {nxt : Nat} {a b : SRec} {e q : Ent} {k j : Nat} (ha : Past F ω nxt a e) (hb : Past F ω nxt b q) (hlt : q.r.m.next ≤ e.m.next) (h : clash a b = false) : Ap k j e q := by
  unfold clash at h
  rw [Bool.or_eq_false_iff, Bool.or_eq_false_iff] at h
  obtain ⟨⟨hma, hmb⟩, h⟩ := h
  by_cases hmua : a.mu = true
  · rw [hmua, Bool.true_and, Bool.not_eq_false'] at hma
    exact .inr (.inl (hb.pure hma))
  by_cases hmub : b.mu = true
  · rw [hmub, Bool.true_and, Bool.not_eq_false'] at hmb
    exact .inl (ha.pure hmb)
  replace ha : Past0 F ω a e ∧ (e.m.next ≤ e.r.m.next ∧ e.r.m.next ≤ nxt) := ⟨ha.rest.resolve_left hmua, ha.le⟩
  replace hb : Past0 F ω b q ∧ (q.m.next ≤ q.r.m.next ∧ q.r.m.next ≤ nxt) := ⟨hb.rest.resolve_left hmub, hb.le⟩
  obtain ⟨ha, hale⟩ := ha
  obtain ⟨hb, hble⟩ := hb
  refine .inr (.inr ?_)
  simp only [Bool.or_eq_false_iff, Bool.and_eq_false_iff, List.any_eq_false, Bool.not_eq_true, Bool.not_eq_false', List.isEmpty_iff, Bool.or_eq_false_iff] at h
  obtain ⟨⟨⟨⟨⟨⟨⟨c1, c2⟩, c3⟩, c4⟩, c5⟩, c6⟩, c7⟩, c8⟩ := h
  obtain ⟨ma, a1, a2⟩ := ha.mods
  obtain ⟨mb, b1, b2⟩ := hb.mods
  have same : ∀ {β γ k z z'}, ω β = some (some (k, z)) → ω γ = some (some (k, z')) → β = γ := fun {β γ k z z'} h1 h2 => by
    by_cases q : β = γ
    · exact q
    · exact absurd rfl (hc.inj β γ k z k z' h1 h2 q)
  have noF : ∀ {β k z b}, ω β = some (some (k, z)) → F k ≠ some b := fun {β k z b} h1 h2 => by rw [(hc.apart β k z h1).1] at h2; cases h2
  have B1 : before1 (e.rec' k) (q.rec' j) = true := by
    unfold before1
    show (match q.r.mods with | none => false | some ms => match e.r.foot with | none => ms.isEmpty && Nat.beq q.m.next q.r.m.next | some fs => fs.all fun x => !(ms.elem x) && !(Nat.ble q.m.next x && Nat.blt x q.r.m.next)) = true
    rw [b1]
    rcases ha.foot with ⟨d1, d2, d3⟩ | ⟨ft, d1, d2⟩
    · rw [d3]
      have w0 : b.wr = [] ∧ b.nw = [] ∧ b.cl = false := by
        rcases c5 with w | w
        · rw [d1] at w; cases w
        · refine ⟨w.1.1, w.1.2, ?_⟩
          rcases c6 with v | v
          · exact v
          · rw [d2] at v; cases v.2
      have : mb = [] := by
        cases mb with
        | nil => rfl
        | cons x l => obtain ⟨β, z, v, _⟩ := b2 x List.mem_cons_self; rw [w0.1] at v; cases v
      rw [this, hb.still w0.2.1 w0.2.2]
      show (true && Nat.beq _ _) = true
      rw [Nat.beq_refl]; rfl
    · rw [d1]
      refine List.all_eq_true.2 fun x hx => ?_
      obtain ⟨e1, e2⟩ := d2 x hx
      have g1 : x ∉ mb := fun hm => by
        obtain ⟨γ, z, v1, v2⟩ := b2 x hm
        rcases e2 with ⟨β, z', w1, w2⟩ | ⟨_, y, w2⟩ | ⟨w1, _⟩
        · rw [same w2 v2] at w1
          exact elem_false (c2 γ v1).1.1 w1
        · exact noF v2 w2
        · rcases c5 with w | w
          · rw [w1] at w; cases w
          · rw [w.1.1] at v1; cases v1
      have g2 : ¬ (q.m.next ≤ x ∧ x < q.r.m.next) := fun hq => by
        rcases e2 with ⟨β, z', w1, w2⟩ | ⟨w1, y, w2⟩ | ⟨w1, β, z', w2⟩
        · exact elem_false (c3 β w1) (hb.own β x z' w2 hq.1 hq.2)
        · refine hb.frz ?_ x y w2 hq
          rcases c8 with w | w
          · exact w
          · rw [w1] at w; cases w
        · have := hb.own β x z' w2 hq.1 hq.2
          rcases c5 with w | w
          · rw [w1] at w; cases w
          · rw [w.1.2] at this; cases this
      rw [Bool.and_eq_true, Bool.not_eq_true', Bool.not_eq_true', Bool.and_eq_false_iff]
      refine ⟨by simpa using g1, ?_⟩
      by_cases hq : q.m.next ≤ x
      · right
        cases hqq : Nat.blt x q.r.m.next with
        | false => rfl
        | true => exact absurd ⟨hq, Nat.le_of_ble_eq_true hqq⟩ g2
      · left
        cases hqq : Nat.ble q.m.next x with
        | false => rfl
        | true => exact absurd (Nat.le_of_ble_eq_true hqq) hq
  have B2 : before1 (q.rec' j) (e.rec' k) = true := by
    unfold before1
    show (match e.r.mods with | none => false | some ms => match q.r.foot with | none => ms.isEmpty && Nat.beq e.m.next e.r.m.next | some fs => fs.all fun x => !(ms.elem x) && !(Nat.ble e.m.next x && Nat.blt x e.r.m.next)) = true
    rw [a1]
    rcases hb.foot with ⟨d1, d2, d3⟩ | ⟨ft, d1, d2⟩
    · rw [d3]
      have w0 : a.wr = [] ∧ a.nw = [] ∧ a.cl = false := by
        rcases c6 with w | w
        · rw [d1] at w; cases w
        · refine ⟨w.1.1, w.1.2, ?_⟩
          rcases c5 with v | v
          · exact v
          · rw [d2] at v; cases v.2
      have : ma = [] := by
        cases ma with
        | nil => rfl
        | cons x l => obtain ⟨β, z, v, _⟩ := a2 x List.mem_cons_self; rw [w0.1] at v; cases v
      rw [this, ha.still w0.2.1 w0.2.2]
      show (true && Nat.beq _ _) = true
      rw [Nat.beq_refl]; rfl
    · rw [d1]
      refine List.all_eq_true.2 fun x hx => ?_
      obtain ⟨e1, e2⟩ := d2 x hx
      have g1 : x ∉ ma := fun hm => by
        obtain ⟨γ, z, v1, v2⟩ := a2 x hm
        rcases e2 with ⟨β, z', w1, w2⟩ | ⟨_, y, w2⟩ | ⟨w1, _⟩
        · rw [same w2 v2] at w1
          exact elem_false (c1 γ v1).1.1 w1
        · exact noF v2 w2
        · rcases c6 with w | w
          · rw [w1] at w; cases w
          · rw [w.1.1] at v1; cases v1
      rw [Bool.and_eq_true, Bool.not_eq_true', Bool.not_eq_true', Bool.and_eq_false_iff]
      refine ⟨by simpa using g1, .inl ?_⟩
      cases hqq : Nat.ble e.m.next x with
      | false => rfl
      | true => have := Nat.le_of_ble_eq_true hqq; have := hble.1; omega
  unfold apart2
  rw [B1, B2]
  show (match e.r.mods, q.r.mods with | some x, some y => x.all fun i => !(y.elem i) | _, _ => false) = true
  rw [a1, b1]
  refine List.all_eq_true.2 fun x hx => ?_
  rw [Bool.not_eq_true']
  cases hq : mb.elem x with
  | false => rfl
  | true =>
    exfalso
    obtain ⟨β, z, v1, v2⟩ := a2 x hx
    obtain ⟨γ, z', w1, w2⟩ := b2 x (by simpa using hq)
    rw [← same v2 w2] at w1
    exact elem_false (c1 β v1).1.2 w1
/-- A call that is given no own blocks may change places with what writes nothing and makes nothing. -/
theorem apart_quiet {nxt : Nat} {b : SRec} {e q : Ent} {k j : Nat} (hm : e.r.mods = some []) (hf : e.r.foot = none) (hb : Past F ω nxt b q) (hq : quietR b = true) (hlt : q.r.m.next ≤ e.m.next) : Ap k j e q := by
  unfold quietR at hq
  simp only [Bool.and_eq_true, Bool.not_eq_true', List.isEmpty_iff] at hq
  obtain ⟨⟨⟨q1, q2⟩, q3⟩, q4⟩ := hq
  have hle := hb.le
  have hb := hb.rest.resolve_left (by rw [q1]; simp)
  obtain ⟨mb, b1, b2⟩ := hb.mods
  have hmb : mb = [] := by
    cases mb with
    | nil => rfl
    | cons x l => obtain ⟨β, z, v, _⟩ := b2 x List.mem_cons_self; rw [q2] at v; cases v
  subst hmb
  have hst := hb.still q3 q4
  obtain ⟨ft, d1, d2⟩ := hb.foot.resolve_left (fun h => by rw [q4] at h; cases h.1)
  refine .inr (.inr ?_)
  have B1 : before1 (e.rec' k) (q.rec' j) = true := by
    unfold before1
    show (match q.r.mods with | none => false | some ms => match e.r.foot with | none => ms.isEmpty && Nat.beq q.m.next q.r.m.next | some fs => fs.all fun x => !(ms.elem x) && !(Nat.ble q.m.next x && Nat.blt x q.r.m.next)) = true
    rw [b1, hf, hst]
    show (true && Nat.beq _ _) = true
    rw [Nat.beq_refl]; rfl
  have B2 : before1 (q.rec' j) (e.rec' k) = true := by
    unfold before1
    show (match e.r.mods with | none => false | some ms => match q.r.foot with | none => ms.isEmpty && Nat.beq e.m.next e.r.m.next | some fs => fs.all fun x => !(ms.elem x) && !(Nat.ble e.m.next x && Nat.blt x e.r.m.next)) = true
    rw [hm, d1]
    refine List.all_eq_true.2 fun x hx => ?_
    have e1 := (d2 x hx).1
    cases hqq : Nat.ble e.m.next x with
    | false => rfl
    | true => have := Nat.le_of_ble_eq_true hqq; have := hle.1; omega
  unfold apart2
  rw [B1, B2]
  show (match e.r.mods, q.r.mods with | some x, some y => x.all fun i => !(y.elem i) | _, _ => false) = true
  rw [hm, b1]
  rfl
end
end Sh
end Go.Proofs.Ytlfojfndkcmfnaa
namespace Go.Proofs.Ytlfojfndkcmfnaa
namespace Sh
open Go Ev

section
variable {P : Program} {lo nt : Nat} {F F' : AM} {ω ω' : Om} {s : SS} {f : Fr} {m : Mem} {o : Oper}

theorem put_ok {d : Option Nat} (h : dstOk nt d = true) (hn : nt ≤ f.n) (u : Value) : ∃ f', f.put d u = some f' ∧ f'.n = f.n ∧ ((d = none ∧ f' = f) ∨ ∃ k, d = some k ∧ f'.t = T.set (Nat.succ k) f.t k (some u)) := by
  cases d with
  | none => exact ⟨f, rfl, rfl, .inl ⟨rfl, rfl⟩⟩
  | some k =>
    have hk : k < f.n := Nat.lt_of_lt_of_le (Nat.le_of_ble_eq_true h) hn
    obtain ⟨n, t⟩ := f
    refine ⟨⟨n, T.set (Nat.succ k) t k (some u)⟩, ?_, rfl, .inr ⟨k, rfl, rfl⟩⟩
    show iteB (Nat.blt k n) (Fr.set1 n t k u) none = _
    rw [iteB_eq, if_pos (show Nat.blt k n = true from Nat.ble_eq_true_of_le hk)]
    unfold Fr.set1
    rw [force_eq, T.strict_eq]
theorem Conc.put (hc : Conc lo F ω s f m) {d : Option Nat} {v : SV} {u : Value} {f' : Fr} (hf : (d = none ∧ f' = f) ∨ ∃ k, d = some k ∧ f'.t = T.set (Nat.succ k) f.t k (some u)) (hv : RV F ω v u) : Conc lo F ω (s.put d v) f' m := by
  rcases hf with ⟨rfl, rfl⟩ | ⟨k, rfl, hk⟩
  · exact hc
  · refine ⟨hc.wf, hc.low, hc.nxt, hc.sub, hc.own, hc.dom, hc.inj, hc.apart, fun t w hw => ?_⟩
    have hw' : (if k = t then some v else look s.f t) = some w := hw
    rw [hk]
    rw [T.set_at]
    split at hw'
    · rename_i q; cases hw'; exact ⟨u, by rw [if_pos q.symm], hv⟩
    · rename_i q; rw [if_neg (Ne.symm q)]; exact hc.fr t w hw'
theorem one_of_evOp {r0 : R} (h : evOp P f o m = some r0) : One P f o m ⟨r0.v, m.app r0.e, some r0.foot, some r0.e.mods⟩ := by
  refine .inl ⟨fun _ => none, fun t out q => (by cases q), ?_⟩
  unfold evOne evOne1
  split
  · rename_i fx args ats hop
    unfold evOp at h
    rw [hop] at h
    cases h
  · rw [h]; rfl
/-- Entries of operations that have gone before. -/
def Pasts (F : AM) (ω : Om) (nxt : Nat) (rs : List (Nat × SRec)) (ps : List (Nat × Ent)) : Prop := ∀ p ∈ ps, p.2.idle = true ∨ ∃ rc, (p.1, rc) ∈ rs ∧ Past F ω nxt rc p.2
theorem Pasts.mono {nxt nxt' : Nat} {rs rs' : List (Nat × SRec)} {ps : List (Nat × Ent)} (h : Pasts F ω nxt rs ps) (hs : ∀ x ∈ rs, x ∈ rs') (hF : Le F F') (ho : ω.le ω') (h1 : ∀ β k z, ω' β = some (some (k, z)) → ω β = some (some (k, z)) ∨ nxt ≤ k) (h2 : ∀ x b, F' x = some b → F x = some b ∨ nxt ≤ x) (h3 : nxt ≤ nxt') : Pasts F' ω' nxt' rs' ps := fun p hp =>
  (h p hp).imp id fun ⟨rc, a, b⟩ => ⟨rc, hs _ a, b.mono hF ho h1 h2 h3⟩
theorem fits_at {d : Bool} {an : Nat} {r : SRec} {rs : List (Nat × SRec)} (h : fits d an r rs = true) (hd : d = true) {q : Nat} {rc : SRec} (hq : (q, rc) ∈ rs) : Nat.testBit an q = true ∨ clash r rc = false := by
  subst hd
  unfold fits at h
  simp only [Bool.not_true, Bool.false_or] at h
  have := List.all_eq_true.1 h _ hq
  simpa using this

theorem binOf_not {op : BinOp} {t : TypeId} {x y fx : Operand} {xs : List Operand} (h : binOf P op t x y = .call fx xs) : False := by
  unfold binOf at h
  split at h
  · cases h
  · split at h <;> first | (cases h; done) | (split at h <;> first | (cases h; done) | (split at h <;> cases h; done))
theorem res_call {op : Op} {fx : Operand} {xs : List Operand} (h : res P op = some (.call fx xs)) : ∃ args ats, op = .call { callee := .value fx, args := args, argTypes := ats } ∧ args.toList = xs := by
  unfold res at h
  split at h
  case h_4 =>
    exfalso
    obtain ⟨_, _, h⟩ := bind_some h
    obtain ⟨_, _, h⟩ := bind_some h
    obtain ⟨_, _, h⟩ := bind_some h
    have h := Option.some.inj h
    unfold allocOf at h
    split at h
    · split at h
      · split at h
        · split at h <;> cases h
        · cases h
      · cases h
    · cases h
  case h_6 =>
    exfalso
    obtain ⟨_, _, h⟩ := bind_some h
    obtain ⟨_, _, h⟩ := bind_some h
    obtain ⟨_, _, h⟩ := bind_some h
    obtain ⟨_, _, h⟩ := bind_some h
    unfold buildOf at h
    split at h <;> cases h
  case h_7 =>
    exfalso
    obtain ⟨_, _, h⟩ := bind_some h
    split at h
    · obtain ⟨_, _, h⟩ := bind_some h
      obtain ⟨_, _, h⟩ := bind_some h
      unfold bsliceOf at h
      split at h
      · split at h <;> cases h
      · cases h
    · cases h
  case h_22 =>
    rename_i c
    obtain ⟨cl, args, ats⟩ := c
    unfold callOf at h
    split at h
    · cases h; rename_i hcl; exact ⟨args, ats, by rw [show cl = _ from hcl], rfl⟩
    · exfalso; split at h <;> cases h
    · exfalso
      split at h
      · split at h
        · split at h
          · split at h <;> cases h
          · cases h
        · cases h
      · cases h
    · cases h
    · cases h
    · cases h
  all_goals
    exfalso
    first
      | exact (binOf_not (Option.some.inj h)).elim
      | (cases h; done)
      | (obtain ⟨_, _, h⟩ := bind_some h; cases h; done)
      | (obtain ⟨_, _, h⟩ := bind_some h; obtain ⟨_, _, h⟩ := bind_some h; cases h; done)
      | (obtain ⟨_, _, h⟩ := bind_some h; obtain ⟨_, _, h⟩ := bind_some h; split at h <;> cases h; done)
      | (obtain ⟨_, _, h⟩ := bind_some h; split at h <;> first | (cases h; done) | (obtain ⟨_, _, h⟩ := bind_some h; cases h; done) | (obtain ⟨_, _, h⟩ := bind_some h; obtain ⟨_, _, h⟩ := bind_some h; first | (cases h; done) | (split at h <;> cases h; done) | (obtain ⟨_, _, h⟩ := bind_some h; cases h; done)))
/-- What one wanted operation comes to. -/
def RunR (P : Program) (pr : List Nm) (lo : Nat) (F : AM) (ω : Om) (f : Fr) (m : Mem) (o : Oper) (d : Bool) (i an : Nat) (ps : List (Nat × Ent)) (nx : List (Nat × SRec) → SS → Prop) : Prop :=
  ∃ r2 f1 F' ω' s' rc rs', One P f o m r2 ∧ f.put o.dst r2.v = some f1 ∧ f1.n = f.n ∧ Conc lo F' ω' s' f1 r2.m ∧ nx ((i, rc) :: rs') s' ∧ Past F' ω' r2.m.next rc ⟨f, m, true, r2⟩ ∧ Pasts F' ω' r2.m.next ((i, rc) :: rs') ps ∧
      (d = true → ∀ p ∈ ps, Nat.testBit an p.1 = true ∨ (p.2.idle = true ∨ Ap i p.1 ⟨f, m, true, r2⟩ p.2) ∨ ∃ rc', Past F' ω' r2.m.next rc' p.2 ∧ clash rc rc' = false ∧ p.2.r.m.next ≤ m.next) ∧ (Le F F' ∧ (∀ x b, F' x = some b → F x = some b ∨ lo ≤ x) ∧ ∀ β ∈ pr, ∀ x, ω β = some x → ω' β = some x)
theorem run_sound {pr : List Nm} {mu : List FuncId} {d : Bool} {rs : List (Nat × SRec)} {i an : Nat} {nx : List (Nat × SRec) → SS → Prop} {sop : SOp} {ps : List (Nat × Ent)} (hc : Conc lo F ω s f m) (hres0 : (res P o.op).getD .no = sop) (hnt : nt ≤ f.n) (hd : dstOk nt o.dst = true) (hps : Pasts F ω m.next rs ps)
    (h : runO ⟨Ct P, Cm P, pr, mu⟩ d rs s i an o.dst nx sop) : RunR P pr lo F ω f m o d i an ps nx := by
  have step : ∀ {rx : Option XR}, (∀ X, rx = some X → X.c → OpS P lo F ω f m o X) → opO d rs i an o.dst nx rx → RunR P pr lo F ω f m o d i an ps nx := by
    intro rx hall hk
    unfold opO at hk
    split at hk
    · rename_i X
      obtain ⟨k1, k2, k3⟩ := hk
      obtain ⟨r0, ω', e1, e2, e3, e4, e5, e6, e7, e8, e9⟩ := hall X rfl k1
      obtain ⟨f1, g1, g2, g3⟩ := put_ok hd hnt r0.v
      have hnext := app_next m r0.e
      have hle : m.next ≤ (m.app r0.e).next := by rw [hnext]; split <;> omega
      have hpm := hps.mono (rs' := (i, X.r) :: rs) (F' := F) (ω' := ω') (nxt' := (m.app r0.e).next) (fun x hx => List.mem_cons_of_mem _ hx) (Le.refl _) e2 e5 (fun x b h => .inl h) hle
      refine ⟨⟨r0.v, m.app r0.e, some r0.foot, some r0.e.mods⟩, f1, F, ω', X.s.put o.dst X.v, X.r, rs, one_of_evOp e1, g1, g2, e3.put g3 e4, k3, ?_, hpm, fun hdd p hp => ?_, Le.refl _, fun x b h => .inl h, fun β _ x hx => e2 β x hx⟩
      · refine ⟨⟨hle, Nat.le_refl _⟩, .inr ⟨⟨_, rfl, fun x hx => ?_⟩, .inr ⟨_, rfl, fun x hx => ?_⟩, fun β k z hk a b => ?_, fun hg x b hb q => ?_, fun a b => ?_⟩⟩
        · obtain ⟨β, z, a, b⟩ := e7 x hx; exact ⟨β, z, a, e2 _ _ b⟩
        · rcases e6 x hx with ⟨β, z, a, b⟩ | ⟨a, y, b⟩
          · exact ⟨(hc.apart β x z b).2.2, .inl ⟨β, z, a, e2 _ _ b⟩⟩
          · exact ⟨hc.wf x y (hc.sub x y b), .inr (.inl ⟨a, y, b⟩)⟩
        · have a : m.next ≤ k := a
          have b : k < (m.app r0.e).next := b
          rw [hnext] at b
          split at b
          · rename_i hq
            obtain ⟨γ, z', c1, c2⟩ := e9 hq
            obtain rfl : k = m.next := by omega
            by_cases q : β = γ
            · rw [q]; exact c1
            · exact absurd rfl (e3.inj β γ _ z _ z' hk c2 q)
          · omega
        · have := hc.wf x b (hc.sub x b hb)
          have q1 : m.next ≤ x := q.1
          omega
        · show m.next = (m.app r0.e).next
          rw [hnext, e8 a]; rfl
      · rcases hpm p hp with q | ⟨rc', a, b⟩
        · exact .inr (.inl (.inl q))
        · rcases hps p hp with q | ⟨rc', a, b⟩
          · exact .inr (.inl (.inl q))
          · rcases fits_at k2 hdd a with q | q
            · exact .inl q
            · exact .inr (.inr ⟨rc', b.mono (Le.refl _) e2 e5 (fun x b h => .inl h) hle, q, b.le.2⟩)
    · cases hk
  have hres : res P o.op = some sop := by
    cases hq : res P o.op with
    | some x => rw [hq] at hres0; exact congrArg some hres0
    | none => rw [hq] at hres0; subst hres0; cases h
  cases sop with
  | call fx xs =>
    obtain ⟨args, ats, hop, rfl⟩ := res_call hres
    change callO ⟨Ct P, Cm P, pr, mu⟩ d rs s i an o.dst nx (s.get fx) (s.gets args.toList) at h
    unfold callO at h
    split at h
    · rename_i g a b xs hf hx
      have main : ∀ {as : List SV} {Q : SV → Prop}, Ct P g as Q → ((as = a ++ xs ++ b ∧ (a ++ xs ++ b).any (owned 5) = false) ∨ (as = (a ++ xs ++ b).map (view s.o 5) ∧ allP (vok s.o 5) (a ++ xs ++ b) ∧ ∀ r, Q r → scalar 5 r = true)) →
          (∀ r, Q r → thenO d rs s i an o.dst nx (scalar 5 r) r) → RunR P pr lo F ω f m o d i an ps nx := by
        intro as Q hct has hth
        obtain ⟨r2, F', rv, t1, t2, t3, t4, t5, t6, t7, t8, t9⟩ := call_one hc hop hf hx hct has
        obtain ⟨k2, k3⟩ := hth rv t2
        obtain ⟨f1, g1, g2, g3⟩ := put_ok hd hnt r2.v
        have t8' : ∀ x b, F' x = some b → F x = some b ∨ m.next ≤ x := fun x b h => (t8 x b h).imp id And.right
        have hpm := hps.mono (rs' := (i, ⟨[], [], [], true, true, !(scalar 5 rv), false⟩) :: rs) (F' := F') (ω' := ω) (nxt' := r2.m.next) (fun x hx => List.mem_cons_of_mem _ hx) t3 (Om.le_refl _) (fun _ _ _ h => .inl h) t8' t6
        refine ⟨r2, f1, F', ω, s.put o.dst rv, _, rs, t1, g1, g2, t5.put g3 t4, k3, ?_, hpm, fun hdd p hp => ?_, t3, fun x b h => (t8' x b h).imp id (Nat.le_trans hc.nxt), fun β _ x hx => hx⟩
        · refine ⟨⟨t6, Nat.le_refl _⟩, .inr ⟨⟨[], t7, fun x hx => (by cases hx)⟩, ?_, fun β k z hk a b => ?_, fun hg x b hb q => ?_, fun a b => (by cases b)⟩⟩
          · rcases t9 with ⟨hs, ft, h1, h2⟩ | ⟨hs, h1⟩
            · refine .inr ⟨ft, h1, fun x hx => ⟨(h2 x hx).1, ?_⟩⟩
              rcases (h2 x hx).2 with ⟨b, hb⟩ | ⟨β, z, hb⟩
              · exact .inr (.inl ⟨rfl, b, t3 _ _ hb⟩)
              · exact .inr (.inr ⟨rfl, β, z, hb⟩)
            · exact .inl ⟨rfl, by rw [hs]; rfl, h1⟩
          · have := (hc.apart β k z hk).2.2
            have a : m.next ≤ k := a
            omega
          · rcases t8 x b hb with h | ⟨h, _⟩
            · have := hc.wf x b (hc.sub x b h)
              have q1 : m.next ≤ x := q.1
              omega
            · have hg : (!(scalar 5 rv)) = false := hg
              rw [h] at hg; cases hg
        · rcases hps p hp with q | ⟨rc', a, b⟩
          · exact .inr (.inl (.inl q))
          · rcases fits_at k2 hdd a with q | q
            · exact .inl q
            · exact .inr (.inr ⟨rc', b.mono t3 (Om.le_refl _) (fun _ _ _ h => .inl h) t8' t6, q, b.le.2⟩)
      have mutC : callM ⟨Ct P, Cm P, pr, mu⟩ d rs s i an o.dst nx g (a ++ xs ++ b) → RunR P pr lo F ω f m o d i an ps nx := by
        intro h
        obtain ⟨ρ, base, keep, kb, pr', o0, as, hlen, hw, hdom, hfit, hkept, hcm⟩ := h
        obtain ⟨r2, F', ω', rv, o', t1, t2, t3, t4, t5, t6, t7, t8, t9⟩ := callM_one hc hop hf hx hlen hw hdom hkept hcm
        obtain ⟨hd1, hnx⟩ := t2
        obtain ⟨c1, c2⟩ := t3 hd1
        obtain ⟨f1, g1, g2, g3⟩ := put_ok hd hnt r2.v
        refine ⟨r2, f1, F', ω', (backS s ρ base keep kb o').put o.dst (ren (nu ρ base) 5 rv), SRec.top, rs.map dim, t1, g1, g2, c1.put g3 c2, hnx, ⟨⟨t4, Nat.le_refl _⟩, .inl rfl⟩, fun p hp => ?_, fun hdd p hp => ?_, t5, t6, t7 hd1⟩
        · rcases hps p hp with q | ⟨rc', a, b⟩
          · exact .inl q
          · rcases b.dim (F' := F') (ω' := ω') t4 with q | q
            · exact .inl q
            · exact .inr ⟨_, List.mem_cons_of_mem _ (List.mem_map.2 ⟨_, a, rfl⟩), q⟩
        · rcases hps p hp with q | ⟨rc', a, b⟩
          · exact .inr (.inl (.inl q))
          · rcases Bool.or_eq_true_iff.1 hfit with hfit | hfit
            · rcases fits_at hfit hdd a with q | q
              · exact .inl q
              · refine .inr (.inl (.inl (b.pure ?_)))
                unfold clash at q
                rw [Bool.or_eq_false_iff, Bool.or_eq_false_iff] at q
                have := q.1.1
                rwa [show SRec.top.mu = true from rfl, Bool.true_and, Bool.not_eq_false'] at this
            · rw [Bool.and_eq_true, List.isEmpty_iff] at hfit
              rcases Bool.or_eq_true_iff.1 (List.all_eq_true.1 hfit.2 _ a) with q | q
              · exact .inl q
              · rcases Bool.or_eq_true_iff.1 q with q | q
                · exact .inr (.inl (.inl (b.pure q)))
                · exact .inr (.inl (.inr (apart_quiet (t9 hfit.1) t8 b q b.le.2)))
      split at h
      · exact mutC h
      split at h
      · rcases h with h | h
        · exact main h.2 (.inr ⟨rfl, h.1, fun r hr => hr.1⟩) (fun r hr => by rw [hr.1]; exact hr.2)
        · exact mutC h
      · rename_i hown
        exact main h (.inl ⟨rfl, by simpa using hown⟩) (fun r hr => hr)
    · cases h
  | _ => exact step (fun X hX hXc => xOp_sound hc hres hX hXc) h
end
end Sh
end Go.Proofs.Ytlfojfndkcmfnaa
