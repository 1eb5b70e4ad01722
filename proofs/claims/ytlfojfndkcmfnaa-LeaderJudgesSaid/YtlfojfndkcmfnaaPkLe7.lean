/- Lemmas, joined: ShK ShR. -/
import Derived.Test.YtlfojfndkcmfnaaPkLe6
set_option linter.unusedSimpArgs false
set_option linter.unusedVariables false
namespace Go.Proofs.Ytlfojfndkcmfnaa
namespace Sh
open Go Ev

/-- The blocks from n on that a memory has, the others as they were. -/
noncomputable def frsh (n : Nat) (m' : Mem) (G : AM) : AM := fun i => if n ≤ i then m'.b.get i else G i
/-- A function, called with what is told of so, comes to something of which Q holds; whatever was there stays. -/
def Ct (P : Program) (g : FuncId) (args : List SV) (Q : SV → Prop) : Prop :=
  ∀ (G : AM) (m : Mem) (us : List Value), Wf m → Le G m.b.get → RVL G om0 args us →
    ∃ v m' r, SoundT P (.call g us m) (.call v m') ∧ m.next ≤ m'.low ∧ Le m.b.get m'.b.get ∧ Q r ∧ RV (frsh m.next m' G) om0 r v
theorem Ct.mono {P : Program} {g : FuncId} {args : List SV} {Q R : SV → Prop} (h : Ct P g args Q) (hq : ∀ r, Q r → R r) : Ct P g args R := fun G m us h1 h2 h3 => by
  obtain ⟨v, m', r, a, b, c, d, e⟩ := h G m us h1 h2 h3
  exact ⟨v, m', r, a, b, c, hq r d, e⟩

section
variable {P : Program} {lo : Nat} {F G : AM} {ω ψ : Om} {s : SS} {f : Fr} {m : Mem} {o : Oper}

theorem allP_mem {p : SV → Prop} : ∀ {l : List SV}, allP p l → ∀ x ∈ l, p x
  | _ :: _, h, x, hx => by
    rcases List.mem_cons.1 hx with q | q
    · rw [q]; exact h.1
    · exact allP_mem h.2 x q
theorem RVL.of_get : ∀ {l : List SV} {L : List Value}, RVL F ω l L → (∀ v u, v ∈ l → RV F ω v u → RV G ψ v u) → RVL G ψ l L
  | _, _, .nil, _ => .nil
  | _, _, .cons h hl, k => .cons (k _ _ List.mem_cons_self h) (hl.of_get fun v u hv => k v u (List.mem_cons_of_mem _ hv))
theorem RVL.map_get {k : SV → SV} : ∀ {l : List SV} {L : List Value}, RVL F ω l L → (∀ v u, v ∈ l → RV F ω v u → RV G ψ (k v) u) → RVL G ψ (l.map k) L
  | _, _, .nil, _ => .nil
  | _, _, .cons h hl, q => .cons (q _ _ List.mem_cons_self h) (hl.map_get fun v u hv => q v u (List.mem_cons_of_mem _ hv))
/-- Without addresses, whatever the memory. -/
theorem scalar_rv : ∀ {n : Nat} {v : SV} {u : Value}, scalar n v = true → RV F ω v u → RV G ψ v u
  | 0, _, _, h, _ => by cases h
  | n + 1, v, u, h, hr => by
    cases hr with
    | i => exact .i
    | b => exact .b
    | a h' => exact .a h'
    | ag hl => exact .ag (hl.of_get fun v u hv => scalar_rv (List.all_eq_true.1 h v hv))
    | tp hl => exact .tp (hl.of_get fun v u hv => scalar_rv (List.all_eq_true.1 h v hv))
    | _ => cases h
/-- Without own things, whatever these are. -/
theorem owned_rv : ∀ {n : Nat} {v : SV} {u : Value}, owned n v = false → RV F ω v u → RV F ψ v u
  | 0, _, _, h, _ => by cases h
  | n + 1, v, u, h, hr => by
    have any : ∀ {l : List SV}, l.any (owned n) = false → ∀ v ∈ l, owned n v = false := fun {l} h v hv => by
      cases hq : owned n v with
      | false => rfl
      | true => rw [List.any_eq_true.2 ⟨v, hv, hq⟩] at h; cases h
    cases hr with
    | i => exact .i
    | b => exact .b
    | a h' => exact .a h'
    | sl0 h' => exact .sl0 h'
    | sl a1 a2 a3 a4 a5 a6 a7 => exact .sl a1 a2 a3 a4 a5 a6 a7
    | rf a1 a2 a3 a4 a5 => exact .rf a1 a2 a3 a4 a5
    | ex a1 a2 a3 => exact .ex a1 a2 a3
    | ag hl => exact .ag (hl.of_get fun v u hv => owned_rv (any h v hv))
    | tp hl => exact .tp (hl.of_get fun v u hv => owned_rv (any h v hv))
    | fn ha hb =>
      have h : (_ || _) = false := h
      rw [Bool.or_eq_false_iff] at h
      exact .fn (ha.of_get fun v u hv => owned_rv (any h.1 v hv)) (hb.of_get fun v u hv => owned_rv (any h.2 v hv))
    | _ => cases h
theorem view_one1 {n : Nat} {v : SV} {o : Own} (h1 : one1 v = true) (hv : vok o n v) : one1 (view o n v) = true := by
  cases n with
  | zero => cases hv
  | succ n =>
    cases v with
    | pt β i j =>
      simp only [view]
      simp only [vok] at hv
      split at hv
      · rfl
      · cases hv
    | os β p k c =>
      simp only [view]
      simp only [vok] at hv
      split at hv
      · rfl
      · cases hv
    | _ => first | rfl | exact h1
theorem map_view_one1 {n : Nat} {o : Own} : ∀ {l : List SV}, l.all one1 = true → allP (vok o n) l → (l.map (view o n)).all one1 = true
  | [], _, _ => rfl
  | x :: l, h, hp => by
    simp only [List.all_cons, Bool.and_eq_true] at h
    simp only [List.map_cons, List.all_cons, Bool.and_eq_true]
    exact ⟨view_one1 h.1 hp.1, map_view_one1 h.2 hp.2⟩
/-- What is told of own things, is so. -/
theorem view_rv (hc : Conc lo F ω s f m) (hF : Le F G) (hG : ∀ β k z, ω β = some (some (k, z)) → ∀ b, m.b.get k = some b → G k = some b) : ∀ {n : Nat} {v : SV} {u : Value}, RV F ω v u → vok s.o n v → RV G om0 (view s.o n v) u
  | 0, _, _, _, h => by cases h
  | n + 1, v, u, hr, hv => by
    cases hr with
    | i => exact .i
    | b => exact .b
    | a h => exact .a h
    | sl0 h' => exact .sl0 h'
    | sl a1 a2 a3 a4 a5 a6 a7 => exact (RV.sl a1 a2 a3 a4 a5 a6 a7 : RV F om0 _ _).mono hF (Om.le_refl _)
    | rf a1 a2 a3 a4 a5 => exact (RV.rf a1 a2 a3 a4 a5 : RV F om0 _ _).mono hF (Om.le_refl _)
    | ex a1 a2 a3 => exact (RV.ex a1 a2 a3 : RV F om0 _ _).mono hF (Om.le_refl _)
    | ag hl => exact .ag (hl.map_get fun v u hm hr => view_rv hc hF hG hr (allP_mem hv v hm))
    | tp hl => exact .tp (hl.map_get fun v u hm hr => view_rv hc hF hG hr (allP_mem hv v hm))
    | fn ha hb => exact .fn (ha.map_get fun v u hm hr => view_rv hc hF hG hr (allP_mem hv.1 v hm)) (hb.map_get fun v u hm hr => view_rv hc hF hG hr (allP_mem hv.2 v hm))
    | pt hk =>
      rename_i β i j k z
      simp only [vok] at hv
      simp only [view]
      split at hv
      · rename_i b hb
        obtain ⟨⟨v1, v2⟩, v3⟩ := hv
        obtain ⟨rfl, T, L, g1, g2⟩ := hc.ownAt hb hk
        obtain ⟨l1, l2, l3, l4⟩ := g2 i v1
        have hin := mul_in (z := b.z) v1
        refine .rf (L := (L i).drop j) (hG _ _ _ hk _ g1) (by simp; omega) (fun q hq => ?_) ((l2.drop j).map_get fun v u hm hr => view_rv hc hF hG hr (allP_mem v3 v hm)) (map_view_one1 (all_drop l3 j) v3)
        simp at hq
        rw [Nat.add_assoc, l4 _ (by omega)]
        simp
      · cases hv
    | os hk hcu =>
      rename_i β p k ap cp q z
      simp only [vok] at hv
      simp only [view]
      split at hv
      · rename_i b hb
        obtain ⟨v1, v2⟩ := hv
        obtain ⟨rfl, T, L, g1, g2⟩ := hc.ownAt hb hk
        refine .sl (L := fun a => L (p + a)) (hG _ _ _ hk _ g1) (by cases b.bx <;> simp) ?_ (fun a ha => (g2 (p + a) (by omega)).1) (fun a ha j hj => ?_) (fun a ha => ?_) (fun a ha => map_view_one1 (g2 (p + a) (by omega)).2.2.1 (v2 a ha))
        · rw [← Nat.add_mul]; exact Nat.mul_le_mul_right _ v1
        · rw [← Nat.add_mul]; exact (g2 (p + a) (by omega)).2.2.2 j hj
        · exact (g2 (p + a) (by omega)).2.1.map_get fun v u hm hr => view_rv hc hF hG hr (allP_mem (v2 a ha) v hm)
      · cases hv
    | os0 hk =>
      rename_i β
      simp only [vok] at hv
      simp only [view]
      split at hv
      · exact .sl0 (.inl rfl)
      · cases hv

theorem Conc.only (hc : Conc lo F ω s f m) : ∃ ft : List Nat, (∀ x ∈ ft, x < m.next ∧ ((∃ b, F x = some b) ∨ ∃ β z, ω β = some (some (x, z)))) ∧ Le F (m.only ft).b.get ∧ ∀ β k z, ω β = some (some (k, z)) → ∀ b, m.b.get k = some b → (m.only ft).b.get k = some b := by
  classical
  refine ⟨(List.range m.next).filter fun x => decide ((∃ b, F x = some b) ∨ ∃ β z, ω β = some (some (x, z))), fun x hx => ?_, fun i b hb => ?_, fun β k z hk b hb => ?_⟩
  · rw [List.mem_filter] at hx
    exact ⟨List.mem_range.1 hx.1, of_decide_eq_true hx.2⟩
  · have := hc.sub i b hb
    exact only_get.2 ⟨List.mem_filter.2 ⟨List.mem_range.2 (hc.wf i b this), decide_eq_true (.inl ⟨b, hb⟩)⟩, this⟩
  · exact only_get.2 ⟨List.mem_filter.2 ⟨List.mem_range.2 (hc.wf k b hb), decide_eq_true (.inr ⟨β, z, hk⟩)⟩, hb⟩
theorem SoundT.weaken {g : FuncId} {us : List Value} {v : Value} {m' : Mem} {ft : List Nat} (hw : Wf m) (h : SoundT P (.call g us (m.only ft)) (.call v m')) : SoundT P (.call g us m) (.call v m') := by
  intro _
  obtain ⟨e, h2⟩ := h (only_wf hw)
  refine ⟨⟨e.next, fun i b hb => ?_, fun i b h1 h3 hb => (only_get.1 (e.old i b h1 h3 hb)).2, e.wf⟩, fun φ M w args' hR hs ha hf => ?_⟩
  · rcases e.dom i b hb with ⟨x, hx⟩ | q
    · exact .inl ⟨x, (only_get.1 hx).2⟩
    · exact .inr q
  · have := h2 φ M w args' hR (fun i b hb => hs i b (only_get.1 hb).2) ha hf
    refine this.mono ?_
    rintro e w' ⟨v', rfl, φ', M', hg, hv⟩
    refine ⟨v', rfl, φ', M', ⟨hg.le, hg.out, hg.rel, hg.sub, fun i hi hn => hg.frame i hi (hn.imp (fun q => ?_) id), hg.wg⟩, hv⟩
    cases hq : (m.only ft).b.get i with
    | none => rfl
    | some x => rw [(only_get.1 hq).2] at q; cases q

/-- A state behind a call. -/
theorem Conc.called (hc : Conc lo F ω s f m) {m' : Mem} (hw : Wf m') (hn : m.next ≤ m'.next) (hl : m.next ≤ m'.low) (hF : Le F m'.b.get) (hO : ∀ β k z, ω β = some (some (k, z)) → ∀ b, m.b.get k = some b → m'.b.get k = some b) :
    Conc lo (frsh m.next m' F) ω s f (backM m.low m') := by
  have hlt : ∀ {i b}, F i = some b → i < m.next := fun {i b} h => hc.wf i b (hc.sub i b h)
  have hle : Le F (frsh m.next m' F) := fun i b h => by unfold frsh; rw [if_neg (by have := hlt h; omega)]; exact h
  rw [backM_eq]
  refine ⟨hw, ?_, Nat.le_trans hc.nxt hn, fun i b hb => ?_, fun β b hb => ?_, hc.dom, hc.inj, fun β k z hk => ?_, fun t v hv => ?_⟩
  · show lo ≤ Nat.min m.low m'.low
    have := hc.low; have := hc.nxt
    rw [Nat.le_min]; omega
  · unfold frsh at hb
    split at hb
    · exact hb
    · exact hF i b hb
  · rcases hc.own β b hb with ⟨k, T, L, h1, h0, h2, h3⟩ | h
    · exact .inl ⟨k, T, L, h1, h0, hO β k _ h1 _ h2, fun i hi => ⟨(h3 i hi).1, (h3 i hi).2.1.mono hle (Om.le_refl _), (h3 i hi).2.2⟩⟩
    · exact .inr h
  · obtain ⟨a, b, d⟩ := hc.apart β k z hk
    refine ⟨?_, b, Nat.lt_of_lt_of_le d hn⟩
    unfold frsh
    rw [if_neg (by omega)]
    exact a
  · obtain ⟨u, h1, h2⟩ := hc.fr t v hv
    exact ⟨u, h1, h2.mono hle (Om.le_refl _)⟩
theorem Conc.grown (hc : Conc lo F ω s f m) {n : Nat} (hn : m.next ≤ n) : Conc lo F ω s f ⟨n, m.b, m.low⟩ :=
  ⟨fun i b hb => Nat.lt_of_lt_of_le (hc.wf i b hb) hn, hc.low, Nat.le_trans hc.nxt hn, hc.sub, hc.own, hc.dom, hc.inj, fun β k z hk => ⟨(hc.apart β k z hk).1, (hc.apart β k z hk).2.1, Nat.lt_of_lt_of_le (hc.apart β k z hk).2.2 hn⟩, hc.fr⟩

/-- A call. -/
theorem call_one (hc : Conc lo F ω s f m) {fx : Operand} {args : Array Operand} {ats : Array TypeId} (hop : o.op = .call { callee := .value fx, args := args, argTypes := ats }) {g : FuncId} {a b xs : List SV} (hf : s.get fx = some (.fn g a b)) (hx : s.gets args.toList = some xs)
    {as : List SV} {Q : SV → Prop} (hct : Ct P g as Q) (has : (as = a ++ xs ++ b ∧ (a ++ xs ++ b).any (owned 5) = false) ∨ (as = (a ++ xs ++ b).map (view s.o 5) ∧ allP (vok s.o 5) (a ++ xs ++ b) ∧ ∀ r, Q r → scalar 5 r = true)) :
    ∃ r2 F' rv, One P f o m r2 ∧ Q rv ∧ Le F F' ∧ RV F' ω rv r2.v ∧ Conc lo F' ω s f r2.m ∧ m.next ≤ r2.m.next ∧ r2.mods = some [] ∧
      (∀ x b, F' x = some b → F x = some b ∨ (scalar 5 rv = false ∧ m.next ≤ x)) ∧
      ((scalar 5 rv = true ∧ ∃ ft, r2.foot = some ft ∧ ∀ x ∈ ft, x < m.next ∧ ((∃ b, F x = some b) ∨ ∃ β z, ω β = some (some (x, z)))) ∨ (scalar 5 rv = false ∧ r2.foot = none)) := by
  classical
  obtain ⟨uf, e1, r1⟩ := hc.get hf
  obtain ⟨us, e2, r2⟩ := hc.gets hx
  obtain ⟨A, B, rfl, rA, rB⟩ : ∃ A B : List Value, uf = .func (.func g) A.toArray B.toArray ∧ RVL F ω a A ∧ RVL F ω b B := by
    cases r1 with
    | fn h1 h2 => exact ⟨_, _, rfl, h1, h2⟩
  have hall : RVL F ω (a ++ xs ++ b) (A ++ us ++ B) := (rA.append r2).append rB
  obtain ⟨ft, k1, k2, k3⟩ := hc.only
  have hargs : ∃ H, Le H (m.only ft).b.get ∧ RVL H om0 as (A ++ us ++ B) ∧ ((as = a ++ xs ++ b ∧ H = F) ∨ ∀ r, Q r → scalar 5 r = true) := by
    rcases has with ⟨rfl, h⟩ | ⟨rfl, h1, h2⟩
    · refine ⟨F, k2, hall.of_get fun v u hv => owned_rv (n := 5) ?_, .inl ⟨rfl, rfl⟩⟩
      cases hq : owned 5 v with
      | false => rfl
      | true => rw [List.any_eq_true.2 ⟨v, hv, hq⟩] at h; cases h
    · exact ⟨(m.only ft).b.get, Le.refl _, hall.map_get fun v u hm hr => view_rv hc k2 k3 hr (allP_mem h1 v hm), .inr h2⟩
  obtain ⟨H, hH, hA, hHF⟩ := hargs
  obtain ⟨v, m', r, s1, s2, s3, s4, s5⟩ := hct H (m.only ft) _ (only_wf hc.wf) hH hA
  have hlow : m.next ≤ m'.low := s2
  have hnext : m.next ≤ m'.next := (s1 (only_wf hc.wf)).1.next
  have hwf : Wf m' := (s1 (only_wf hc.wf)).1.wf
  cases hsc : scalar 5 r with
  | true =>
    refine ⟨⟨v, ⟨m'.next, m.b, m.low⟩, some ft, some []⟩, F, r, .inr ⟨fx, args, ats, g, A.toArray, B.toArray, us, v, m', ft, hop, e1, e2, by simpa using s1, hlow, rfl⟩, s4, Le.refl _, scalar_rv hsc s5, hc.grown hnext, hnext, rfl, fun x b h => .inl h, .inl ⟨hsc, ft, rfl, k1⟩⟩
  | false =>
    rcases hHF with ⟨_, rfl⟩ | q
    · have hself : SelfOk P (fun t => if t = .call g (A ++ us ++ B) m then some (.call v m') else none) := by
        intro t out h
        simp only at h
        split at h
        · rename_i e; subst e; cases h; exact SoundT.weaken hc.wf s1
        · cases h
      refine ⟨⟨v, backM m.low m', none, some []⟩, frsh m.next m' H, r, .inl ⟨_, hself, ?_⟩, s4, fun i b h => ?_, s5.mono (Le.refl _) (om0_le _), hc.called hwf hnext hlow (hH.trans s3) (fun β k z hk b hb => s3 _ _ (k3 β k z hk b hb)), by rw [backM_eq]; exact hnext, rfl, fun x b h => ?_, .inr ⟨hsc, rfl⟩⟩
      · unfold evOne evOne1
        rw [hop]
        show (ob (f.get fx) fun g => ob (valsA f args.toList) fun vs => evCall _ m vs g) = _
        rw [e1]
        show (ob (valsA f args.toList) fun vs => evCall _ m vs _) = _
        rw [e2]
        show ob ((fun t => if t = Task.call g (A ++ us ++ B) m then some (Out.call v m') else none) (.call g (A.toArray.toList ++ us ++ B.toArray.toList) m)) (afterCall m) = _
        simp only [if_true]
        show some (⟨v, backM m.low m', none, iteB (Nat.ble m.next m'.low) (some []) none⟩ : R2) = _
        rw [iteB_eq, if_pos (Nat.ble_eq_true_of_le hlow)]
      · unfold frsh
        rw [if_neg (by have := hc.wf i b (hc.sub i b h); omega)]
        exact h
      · unfold frsh at h
        split at h
        · rename_i q; exact .inr ⟨hsc, q⟩
        · exact .inl h
    · rw [q r s4] at hsc; cases hsc
end
end Sh
end Go.Proofs.Ytlfojfndkcmfnaa
namespace Go.Proofs.Ytlfojfndkcmfnaa
namespace Sh
open Go Ev

noncomputable def tmerge {α : Type} : T α → T α → T α
  | .leaf, t => t
  | .node v l r, t => match t with
    | .leaf => .node v l r
    | .node v' l' r' => .node (match v with | some x => some x | none => v') (tmerge l l') (tmerge r r')
theorem tmerge_get {α : Type} : ∀ (a b : T α) (i : Nat), (tmerge a b).get i = match a.get i with | some x => some x | none => b.get i
  | .leaf, b, i => by rw [T.get_leaf]; rfl
  | .node v l r, .leaf, i => by
    show (T.node v l r).get i = _
    rw [T.get_leaf]
    cases (T.node v l r).get i <;> rfl
  | .node v l r, .node v' l' r', 0 => by
    show (T.node _ _ _).get 0 = _
    rw [T.get_zero, T.get_zero, T.get_zero]
  | .node v l r, .node v' l' r', k + 1 => by
    show (T.node _ _ _).get (k + 1) = _
    rw [T.get_succ, T.get_succ, T.get_succ]
    split
    · exact tmerge_get l l' _
    · exact tmerge_get r r' _
theorem slots_look : ∀ {l : List SV} {i t : Nat} {v : SV}, look (slots l i) t = some v → i ≤ t ∧ l[t - i]? = some v
  | [], _, _, _, h => by cases h
  | x :: l, i, t, v, h => by
    have h' : (if i = t then some x else look (slots l (i + 1)) t) = some v := h
    split at h'
    · rename_i q; subst q; cases h'; simp
    · rename_i q
      obtain ⟨h1, h2⟩ := slots_look h'
      refine ⟨by omega, ?_⟩
      rw [show t - i = (t - (i + 1)) + 1 by omega]
      simpa using h2
theorem slots_at : ∀ {l : List SV} {i t : Nat} {v : SV}, l[t]? = some v → look (slots l i) (i + t) = some v
  | [], _, _, _, h => by simp at h
  | x :: l, i, 0, v, h => by
    show (if i = i + 0 then some x else look (slots l (i + 1)) (i + 0)) = some v
    rw [if_pos (by omega)]; simpa using h
  | x :: l, i, t + 1, v, h => by
    show (if i = i + (t + 1) then some x else look (slots l (i + 1)) (i + (t + 1))) = _
    rw [if_neg (by omega), show i + (t + 1) = i + 1 + t by omega]
    exact slots_at (by simpa using h)

theorem allQ_mem {α : Type} {p : α → Prop} : ∀ {l : List α}, allQ p l → ∀ x ∈ l, p x
  | _ :: _, h, x, hx => by
    rcases List.mem_cons.1 hx with q | q
    · rw [q]; exact h.1
    · exact allQ_mem h.2 x q
theorem look_mem {α : Type} : ∀ {l : List (Nat × α)} {t : Nat} {v : α}, look l t = some v → (t, v) ∈ l
  | [], _, _, h => by cases h
  | (k, x) :: l, t, v, h => by
    have h' : (if k = t then some x else look l t) = some v := h
    split at h'
    · rename_i q; subst q; cases h'; exact List.mem_cons_self
    · exact List.mem_cons_of_mem _ (look_mem h')
theorem look_none {α : Type} : ∀ {l : List (Nat × α)} {t : Nat}, look l t = none → ∀ p ∈ l, p.1 ≠ t
  | (k, x) :: l, t, h, p, hp => by
    have h' : (if k = t then some x else look l t) = none := h
    split at h'
    · cases h'
    · rename_i q
      rcases List.mem_cons.1 hp with e | e
      · rw [e]; exact q
      · exact look_none h' p e
theorem nmem_iff {l : List Nm} {x : Nm} : nmem l x = true ↔ x ∈ l := by
  unfold nmem
  rw [List.any_eq_true]
  constructor
  · rintro ⟨y, h1, h2⟩
    simp only [Bool.and_eq_true, decide_eq_true_eq] at h2
    rw [show x = y from Prod.ext h2.1.symm h2.2.symm]; exact h1
  · exact fun h => ⟨x, h, by simp⟩
theorem lookO_fam {l : Own} {β : Nm} {b : OB} (h : lookO l β = some b) : ∃ F, look l β.1 = some F ∧ F.at β.2 = some b := by
  unfold lookO at h
  split at h
  · rename_i F hF; exact ⟨F, hF, h⟩
  · cases h
theorem at_some {F : Fam} {i : Nat} {b : OB} (h : F.at i = some b) : (F = .one (some b) ∧ i = 0) ∨ ∃ g, F = .many g ∧ g i = some b := by
  cases F with
  | one x =>
    simp only [Fam.at] at h
    split at h
    · rename_i q; subst h; exact .inl ⟨rfl, q⟩
    · cases h
  | many g => exact .inr ⟨g, rfl, h⟩
theorem idxF_at {F : Fam} {p : Nat → Prop} (h : idxF F p) {i : Nat} {b : OB} (hb : F.at i = some b) : p i := by
  rcases at_some hb with ⟨rfl, rfl⟩ | ⟨g, rfl, hg⟩
  · exact h
  · exact h i (by rw [hg]; rfl)

section
variable {P : Program} {lo : Nat} {F G : AM} {ω ψ : Om} {s t : SS} {f : Fr} {m : Mem}

theorem map_one1_of {h : SV → SV} (hh : ∀ v, one1 (h v) = one1 v) {l : List SV} (hl : l.all one1 = true) : (l.map h).all one1 = true := by
  rw [List.all_map]
  exact List.all_eq_true.2 fun x hx => (hh x).trans (List.all_eq_true.1 hl x hx)
theorem ren_one1 (h : Nm → Nm) (n : Nat) (v : SV) : one1 (ren h n v) = one1 v := by
  cases n with
  | zero => rfl
  | succ n => cases v <;> rfl
/-- With other names for what a name stands for. -/
theorem ren_fwd {h : Nm → Nm} {L : Nm → Bool} (hL : ∀ β x, L β = true → ω β = some x → ψ (h β) = some x) : ∀ {n : Nat} {v : SV} {u : Value}, RV F ω v u → cln L n v = true → RV F ψ (ren h n v) u
  | 0, _, _, _, q => by cases q
  | n + 1, v, u, hr, q => by
    have hl : ∀ {l : List SV} {U : List Value}, RVL F ω l U → l.all (cln L n) = true → RVL F ψ (l.map (ren h n)) U := fun {l U} a b => a.map_get fun v u hv hr => ren_fwd hL hr (List.all_eq_true.1 b v hv)
    cases hr with
    | i => exact .i
    | b => exact .b
    | a h' => exact .a h'
    | sl0 h' => exact .sl0 h'
    | sl a1 a2 a3 a4 a5 a6 a7 => exact .sl a1 a2 a3 a4 a5 a6 a7
    | rf a1 a2 a3 a4 a5 => exact .rf a1 a2 a3 a4 a5
    | ex a1 a2 a3 => exact .ex a1 a2 a3
    | ag a => exact .ag (hl a q)
    | tp a => exact .tp (hl a q)
    | fn a b =>
      have q : (_ && _) = true := q
      rw [Bool.and_eq_true] at q
      exact .fn (hl a q.1) (hl b q.2)
    | pt hk => exact .pt (hL _ _ q hk)
    | os hk hb => exact .os (hL _ _ q hk) hb
    | os0 hk => exact .os0 (hL _ _ q hk)
theorem ren_bwd {h : Nm → Nm} {L : Nm → Bool} (hL : ∀ β x, L β = true → ω (h β) = some x → ψ β = some x) : ∀ {n : Nat} {v : SV} {u : Value}, RV F ω (ren h n v) u → cln L n v = true → RV F ψ v u
  | 0, _, _, _, q => by cases q
  | n + 1, v, u, hr, q => by
    have hl : ∀ {l : List SV} {U : List Value}, RVL F ω (l.map (ren h n)) U → l.all (cln L n) = true → RVL F ψ l U := by
      intro l
      induction l with
      | nil => intro L hl _; cases hl; exact .nil
      | cons x l ih =>
        intro L hl hc
        simp only [List.all_cons, Bool.and_eq_true] at hc
        cases hl with
        | cons a b => exact .cons (ren_bwd hL a hc.1) (ih b hc.2)
    cases v with
    | i k x => cases hr; exact .i
    | b x => cases hr; exact .b
    | a x => exact owned_rv (n := 5) rfl hr
    | sl z k g => exact owned_rv (n := 5) rfl hr
    | rf c => exact owned_rv (n := 5) rfl hr
    | ex Q v => exact owned_rv (n := 5) rfl hr
    | bad => cases hr
    | ag c => obtain ⟨L, rfl, a⟩ := hr.ag_inv; exact .ag (hl a q)
    | tp c => obtain ⟨L, rfl, a⟩ := hr.tp_inv; exact .tp (hl a q)
    | fn g a b =>
      have q : (_ && _) = true := q
      rw [Bool.and_eq_true] at q
      cases hr with
      | fn a1 b1 => exact .fn (hl a1 q.1) (hl b1 q.2)
    | pt β i j => obtain ⟨k, z, hk, rfl⟩ := hr.pt_inv; exact .pt (hL _ _ q hk)
    | os β o k c =>
      rcases hr.os_inv with ⟨k', z, cp, hk, rfl, hb⟩ | ⟨hk, rfl, rfl, rfl⟩
      · exact .os (hL _ _ q hk) hb
      · exact .os0 (hL _ _ q hk)
theorem cln_rv {L : Nm → Bool} (hL : ∀ β x, L β = true → ω β = some x → ψ β = some x) : ∀ {n : Nat} {v : SV} {u : Value}, RV F ω v u → cln L n v = true → RV F ψ v u
  | 0, _, _, _, q => by cases q
  | n + 1, v, u, hr, q => by
    have hl : ∀ {l : List SV} {U : List Value}, RVL F ω l U → l.all (cln L n) = true → RVL F ψ l U := fun {l U} a b => a.of_get fun v u hv hr => cln_rv hL hr (List.all_eq_true.1 b v hv)
    cases hr with
    | i => exact .i
    | b => exact .b
    | a h' => exact .a h'
    | sl0 h' => exact .sl0 h'
    | sl a1 a2 a3 a4 a5 a6 a7 => exact .sl a1 a2 a3 a4 a5 a6 a7
    | rf a1 a2 a3 a4 a5 => exact .rf a1 a2 a3 a4 a5
    | ex a1 a2 a3 => exact .ex a1 a2 a3
    | ag a => exact .ag (hl a q)
    | tp a => exact .tp (hl a q)
    | fn a b =>
      have q : (_ && _) = true := q
      rw [Bool.and_eq_true] at q
      exact .fn (hl a q.1) (hl b q.2)
    | pt hk => exact .pt (hL _ _ q hk)
    | os hk hb => exact .os (hL _ _ q hk) hb
    | os0 hk => exact .os0 (hL _ _ q hk)

open Classical in
noncomputable def frzF (ω : Om) (fr : List Nm) (m : Mem) (F : AM) : AM := fun x => if ∃ β ∈ fr, ∃ z, ω β = some (some (x, z)) then m.b.get x else F x
theorem frzF_nil : frzF ω [] m F = F := by
  funext x; unfold frzF; rw [if_neg (by simp)]
theorem frzF_le (hc : Conc lo F ω s f m) (fr : List Nm) : Le F (frzF ω fr m F) := fun x b h => by
  unfold frzF
  split
  · exact hc.sub x b h
  · exact h
theorem frzF_new (hc : Conc lo F ω s f m) (fr : List Nm) : ∀ x b, frzF ω fr m F x = some b → F x = some b ∨ lo ≤ x := fun x b h => by
  unfold frzF at h
  split at h
  · rename_i q; obtain ⟨β, _, z, hk⟩ := q; exact .inr (hc.apart β x z hk).2.1
  · exact .inl h
theorem own_free {l : List SV} {U : List Value} (h : l.any (owned 5) = false) (hl : RVL F ω l U) : RVL F om0 l U := hl.of_get fun v u hv hr => owned_rv (n := 5) (by
  cases hq : owned 5 v with
  | false => rfl
  | true => rw [List.any_eq_true.2 ⟨v, hv, hq⟩] at h; cases h) hr
theorem pview_rv (hc : Conc lo F ω s f m) {fr : List Nm} (hfr : frzOK s.o fr) : ∀ {n : Nat} {v : SV} {u : Value}, RV F ω v u → pok fr s.o n v → RV (frzF ω fr m F) ω (pview fr s.o n v) u
  | 0, _, _, h, _ => h.mono (frzF_le hc fr) (Om.le_refl _)
  | n + 1, v, u, hr, hv => by
    cases hr with
    | i => exact .i
    | b => exact .b
    | a h => exact .a h
    | sl0 h' => exact .sl0 h'
    | sl a1 a2 a3 a4 a5 a6 a7 => exact (RV.sl a1 a2 a3 a4 a5 a6 a7 : RV F ω _ _).mono (frzF_le hc fr) (Om.le_refl _)
    | rf a1 a2 a3 a4 a5 => exact (RV.rf a1 a2 a3 a4 a5 : RV F ω _ _).mono (frzF_le hc fr) (Om.le_refl _)
    | ex a1 a2 a3 => exact (RV.ex a1 a2 a3 : RV F ω _ _).mono (frzF_le hc fr) (Om.le_refl _)
    | ag hl => exact .ag (hl.map_get fun v u hm hr => pview_rv hc hfr hr (allP_mem hv v hm))
    | tp hl => exact .tp (hl.map_get fun v u hm hr => pview_rv hc hfr hr (allP_mem hv v hm))
    | fn ha hb => exact .fn (ha.map_get fun v u hm hr => pview_rv hc hfr hr (allP_mem hv.1 v hm)) (hb.map_get fun v u hm hr => pview_rv hc hfr hr (allP_mem hv.2 v hm))
    | pt hk =>
      rename_i β i j k z
      simp only [pok] at hv
      simp only [pview]
      split
      · rename_i hm
        have hv := hv hm
        obtain ⟨b, hb, hown⟩ := allQ_mem hfr β (nmem_iff.1 hm)
        rw [hb] at hv ⊢
        obtain ⟨v1, v2⟩ := hv
        obtain ⟨rfl, T, L, g1, g2⟩ := hc.ownAt hb hk
        obtain ⟨l1, l2, l3, l4⟩ := g2 i v1
        have hin := mul_in (z := b.z) v1
        refine .rf (L := (L i).drop j) (show frzF ω fr m F k = some _ by unfold frzF; rw [if_pos ⟨β, nmem_iff.1 hm, _, hk⟩]; exact g1) (by simp; omega) (fun q hq => ?_) ((own_free (hown i v1) l2).mono (frzF_le hc fr) (Om.le_refl _) |>.drop j) (all_drop l3 j)
        simp at hq
        rw [Nat.add_assoc, l4 _ (by omega)]
        simp
      · exact .pt hk
    | os hk hcu =>
      rename_i β p k ap cp q z
      simp only [pok] at hv
      simp only [pview]
      split
      · rename_i hm
        have hv := hv hm
        obtain ⟨b, hb, hown⟩ := allQ_mem hfr β (nmem_iff.1 hm)
        rw [hb] at hv ⊢
        have v1 : p + k ≤ b.n := hv
        obtain ⟨rfl, T, L, g1, g2⟩ := hc.ownAt hb hk
        refine .sl (L := fun a => L (p + a)) (show frzF ω fr m F q = some _ by unfold frzF; rw [if_pos ⟨β, nmem_iff.1 hm, _, hk⟩]; exact g1) (by cases b.bx <;> simp) ?_ (fun a ha => (g2 (p + a) (by omega)).1) (fun a ha j hj => ?_) (fun a ha => (own_free (hown (p + a) (by omega)) (g2 (p + a) (by omega)).2.1).mono (frzF_le hc fr) (Om.le_refl _)) (fun a ha => (g2 (p + a) (by omega)).2.2.1)
        · rw [← Nat.add_mul]; exact Nat.mul_le_mul_right _ v1
        · rw [← Nat.add_mul]; exact (g2 (p + a) (by omega)).2.2.2 j hj
      · exact .os hk hcu
    | os0 hk =>
      rename_i β ap
      simp only [pok] at hv
      simp only [pview]
      split
      · rename_i hm
        obtain ⟨b, hb, _⟩ := allQ_mem hfr β (nmem_iff.1 hm)
        rw [hb]
        exact .sl0 (.inl rfl)
      · exact .os0 hk
def omTo (ω : Om) (h : Nm → Nm) (vir : List Nat) (o : Own) : Om := fun β => if live o β = true then (if vir.elem β.1 = true then some none else ω (h β)) else none
theorem tel_rv (hc : Conc lo F ω s f m) {h : Nm → Nm} {vir : List Nat} {fr : List Nm} {o : Own} (hfr : frzOK s.o fr) {v w : SV} {u : Value} (ht : Tel h vir fr s.o o v w) (hv : RV F ω v u) : RV (frzF ω fr m F) (omTo ω h vir o) w u := by
  rcases ht with ⟨h1, h2, h3⟩ | ⟨rfl, β, rfl, h1, h2⟩
  · refine ren_bwd (fun β x hl hx => ?_) (h2 _ _ _ (pview_rv hc hfr hv h1)) h3
    unfold lv at hl
    rw [Bool.and_eq_true, Bool.not_eq_true'] at hl
    unfold omTo
    rw [if_pos hl.1, if_neg (by rw [hl.2]; simp)]
    exact hx
  · cases hv
    refine .os0 ?_
    unfold omTo
    rw [if_pos h2, if_pos h1]
theorem telL_rv (hc : Conc lo F ω s f m) {h : Nm → Nm} {vir : List Nat} {fr : List Nm} {o : Own} (hfr : frzOK s.o fr) : ∀ {l k : List SV} {U : List Value}, telL h vir fr s.o o l k → RVL F ω l U → l.all one1 = true → RVL (frzF ω fr m F) (omTo ω h vir o) k U ∧ k.all one1 = true
  | [], [], _, _, .nil, _ => ⟨.nil, rfl⟩
  | v :: l, w :: k, _, ht, .cons a b, h1 => by
    simp only [List.all_cons, Bool.and_eq_true] at h1
    have e := tel_rv hc hfr ht.1 a
    obtain ⟨q1, q2⟩ := telL_rv hc hfr ht.2.2 b h1.2
    exact ⟨.cons e q1, by simp only [List.all_cons, Bool.and_eq_true]; exact ⟨ht.2.1, q2⟩⟩
  | [], _ :: _, _, ht, _, _ => ht.elim
  | _ :: _, [], _, ht, _, _ => ht.elim
theorem live_iff {o : Own} {β : Nm} : live o β = true ↔ ∃ b, lookO o β = some b := by
  unfold live; rw [Option.isSome_iff_exists]
theorem WeakBy.own_at {h : Nm → Nm} {vir : List Nat} {fr : List Nm} (hw : WeakBy h vir fr s t) {β : Nm} {b : OB} (hb : lookO t.o β = some b) : own1 h vir fr t.o s β b := by
  obtain ⟨F, h1, h2⟩ := lookO_fam hb
  have hm := allQ_mem hw.own _ (look_mem h1)
  rcases at_some h2 with ⟨rfl, h3⟩ | ⟨g, rfl, h3⟩
  · have : β = (β.1, 0) := Prod.ext rfl h3
    rw [this]; exact hm
  · exact hm _ _ h3
theorem WeakBy.conc {h : Nm → Nm} {vir : List Nat} {fr : List Nm} (hw : WeakBy h vir fr s t) (hc : Conc lo F ω s f m) : Conc lo (frzF ω fr m F) (omTo ω h vir t.o) t f m := by
  have hreal : ∀ {β k z}, omTo ω h vir t.o β = some (some (k, z)) → ω (h β) = some (some (k, z)) ∧ (∃ b, lookO t.o β = some b) ∧ ¬ (vir.elem β.1 = true) := fun {β k z} q => by
    unfold omTo at q
    split at q
    · rename_i hl
      split at q
      · cases q
      · rename_i hv; exact ⟨q, live_iff.1 hl, hv⟩
    · cases q
  have hnf : ∀ {β}, (∃ b, lookO t.o β = some b) → ¬ (vir.elem β.1 = true) → nmem fr (h β) = false := fun {β} ⟨b, hb⟩ hv => by
    have := hw.own_at hb
    unfold own1 at this
    rw [if_neg hv] at this
    obtain ⟨c, _, ⟨_, _, _, _, q⟩, _⟩ := this
    exact q
  refine ⟨hc.wf, hc.low, hc.nxt, fun i b hb => ?_, fun β b hb => ?_, fun β hb => ?_, fun β γ k z k' z' h1 h2 hne => ?_, fun β k z hk => ?_, fun k v hk => ?_⟩
  · unfold frzF at hb
    split at hb
    · exact hb
    · exact hc.sub i b hb
  · have hm := hw.own_at hb
    have hlive : live t.o β = true := live_iff.2 ⟨b, hb⟩
    unfold own1 at hm
    split at hm
    · rename_i q
      refine .inr ⟨?_, hm⟩
      unfold omTo
      rw [if_pos hlive, if_pos q]
    · rename_i q
      obtain ⟨c, h1, ⟨h2, h3, h4, h5, h7⟩, h6⟩ := hm
      have hom : omTo ω h vir t.o β = ω (h β) := by unfold omTo; rw [if_pos hlive, if_neg q]
      rcases hc.own _ c h1 with ⟨k, T, L, g1, g0, g2, g3⟩ | ⟨g1, g2, g3⟩
      · left
        rw [h4] at g1
        refine ⟨k, T, L, by rw [hom]; exact g1, by rw [← h2]; exact g0, by rw [h2, h3, h4, h5] at g2; exact g2, fun i hi => ?_⟩
        obtain ⟨l1, l2, l3, l4⟩ := g3 i (by rw [h5]; exact hi)
        rw [h4] at l1 l4
        obtain ⟨e1, e2⟩ := telL_rv hc hw.frz (h6 i hi) l2 l3
        exact ⟨l1, e1, e2, l4⟩
      · exact .inr ⟨by rw [hom]; exact g1, by rw [← h5]; exact g2, by rw [← h3]; exact g3⟩
  · unfold omTo
    rw [if_neg]
    intro q
    obtain ⟨b, hb'⟩ := live_iff.1 q
    exact lookO_look hb' hb
  · obtain ⟨a1, ⟨b1, a2⟩, a3⟩ := hreal h1
    obtain ⟨c1, ⟨b2, c2⟩, c3⟩ := hreal h2
    refine hc.inj _ _ k z k' z' a1 c1 fun e => hne ?_
    obtain ⟨F1, d1, d2⟩ := lookO_fam a2
    obtain ⟨F2, e1, e2⟩ := lookO_fam c2
    have q1 := allQ_mem hw.inj _ (look_mem d1)
    have q2 := allQ_mem (q1.resolve_left a3) _ (look_mem e1)
    have q3 := idxF_at (idxF_at (q2.resolve_left c3) d2) e2 e
    exact Prod.ext q3.1 q3.2
  · obtain ⟨a1, a2, a3⟩ := hreal hk
    obtain ⟨b1, b2, b3⟩ := hc.apart _ k z a1
    refine ⟨?_, b2, b3⟩
    unfold frzF
    rw [if_neg]
    · exact b1
    · rintro ⟨γ, hγ, z', hk'⟩
      have hne : γ ≠ h β := fun e => by have := hnf a2 a3; rw [← e, nmem_iff.2 hγ] at this; cases this
      exact hc.inj γ (h β) k z' k z hk' a1 hne rfl
  · obtain ⟨v', e1, e2⟩ := allQ_mem hw.slot _ (look_mem hk)
    obtain ⟨u, g1, g2⟩ := hc.fr k v' e1
    exact ⟨u, g1, tel_rv hc hw.frz e2 g2⟩
/-- One telling stands for another. -/
def Weak (pr : List Nm) (s t : SS) : Prop := ∀ lo F ω f m, Conc lo F ω s f m → ∃ ω' F', Le F F' ∧ (∀ x b, F' x = some b → F x = some b ∨ lo ≤ x) ∧ Conc lo F' ω' t f m ∧ ∀ β ∈ pr, ∀ x, ω β = some x → ω' β = some x
theorem Weak.trans {pr : List Nm} {s t u : SS} (a : Weak pr s t) (b : Weak pr t u) : Weak pr s u := fun lo F ω f m hc => by
  obtain ⟨ω1, F1, h1, h2, h3, h4⟩ := a lo F ω f m hc
  obtain ⟨ω2, F2, k1, k2, k3, k4⟩ := b lo F1 ω1 f m h3
  exact ⟨ω2, F2, h1.trans k1, fun x b h => (k2 x b h).elim (h2 x b) .inr, k3, fun β hβ x hx => k4 β hβ x (h4 β hβ x hx)⟩
theorem WeakBy.weak {pr : List Nm} {h : Nm → Nm} {vir : List Nat} {fr : List Nm} (hw : WeakBy h vir fr s t) (hp : allQ (fun β => live t.o β = true ∧ vir.elem β.1 = false ∧ h β = β) pr) : Weak pr s t := fun lo F ω f m hc => by
  refine ⟨_, _, frzF_le hc fr, frzF_new hc fr, hw.conc hc, fun β hβ x hx => ?_⟩
  obtain ⟨p1, p2, p3⟩ := allQ_mem hp β hβ
  unfold omTo
  rw [if_pos p1, if_neg (by rw [p2]; simp), p3]
  exact hx
end
end Sh
end Go.Proofs.Ytlfojfndkcmfnaa
