/- Regions that draw their order: the evaluator's run, taken apart; orders. -/
import Derived.Test.YtlfojfndkcmfnaaEvL
namespace Go.Proofs.Ytlfojfndkcmfnaa
namespace Ev
open Go

section
variable {P : Program} {self : Task → Option Out} {f : Fr} {m : Mem}

/-- One operation of the evaluator's run. -/
structure Ent where
  f : Fr
  m : Mem
  w : Bool
  r : R2
def EntOk (P : Program) (self : Task → Option Out) (ops : List Oper) (o : Oper) (e : Ent) : Prop :=
  wantedA ops e.f o = some e.w ∧ (e.w = true → evOne P self e.f o e.m = some e.r) ∧ (e.w = false → e.r = ⟨undef, e.m, some [], some []⟩)
def Ent.rec' (i : Nat) (e : Ent) : Rec := ⟨i, e.r.foot, e.r.mods, e.m.next, e.r.m.next⟩
def Ent.idle (e : Ent) : Bool := Ev.idle e.r e.m.next e.r.m.next
/-- Two operations that may change places. -/
def Ap (i j : Nat) (e q : Ent) : Prop := e.idle = true ∨ q.idle = true ∨ apart2 (e.rec' i) (q.rec' j) = true

theorem idle_unwanted {e : Ent} (h : e.r = ⟨undef, e.m, some [], some []⟩) : e.idle = true := by
  unfold Ent.idle Ev.idle
  rw [h]
  show Nat.beq e.m.next e.m.next = true
  exact Nat.beq_refl _

inductive Trace (P : Program) (self : Task → Option Out) (ops : List Oper) (x : FM) : List Oper → List Ent → Fr → Mem → Prop
  | nil : Trace P self ops x [] [] x.f x.m
  | cons {o : Oper} {l : List Oper} {e : Ent} {es : List Ent} {f1 : Fr} (he : EntOk P self ops o e) (hp : e.f.put o.dst e.r.v = some f1) (h : Trace P self ops x l es f1 e.r.m) : Trace P self ops x (o :: l) (e :: es) e.f e.m

theorem evDraw_trace {ops : List Oper} {x : FM} : ∀ {l : List Oper} {i : Nat} {an : List Nat} {rs : List Rec} {f : Fr} {m : Mem}, evDraw P self ops l i an rs f m = some x →
    ∃ es, Trace P self ops x l es f m ∧ (∀ k e, es[k]? = some e → ∀ rc ∈ rs, Nat.testBit (an.getD k 0) rc.i = true ∨ e.idle = true ∨ apart2 (e.rec' (i + k)) rc = true) ∧
      (∀ k q e d, q < k → es[k]? = some e → es[q]? = some d → Nat.testBit (an.getD k 0) (i + q) = true ∨ Ap (i + k) (i + q) e d)
  | [], i, an, rs, f, m, h => by
    cases h
    exact ⟨[], .nil, by simp, by simp⟩
  | o :: l, i, an, rs, f, m, h => by
    unfold evDraw at h
    obtain ⟨b, hb, h2⟩ := ob_some h
    have hget : ∀ k, an.getD (k + 1) 0 = an.tail.getD k 0 := fun k => by cases an <;> simp [List.getD]
    have hhead : an.getD 0 0 = an.headD 0 := by cases an <;> rfl
    -- what the rest says, joined with the first operation
    have join : ∀ (e : Ent) (f1 : Fr) (rs' : List Rec), e.f = f → e.m = m → EntOk P self ops o e → e.f.put o.dst e.r.v = some f1 → evDraw P self ops l (Nat.succ i) an.tail rs' f1 e.r.m = some x →
        (∀ rc ∈ rs, rc ∈ rs') → (e.idle = true ∨ (e.rec' i ∈ rs' ∧ ∀ rc ∈ rs, Nat.testBit (an.headD 0) rc.i = true ∨ apart2 (e.rec' i) rc = true)) →
        ∃ es, Trace P self ops x (o :: l) es f m ∧ (∀ k e, es[k]? = some e → ∀ rc ∈ rs, Nat.testBit (an.getD k 0) rc.i = true ∨ e.idle = true ∨ apart2 (e.rec' (i + k)) rc = true) ∧
          (∀ k q e d, q < k → es[k]? = some e → es[q]? = some d → Nat.testBit (an.getD k 0) (i + q) = true ∨ Ap (i + k) (i + q) e d) := by
      intro e f1 rs' hef hem hok hput hev hsub hcase
      obtain ⟨es, t1, t2, t3⟩ := evDraw_trace hev
      subst hef hem
      refine ⟨e :: es, .cons hok hput t1, fun k e' hk rc hrc => ?_, fun k q e' d hlt hk hq => ?_⟩
      · cases k with
        | zero =>
          simp at hk; subst hk
          rw [hhead]
          rcases hcase with h | ⟨_, h⟩
          · exact .inr (.inl h)
          · rcases h rc hrc with h | h
            · exact .inl h
            · exact .inr (.inr h)
        | succ k =>
          rw [hget]
          have := t2 k e' (by simpa using hk) rc (hsub rc hrc)
          rw [show i + (k + 1) = Nat.succ i + k by omega]
          exact this
      · cases k with
        | zero => omega
        | succ k =>
          rw [hget, show i + (k + 1) = Nat.succ i + k by omega]
          cases q with
          | zero =>
            simp at hq; subst hq
            rcases hcase with h | ⟨h, _⟩
            · exact .inr (.inr (.inl h))
            · rcases t2 k e' (by simpa using hk) _ h with h | h | h
              · exact .inl h
              · exact .inr (.inl h)
              · exact .inr (.inr (.inr h))
          | succ q =>
            rw [show i + (q + 1) = Nat.succ i + q by omega]
            exact t3 k q e' d (by omega) (by simpa using hk) (by simpa using hq)
    cases b with
    | false =>
      change putNext m (evDraw P self ops l (Nat.succ i) an.tail rs) (f.put o.dst undef) = some x at h2
      obtain ⟨f1, h3, h4⟩ := ob_some h2
      exact join ⟨f, m, false, ⟨undef, m, some [], some []⟩⟩ f1 rs rfl rfl ⟨hb, fun h => (by cases h), fun _ => rfl⟩ h3 h4 (fun _ h => h) (.inl (idle_unwanted rfl))
    | true =>
      change ob (evOne P self f o m) (evDraw2 o i (an.headD 0) rs (evDraw P self ops l (Nat.succ i) an.tail) f m) = some x at h2
      obtain ⟨r, h3, h4⟩ := ob_some h2
      unfold evDraw2 at h4
      rw [iteB_eq] at h4
      split at h4
      · rename_i hidle
        obtain ⟨f1, h5, h6⟩ := ob_some h4
        exact join ⟨f, m, true, r⟩ f1 rs rfl rfl ⟨hb, fun _ => h3, fun h => (by cases h)⟩ h5 h6 (fun _ h => h) (.inl hidle)
      · unfold evDraw3 at h4
        obtain ⟨hall, h5⟩ := iteB_some h4
        obtain ⟨f1, h6, h7⟩ := ob_some h5
        refine join ⟨f, m, true, r⟩ f1 _ rfl rfl ⟨hb, fun _ => h3, fun h => (by cases h)⟩ h6 h7 (fun _ h => List.mem_cons_of_mem _ h) (.inr ⟨List.mem_cons_self, fun rc hrc => ?_⟩)
        have := List.all_eq_true.1 hall rc hrc
        rw [Bool.or_eq_true] at this
        exact this
end

/-- The operations that come before operation i. -/
noncomputable def anL (ops : List Oper) (i : Nat) : Nat := ((ancs ops []).reverse).getD i 0

theorem ancs_spec : ∀ (l : List Oper) (acc : List Nat), ∃ new : List Nat, ancs l acc = new ++ acc ∧ new.length = l.length ∧
    ∀ i o, l[i]? = some o → new.reverse[i]? = some (ancOf o ((new.reverse.take i).reverse ++ acc))
  | [], acc => ⟨[], rfl, rfl, by simp⟩
  | o :: l, acc => by
    obtain ⟨new, h1, h2, h3⟩ := ancs_spec l (ancOf o acc :: acc)
    refine ⟨new ++ [ancOf o acc], by rw [ancs, h1]; simp, by simp [h2], fun i o' hi => ?_⟩
    cases i with
    | zero => simp at hi; subst hi; simp
    | succ i =>
      have := h3 i o' (by simpa using hi)
      simp only [List.reverse_append, List.reverse_cons, List.reverse_nil, List.nil_append, List.singleton_append, List.getElem?_cons_succ, List.take_succ_cons, List.append_assoc]
      exact this
theorem anL_spec {ops : List Oper} {i : Nat} {o : Oper} (h : ops[i]? = some o) : anL ops i = ancOf o ((((ancs ops []).reverse).take i).reverse) := by
  obtain ⟨new, h1, h2, h3⟩ := ancs_spec ops []
  have := h3 i o h
  unfold anL
  rw [h1]
  simp only [List.append_nil] at this ⊢
  rw [List.getD, this]
  rfl

theorem foldl_bits (acc : List Nat) : ∀ (es : List Edge) (s : Nat) (q : Nat), Nat.testBit (es.foldl (fun s e => bif Region.binds .any e then s ||| 2 ^ e.on ||| acc.getD (acc.length - 1 - e.on) 0 else s) s) q = true →
    Nat.testBit s q = true ∨ ∃ e ∈ es, Region.binds .any e = true ∧ (q = e.on ∨ Nat.testBit (acc.getD (acc.length - 1 - e.on) 0) q = true)
  | [], s, q, h => .inl h
  | e :: es, s, q, h => by
    rw [List.foldl_cons] at h
    rcases foldl_bits acc es _ q h with h | ⟨e', h1, h2⟩
    · cases hb : Region.binds .any e with
      | false => rw [hb] at h; exact .inl h
      | true =>
        rw [hb] at h
        simp only [cond_true, Nat.testBit_or, Bool.or_eq_true] at h
        rcases h with (h | h) | h
        · exact .inl h
        · right
          rw [Nat.testBit_two_pow] at h
          exact ⟨e, List.mem_cons_self, hb, .inl (by simpa using Eq.symm (by simpa using h))⟩
        · exact .inr ⟨e, List.mem_cons_self, hb, .inr h⟩
    · exact .inr ⟨e', List.mem_cons_of_mem _ h1, h2⟩

/-- An operation before operation i is one that an edge names, or one before such. -/
theorem anL_edge {ops : List Oper} {i q : Nat} {o : Oper} (h : ops[i]? = some o) (hon : ∀ e ∈ o.after.toList, Region.binds .any e = true → e.on < i) (hq : Nat.testBit (anL ops i) q = true) :
    ∃ e ∈ o.after.toList, Region.binds .any e = true ∧ (q = e.on ∨ Nat.testBit (anL ops e.on) q = true) := by
  rw [anL_spec h] at hq
  unfold ancOf at hq
  rcases foldl_bits _ _ 0 q hq with h0 | ⟨e, h1, h2, h3⟩
  · simp at h0
  · refine ⟨e, h1, h2, h3.imp id fun h3 => ?_⟩
    have hlt := hon e h1 h2
    have hi : i < ops.length := by
      rcases Nat.lt_or_ge i ops.length with q | q
      · exact q
      · rw [List.getElem?_eq_none q] at h; cases h
    obtain ⟨new, g1, g2, _⟩ := ancs_spec ops []
    have hlen : ((ancs ops []).reverse.take i).length = i := by rw [g1]; simp [g2]; omega
    unfold anL
    rw [List.getD, List.length_reverse, hlen] at h3
    rw [List.getElem?_reverse (by rw [hlen]; omega), hlen, show i - 1 - (i - 1 - e.on) = e.on by omega, List.getElem?_take_of_lt hlt] at h3
    exact h3

theorem slots_edges {ops : List Oper} {an : List Nat} (h : slotsOk ops an = true) {i : Nat} {o : Oper} (ho : ops[i]? = some o) : ∀ e ∈ o.after.toList, Region.binds .any e = true → e.on < i := by
  intro e he hb
  unfold slotsOk at h
  have := List.all_eq_true.1 h (o, i) (List.mem_zipIdx_iff_getElem?.2 (by simpa using ho))
  simp only [Bool.and_eq_true] at this
  have := List.all_eq_true.1 this.1 e he
  rw [hb] at this
  simp at this
  exact this
theorem slots_apart {ops : List Oper} {an : List Nat} (h : slotsOk ops an = true) {i j : Nat} {o o' : Oper} (ho : ops[i]? = some o) (ho' : ops[j]? = some o') (hlt : j < i) : Nat.testBit (an.getD i 0) j = true ∨ dstApart ops o o' = true := by
  unfold slotsOk at h
  have := List.all_eq_true.1 h (o, i) (List.mem_zipIdx_iff_getElem?.2 (by simpa using ho))
  simp only [Bool.and_eq_true] at this
  have := List.all_eq_true.1 this.2 (o', j) (List.mem_zipIdx_iff_getElem?.2 (by simpa using ho'))
  simp only [Bool.or_eq_true] at this
  rcases this with (h1 | h1) | h1
  · have := Nat.le_of_ble_eq_true h1; omega
  · exact .inl h1
  · exact .inr h1
end Ev
end Go.Proofs.Ytlfojfndkcmfnaa
