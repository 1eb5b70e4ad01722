/- Regions that draw their order: whatever order comes, the outcome is that of the text. -/
import Derived.Test.YtlfojfndkcmfnaaEvM
namespace Go.Proofs.Ytlfojfndkcmfnaa
namespace Ev
open Go

theorem sorted_ext : ∀ {l k : List Nat}, l.Pairwise (· < ·) → k.Pairwise (· < ·) → (∀ x, x ∈ l ↔ x ∈ k) → l = k
  | [], [], _, _, _ => rfl
  | [], y :: k, _, _, h => absurd ((h y).2 List.mem_cons_self) (by simp)
  | x :: l, [], _, _, h => absurd ((h x).1 List.mem_cons_self) (by simp)
  | x :: l, y :: k, hl, hk, h => by
    rw [List.pairwise_cons] at hl hk
    have hxy : x = y := by
      rcases List.mem_cons.1 ((h x).1 List.mem_cons_self) with e | e
      · exact e
      · rcases List.mem_cons.1 ((h y).2 List.mem_cons_self) with e' | e'
        · exact e'.symm
        · have := hk.1 x e; have := hl.1 y e'; omega
    subst hxy
    congr 1
    refine sorted_ext hl.2 hk.2 fun z => ⟨fun hz => ?_, fun hz => ?_⟩
    · rcases List.mem_cons.1 ((h z).1 (List.mem_cons_of_mem _ hz)) with e | e
      · subst e; exact absurd (hl.1 z hz) (Nat.lt_irrefl _)
      · exact e
    · rcases List.mem_cons.1 ((h z).2 (List.mem_cons_of_mem _ hz)) with e | e
      · subst e; exact absurd (hk.1 z hz) (Nat.lt_irrefl _)
      · exact e

/-- A value that only some operations write: the last of them counts. -/
def last {α : Type} (τ : Nat → Bool) (v : Nat → α) (a : α) (s : List Nat) : α := s.foldl (fun acc j => if τ j = true then v j else acc) a
theorem last_snoc {α : Type} (τ : Nat → Bool) (v : Nat → α) (a : α) (s : List Nat) (j : Nat) : last τ v a (s ++ [j]) = if τ j = true then v j else last τ v a s := by
  simp [last, List.foldl_append]
theorem last_filter {α : Type} (τ : Nat → Bool) (v : Nat → α) : ∀ (s : List Nat) (a : α), last τ v a s = last τ v a (s.filter τ)
  | [], a => rfl
  | j :: s, a => by
    cases h : τ j with
    | true => rw [List.filter_cons_of_pos h]; simp only [last, List.foldl_cons, h, if_true]; exact last_filter τ v s (v j)
    | false =>
      rw [List.filter_cons_of_neg (by simp [h])]
      have := last_filter τ v s a
      simp only [last, List.foldl_cons, h] at this ⊢
      simpa using this
theorem last_none {α : Type} (τ : Nat → Bool) (v : Nat → α) : ∀ (s : List Nat) (a : α), (∀ j ∈ s, τ j = false) → last τ v a s = a
  | [], a, _ => rfl
  | j :: s, a, h => by
    have h1 := h j List.mem_cons_self
    have := last_none τ v s a fun k hk => h k (List.mem_cons_of_mem _ hk)
    simp only [last, List.foldl_cons, h1] at this ⊢
    simpa using this

abbrev anc (ops : List Oper) (i q : Nat) : Prop := Nat.testBit (anL ops i) q = true

/-- Operations that have been carried out, in their order. -/
structure Ord (ops : Array Oper) (s : List Nat) : Prop where
  nd : s.Nodup
  lt : ∀ i ∈ s, i < ops.size
  closed : ∀ i ∈ s, ∀ o, ops[i]? = some o → ∀ e ∈ o.after.toList, Region.binds .any e = true → e.on ∈ s
  pw : s.Pairwise fun x y => ¬ anc ops.toList x y

section
variable {ops : Array Oper} {s : List Nat}
theorem closedAnc (hon : ∀ i o, ops[i]? = some o → ∀ e ∈ o.after.toList, Region.binds .any e = true → e.on < i) (h : Ord ops s) : ∀ (i : Nat), i ∈ s → ∀ q, anc ops.toList i q → q ∈ s := by
  intro i
  induction i using Nat.strongRecOn with
  | _ i ih =>
    intro hi q hq
    have hlt := h.lt i hi
    have ho : ops[i]? = some ops[i] := Array.getElem?_eq_getElem hlt
    obtain ⟨e, h1, h2, h3⟩ := anL_edge (ops := ops.toList) (by simpa using ho) (hon i _ ho) hq
    have hmem := h.closed i hi _ ho e h1 h2
    rcases h3 with rfl | h3
    · exact hmem
    · exact ih e.on (hon i _ ho e h1 h2) hmem q h3
/-- What comes before an operation whose edges are met has been carried out. -/
theorem anc_done (hon : ∀ i o, ops[i]? = some o → ∀ e ∈ o.after.toList, Region.binds .any e = true → e.on < i) (h : Ord ops s) {j : Nat} {o : Oper} (ho : ops[j]? = some o) (hj : ∀ e ∈ o.after.toList, Region.binds .any e = true → e.on ∈ s) {q : Nat} (hq : anc ops.toList j q) : q ∈ s := by
  obtain ⟨e, h1, h2, h3⟩ := anL_edge (ops := ops.toList) (by simpa using ho) (hon j _ ho) hq
  rcases h3 with rfl | h3
  · exact hj e h1 h2
  · exact closedAnc hon h e.on (hj e h1 h2) q h3
theorem Ord.nil : Ord ops [] := ⟨List.nodup_nil, by simp, by simp, List.Pairwise.nil⟩
theorem Ord.snoc (hon : ∀ i o, ops[i]? = some o → ∀ e ∈ o.after.toList, Region.binds .any e = true → e.on < i) (h : Ord ops s) {j : Nat} {o : Oper} (ho : ops[j]? = some o) (hns : j ∉ s) (hj : ∀ e ∈ o.after.toList, Region.binds .any e = true → e.on ∈ s) : Ord ops (s ++ [j]) := by
  refine ⟨?_, fun i hi => ?_, fun i hi o' ho' e he hb => ?_, ?_⟩
  · rw [List.nodup_append]
    exact ⟨h.nd, by simp, fun x hx y hy => by simp at hy; subst hy; intro e; subst e; exact hns hx⟩
  · rcases List.mem_append.1 hi with hi | hi
    · exact h.lt i hi
    · simp at hi; subst hi; exact (Array.getElem?_eq_some_iff.1 ho).1
  · rcases List.mem_append.1 hi with hi | hi
    · exact List.mem_append_left _ (h.closed i hi o' ho' e he hb)
    · simp at hi; subst hi
      rw [ho] at ho'; cases ho'
      exact List.mem_append_left _ (hj e he hb)
  · rw [List.pairwise_append]
    refine ⟨h.pw, by simp, fun x hx y hy => ?_⟩
    simp at hy; subst hy
    exact fun q => hns (closedAnc hon h x hx y q)

/-- The operations that write one thing, in the order of the text. -/
theorem filter_eq (h : Ord ops s) {τ : Nat → Bool} {j : Nat} (h1 : ∀ q k, q < k → k < ops.size → τ q = true → τ k = true → anc ops.toList k q) (h2 : ∀ q ∈ s, τ q = true → q < j) (h3 : ∀ q, q < j → τ q = true → q ∈ s) : s.filter τ = (List.range j).filter τ := by
  refine sorted_ext ?_ (List.Pairwise.filter _ List.pairwise_lt_range) fun x => ?_
  · have hp : (s.filter τ).Pairwise (fun x y => ¬ anc ops.toList x y ∧ x ≠ y) := by
      refine List.Pairwise.filter _ ?_
      exact h.pw.and h.nd
    refine List.Pairwise.imp_of_mem ?_ hp
    intro x y hx hy hxy
    rw [List.mem_filter] at hx hy
    rcases Nat.lt_trichotomy x y with q | q | q
    · exact q
    · exact absurd q hxy.2
    · exact absurd (h1 y x q (h.lt x hx.1) hy.2 hx.2) hxy.1
  · rw [List.mem_filter, List.mem_filter, List.mem_range]
    exact ⟨fun q => ⟨h2 x q.1 q.2, q.2⟩, fun q => ⟨h3 x q.1 q.2, q.2⟩⟩
end

section
variable {P : Program} {self : Task → Option Out} {x : FM}
theorem Trace.run {ops : List Oper} : ∀ {l : List Oper} {es : List Ent} {f : Fr} {m : Mem}, Trace P self ops x l es f m → ∃ (F : Nat → Fr) (G : Nat → Mem), F 0 = f ∧ G 0 = m ∧ F l.length = x.f ∧ G l.length = x.m ∧
    ∀ k o, l[k]? = some o → ∃ e, es[k]? = some e ∧ EntOk P self ops o e ∧ e.f = F k ∧ e.m = G k ∧ e.r.m = G (k + 1) ∧ e.f.put o.dst e.r.v = some (F (k + 1))
  | _, _, _, _, .nil => ⟨fun _ => x.f, fun _ => x.m, rfl, rfl, rfl, rfl, by simp⟩
  | _, _, _, _, .cons (o := o) (l := l) (e := e) (es := es) (f1 := f1) he hp h => by
    obtain ⟨F, G, h1, h2, h3, h4, h5⟩ := Trace.run h
    refine ⟨fun k => match k with | 0 => e.f | k + 1 => F k, fun k => match k with | 0 => e.m | k + 1 => G k, rfl, rfl, h3, h4, fun k o' hk => ?_⟩
    cases k with
    | zero => simp at hk; subst hk; exact ⟨e, rfl, he, rfl, rfl, h2.symm, by rw [hp]; exact congrArg some h1.symm⟩
    | succ k => exact h5 k o' (by simpa using hk)
end
end Ev
end Go.Proofs.Ytlfojfndkcmfnaa
