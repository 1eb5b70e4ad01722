/- The evaluator's words: what a table, a value, a memory stands for. -/
import Derived.Test.YtlfojfndkcmfnaaEv
import Derived.Below
namespace Go.Proofs.Ytlfojfndkcmfnaa
namespace Ev
open Go

section tables
variable {α : Type}
theorem ob_some {β : Type} {x : Option α} {k : α → Option β} {r : β} (h : ob x k = some r) : ∃ a, x = some a ∧ k a = some r := by
  cases x with
  | none => cases h
  | some a => exact ⟨a, rfl, h⟩
theorem iteB_eq {b : Bool} {t e : α} : iteB b t e = if b then t else e := by cases b <;> rfl
theorem iteB_some {b : Bool} {t : Option α} {r : α} (h : iteB b t none = some r) : b = true ∧ t = some r := by
  cases b with
  | true => exact ⟨rfl, h⟩
  | false => cases h
theorem forceN_eq (n : Nat) (k : Nat → α) : forceN n k = k n := by cases n <;> rfl
theorem T.strict_eq {β : Type} (t : T α) (k : T α → β) : T.strict t k = k t := by cases t <;> rfl
theorem force_eq (v : Value) (k : Value → α) : force v k = k v := by
  unfold force
  split <;> first | rfl | rw [forceN_eq]

theorem T.get_leaf (n : Nat) : (T.leaf : T α).get n = none := rfl
theorem T.get_zero (v : Option α) (l r : T α) : (T.node v l r).get 0 = v := rfl
theorem T.get_succ (v : Option α) (l r : T α) (k : Nat) : (T.node v l r).get (k + 1) = if even k then l.get (k / 2) else r.get (k / 2) := by
  show @Bool.rec (fun _ => Option α) (r.get (Nat.div k 2)) (l.get (Nat.div k 2)) (even k) = _
  cases even k <;> rfl
theorem T.set_zero (t : T α) (n : Nat) (x : Option α) : T.set 0 t n x = .leaf := rfl
theorem T.set_leaf0 (f : Nat) (x : Option α) : T.set (f + 1) .leaf 0 x = .node x .leaf .leaf := rfl
theorem T.set_node0 (f : Nat) (v : Option α) (l r : T α) (x : Option α) : T.set (f + 1) (.node v l r) 0 x = .node x l r := rfl
theorem T.set_leaf (f k : Nat) (x : Option α) : T.set (f + 1) .leaf (k + 1) x = if even k then .node none (T.set f .leaf (k / 2) x) .leaf else .node none .leaf (T.set f .leaf (k / 2) x) := by
  show @Bool.rec (fun _ => T α) (T.strict (T.set f .leaf (Nat.div k 2) x) fun r => .node none .leaf r) (T.strict (T.set f .leaf (Nat.div k 2) x) fun l => .node none l .leaf) (even k) = _
  rw [T.strict_eq, T.strict_eq]
  cases even k <;> rfl
theorem T.set_node (f k : Nat) (v : Option α) (l r : T α) (x : Option α) : T.set (f + 1) (.node v l r) (k + 1) x = if even k then .node v (T.set f l (k / 2) x) r else .node v l (T.set f r (k / 2) x) := by
  show @Bool.rec (fun _ => T α) (T.strict (T.set f r (Nat.div k 2) x) fun r => .node v l r) (T.strict (T.set f l (Nat.div k 2) x) fun l => .node v l r) (even k) = _
  rw [T.strict_eq, T.strict_eq]
  cases even k <;> rfl
theorem even_iff (k : Nat) : even k = true ↔ k % 2 = 0 := by
  unfold even
  constructor
  · intro h; exact Nat.eq_of_beq_eq_true h
  · intro h; show Nat.beq (k % 2) 0 = true; rw [h]; rfl

/-- What is read out of a table behind a write: the value written, or what stood there. -/
theorem T.get_set : ∀ (f : Nat) (t : T α) (n : Nat) (x : Option α) (j : Nat) (y : α), (T.set f t n x).get j = some y → if j = n then x = some y else t.get j = some y
  | 0, t, n, x, j, y, h => by rw [T.set_zero, T.get_leaf] at h; cases h
  | f + 1, .leaf, 0, x, j, y, h => by
    rw [T.set_leaf0] at h
    cases j with
    | zero => simpa [T.get_zero] using h
    | succ j => rw [T.get_succ] at h; simp [T.get_leaf] at h
  | f + 1, .node v l r, 0, x, j, y, h => by
    rw [T.set_node0] at h
    cases j with
    | zero => simpa [T.get_zero] using h
    | succ j => rw [T.get_succ] at h; rw [if_neg (by omega), T.get_succ]; exact h
  | f + 1, .leaf, k + 1, x, j, y, h => by
    rw [T.set_leaf] at h
    cases j with
    | zero => by_cases e : even k = true <;> simp [e, T.get_zero] at h
    | succ j =>
      by_cases e : even k = true
      · rw [if_pos e, T.get_succ] at h
        by_cases e' : even j = true
        · rw [if_pos e'] at h
          have := T.get_set f .leaf (k / 2) x (j / 2) y h
          rw [T.get_leaf] at this
          have ek := (even_iff k).1 e
          have ej := (even_iff j).1 e'
          by_cases q : j / 2 = k / 2
          · rw [if_pos q] at this; rw [if_pos (by omega)]; exact this
          · rw [if_neg q] at this; cases this
        · rw [if_neg e', T.get_leaf] at h; cases h
      · rw [if_neg e, T.get_succ] at h
        by_cases e' : even j = true
        · rw [if_pos e', T.get_leaf] at h; cases h
        · rw [if_neg e'] at h
          have := T.get_set f .leaf (k / 2) x (j / 2) y h
          rw [T.get_leaf] at this
          have ek := mt (even_iff k).2 e
          have ej := mt (even_iff j).2 e'
          by_cases q : j / 2 = k / 2
          · rw [if_pos q] at this; rw [if_pos (by omega)]; exact this
          · rw [if_neg q] at this; cases this
  | f + 1, .node v l r, k + 1, x, j, y, h => by
    rw [T.set_node] at h
    cases j with
    | zero => by_cases e : even k = true <;> simp [e, T.get_zero] at h <;> (rw [if_neg (by omega), T.get_zero]; exact h)
    | succ j =>
      rw [T.get_succ]
      by_cases e : even k = true
      · rw [if_pos e, T.get_succ] at h
        have ek := (even_iff k).1 e
        by_cases e' : even j = true
        · rw [if_pos e'] at h ⊢
          have := T.get_set f l (k / 2) x (j / 2) y h
          have ej := (even_iff j).1 e'
          by_cases q : j / 2 = k / 2
          · rw [if_pos q] at this; rw [if_pos (by omega)]; exact this
          · rw [if_neg q] at this; rw [if_neg (by omega)]; exact this
        · rw [if_neg e'] at h ⊢
          rw [if_neg (by intro q; have : j = k := by omega
                         subst this; exact e' e)]
          exact h
      · rw [if_neg e, T.get_succ] at h
        have ek := mt (even_iff k).2 e
        by_cases e' : even j = true
        · rw [if_pos e'] at h ⊢
          rw [if_neg (by intro q; have : j = k := by omega
                         subst this; exact e e')]
          exact h
        · rw [if_neg e'] at h ⊢
          have := T.get_set f r (k / 2) x (j / 2) y h
          have ej := mt (even_iff j).2 e'
          by_cases q : j / 2 = k / 2
          · rw [if_pos q] at this; rw [if_pos (by omega)]; exact this
          · rw [if_neg q] at this; rw [if_neg (by omega)]; exact this

theorem T.get_sets : ∀ (l : List Value) (t : T Value) (i j : Nat) (y : Value), (T.sets t i l).get j = some y → if i ≤ j ∧ j < i + l.length then l[j - i]? = some y else t.get j = some y
  | [], t, i, j, y, h => by rw [if_neg (by simp)]; exact h
  | v :: l, t, i, j, y, h => by
    unfold T.sets at h
    rw [T.strict_eq] at h
    have := T.get_sets l _ _ j y h
    by_cases c : i + 1 ≤ j ∧ j < i + 1 + l.length
    · rw [if_pos (by exact c)] at this
      rw [if_pos (by simp; omega)]
      rw [show j - i = (j - (i + 1)) + 1 by omega]
      simpa using this
    · rw [if_neg (by exact c)] at this
      have := T.get_set _ _ _ _ _ _ this
      by_cases q : j = i
      · subst q
        rw [if_pos rfl] at this
        rw [if_pos (by simp)]
        simpa using this
      · rw [if_neg q] at this
        rw [if_neg (by simp; omega)]
        exact this
theorem tOf_get {l : List Value} {j : Nat} {y : Value} (h : (tOf l).get j = some y) : l[j]? = some y := by
  have := T.get_sets l .leaf 0 j y h
  by_cases c : 0 ≤ j ∧ j < 0 + l.length
  · rw [if_pos c] at this; simpa using this
  · rw [if_neg c] at this; cases this
end tables

/-- Where a block of the evaluator's lies: the block, from which cell on, how many cells the block has, cells an element. -/
structure Loc where
  blk : Nat
  base : Nat
  size : Nat
  sz : Nat
abbrev Phi := Nat → Option Loc
def Phi.le (φ ψ : Phi) : Prop := ∀ i l, φ i = some l → ψ i = some l
theorem Phi.le_refl (φ : Phi) : φ.le φ := fun _ _ h => h
theorem Phi.le_trans {φ ψ χ : Phi} (a : φ.le ψ) (b : ψ.le χ) : φ.le χ := fun i l h => b i l (a i l h)

mutual
/-- The evaluator's value stands for a value. -/
inductive VR (φ : Phi) : Value → Value → Prop
  | simple {v : Value} (h : simple v = true) : VR φ v v
  | ptr {b o : Nat} {l : Loc} (h : φ b = some l) : VR φ (.pointer (some ⟨b, o, none⟩)) (.pointer (some ⟨l.blk, l.base + o, none⟩))
  | slice {b o n c c' : Nat} {l : Loc} {A : Addr} (h : φ b = some l) (hn : n ≤ c') (hc : c ≠ CU → c' = c) (hm : c' ≤ 9223372036854775807)
      (ha : (A = ⟨l.blk, l.base + o, none⟩ ∧ (l.sz = 0 ∨ l.base + o + c' * l.sz ≤ l.size)) ∨ c' = 0) : VR φ (.slice (some ⟨b, o, none⟩) n c) (.slice (some A) n c')
  | map {b : Nat} {l : Loc} (h : φ b = some l) : VR φ (.map (some b)) (.map (some l.blk))
  | func {g : FuncId} {a a' c c' : List Value} (ha : VRL φ a a') (hc : VRL φ c c') : VR φ (.func (.func g) a.toArray c.toArray) (.func (.func g) a'.toArray c'.toArray)
  | agg {a a' : List Value} (ha : VRL φ a a') : VR φ (.agg a.toArray) (.agg a'.toArray)
  | tuple {a a' : List Value} (ha : VRL φ a a') : VR φ (.tuple a.toArray) (.tuple a'.toArray)
inductive VRL (φ : Phi) : List Value → List Value → Prop
  | nil : VRL φ [] []
  | cons {v v' : Value} {l l' : List Value} (h : VR φ v v') (hl : VRL φ l l') : VRL φ (v :: l) (v' :: l')
end

mutual
theorem VR.mono {φ ψ : Phi} (hle : φ.le ψ) : ∀ {v v' : Value}, VR φ v v' → VR ψ v v'
  | _, _, .simple h => .simple h
  | _, _, .ptr h => .ptr (hle _ _ h)
  | _, _, .slice h a b c d => .slice (hle _ _ h) a b c d
  | _, _, .map h => .map (hle _ _ h)
  | _, _, .func a b => .func (VRL.mono hle a) (VRL.mono hle b)
  | _, _, .agg a => .agg (VRL.mono hle a)
  | _, _, .tuple a => .tuple (VRL.mono hle a)
theorem VRL.mono {φ ψ : Phi} (hle : φ.le ψ) : ∀ {v v' : List Value}, VRL φ v v' → VRL ψ v v'
  | _, _, .nil => .nil
  | _, _, .cons a b => .cons (VR.mono hle a) (VRL.mono hle b)
end

section vrl
variable {φ : Phi}
theorem VRL.length : ∀ {l l' : List Value}, VRL φ l l' → l.length = l'.length
  | _, _, .nil => rfl
  | _, _, .cons _ b => by simp [VRL.length b]
theorem VRL.get : ∀ {l l' : List Value}, VRL φ l l' → ∀ {i : Nat} {v : Value}, l[i]? = some v → ∃ v', l'[i]? = some v' ∧ VR φ v v'
  | _, _, .nil, i, v, h => by simp at h
  | _, _, .cons a b, 0, v, h => by simp at h; subst h; exact ⟨_, rfl, a⟩
  | _, _, .cons a b, i + 1, v, h => by simpa using VRL.get b (by simpa using h)
theorem VRL.append : ∀ {l l' k k' : List Value}, VRL φ l l' → VRL φ k k' → VRL φ (l ++ k) (l' ++ k')
  | _, _, _, _, .nil, h => h
  | _, _, _, _, .cons a b, h => .cons a (b.append h)
theorem VRL.drop : ∀ {l l' : List Value}, VRL φ l l' → ∀ (n : Nat), VRL φ (l.drop n) (l'.drop n)
  | _, _, h, 0 => by simpa using h
  | _, _, .nil, n + 1 => by simpa using VRL.nil
  | _, _, .cons _ b, n + 1 => by simpa using b.drop n
theorem VRL.take : ∀ {l l' : List Value}, VRL φ l l' → ∀ (n : Nat), VRL φ (l.take n) (l'.take n)
  | _, _, _, 0 => by simpa using VRL.nil
  | _, _, .nil, n + 1 => by simpa using VRL.nil
  | _, _, .cons a b, n + 1 => by simpa using VRL.cons a (b.take n)
theorem VRL.simple : ∀ {l : List Value}, l.all Ev.simple = true → VRL φ l l
  | [], _ => .nil
  | v :: l, h => by
    simp only [List.all_cons, Bool.and_eq_true] at h
    exact .cons (.simple h.1) (VRL.simple h.2)
theorem VR.atomA {v : Value} (h : atomA v = true) : VR φ v v := by
  unfold Ev.atomA at h
  split at h
  · rename_i cs
    have := VR.agg (VRL.simple (φ := φ) h)
    simpa using this
  · exact .simple h
theorem VR.eq_simple {v v' : Value} (h : VR φ v v') (hs : Ev.simple v = true) : v' = v := by
  cases h <;> first | rfl | (simp [Ev.simple] at hs)
theorem VRL.eq_simple : ∀ {l l' : List Value}, VRL φ l l' → l.all Ev.simple = true → l' = l
  | _, _, .nil, _ => rfl
  | _, _, .cons a b, h => by
    simp only [List.all_cons, Bool.and_eq_true] at h
    rw [a.eq_simple h.1, b.eq_simple h.2]
theorem VR.eq_atomA {v v' : Value} (h : VR φ v v') (hs : Ev.atomA v = true) : v' = v := by
  cases h with
  | agg ha => simp [Ev.atomA] at hs; rw [ha.eq_simple (by simpa using hs)]
  | simple _ => rfl
  | _ => simp [Ev.atomA, Ev.simple] at hs
theorem VRL.eq_atomA : ∀ {l l' : List Value}, VRL φ l l' → l.all Ev.atomA = true → l' = l
  | _, _, .nil, _ => rfl
  | _, _, .cons a b, h => by
    simp only [List.all_cons, Bool.and_eq_true] at h
    rw [a.eq_atomA h.1, b.eq_atomA h.2]
/-- The cells of a value. -/
theorem VR.cells {v v' : Value} (h : VR φ v v') : VRL φ v.cells.toList v'.cells.toList := by
  cases h with
  | agg ha => simpa [Value.cells] using ha
  | simple h =>
    have : v.cells = #[v] := by
      cases v <;> first | rfl | (simp [Ev.simple] at h)
    rw [this]
    exact .cons (.simple h) .nil
  | ptr h => exact .cons (.ptr h) .nil
  | slice a b c d e => exact .cons (.slice a b c d e) .nil
  | map a => exact .cons (.map a) .nil
  | func a b => exact .cons (.func a b) .nil
  | tuple a => exact .cons (.tuple a) .nil
end vrl

/-- A block of the evaluator's lies in the world at a place. -/
def BR (φ : Phi) (l : Loc) (w : World) : ABlk → Prop
  | .cells c n elem sz => l.sz = sz ∧ l.base + n ≤ l.size ∧ ∃ cs : List Value, w.heap[l.blk]? = some (.cells cs.toArray elem (0, 0)) ∧ cs.length = l.size ∧
      ∀ j v, j < n → c.get j = some v → ∃ v', cs[l.base + j]? = some v' ∧ VR φ v v'
  | .map es cl => w.heap[l.blk]? = some (.map es cl)

abbrev AM := Nat → Option ABlk
structure Rel (φ : Phi) (M : AM) (w : World) : Prop where
  blk : ∀ i b, M i = some b → ∃ l, φ i = some l ∧ BR φ l w b
  inj : ∀ i j x y li lj, i ≠ j → M i = some x → M j = some y → φ i = some li → φ j = some lj → li.blk ≠ lj.blk

theorem BR.mono {φ ψ : Phi} (h : φ.le ψ) {l : Loc} {w : World} {b : ABlk} (hb : BR φ l w b) : BR ψ l w b := by
  cases b with
  | map es cl => exact hb
  | cells c n e s =>
    obtain ⟨h1, h2, cs, h3, h4, h5⟩ := hb
    refine ⟨h1, h2, cs, h3, h4, fun j v hj hv => ?_⟩
    obtain ⟨v', a, b⟩ := h5 j v hj hv
    exact ⟨v', a, b.mono h⟩
theorem BR.lt {φ : Phi} {l : Loc} {w : World} {b : ABlk} (hb : BR φ l w b) : l.blk < w.heap.size := by
  cases b with
  | map es cl => exact (Array.getElem?_eq_some_iff.1 hb).1
  | cells c n e s =>
    obtain ⟨_, _, cs, h3, _⟩ := hb
    exact (Array.getElem?_eq_some_iff.1 h3).1
theorem BR.keep {φ : Phi} {l : Loc} {w w' : World} {b : ABlk} (hb : BR φ l w b) (h : w'.heap[l.blk]? = w.heap[l.blk]?) : BR φ l w' b := by
  cases b with
  | map es cl => exact h.trans hb
  | cells c n e s =>
    obtain ⟨h1, h2, cs, h3, h4, h5⟩ := hb
    exact ⟨h1, h2, cs, h.trans h3, h4, h5⟩
/-- Less is known. -/
theorem Rel.sub {φ : Phi} {M N : AM} {w : World} (h : Rel φ M w) (hs : ∀ i b, N i = some b → M i = some b) : Rel φ N w :=
  ⟨fun i b hb => h.blk i b (hs i b hb), fun i j x y li lj hne hx hy => h.inj i j x y li lj hne (hs i x hx) (hs j y hy)⟩
theorem Rel.keep {φ : Phi} {M : AM} {w w' : World} (h : Rel φ M w) (hk : ∀ k, k < w.heap.size → w'.heap[k]? = w.heap[k]?) : Rel φ M w' :=
  ⟨fun i b hb => by obtain ⟨l, h1, h2⟩ := h.blk i b hb; exact ⟨l, h1, h2.keep (hk _ h2.lt)⟩, h.inj⟩

/-- A block of the world that stands for one of the evaluator's. -/
def Img (φ : Phi) (M : AM) (k : Nat) : Prop := ∃ i b l, M i = some b ∧ φ i = some l ∧ l.blk = k
/-- What a step may do to the world. -/
structure WG (φ : Phi) (M : AM) (w : World) (φ' : Phi) (M' : AM) (w' : World) : Prop where
  os : w'.os = w.os
  tape : w'.tape = w.tape
  output : w'.output = w.output
  size : w.heap.size ≤ w'.heap.size
  keep : ∀ k, k < w.heap.size → ¬ Img φ M k → w'.heap[k]? = w.heap[k]?
  img : ∀ k, k < w.heap.size → Img φ' M' k → Img φ M k
theorem WG.refl (φ : Phi) (M : AM) (w : World) : WG φ M w φ M w := ⟨rfl, rfl, rfl, Nat.le_refl _, fun _ _ _ => rfl, fun _ _ h => h⟩
theorem WG.trans {φ₀ φ₁ φ₂ : Phi} {M₀ M₁ M₂ : AM} {w₀ w₁ w₂ : World} (a : WG φ₀ M₀ w₀ φ₁ M₁ w₁) (b : WG φ₁ M₁ w₁ φ₂ M₂ w₂) : WG φ₀ M₀ w₀ φ₂ M₂ w₂ :=
  ⟨b.os.trans a.os, b.tape.trans a.tape, b.output.trans a.output, Nat.le_trans a.size b.size,
   fun k hk hn => (b.keep k (Nat.lt_of_lt_of_le hk a.size) (fun h => hn (a.img k hk h))).trans (a.keep k hk hn),
   fun k hk h => a.img k hk (b.img k (Nat.lt_of_lt_of_le hk a.size) h)⟩
/-- Blocks that are no longer known. -/
theorem WG.sub {φ φ' : Phi} {M M' N : AM} {w w' : World} (a : WG φ M w φ' M' w') (hs : ∀ i b, N i = some b → M' i = some b) : WG φ M w φ' N w' :=
  ⟨a.os, a.tape, a.output, a.size, a.keep, fun k hk ⟨i, b, l, h1, h2, h3⟩ => a.img k hk ⟨i, b, l, hs i b h1, h2, h3⟩⟩
end Ev
end Go.Proofs.Ytlfojfndkcmfnaa
