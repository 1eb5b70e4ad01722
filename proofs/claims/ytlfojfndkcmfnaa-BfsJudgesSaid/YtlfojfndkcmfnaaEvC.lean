/- Each operation of the evaluator's is one of the model's. -/
import Derived.Test.YtlfojfndkcmfnaaEvB
namespace Go.Proofs.Ytlfojfndkcmfnaa
namespace Ev
open Go

/-- What an operation is handed. -/
def OV (φ : Phi) (f : Fr) (o : Oper) (ρ : Operand → Value) : Prop := ∀ x ∈ o.op.operands, ∀ v, f.get x = some v → VR φ v (ρ x)

section
variable {P : Program} {φ : Phi} {M : AM} {w : World} {f : Fr} {o : Oper} {m : Mem} {r : R} {ρ : Operand → Value}

theorem valsA_some : ∀ {l : List Operand} {vs : List Value}, valsA f l = some vs → (∀ x ∈ l, ∀ v, f.get x = some v → VR φ v (ρ x)) → VRL φ vs (l.map ρ)
  | [], vs, h, _ => by simp [valsA] at h; subst h; exact .nil
  | x :: l, vs, h, hv => by
    unfold valsA at h
    split at h
    · cases h
    · rename_i v hx
      split at h
      · cases h
      · rename_i us hu
        cases h
        exact .cons (hv x (by simp) v hx) (valsA_some hu fun y hy => hv y (by simp [hy]))

inductive PRL (φ : Phi) : List (Nat × Value) → List (Nat × Value) → Prop
  | nil : PRL φ [] []
  | cons {i : Nat} {v v' : Value} {l l' : List (Nat × Value)} (h : VR φ v v') (hl : PRL φ l l') : PRL φ ((i, v) :: l) ((i, v') :: l')
theorem partsA_some : ∀ {l : List (Nat × Operand)} {vs : List (Nat × Value)}, partsA f l = some vs → (∀ x ∈ l.map (·.2), ∀ v, f.get x = some v → VR φ v (ρ x)) → PRL φ vs (l.map fun p => (p.1, ρ p.2))
  | [], vs, h, _ => by simp [partsA] at h; subst h; exact .nil
  | (i, x) :: l, vs, h, hv => by
    unfold partsA at h
    split at h
    · cases h
    · rename_i v hx
      split at h
      · cases h
      · rename_i us hu
        cases h
        exact .cons (hv x (by simp) v hx) (partsA_some hu fun y hy => hv y (by simp at hy ⊢; exact .inr hy))

theorem foldl_sets : ∀ (l : List Value) (k off : Nat) (cells : Array Value), off + k + l.length ≤ cells.size →
    ((l.zipIdx k).foldl (fun (cs : Array Value) (p : Value × Nat) => cs.setIfInBounds (off + p.2) p.1) cells).toList = cells.toList.take (off + k) ++ l ++ cells.toList.drop (off + k + l.length)
  | [], k, off, cells, _ => by simp
  | v :: l, k, off, cells, h => by
    have hlt : off + k < cells.size := by simp at h; omega
    rw [List.zipIdx_cons, List.foldl_cons, foldl_sets l (k + 1) off _ (by simp at h ⊢; omega)]
    apply List.ext_getElem?
    intro q
    have e1 := getElem?_splice (cells.setIfInBounds (off + k) v).toList l (off + (k + 1)) q (by simp at h ⊢; omega)
    have e2 := getElem?_splice cells.toList (v :: l) (off + k) q (by simp at h ⊢; omega)
    rw [e1, e2]
    simp only [List.length_cons, Array.getElem?_toList]
    by_cases c : off + (k + 1) ≤ q ∧ q < off + (k + 1) + l.length
    · rw [if_pos c, if_pos (by omega), show q - (off + k) = (q - (off + (k + 1))) + 1 by omega, List.getElem?_cons_succ]
    · rw [if_neg c]
      by_cases d : q = off + k
      · subst d
        rw [if_pos (by omega)]
        simp [hlt]
      · rw [if_neg (by omega), Array.getElem?_setIfInBounds, if_neg (by omega)]

theorem fillA_some {place : Nat → Option (Nat × Nat)} : ∀ {ps ps' : List (Nat × Value)}, PRL φ ps ps' → ∀ {cells cells' : List Value}, VRL φ cells cells' → ∀ {l : List Value}, fillA place cells ps = some l →
    ∃ l', Instr.fill place cells'.toArray ps' = some l'.toArray ∧ VRL φ l l'
  | _, _, .nil, cells, cells', hc, l, h => by simp [fillA] at h; subst h; exact ⟨cells', rfl, hc⟩
  | _, _, .cons (i := i) (v := v) (v' := v') hv hl, cells, cells', hc, l, h => by
    unfold fillA at h
    split at h
    · cases h
    · rename_i off size hp
      simp only at h
      rw [Bool.cond_eq_ite] at h
      split at h
      · rename_i hcond
        simp only [Bool.and_eq_true] at hcond
        obtain ⟨⟨h1, h2⟩, h3⟩ := hcond
        have h1 := Nat.eq_of_beq_eq_true h1
        have h2 := Nat.le_of_ble_eq_true h2
        have hvc := hv.cells
        have hlen := hvc.length
        have hcl := hc.length
        have hsz : v'.cells.size = size := by rw [← h1, hlen]; simp
        have key : (v'.cells.zipIdx.foldl (fun (cs : Array Value) (p : Value × Nat) => cs.setIfInBounds (off + p.2) p.1) cells'.toArray).toList = cells'.take off ++ v'.cells.toList ++ cells'.drop (off + size) := by
          rw [← Array.foldl_toList, Array.toList_zipIdx, foldl_sets v'.cells.toList 0 off _ (by simp; omega)]
          simp [hsz]
        obtain ⟨l', e1, e2⟩ := fillA_some hl (((hc.take off).append hvc).append (hc.drop (off + size))) h
        refine ⟨l', ?_, e2⟩
        unfold Instr.fill
        simp only [hp]
        rw [if_neg (by simp; omega)]
        rw [← e1]
        congr 1
        rw [← key]
      · cases h
end
end Ev
end Go.Proofs.Ytlfojfndkcmfnaa
