/- Each operation of the evaluator's is one of the model's (2). -/
import Derived.Test.YtlfojfndkcmfnaaEvC
namespace Go.Proofs.Ytlfojfndkcmfnaa
namespace Ev
open Go

theorem runPure_run {α : Type} (P : Program) : ∀ (s : Sem α) (a : α), runPure P s = some a → ∀ w, s.run P w = .ok a w
  | .pure _, a, h, w => by simp [runPure] at h; subst h; rfl
  | .program k, a, h, w => by
    unfold runPure at h
    show (k P).run P w = _
    exact runPure_run P (k P) a h w
  | .load .., _, h, _ => by simp [runPure] at h
  | .store .., _, h, _ => by simp [runPure] at h
  | .new .., _, h, _ => by simp [runPure] at h
  | .shape .., _, h, _ => by simp [runPure] at h
  | .freeze .., _, h, _ => by simp [runPure] at h
  | .frozen .., _, h, _ => by simp [runPure] at h
  | .getObj .., _, h, _ => by simp [runPure] at h
  | .setObj .., _, h, _ => by simp [runPure] at h
  | .choose .., _, h, _ => by simp [runPure] at h
  | .sys .., _, h, _ => by simp [runPure] at h
  | .mark .., _, h, _ => by simp [runPure] at h
  | .halt .., _, h, _ => by simp [runPure] at h

section
variable {P : Program} {φ : Phi} {M : AM} {w : World} {f : Fr} {o : Oper} {m : Mem} {r : R} {ρ : Operand → Value} {next : Nat}

theorem valsA_all : ∀ {l : List Operand} {vs : List Value}, valsA f l = some vs → vs.all atomA = true → ∀ x ∈ l, ∃ v, f.get x = some v ∧ atomA v = true
  | [], _, _, _ => by simp
  | x :: l, vs, h, ha => by
    unfold valsA at h
    split at h
    · cases h
    · rename_i v hx
      split at h
      · cases h
      · rename_i us hu
        cases h
        simp only [List.all_cons, Bool.and_eq_true] at ha
        intro y hy
        rcases List.mem_cons.1 hy with rfl | hy
        · exact ⟨v, hx, ha.1⟩
        · exact valsA_all hu ha.2 y hy

/-- Operations on values without addresses: the model's own. -/
theorem ok_pure (hs : ∀ cs b, o.op ≠ .select cs b) (h : pureA P f o = some r) (hR : Rel φ M w) (hv : OV φ f o ρ) : OpOk P (execOp ρ o) φ M w next r.v r.e := by
  unfold pureA at h
  split at h
  · cases h
  · rename_i vs hvs
    rw [Bool.cond_eq_ite] at h
    split at h
    · rename_i hat
      split at h
      · rename_i v hrun
        rw [Bool.cond_eq_ite] at h
        split at h
        · rename_i hav
          cases h
          have hcong : execOp ρ o = execOp (fun x => (f.get x).getD undef) o := execOp_congr o hs fun x hx => by
            obtain ⟨u, hu, ha⟩ := valsA_all hvs hat x (by simpa using hx)
            rw [hu]
            exact (hv x hx u hu).eq_atomA ha
          refine OpOk.value hR (v' := v) ?_ (VR.atomA hav)
          rw [hcong]
          exact runPure_run P _ _ hrun w
        · cases h
      · cases h
    · cases h

theorem val_some {v : Value} (h : val v = some r) : r = ⟨v, .none, []⟩ := by simp [val] at h; exact h.symm

theorem ok_move {x : Operand} (hop : o.op = .move x ∨ o.op = .assign x) (h : ob (f.get x) val = some r) (hR : Rel φ M w) (hv : OV φ f o ρ) : OpOk P (execOp ρ o) φ M w next r.v r.e := by
  obtain ⟨v, hx, h⟩ := ob_some h
  rw [val_some h]
  have hr := hv x (by rcases hop with e | e <;> rw [e] <;> simp [Op.operands]) v hx
  refine OpOk.value hR (v' := ρ x) ?_ hr
  unfold execOp
  rcases hop with e | e <;> rw [e] <;> rfl

theorem ok_pick {c a b : Operand} (hop : o.op = .pick c a b) (h : ob (f.get c) (evPick f a b) = some r) (hR : Rel φ M w) (hv : OV φ f o ρ) : OpOk P (execOp ρ o) φ M w next r.v r.e := by
  obtain ⟨u, hc, h⟩ := ob_some h
  unfold evPick at h
  split at h
  · rename_i t
    obtain ⟨v, hx, h⟩ := ob_some h
    rw [val_some h]
    rw [iteB_eq] at hx
    have h1 := hv c (by rw [hop]; simp [Op.operands]) _ hc
    have e1 := h1.eq_simple rfl
    have h2 := hv (if t then a else b) (by rw [hop]; cases t <;> simp [Op.operands]) v hx
    refine OpOk.value hR (v' := ρ (if t then a else b)) ?_ h2
    unfold execOp
    rw [hop]
    simp only [e1, asBool, Sem.run_bind, Sem.run_pure, Result.andThen_ok]
    cases t <;> rfl
  · cases h

theorem zeroA_some {i : TypeInfo} {z : List Value} (h : zeroA i = some z) : ∃ v : Value, i.zero = some v ∧ v.cells.toList = z ∧ z.length = i.size ∧ VRL φ z z := by
  obtain ⟨v, h1, h2⟩ := ob_some h
  obtain ⟨h3, h4⟩ := iteB_some h2
  cases h4
  simp only [Bool.and_eq_true] at h3
  exact ⟨v, h1, rfl, Nat.eq_of_beq_eq_true h3.2, (VR.atomA h3.1).cells⟩
theorem rTI {t : TypeId} {i : TypeInfo} (h : P.info? t = some i) (w : World) : (typeInfo t).run P w = .ok i w := run_typeInfo w h
theorem rSO {t : TypeId} {i : TypeInfo} (h : P.info? t = some i) (w : World) : (sizeOf t).run P w = .ok i.size w := by
  rw [run_sizeOf w h]; simp [Program.cellsOf, h]
theorem run_zeroValue' {t : TypeId} {i : TypeInfo} {z : Value} (h : P.info? t = some i) (hz : i.zero = some z) (w : World) : (zeroValue t).run P w = .ok z w := by
  simp [zeroValue, rTI h, hz]

theorem phi_self {w : World} {n z : Nat} : phiSet φ next ⟨w.heap.size, 0, n, z⟩ next = some ⟨w.heap.size, 0, n, z⟩ := phiSet_self _ _

theorem ok_alloc {t : TypeId} (hop : o.op = .alloc t) (h : ob (P.info? t) (evAlloc t m) = some r) (hR : Rel φ M w) (hf : φ m.next = none) : OpOk P (execOp ρ o) φ M w m.next r.v r.e := by
  obtain ⟨i, hi, h⟩ := ob_some h
  obtain ⟨z, hz, h⟩ := ob_some h
  cases h
  obtain ⟨v, h1, h2, h3, h4⟩ := zeroA_some (φ := φ) hz
  refine OpOk.row hR hf h4 (v' := .pointer (some ⟨w.heap.size, 0, none⟩)) ?_ (VR.ptr (phi_self))
  unfold execOp
  rw [hop]
  simp [Instr.alloc, run_zeroValue' hi h1, newVar, newRow, newObj, Sem.run, ← h2]

theorem ok_box {t : TypeId} {x : Operand} (hop : o.op = .box t x) (h : ob (f.get x) (evBox t m) = some r) (hR : Rel φ M w) (hv : OV φ f o ρ) (hf : φ m.next = none) : OpOk P (execOp ρ o) φ M w m.next r.v r.e := by
  obtain ⟨v, hx, h⟩ := ob_some h
  obtain ⟨_, h⟩ := iteB_some h
  cases h
  have h1 := hv x (by rw [hop]; simp [Op.operands]) v hx
  refine OpOk.row hR hf h1.cells (v' := .pointer (some ⟨w.heap.size, 0, none⟩)) ?_ (VR.ptr (phi_self))
  unfold execOp
  rw [hop]
  simp [Instr.box, newVar, newRow, newObj, Sem.run]

theorem placesA_some : ∀ {l : List Field} {ps : List (Nat × Nat)}, placesA P l = some ps → ∀ w, (l.mapM (fun (f : Field) => do pure (f.offset, ← sizeOf f.type)) : Sem (List (Nat × Nat))).run P w = .ok ps w
  | [], ps, h, w => by simp [placesA] at h; subst h; rfl
  | fd :: l, ps, h, w => by
    unfold placesA at h
    split at h
    · cases h
    · rename_i i hi
      split at h
      · cases h
      · rename_i us hu
        cases h
        have := placesA_some hu w
        simp only [List.mapM_cons, Sem.run_bind, rSO hi, Result.andThen_ok, Sem.run_pure, this]

theorem ok_build {t : TypeId} {parts : Array (Nat × Operand)} (hop : o.op = .build t parts) (h : ob (partsA f parts.toList) (evBuild P t) = some r) (hR : Rel φ M w) (hv : OV φ f o ρ) : OpOk P (execOp ρ o) φ M w next r.v r.e := by
  obtain ⟨ps, hps, h⟩ := ob_some h
  obtain ⟨i, hi, h⟩ := ob_some h
  obtain ⟨z, hz, h⟩ := ob_some h
  obtain ⟨d, hd, h⟩ := ob_some h
  obtain ⟨v, z1, z2, z3, z4⟩ := zeroA_some (φ := φ) hz
  have hpr := partsA_some (φ := φ) (ρ := ρ) hps (fun x hx => hv x (by rw [hop]; simpa [Op.operands] using hx))
  unfold evBuild1 at h
  split at h
  · rename_i fields
    obtain ⟨pl, hpl, h⟩ := ob_some h
    obtain ⟨l, hl, h⟩ := ob_some h
    rw [val_some h]
    obtain ⟨l', e1, e2⟩ := fillA_some hpr z4 hl
    refine OpOk.value hR (v' := .agg l'.toArray) ?_ (VR.agg e2)
    have hm := placesA_some hpl w
    rw [← z2] at e1
    unfold execOp
    rw [hop]
    have hmm : ((fields.mapM (fun (f : Field) => do pure (f.offset, ← sizeOf f.type)) : Sem (Array (Nat × Nat)))).run P w = .ok pl.toArray w := by
      rw [Array.mapM_eq_mapM_toList, Sem.run_map, hm]
      rfl
    have e1' : Instr.fill (fun k => pl[k]?) v.cells (parts.toList.map fun p => (p.1, ρ p.2)) = some l'.toArray := by
      simpa using e1
    simp only [Instr.build, Sem.run_bind, run_zeroValue' hi z1, Result.andThen_ok, run_underlying hd, hmm]
    simp only [Array.toList_map, List.getElem?_toArray, e1', Sem.run_pure, Result.andThen_ok]
  · rename_i n elem
    obtain ⟨j, hj, h⟩ := ob_some h
    obtain ⟨l, hl, h⟩ := ob_some h
    rw [val_some h]
    obtain ⟨l', e1, e2⟩ := fillA_some hpr z4 hl
    refine OpOk.value hR (v' := .agg l'.toArray) ?_ (VR.agg e2)
    rw [← z2] at e1
    unfold execOp
    rw [hop]
    simp only [Instr.build, Sem.run_bind, run_zeroValue' hi z1, Result.andThen_ok, run_underlying hd, rSO hj]
    simp at e1
    simp [e1]
  · cases h

theorem repl_zero (z : List Value) : repl 0 z = [] := rfl
theorem repl_succ (n : Nat) (z : List Value) : repl (n + 1) z = z ++ repl n z := rfl
theorem repl_length (n : Nat) (z : List Value) : (repl n z).length = n * z.length := by
  induction n with
  | zero => simp [repl_zero]
  | succ n ih => rw [repl_succ, List.length_append, ih, Nat.succ_mul, Nat.add_comm]
theorem repl_vrl {z z' : List Value} (h : VRL φ z z') (n : Nat) : VRL φ (repl n z) (repl n z') := by
  induction n with
  | zero => exact .nil
  | succ n ih => exact h.append ih
theorem range_mod (z : List Value) (n : Nat) : (List.range (n * z.length)).map (fun i => z.toArray[i % z.length]!) = repl n z := by
  induction n with
  | zero => simp [repl_zero]
  | succ n ih =>
    rw [Nat.succ_mul, Nat.add_comm, List.range_add, List.map_append, repl_succ, List.map_map]
    congr 1
    · apply List.ext_getElem?
      intro q
      by_cases hq : q < z.length
      · simp [hq, Nat.mod_eq_of_lt hq]
      · simp [hq]
    · rw [← ih]
      apply List.map_congr_left
      intro i _
      simp
theorem zeros_array (z : Value) (n : Nat) : (Array.range (n * z.cells.size)).map (fun i => z.cells[i % z.cells.size]!) = (repl n z.cells.toList).toArray := by
  have := range_mod z.cells.toList n
  apply Array.toList_inj.1
  simp at this ⊢
  exact this

theorem ok_buildSlice {t : TypeId} {len : Nat} {parts : Array (Nat × Operand)} (hop : o.op = .buildSlice t len parts) (h : (ob (partsA f parts.toList) fun ps => ob (P.underlying t) (evBuildSlice P m len ps)) = some r) (hR : Rel φ M w) (hv : OV φ f o ρ) (hf : φ m.next = none) : OpOk P (execOp ρ o) φ M w m.next r.v r.e := by
  obtain ⟨ps, hps, h⟩ := ob_some h
  obtain ⟨d, hd, h⟩ := ob_some h
  unfold evBuildSlice at h
  split at h
  · rename_i elem
    obtain ⟨i, hi, h⟩ := ob_some h
    obtain ⟨z, hz, h⟩ := ob_some h
    obtain ⟨hb, h⟩ := iteB_some h
    obtain ⟨l, hl, h⟩ := ob_some h
    cases h
    simp only [Bool.and_eq_true] at hb
    have hb1 := Nat.le_of_ble_eq_true hb.1
    have hb2 := Nat.le_of_ble_eq_true hb.2
    obtain ⟨v, z1, z2, z3, z4⟩ := zeroA_some (φ := φ) hz
    have hpr := partsA_some (φ := φ) (ρ := ρ) hps (fun x hx => hv x (by rw [hop]; simpa [Op.operands] using hx))
    obtain ⟨l', e1, e2⟩ := fillA_some hpr (repl_vrl z4 len) hl
    have hlen : l.length = len * i.size := by
      have : ∀ {ps : List (Nat × Value)} {cells l : List Value}, fillA (fun k => some (k * i.size, i.size)) cells ps = some l → l.length = cells.length := by
        intro ps
        induction ps with
        | nil => intro cells l h; simp [fillA] at h; rw [h]
        | cons p ps ih =>
          intro cells l h
          obtain ⟨k, u⟩ := p
          unfold fillA at h
          simp only at h
          rw [Bool.cond_eq_ite] at h
          split at h
          · rename_i hc
            simp only [Bool.and_eq_true] at hc
            have a1 := Nat.eq_of_beq_eq_true hc.1.1
            have a2 := Nat.le_of_ble_eq_true hc.1.2
            rw [ih h]
            simp only [List.length_append, List.length_take, List.length_drop, a1]
            omega
          · cases h
      rw [this hl, repl_length, z3]
    refine OpOk.row hR hf e2 (v' := .slice (some ⟨w.heap.size, 0, none⟩) len len) ?_ (VR.slice (l := ⟨w.heap.size, 0, l.length, i.size⟩) phi_self (Nat.le_refl _) (fun _ => rfl) (by omega) (.inl ⟨rfl, .inr (by simp [hlen])⟩))
    unfold execOp
    rw [hop]
    have hzs : v.cells.size = i.size := by rw [← z3, ← z2]; simp
    have hrep : (Array.range (len * i.size)).map (fun k => (if len * i.size = 0 then #[] else v.cells)[k % (if len * i.size = 0 then #[] else v.cells).size]!) = (repl len z).toArray := by
      by_cases hc : len * i.size = 0
      · have : repl len z = [] := List.eq_nil_of_length_eq_zero (by rw [repl_length, z3]; exact hc)
        simp [hc, this]
      · simp only [if_neg hc]
        have := zeros_array v len
        rw [z2] at this
        rw [← hzs]
        exact this
    have hfill : Instr.fill (fun k => some (k * i.size, i.size)) (repl len z).toArray (parts.toList.map fun p => (p.1, ρ p.2)) = some l'.toArray := e1
    simp only [Instr.buildSlice, Sem.run_bind, run_underlying hd, Result.andThen_ok, rSO hi]
    rw [if_neg (by omega)]
    by_cases hc : len * i.size = 0
    · rw [if_pos hc]
      simp only [if_pos hc] at hrep
      simp only [Sem.run_bind, Sem.run_pure, Result.andThen_ok, hrep, Array.toList_map, hfill, newRow, newObj, Sem.run, World.alloc_eq]
    · rw [if_neg hc]
      simp only [if_neg hc] at hrep
      simp only [Sem.run_bind, run_zeroValue' hi z1, Sem.run_pure, Result.andThen_ok, hrep, Array.toList_map, hfill, newRow, newObj, Sem.run, World.alloc_eq]
  · cases h
end
end Ev
end Go.Proofs.Ytlfojfndkcmfnaa
