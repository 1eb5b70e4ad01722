/- Each operation of the evaluator's is one of the model's (4): slices, maps. -/
import Derived.Test.YtlfojfndkcmfnaaEvE
import Derived.IntWalk
namespace Go.Proofs.Ytlfojfndkcmfnaa
namespace Ev
open Go

section
variable {P : Program} {φ : Phi} {M : AM} {w : World} {f : Fr} {o : Oper} {m : Mem} {r : R} {ρ : Operand → Value} {next : Nat}

theorem ok_makeSlice {t : TypeId} {x y : Operand} (hop : o.op = .makeSlice t x y) (h : (ob (f.get x) fun l => ob (f.get y) (evMakeSlice P t m l)) = some r) (hR : Rel φ M w) (hv : OV φ f o ρ) (hf : φ m.next = none) : OpOk P (execOp ρ o) φ M w m.next r.v r.e := by
  obtain ⟨v, hx, h'⟩ := ob_some h
  clear h
  obtain ⟨u, hy, h⟩ := ob_some h'
  clear h'
  have h1 := hv x (by rw [hop]; simp [Op.operands]) v hx
  have h2 := hv y (by rw [hop]; simp [Op.operands]) u hy
  unfold evMakeSlice at h
  split at h
  · rename_i k1 l k2 c
    have e1 := h1.eq_simple rfl
    have e2 := h2.eq_simple rfl
    obtain ⟨d, hd, h'⟩ := ob_some h
    clear h
    unfold evMakeSlice1 at h'
    split at h'
    · rename_i elem
      obtain ⟨i, hi, h3⟩ := ob_some h'
      obtain ⟨z, hz, h4⟩ := ob_some h3
      obtain ⟨hb, h5⟩ := iteB_some h4
      cases h5
      simp only [Bool.and_eq_true] at hb
      have b1 := Nat.le_of_ble_eq_true hb.1.1
      have b2 := Nat.le_of_ble_eq_true hb.1.2
      have b3 := Nat.le_of_ble_eq_true hb.2
      obtain ⟨zv, z1, z2, z3, z4⟩ := zeroA_some (φ := φ) hz
      have hzs : zv.cells.size = i.size := by rw [← z3, ← z2]; simp
      refine OpOk.row hR hf (repl_vrl z4 c) (v' := .slice (some ⟨w.heap.size, 0, none⟩) l c) ?_ (VR.slice (l := ⟨w.heap.size, 0, (repl c z).length, i.size⟩) phi_self b1 (fun _ => rfl) (by omega) (.inl ⟨rfl, .inr (by simp [repl_length, z3])⟩))
      unfold execOp
      rw [hop]
      have wl : IntKind.i64.wrap (Int.ofNat l) = l := IntWalk.i64_in _ (by simp; omega)
      have wc : IntKind.i64.wrap (Int.ofNat c) = c := IntWalk.i64_in _ (by simp; omega)
      have hb4 : ((i.bytes : Int) * (c : Int)) ≤ 1000000 := by rw [← Int.natCast_mul]; exact Int.ofNat_le.2 b2
      simp only [Instr.makeSlice, e1, e2, Sem.run_bind, run_underlying hd, Result.andThen_ok, asInt, asIntOf, Sem.run_pure, rTI hi, wl, wc]
      rw [if_neg (by rw [show ((2 : Int) ^ 48) = 281474976710656 from rfl]; simp only [Bool.or_eq_true, decide_eq_true_eq]; omega)]
      have hroom : (askRoom (c * i.bytes)).run P w = .ok () w := by
        unfold askRoom
        rw [if_neg (by rw [Nat.mul_comm, show roomBytes = 140737488355328 from rfl]; omega)]
        rfl
      simp only [Sem.run_bind, Int.toNat_natCast, hroom, Result.andThen_ok, rSO hi]
      have hrep := zeros_array zv c
      rw [z2, hzs] at hrep
      by_cases hc : c * i.size = 0
      · have : repl c z = [] := List.eq_nil_of_length_eq_zero (by rw [repl_length, z3]; exact hc)
        rw [if_pos hc]
        have er : (Array.range 0).map (fun (x : Nat) => (#[] : Array Value)[x % (#[] : Array Value).size]!) = #[] := by simp
        simp only [Sem.run_bind, Sem.run_pure, Result.andThen_ok, hc, er, this, newRow, newObj, Sem.run, World.alloc_eq]
      · rw [if_neg hc]
        simp only [Sem.run_bind, run_zeroValue' hi z1, Sem.run_pure, Result.andThen_ok, hzs, hrep, newRow, newObj, Sem.run, World.alloc_eq]
    · cases h'
  · cases h

theorem natIn_some {v : Option Value} {d hi n : Nat} (h : natIn v d hi = some n) : (v = none ∧ n = d) ∨ (∃ k, v = some (.int k (.ofNat n)) ∧ n ≤ hi) := by
  unfold natIn at h
  split at h
  · cases h; exact .inl ⟨rfl, rfl⟩
  · rename_i k n'
    rw [Bool.cond_eq_ite] at h
    split at h
    · rename_i hc; cases h; exact .inr ⟨k, rfl, Nat.le_of_ble_eq_true hc⟩
    · cases h
  · cases h

/-- The bounds of a slice expression, by the model. -/
theorem bounds_run {isS : Bool} {len cap : Nat} {lo hi : Option Value} {l h : Nat} (hc : len ≤ cap) (hh : natIn hi len len = some h) (hl : natIn lo 0 h = some l) (w : World) :
    (Instr.sliceBounds isS len cap lo hi none).run P w = .ok (l, h, cap) w ∧ l ≤ h ∧ h ≤ len := by
  have hlen : h ≤ len := by
    rcases natIn_some hh with ⟨_, e⟩ | ⟨k, _, e⟩ <;> omega
  have hlh : l ≤ h := by
    rcases natIn_some hl with ⟨_, e⟩ | ⟨k, _, e⟩ <;> omega
  refine ⟨?_, hlh, hlen⟩
  have h1 : ∀ (k : IntKind) (n y : Nat) (c : BoundsCode), n ≤ y → (Instr.sliceBound (.int k (n : Int)) y c).run P w = .ok n w := by
    intro k n y c hn
    simp only [Instr.sliceBound, asIntOf, Sem.run_bind, Sem.run_pure, Result.andThen_ok]
    rw [if_pos ⟨by simp, by simpa using hn⟩]
    rfl
  rcases natIn_some hh with ⟨rfl, rfl⟩ | ⟨k, rfl, e⟩ <;> rcases natIn_some hl with ⟨rfl, rfl⟩ | ⟨k', rfl, e'⟩
  · simp [Instr.sliceBounds]
  · simp [Instr.sliceBounds, h1 _ _ _ _ e']
  · simp [Instr.sliceBounds, h1 _ _ _ _ (Nat.le_trans e hc)]
  · simp [Instr.sliceBounds, h1 _ _ _ _ (Nat.le_trans e hc), h1 _ _ _ _ e']

theorem opt_vals {lo : Option Operand} {vs : List Value} (h : valsA f lo.toList = some vs) (hv : ∀ x ∈ lo.toList, ∀ v, f.get x = some v → VR φ v (ρ x)) (d hi n : Nat) (hn : natIn vs.head? d hi = some n) : natIn (lo.map ρ) d hi = some n := by
  cases lo with
  | none => simp [valsA] at h; subst h; exact hn
  | some x =>
    have := valsA_some h hv
    cases vs with
    | nil => cases this
    | cons v vs =>
      cases this with
      | cons a b =>
        simp only [List.head?_cons] at hn
        unfold natIn at hn ⊢
        split at hn
        · rename_i e; cases e
        · rename_i k q e
          cases e
          have := a.eq_simple rfl
          simp only [Option.map_some, this]
          exact hn
        · cases hn

/-- A slice of a slice, or of an array: where it lies. -/
theorem sliceA1_some {a : Addr} {z size len : Nat} {lo hi : Option Value} {cap : Nat → Nat} (h : sliceA1 a z size len lo hi cap = some r) :
    (z = size ∨ z = 0) ∧ ∃ hh ll, natIn hi len len = some hh ∧ natIn lo 0 hh = some ll ∧ r = ⟨.slice (some ⟨a.block, a.off + ll * size, none⟩) (hh - ll) (cap ll), .none, [a.block]⟩ := by
  unfold sliceA1 at h
  obtain ⟨hc, h2⟩ := iteB_some h
  obtain ⟨hh, e1, h3⟩ := ob_some h2
  obtain ⟨ll, e2, h4⟩ := ob_some h3
  unfold sliceA2 at h4
  rw [forceN_eq, forceN_eq] at h4
  simp only [Bool.and_eq_true, Bool.or_eq_true] at hc
  refine ⟨hc.2.imp Nat.eq_of_beq_eq_true Nat.eq_of_beq_eq_true, hh, ll, e1, e2, ?_⟩
  cases h4
  rfl
theorem Rel.szAt (hR : Rel φ M w) {i z : Nat} {l : Loc} (hm : ∀ b, m.b.get i = some b → M i = some b) (hl : φ i = some l) (h : ob (m.b.get i) szOf = some z) : l.sz = z := by
  obtain ⟨b, h1, h2⟩ := ob_some h
  cases b with
  | map es cl => cases h2
  | cells c n e z' =>
    cases h2
    obtain ⟨l', cs, g1, g2, _⟩ := hR.cellsAt (hm _ h1)
    rw [hl] at g1
    cases g1
    exact g2

theorem ok_slice {t : TypeId} {x : Operand} {lo hi : Option Operand} (hop : o.op = .slice t x lo hi none) (h : (ob (f.get x) fun x => ob (valsA f lo.toList) fun lo => ob (valsA f hi.toList) (evSlice P t m x lo)) = some r) (hR : Rel φ M w) (hv : OV φ f o ρ) (hm : ∀ i ∈ r.foot, ∀ b, m.b.get i = some b → M i = some b) : OpOk P (execOp ρ o) φ M w next r.v r.e := by
  obtain ⟨v, hx, h'⟩ := ob_some h
  clear h
  obtain ⟨los, hlo, h⟩ := ob_some h'
  clear h'
  obtain ⟨his, hhi, h'⟩ := ob_some h
  clear h
  obtain ⟨d, hd, hu⟩ := ob_some h'
  clear h'
  have h1 := hv x (by rw [hop]; simp [Op.operands]) v hx
  have l1 := opt_vals (φ := φ) (ρ := ρ) hlo (fun y hy => hv y (by rw [hop]; simp [Op.operands] at hy ⊢; simp [hy]))
  have l2 := opt_vals (φ := φ) (ρ := ρ) hhi (fun y hy => hv y (by rw [hop]; simp [Op.operands] at hy ⊢; simp [hy]))
  have hex : ∀ v', (Instr.sliceAt t (ρ x) (lo.map ρ) (hi.map ρ) none).run P w = .ok v' w → (execOp ρ o).run P w = .ok (.value v') w := by
    intro v' hr
    unfold execOp
    rw [hop]
    simp [hr]
  unfold sliceA at hu
  split at hu
  · rename_i s
    have e1 := h1.eq_simple rfl
    obtain ⟨hh, hh1, h2⟩ := ob_some hu
    obtain ⟨ll, hl1, h3⟩ := ob_some h2
    cases h3
    obtain ⟨b1, b2, b3⟩ := bounds_run (P := P) (isS := false) (Nat.le_refl s.size) (l2 _ _ _ hh1) (l1 _ _ _ hl1) w
    refine OpOk.value hR (v' := .string (s.extract ll hh)) (hex _ ?_) ?_
    · simp only [Instr.sliceAt, Instr.slice, e1, Sem.run_bind, run_underlying hd, Result.andThen_ok]
      simp [b1]
    · have : s.extract ll hh = ⟨((s.data.toList.drop ll).take (hh - ll)).toArray⟩ := by
        apply ByteArray.ext
        rw [ByteArray.data_extract]
        apply Array.toList_inj.1
        simp [List.extract_eq_take_drop]
      rw [this]
      exact .simple rfl
  · rename_i elem a len cap
    obtain ⟨i, hi1, h2⟩ := ob_some hu
    obtain ⟨z, hzb, h3⟩ := ob_some h2
    obtain ⟨hz, hh, ll, hh1, hl1, rfl⟩ := sliceA1_some h3
    obtain ⟨l, A, c', g1, g2, g3, g4, g5, g6, g7⟩ := h1.slice_inv
    obtain ⟨b1, b2, b3⟩ := bounds_run (P := P) (isS := true) g4 (l2 _ _ _ hh1) (l1 _ _ _ hl1) w
    have hsz : l.sz = i.size ∨ l.sz = 0 := by rw [hR.szAt (hm a.block (by simp)) g1 hzb]; exact hz
    refine OpOk.value hR (v' := .slice (if c' = ll then some A else (some A).map (·.add (ll * i.size))) (hh - ll) (c' - ll)) (hex _ ?_) ?_
    · simp only [Instr.sliceAt, Instr.slice, g3, Sem.run_bind, run_underlying hd, Result.andThen_ok, b1, rSO hi1, Sem.run_pure]
    · have hA : ∃ A', (if c' = ll then some A else (some A).map (·.add (ll * i.size))) = some A' ∧ ((A' = ⟨l.blk, l.base + (a.off + ll * i.size), none⟩ ∧ (l.sz = 0 ∨ l.base + (a.off + ll * i.size) + (c' - ll) * l.sz ≤ l.size)) ∨ c' - ll = 0) := by
        by_cases e : c' = ll
        · rw [if_pos e]; exact ⟨A, rfl, .inr (by omega)⟩
        · rw [if_neg e]
          rcases g7 with ⟨rfl, g8⟩ | g7
          · refine ⟨_, rfl, .inl ⟨(addr_add _ _ _).trans (by simp [Nat.add_assoc]), ?_⟩⟩
            rcases hsz with e2 | e2
            · refine g8.imp id fun g8 => ?_
              rw [e2] at g8 ⊢
              rw [Nat.sub_mul]
              have : ll * i.size ≤ c' * i.size := Nat.mul_le_mul_right _ (by omega)
              omega
            · exact .inl e2
          · omega
      obtain ⟨A', q1, q2⟩ := hA
      rw [q1]
      refine VR.slice g1 (by omega) (fun hne => ?_) (by omega) q2
      by_cases hcu : cap = CU
      · exact absurd (by unfold capA; rw [hcu]; rfl) hne
      · rw [g5 hcu]
        unfold capA
        rw [iteB_eq, if_neg (fun e => hcu (Nat.eq_of_beq_eq_true e))]
        rfl
  · obtain ⟨i, hi1, h2'⟩ := ob_some hu
    obtain ⟨hh, hh1, h2⟩ := ob_some h2'
    obtain ⟨ll, hl1, h3⟩ := ob_some h2
    cases h3
    have e1 := h1.eq_simple rfl
    have h0 : hh = 0 := by rcases natIn_some hh1 with ⟨_, e⟩ | ⟨k, _, e⟩ <;> omega
    subst h0
    obtain ⟨b1, b2, b3⟩ := bounds_run (P := P) (isS := true) (Nat.le_refl 0) (l2 _ _ _ hh1) (l1 _ _ _ hl1) w
    have h0 : ll = 0 := by omega
    subst h0
    refine OpOk.value hR (v' := .slice none 0 0) (hex _ ?_) (.simple rfl)
    simp only [Instr.sliceAt, Instr.slice, e1, Sem.run_bind, run_underlying hd, Result.andThen_ok, b1, rSO hi1, Sem.run_pure]
    rfl
  · rename_i len elem a
    obtain ⟨i, hi1, h2⟩ := ob_some hu
    obtain ⟨z, hzb, h3⟩ := ob_some h2
    obtain ⟨hlen, h4⟩ := iteB_some h3
    simp only [Bool.and_eq_true] at hlen
    obtain ⟨hz, hh, ll, hh1, hl1, rfl⟩ := sliceA1_some h4
    have hz0 := Nat.eq_of_beq_eq_true hlen.1
    have hlen := Nat.le_of_ble_eq_true hlen.2
    obtain ⟨l, g1, g2, g3⟩ := h1.ptr_inv
    obtain ⟨b1, b2, b3⟩ := bounds_run (P := P) (isS := false) (Nat.le_refl len) (l2 _ _ _ hh1) (l1 _ _ _ hl1) w
    have hsz : l.sz = 0 := by rw [hR.szAt (hm a.block (by simp)) g1 hzb]; exact hz0
    refine OpOk.value hR (v' := .slice (some (if len = ll then ⟨l.blk, l.base + a.off, none⟩ else (⟨l.blk, l.base + a.off, none⟩ : Addr).add (ll * i.size))) (hh - ll) (len - ll)) (hex _ ?_) ?_
    · simp only [Instr.sliceAt, g3, Instr.sureAddr, Sem.run_bind, run_underlying hd, Result.andThen_ok, b1, rSO hi1, Sem.run_pure]
    · refine VR.slice g1 (by omega) (fun _ => rfl) (by omega) ?_
      by_cases e : len = ll
      · exact .inr (by omega)
      · rw [if_neg e]
        exact .inl ⟨(addr_add _ _ _).trans (by simp [Nat.add_assoc]), .inl hsz⟩
  · cases hu
end
end Ev
end Go.Proofs.Ytlfojfndkcmfnaa
