/- Each operation of the evaluator's is one of the model's (3): memory. -/
import Derived.Test.YtlfojfndkcmfnaaEvD
namespace Go.Proofs.Ytlfojfndkcmfnaa
namespace Ev
open Go

section
variable {P : Program} {φ : Phi} {M : AM} {w : World} {f : Fr} {o : Oper} {m : Mem} {r : R} {ρ : Operand → Value} {next : Nat}

theorem isAgg_run {t : TypeId} {d : TypeDesc} (h : P.underlying t = some d) (w : World) : (isAgg t).run P w = .ok (isAggD d) w := by
  simp only [isAgg, Sem.run_bind, run_underlying h, Result.andThen_ok]
  cases d <;> rfl
theorem VR.ptr_inv {a : Addr} {v' : Value} (h : VR φ (.pointer (some a)) v') : ∃ l, φ a.block = some l ∧ a.spot = none ∧ v' = .pointer (some ⟨l.blk, l.base + a.off, none⟩) := by
  cases h with
  | simple h => simp [Ev.simple] at h
  | ptr h => exact ⟨_, h, rfl, rfl⟩

/-- A variable read. -/
theorem loadA_run {t : TypeId} {a : Addr} {v : Value} (h : loadA P m t a = some v) (hR : Rel φ M w) (hm : ∀ b, m.b.get a.block = some b → M a.block = some b) {v' : Value} (hp : VR φ (.pointer (some a)) v') :
    ∃ a' u, v' = .pointer (some a') ∧ (loadVar t a').run P w = .ok u w ∧ VR φ v u := by
  obtain ⟨l, hl, hs, rfl⟩ := hp.ptr_inv
  unfold loadA at h
  split at h
  · rename_i c n e z d i h1 h2 h3 h4
    obtain ⟨l', cs, g1, g2, g3, g4, g5, g6⟩ := hR.cellsAt (hm _ h2)
    rw [hl] at g1
    cases g1
    refine ⟨⟨l.blk, l.base + a.off, none⟩, ?_⟩
    rw [Bool.cond_eq_ite] at h
    split at h
    · rename_i hagg
      rw [Bool.cond_eq_ite] at h
      split at h
      · rename_i hn
        have hn := Nat.le_of_ble_eq_true hn
        split at h
        · rename_i lv hlv
          cases h
          obtain ⟨lv', r1, r2⟩ := cellsRead g6 hlv hn
          refine ⟨.agg lv'.toArray, rfl, ?_, VR.agg r1⟩
          have hlen : lv'.length = i.size := by rw [← r1.length, (getCells_some hlv).1]
          have := run_loadCells_list (P := P) w ⟨l.blk, l.base + a.off, none⟩ lv' (fun j u hu => by
            rw [addr_add]; exact cell_of g4 (r2 j u hu))
          simp only [loadVar, Sem.run_bind, isAgg_run h3, hagg, Result.andThen_ok, if_true, rSO h4]
          rw [hlen] at this
          simp [this]
        · cases h
      · cases h
    · rename_i hagg
      rw [Bool.cond_eq_ite] at h
      split at h
      · rename_i hn
        have hn := Nat.lt_of_lt_of_le (Nat.lt_of_lt_of_le (Nat.lt_succ_self _) (Nat.le_of_ble_eq_true hn)) (Nat.le_refl _)
        obtain ⟨u, r1, r2⟩ := g6 a.off v hn h
        refine ⟨u, rfl, ?_, r2⟩
        have hagg : isAggD d = false := by simpa using hagg
        simp only [loadVar, Sem.run_bind, isAgg_run h3, hagg, Result.andThen_ok]
        simp [run_load, cell_of g4 r1]
      · cases h
  · cases h

theorem ok_load {t : TypeId} {x : Operand} (hop : o.op = .load t x) (h : ob (f.get x) (evLoad P t m) = some r) (hR : Rel φ M w) (hv : OV φ f o ρ) (hm : ∀ i ∈ r.foot, ∀ b, m.b.get i = some b → M i = some b) : OpOk P (execOp ρ o) φ M w next r.v r.e := by
  obtain ⟨v, hx, h⟩ := ob_some h
  have h1 := hv x (by rw [hop]; simp [Op.operands]) v hx
  unfold evLoad at h
  split at h
  · rename_i a
    obtain ⟨u, hu, h⟩ := ob_some h
    cases h
    obtain ⟨a', u', e1, e2, e3⟩ := loadA_run hu hR (hm a.block (by simp)) h1
    refine OpOk.value hR (v' := u') ?_ e3
    unfold execOp
    rw [hop]
    simp [Instr.loadAt, Instr.sureAddr, e1, e2]
  · cases h

theorem ok_store {t : TypeId} {x y : Operand} (hop : o.op = .store t x y) (h : (ob (f.get y) fun v => ob (f.get x) (evStore P t m v)) = some r) (hR : Rel φ M w) (hv : OV φ f o ρ) (hm : ∀ i ∈ r.foot, ∀ b, m.b.get i = some b → M i = some b) : OpOk P (execOp ρ o) φ M w next r.v r.e := by
  obtain ⟨u, hy, h⟩ := ob_some h
  obtain ⟨v, hx, h⟩ := ob_some h
  have h1 := hv x (by rw [hop]; simp [Op.operands]) v hx
  have h2 := hv y (by rw [hop]; simp [Op.operands]) u hy
  unfold evStore at h
  split at h
  · rename_i a
    obtain ⟨e, he, h⟩ := ob_some h
    cases h
    obtain ⟨l, hl, hs, hpv⟩ := h1.ptr_inv
    unfold storeA at he
    split at he
    · rename_i c n e' z i k1 k2 k3
      simp only at he
      rw [Bool.cond_eq_ite] at he
      split at he
      · rename_i hc
        cases he
        simp only [Bool.and_eq_true] at hc
        obtain ⟨⟨c1, c2⟩, c3⟩ := hc
        have c1 := Nat.eq_of_beq_eq_true c1
        have c3 := Nat.le_of_ble_eq_true c3
        have hM := hm a.block (by simp) _ k2
        obtain ⟨l', cs, g1, g2, g3, g4, g5, g6⟩ := hR.cellsAt hM
        rw [hl] at g1
        cases g1
        have hcell := h2.cells
        have hlen := hcell.length
        have hbr := BR.write g4 g2 g3 g5 g6 hcell c3
        have hres := hR.setRow hM hl hbr
        have hle : l.base + a.off + 0 + (ρ y).cells.toList.length ≤ cs.toArray.size := by simp only [List.size_toArray]; omega
        have hrun := run_storeCells_at (P := P) l.blk (l.base + a.off) e' (ρ y).cells.toList 0 cs.toArray w g4 hle (oneCell_of_good hcell c2)
        refine ⟨φ, _, .skip, ?_, rfl, φ.le_refl, fun _ _ => rfl, fun _ => rfl, hres.1, hres.2⟩
        unfold execOp
        rw [hop]
        simp only [Nat.add_zero] at hrun
        have hsz : (ρ y).cells.size = i.size := by rw [← c1, hlen]; simp
        simp only [Instr.storeAt, Instr.sureAddr, hpv, Sem.run_bind, Sem.run_pure, Result.andThen_ok, storeVar, rSO k3, hsz]
        simp [hrun]
      · cases he
    · cases he
  · cases h

theorem ok_nilCheck {x : Operand} (hop : o.op = .nilCheck x) (h : ob (f.get x) evNilCheck = some r) (hR : Rel φ M w) (hv : OV φ f o ρ) : OpOk P (execOp ρ o) φ M w next r.v r.e := by
  obtain ⟨v, hx, h⟩ := ob_some h
  have h1 := hv x (by rw [hop]; simp [Op.operands]) v hx
  unfold evNilCheck at h
  split at h
  · rename_i a
    rw [val_some h]
    refine OpOk.value hR (v' := ρ x) ?_ h1
    obtain ⟨l, hl, hs, hpv⟩ := h1.ptr_inv
    unfold execOp
    rw [hop]
    simp [hpv]
  · cases h

theorem addrAt_some {a : Addr} {k : Nat} (h : addrAt a k = some r) : a.spot = none ∧ r = ⟨.pointer (some ⟨a.block, a.off + k, none⟩), .none, []⟩ := by
  unfold addrAt at h
  split at h
  · unfold ptrAt at h
    rw [forceN_eq] at h
    exact ⟨rfl, val_some h⟩
  · cases h

theorem ok_fieldAddr {s : TypeId} {x : Operand} {k : Nat} (hop : o.op = .fieldAddr s x k) (h : ob (f.get x) (evFieldAddr P s k) = some r) (hR : Rel φ M w) (hv : OV φ f o ρ) : OpOk P (execOp ρ o) φ M w next r.v r.e := by
  obtain ⟨v, hx, h⟩ := ob_some h
  have h1 := hv x (by rw [hop]; simp [Op.operands]) v hx
  unfold evFieldAddr at h
  split at h
  · rename_i a
    obtain ⟨d, hd, h⟩ := ob_some h
    unfold evFieldAddr1 at h
    split at h
    · rename_i fields
      obtain ⟨fd, hfd, h⟩ := ob_some h
      unfold evField1 at h
      obtain ⟨i, hi, h⟩ := ob_some h
      rw [iteB_eq] at h
      split at h
      · cases h
      · rename_i hz
        obtain ⟨_, h⟩ := addrAt_some h
        subst h
        obtain ⟨l, hl, hs, hpv⟩ := h1.ptr_inv
        refine OpOk.value hR (v' := .pointer (some ⟨l.blk, l.base + (a.off + fd.offset), none⟩)) ?_ (VR.ptr hl)
        unfold execOp
        rw [hop]
        have hz : i.size ≠ 0 := fun e => hz (by rw [e]; rfl)
        simp only [Instr.fieldAt, Sem.run_bind, run_underlying hd, Result.andThen_ok, hfd, hpv, Instr.sureAddr, Sem.run_pure, fieldPlace, rSO hi]
        rw [if_neg hz]
        simp [addr_add, Nat.add_assoc]
    · cases h
  · cases h

theorem takeFrom_some {l r : List Value} {off n : Nat} (h : takeFrom l off n = some r) : r = (l.drop off).take n ∧ r.length = n := by
  unfold takeFrom at h
  simp only at h
  rw [Bool.cond_eq_ite] at h
  split at h
  · rename_i hc; cases h; exact ⟨rfl, Nat.eq_of_beq_eq_true hc⟩
  · cases h
theorem partA_run {t : TypeId} {cs cs' : List Value} {off : Nat} {v : Value} (h : partA P t cs off = some v) (hc : VRL φ cs cs') (w : World) : ∃ v', (part t cs'.toArray off).run P w = .ok v' w ∧ VR φ v v' := by
  unfold partA at h
  split at h
  · rename_i d i hd hi
    rw [Bool.cond_eq_ite] at h
    split at h
    · rename_i hagg
      split at h
      · rename_i l hl
        cases h
        obtain ⟨e1, e2⟩ := takeFrom_some hl
        subst e1
        refine ⟨.agg ((cs'.drop off).take i.size).toArray, ?_, VR.agg ((hc.drop off).take i.size)⟩
        simp only [part, Sem.run_bind, isAgg_run hd, hagg, Result.andThen_ok, if_true, rSO hi, Sem.run_pure]
        congr 2
        apply Array.toList_inj.1
        simp [List.extract_eq_take_drop]
      · cases h
    · rename_i hagg
      obtain ⟨v', e1, e2⟩ := hc.get h
      refine ⟨v', ?_, e2⟩
      have hagg : isAggD d = false := by simpa using hagg
      simp only [part, Sem.run_bind, isAgg_run hd, hagg, Result.andThen_ok]
      simp [e1]
  · cases h
theorem VR.agg_inv {cs : Array Value} {v' : Value} (h : VR φ (.agg cs) v') : ∃ cs' : List Value, v' = .agg cs'.toArray ∧ VRL φ cs.toList cs' := by
  generalize e : Value.agg cs = v at h
  cases h with
  | simple h => subst e; simp [Ev.simple] at h
  | agg ha => cases e; exact ⟨_, rfl, by simpa using ha⟩
  | _ => cases e
theorem VR.tuple_inv {cs : Array Value} {v' : Value} (h : VR φ (.tuple cs) v') : ∃ cs' : List Value, v' = .tuple cs'.toArray ∧ VRL φ cs.toList cs' := by
  generalize e : Value.tuple cs = v at h
  cases h with
  | simple h => subst e; simp [Ev.simple] at h
  | tuple ha => cases e; exact ⟨_, rfl, by simpa using ha⟩
  | _ => cases e
theorem ok_field {t : TypeId} {x : Operand} {k : Nat} (hop : o.op = .field t x k) (h : ob (f.get x) (evFieldOf P t k) = some r) (hR : Rel φ M w) (hv : OV φ f o ρ) : OpOk P (execOp ρ o) φ M w next r.v r.e := by
  obtain ⟨v, hx, h⟩ := ob_some h
  have h1 := hv x (by rw [hop]; simp [Op.operands]) v hx
  unfold evFieldOf at h
  split at h
  · rename_i cs
    obtain ⟨d, hd, h⟩ := ob_some h
    unfold evFieldOf1 at h
    split at h
    · rename_i fields
      obtain ⟨fd, hfd, h⟩ := ob_some h
      obtain ⟨u, hu, h⟩ := ob_some h
      rw [val_some h]
      obtain ⟨cs', e1, e2⟩ := h1.agg_inv
      obtain ⟨v', e3, e4⟩ := partA_run hu e2 w
      refine OpOk.value hR (v' := v') ?_ e4
      unfold execOp
      rw [hop]
      simp only [Instr.field, Sem.run_bind, run_underlying hd, Result.andThen_ok, hfd, e1, asAgg, Sem.run_pure, e3]
    · cases h
  · cases h
theorem ok_extract {x : Operand} {k : Nat} (hop : o.op = .extract x k) (h : ob (f.get x) (evExtract k) = some r) (hR : Rel φ M w) (hv : OV φ f o ρ) : OpOk P (execOp ρ o) φ M w next r.v r.e := by
  obtain ⟨v, hx, h⟩ := ob_some h
  have h1 := hv x (by rw [hop]; simp [Op.operands]) v hx
  unfold evExtract at h
  split at h
  · rename_i vs
    obtain ⟨u, hu, h⟩ := ob_some h
    rw [val_some h]
    obtain ⟨cs', e1, e2⟩ := h1.tuple_inv
    obtain ⟨v', e3, e4⟩ := e2.get (i := k) (v := u) (by simpa using hu)
    refine OpOk.value hR (v' := v') ?_ e4
    unfold execOp
    rw [hop]
    simp [Instr.extract, e1, e3]
  · cases h
theorem ok_makeFunc {fn : Fn} {first captured : Array Operand} (hop : o.op = .makeFunc fn first captured) (h : (ob (valsA f first.toList) fun a => ob (valsA f captured.toList) fun b => evMakeFunc a b fn) = some r) (hR : Rel φ M w) (hv : OV φ f o ρ) : OpOk P (execOp ρ o) φ M w next r.v r.e := by
  obtain ⟨a, ha, h'⟩ := ob_some h
  clear h
  obtain ⟨b, hb, h⟩ := ob_some h'
  clear h'
  unfold evMakeFunc at h
  split at h
  · rename_i g
    rw [val_some h]
    have h1 := valsA_some (φ := φ) (ρ := ρ) ha (fun x hx => hv x (by rw [hop]; simp [Op.operands]; exact .inl (by simpa using hx)))
    have h2 := valsA_some (φ := φ) (ρ := ρ) hb (fun x hx => hv x (by rw [hop]; simp [Op.operands]; exact .inr (by simpa using hx)))
    refine OpOk.value hR (v' := .func (.func g) (first.toList.map ρ).toArray (captured.toList.map ρ).toArray) ?_ (VR.func h1 h2)
    unfold execOp
    rw [hop]
    have e1 : Array.map ρ first = (first.toList.map ρ).toArray := by apply Array.toList_inj.1; simp
    have e2 : Array.map ρ captured = (captured.toList.map ρ).toArray := by apply Array.toList_inj.1; simp
    simp [Instr.makeFunc, e1, e2]
  · cases h

theorem VR.slice_inv {a : Addr} {n c : Nat} {v' : Value} (h : VR φ (.slice (some a) n c) v') : ∃ l A c', φ a.block = some l ∧ a.spot = none ∧ v' = .slice (some A) n c' ∧ n ≤ c' ∧ (c ≠ CU → c' = c) ∧ c' ≤ 9223372036854775807 ∧
    ((A = ⟨l.blk, l.base + a.off, none⟩ ∧ (l.sz = 0 ∨ l.base + a.off + c' * l.sz ≤ l.size)) ∨ c' = 0) := by
  cases h with
  | simple h => simp [Ev.simple] at h
  | slice h1 h2 h3 h4 h5 => exact ⟨_, _, _, h1, rfl, rfl, h2, h3, h4, h5⟩

theorem ok_indexAddr {t : TypeId} {x k : Operand} (hop : o.op = .indexAddr t x k) (h : (ob (f.get x) fun x => ob (f.get k) (evIndexAddr P t x)) = some r) (hR : Rel φ M w) (hv : OV φ f o ρ) : OpOk P (execOp ρ o) φ M w next r.v r.e := by
  obtain ⟨v, hx, h'⟩ := ob_some h
  clear h
  obtain ⟨u, hk, h⟩ := ob_some h'
  clear h'
  have h1 := hv x (by rw [hop]; simp [Op.operands]) v hx
  have h2 := hv k (by rw [hop]; simp [Op.operands]) u hk
  unfold evIndexAddr at h
  split at h
  · rename_i kd i
    have e2 := h2.eq_simple rfl
    obtain ⟨d, hd, h'⟩ := ob_some h
    clear h
    rename evIndex1 P v i d = some r => h
    unfold evIndex1 at h
    split at h
    · rename_i elem
      split at h
      · rename_i a len cap
        unfold evIndex2 at h
        obtain ⟨hlt, h3⟩ := iteB_some h
        obtain ⟨inf, hinf, h4⟩ := ob_some h3
        obtain ⟨_, h5⟩ := addrAt_some h4
        clear h h3 h4
        subst h5
        have hlt : i < len := Nat.lt_of_lt_of_le (Nat.lt_succ_self _) (Nat.le_of_ble_eq_true hlt)
        obtain ⟨l, A, c', g1, g2, g3, g4, g5, g6, g7⟩ := h1.slice_inv
        rcases g7 with ⟨g7, g8⟩ | g7
        · refine OpOk.value hR (v' := .pointer (some ⟨l.blk, l.base + (a.off + i * inf.size), none⟩)) ?_ (VR.ptr g1)
          unfold execOp
          rw [hop]
          simp only [Instr.indexAt, e2, asIntOf, Sem.run_bind, Sem.run_pure, Result.andThen_ok, run_underlying hd, g3, g7]
          rw [if_pos (by simp; omega)]
          simp [rSO hinf, addr_add, Nat.add_assoc]
        · omega
      · cases h
    · rename_i len elem
      split at h
      · rename_i a
        unfold evIndex2 at h
        obtain ⟨hlt, h3⟩ := iteB_some h
        obtain ⟨inf, hinf, h4⟩ := ob_some h3
        obtain ⟨_, h5⟩ := addrAt_some h4
        clear h h3 h4
        subst h5
        have hlt : i < len := Nat.lt_of_lt_of_le (Nat.lt_succ_self _) (Nat.le_of_ble_eq_true hlt)
        obtain ⟨l, g1, g2, g3⟩ := h1.ptr_inv
        refine OpOk.value hR (v' := .pointer (some ⟨l.blk, l.base + (a.off + i * inf.size), none⟩)) ?_ (VR.ptr g1)
        unfold execOp
        rw [hop]
        simp only [Instr.indexAt, e2, asIntOf, Sem.run_bind, Sem.run_pure, Result.andThen_ok, run_underlying hd, g3, Instr.sureAddr]
        rw [if_pos (by simp; omega)]
        simp [rSO hinf, addr_add, Nat.add_assoc]
      · cases h
    · cases h
  · cases h
end
end Ev
end Go.Proofs.Ytlfojfndkcmfnaa
