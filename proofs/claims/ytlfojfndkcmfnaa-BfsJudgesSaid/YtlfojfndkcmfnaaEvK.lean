/- One operation of a region, and regions in the order of the text. -/
import Derived.Test.YtlfojfndkcmfnaaEvJ
namespace Go.Proofs.Ytlfojfndkcmfnaa
namespace Ev
open Go

section
variable {P : Program} {self : Task → Option Out} {φ φ' : Phi} {M M' : AM} {w w' : World} {f f' : Fr} {m m' m'' : Mem} {a : Act} {o : Oper} {r : R2}

theorem FrR.mono (h : FrR φ f a) (hle : φ.le φ') : FrR φ' f a := ⟨h.size, h.defers, fun t v hv => (h.get t v hv).mono hle⟩
theorem get_sound {x : Operand} {v : Value} (hf : ∀ t v, x = .tmp t → f.t.get t = some v → VR φ v (a.tmps.getD t undef)) (h : f.get x = some v) : VR φ v (a.eval x) := by
  cases x with
  | tmp t => exact hf t v rfl h
  | const u =>
    unfold Fr.get constA at h
    obtain ⟨h1, h2⟩ := iteB_some h
    cases h2
    exact VR.atomA h1
  | global g => cases h
  | func g => unfold Fr.get at h; cases h; exact VR.func .nil .nil
theorem FrR.ov (h : FrR φ f a) (o : Oper) : OV φ f o a.eval := fun _ _ _ hv => get_sound (fun t v _ ht => h.get t v ht) hv

theorem put_some {d : Option Tmp} {v : Value} (h : f.put d v = some f') : (d = none ∧ f' = f) ∨ ∃ k, d = some k ∧ k < f.n ∧ f'.n = f.n ∧ f'.t = T.set LV f.t k (some v) := by
  cases d with
  | none => cases h; exact .inl ⟨rfl, rfl⟩
  | some k =>
    right
    obtain ⟨n, t⟩ := f
    change Fr.putD v k ⟨n, t⟩ = some f' at h
    unfold Fr.putD at h
    obtain ⟨h1, h2⟩ := iteB_some h
    unfold Fr.set1 at h2
    rw [force_eq, T.strict_eq] at h2
    cases h2
    exact ⟨k, rfl, Nat.lt_of_lt_of_le (Nat.lt_succ_self _) (Nat.le_of_ble_eq_true h1), rfl, rfl⟩
theorem FrR.put {d : Option Tmp} {v v' : Value} (h : FrR φ f a) (hp : f.put d v = some f') (hv : VR φ v v') : FrR φ f' (a.put d v') := by
  rcases put_some hp with ⟨rfl, rfl⟩ | ⟨k, rfl, hk, h1, h2⟩
  · exact h
  · refine ⟨by simp [Act.put, h.size, h1], h.defers, fun t u hu => ?_⟩
    rw [h2] at hu
    have := T.get_set _ _ _ _ _ _ hu
    have hks : k < a.tmps.size := by rw [h.size]; exact hk
    by_cases e : t = k
    · subst e
      rw [if_pos rfl] at this
      cases this
      simp [Act.put, hks]
      exact hv
    · rw [if_neg e] at this
      have := h.get t u this
      simp only [Act.put, Array.getD_eq_getD_getElem?] at this ⊢
      rw [Array.getElem?_setIfInBounds, if_neg (fun q => e q.symm)]
      exact this
theorem VR.undef : VR φ undef undef := VR.tuple .nil

/-- Whether an operation is wanted. -/
theorem VR.bool_iff {v v' : Value} (h : VR φ v v') (b : Bool) : v' = .bool b ↔ v = .bool b := by
  cases h with
  | simple _ => rfl
  | ptr _ => constructor <;> intro h <;> cases h
  | slice _ _ _ _ _ => constructor <;> intro h <;> cases h
  | map _ => constructor <;> intro h <;> cases h
  | func _ _ => constructor <;> intro h <;> cases h
  | agg _ => constructor <;> intro h <;> cases h
  | tuple _ => constructor <;> intro h <;> cases h
theorem wantedA_sound {ops : Array Oper} {b : Bool} (h : wantedA ops.toList f o = some b) (hf : ∀ j want oj d v, o.guard = some (j, want) → ops[j]? = some oj → oj.dst = some d → f.t.get d = some v → VR φ v (a.tmps.getD d undef)) :
    Region.wanted o (yielded ops a.tmps) = b := by
  unfold wantedA at h
  unfold Region.wanted
  cases hg : o.guard with
  | none => rw [hg] at h; cases h; rfl
  | some g =>
    obtain ⟨j, want⟩ := g
    rw [hg] at h
    change wantedG ops.toList f (j, want) = some b at h
    unfold wantedG at h
    simp only [Array.getElem?_toList] at h
    show (yielded ops a.tmps j == some want) = b
    unfold yielded
    cases hj : ops[j]? with
    | none => rw [hj] at h; cases h; rfl
    | some oj =>
      rw [hj] at h
      simp only [Option.bind_some]
      change wantedD f want oj.dst = some b at h
      cases hd : oj.dst with
      | none => rw [hd] at h; cases h; rfl
      | some d =>
        rw [hd] at h
        obtain ⟨v, hv, h2⟩ := ob_some h
        cases h2
        have hvr := hf j want oj d v hg hj hd hv
        simp only [Option.bind_some]
        rw [Array.getD_eq_getD_getElem?] at hvr
        cases ht : a.tmps[d]? with
        | none =>
          rw [ht] at hvr
          have : boolIs want v = false := by
            unfold boolIs
            split
            · rename_i q; have := (hvr.bool_iff q).2 rfl; cases this
            · rfl
          rw [this]; rfl
        | some u =>
          rw [ht] at hvr
          simp only [Option.getD_some] at hvr
          by_cases hq : ∃ q, u = .bool q
          · obtain ⟨q, rfl⟩ := hq
            have := (hvr.bool_iff q).1 rfl
            subst this
            show (some q == some want) = (q == want)
            cases q <;> cases want <;> rfl
          · have e1 : boolIs want v = false := by
              unfold boolIs
              split
              · rename_i q; exact absurd ⟨q, (hvr.bool_iff q).2 rfl⟩ hq
              · rfl
            rw [e1]
            split
            · rename_i q e2; cases e2; exact absurd ⟨q, rfl⟩ hq
            · rfl

theorem VR.func_inv {g : FuncId} {x y : Array Value} {v' : Value} (h : VR φ (.func (.func g) x y) v') : ∃ x' y' : List Value, v' = .func (.func g) x'.toArray y'.toArray ∧ VRL φ x.toList x' ∧ VRL φ y.toList y' := by
  generalize e : Value.func (.func g) x y = v at h
  cases h with
  | simple h => subst e; simp [Ev.simple] at h
  | func ha hc => cases e; exact ⟨_, _, rfl, by simpa using ha, by simpa using hc⟩
  | _ => cases e

noncomputable def touchB (m : Mem) (r : R2) (i : Nat) : Bool := (Nat.ble m.next i && Nat.blt i r.m.next) || (match r.mods with | none => (m.b.get i).isSome && Nat.ble r.m.low i | some l => l.elem i)
noncomputable def tM (m : Mem) (r : R2) (M : AM) : AM := fun i => if touchB m r i = true then r.m.b.get i else M i

/-- The world behind one operation of a drawn region. -/
structure OneOk (φ : Phi) (M : AM) (w : World) (m : Mem) (r : R2) (v' : Value) (φ' : Phi) (w' : World) : Prop where
  vr : VR φ' r.v v'
  le : φ.le φ'
  out : ∀ i, ¬ (m.next ≤ i ∧ i < r.m.next) → φ' i = φ i
  rel : Rel φ' (tM m r M) w'
  wg : WG φ M w φ' (tM m r M) w'
/-- What an operation does to the evaluator's own memory. -/
structure OnePure (m : Mem) (r : R2) : Prop where
  ext : Ext m r.m
  low : r.m.low ≤ m.low
  same : ∀ i b, touchB m r i = false → r.m.b.get i = some b → m.b.get i = some b
  mods : ∀ l, r.mods = some l → ∀ i ∈ l, ∃ b, m.b.get i = some b

/-- What an operation has to know of the memory. -/
def Need (m : Mem) (r : R2) (M : AM) : Prop := match r.foot with
  | none => Sub m M
  | some ft => ∀ i ∈ ft, ∀ b, m.b.get i = some b → M i = some b

theorem touch_false {i : Nat} (h : touchB m r i = false) : ¬ (m.next ≤ i ∧ i < r.m.next) ∧ ((r.mods = none ∧ (m.b.get i = none ∨ i < r.m.low)) ∨ ∃ l, r.mods = some l ∧ i ∉ l) := by
  unfold touchB at h
  simp only [Bool.or_eq_false_iff, Bool.and_eq_false_iff] at h
  refine ⟨fun q => ?_, ?_⟩
  · rcases h.1 with h1 | h1
    · rw [Nat.ble_eq_true_of_le q.1] at h1; cases h1
    · rw [show Nat.blt i r.m.next = true from Nat.ble_eq_true_of_le q.2] at h1; cases h1
  · have h2 := h.2
    split at h2
    · rename_i e
      refine .inl ⟨e, ?_⟩
      rw [Bool.and_eq_false_iff] at h2
      rcases h2 with h2 | h2
      · exact .inl (by simpa using h2)
      · right
        rcases Nat.lt_or_ge i r.m.low with q | q
        · exact q
        · rw [Nat.ble_eq_true_of_le q] at h2; cases h2
    · rename_i l hl
      exact .inr ⟨l, hl, by simpa using h2⟩
theorem touch_true {i : Nat} (h : touchB m r i = true) : (m.next ≤ i ∧ i < r.m.next) ∨ (r.mods = none ∧ (∃ b, m.b.get i = some b) ∧ r.m.low ≤ i) ∨ ∃ l, r.mods = some l ∧ i ∈ l := by
  unfold touchB at h
  simp only [Bool.or_eq_true, Bool.and_eq_true] at h
  rcases h with h | h
  · exact .inl ⟨Nat.le_of_ble_eq_true h.1, Nat.le_of_ble_eq_true h.2⟩
  · right
    split at h
    · rename_i e
      simp only [Bool.and_eq_true] at h
      exact .inl ⟨e, Option.isSome_iff_exists.1 h.1, Nat.le_of_ble_eq_true h.2⟩
    · rename_i l hl; exact .inr ⟨l, hl, by simpa using h⟩

theorem backM_eq (low : Nat) (m : Mem) : backM low m = ⟨m.next, m.b, Nat.min low m.low⟩ := by
  obtain ⟨n, b, l⟩ := m
  show Mem.mk1 n b (Nat.min low l) = _
  simp only [Mem.mk1, forceN_eq, T.strict_eq]

/-- The call's part of evOne. -/
theorem evOne_cases (h : evOne P self f o m = some r) :
    (∃ r0, evOp P f o m = some r0 ∧ r = ⟨r0.v, m.app r0.e, some r0.foot, some r0.e.mods⟩) ∨
    (∃ fx args ats g first captured vs v m', o.op = .call { callee := .value fx, args := args, argTypes := ats } ∧ f.get fx = some (.func (.func g) first captured) ∧ valsA f args.toList = some vs ∧
      self (.call g (first.toList ++ vs ++ captured.toList) m) = some (.call v m') ∧ r = ⟨v, backM m.low m', none, iteB (Nat.ble m.next m'.low) (some []) none⟩) := by
  unfold evOne evOne1 at h
  split at h
  · rename_i fx args ats hop
    obtain ⟨g, hg, h2⟩ := ob_some h
    obtain ⟨vs, hvs, h3⟩ := ob_some h2
    unfold evCall at h3
    split at h3
    · rename_i g' first captured
      obtain ⟨out, hout, h4⟩ := ob_some h3
      unfold afterCall at h4
      split at h4
      · rename_i v m'
        cases h4
        exact .inr ⟨fx, args, ats, g', first, captured, vs, v, m', hop, hg, hvs, hout, rfl⟩
      · cases h4
    · cases h3
  · obtain ⟨r0, h1, h2⟩ := ob_some h
    cases h2
    exact .inl ⟨r0, h1, rfl⟩

theorem evOne_pure (hself : SelfOk P self) (h : evOne P self f o m = some r) (hw : Wf m) : OnePure m r := by
  rcases evOne_cases h with ⟨r0, h1, rfl⟩ | ⟨fx, args, ats, g, first, captured, vs, v, m', hop, hg, hvs, hs, rfl⟩
  · have heff := evOp_eff h1
    refine ⟨app_ext hw (fun i hi => (heff i hi).2), (app_low m r0.e).1, fun i b ht hb => ?_, fun l hl i hi => ?_⟩
    · obtain ⟨t1, ⟨t2, _⟩ | ⟨l, t2, t3⟩⟩ := touch_false ht
      · cases t2
      cases t2
      have := app_get hb
      rw [appM_other (fun q e => t1 ⟨by rw [e]; exact Nat.le_refl _, by rw [e]; show _ < (m.app r0.e).next; rw [app_next, if_pos q]; omega⟩) t3] at this
      exact this
    · cases hl; exact (heff i hi).2
  · have hsound := hself _ _ hs hw
    refine ⟨?_, ?_, fun i b ht hb => ?_, fun l hl i hi => ?_⟩
    · rw [backM_eq]; exact ⟨hsound.1.next, hsound.1.dom, fun i b h1 => hsound.1.old i b (Nat.lt_of_lt_of_le h1 (Nat.min_le_right _ _)), hsound.1.wf⟩
    · rw [backM_eq]; exact Nat.min_le_left _ _
    · obtain ⟨t1, ⟨t2, t3⟩ | ⟨l, t2, t3⟩⟩ := touch_false ht
      · rw [backM_eq] at t1 t3 hb
        rcases t3 with t3 | t3
        · rcases hsound.1.dom i b hb with ⟨b0, h0⟩ | h0
          · rw [t3] at h0; cases h0
          · exact absurd h0 t1
        · exact hsound.1.old i b (Nat.lt_of_lt_of_le t3 (Nat.min_le_right _ _)) t1 hb
      rw [backM_eq] at t1 hb
      rw [iteB_eq] at t2
      split at t2
      · rename_i hle
        have hle := Nat.le_of_ble_eq_true hle
        refine hsound.1.old i b ?_ t1 hb
        rcases hsound.1.dom i b hb with ⟨b0, h0⟩ | h0
        · exact Nat.lt_of_lt_of_le (hw i b0 h0) hle
        · exact absurd h0 t1
      · cases t2
    · rw [iteB_eq] at hl
      split at hl
      · cases hl; cases hi
      · cases hl

theorem mem_operands_value {fx : Operand} {args : Array Operand} {ats : Array TypeId} (hop : o.op = .call { callee := .value fx, args := args, argTypes := ats }) : fx ∈ o.op.operands ∧ ∀ x ∈ args.toList, x ∈ o.op.operands := by
  rw [hop]
  simp [Op.operands, Call.operands]
  exact fun x hx => .inr hx
theorem exec_call' {ρ : Operand → Value} {fx : Operand} {args : Array Operand} {ats : Array TypeId} {g : FuncId} {x y : List Value} (hop : o.op = .call { callee := .value fx, args := args, argTypes := ats }) (hg : ρ fx = .func (.func g) x.toArray y.toArray) :
    execOp ρ o = callFunc g (x ++ args.toList.map ρ ++ y).toArray := by
  unfold execOp
  rw [hop]
  simp only [resolve, hg, Deferred.ofValue]
  show invoke (.fn (.func g) y.toArray) (x.toArray ++ args.map ρ) = _
  simp only [invoke]
  congr 1
  apply Array.toList_inj.1
  simp

/-- One operation, in the order of the text. -/
theorem evOne_seq (hself : SelfOk P self) (h : evOne P self f o m = some r) (hw : Wf m) (hR : Rel φ M w) (hsub : Sub m M) (hf : FrR φ f a) (hfr : Fresh φ m.next r.m.next) {K : Act → World → Prop} {Q : Exit → Act → World → Prop}
    (hK : ∀ v' w' φ' M', Good φ M w m r.m φ' M' w' → VR φ' r.v v' → K (a.put o.dst v') w') : o.wp P a w K Q := by
  rcases evOne_cases h with ⟨r0, h1, rfl⟩ | ⟨fx, args, ats, g, first, captured, vs, v, m', hop, hg, hvs, hs, rfl⟩
  · have heff := evOp_eff h1
    have hn := app_next m r0.e
    have hok : OpOk P (execOp a.eval o) φ M w m.next r0.v r0.e := evOp_sound h1 hR (hf.ov o) (fun i _ => hsub i)
      (fun hq => hfr m.next (Nat.le_refl _) (by show _ < (m.app r0.e).next; rw [hn, if_pos hq]; omega))
    obtain ⟨φ', w', nx, q1, q2, q3, q4, q5, q6, q7⟩ := hok
    have hgood : Good φ M w m (m.app r0.e) φ' (appM M m.next r0.e) w' := by
      refine ⟨q3, fun i hi => ?_, q6, fun i b hb => appM_mono hsub i b (app_get hb), fun i hi hnl => ?_, q7⟩
      · cases hq : r0.e.adds with
        | false => rw [q5 hq]
        | true => exact q4 i (fun e => hi ⟨by omega, by rw [hn, if_pos hq]; omega⟩)
      · refine appM_other (fun hq e => hi ⟨by omega, by rw [hn, if_pos hq]; omega⟩) (fun hmem => ?_)
        rcases hnl with hnl | hnl
        · obtain ⟨b, hb⟩ := (heff i hmem).2
          rw [hnl] at hb; cases hb
        · have := (app_low m r0.e).2 i hmem
          omega
    unfold Oper.wp
    rw [q1]
    cases nx with
    | value v' => exact hK v' w' φ' _ hgood q2
    | skip =>
      have hv : r0.v = undef := q2
      exact hK undef w' φ' _ hgood (by show VR φ' r0.v undef; rw [hv]; exact VR.undef)
    | _ => exact q2.elim
  · have hsound := hself _ _ hs hw
    obtain ⟨m1, m2⟩ := mem_operands_value hop
    obtain ⟨x', y', e1, e2, e3⟩ := (hf.ov o fx m1 _ hg).func_inv
    have hargs := valsA_some (φ := φ) (ρ := a.eval) hvs (fun x hx => hf.ov o x (m2 x hx))
    have hcall := hsound.2 φ M w (x' ++ args.toList.map a.eval ++ y') hR hsub ((e2.append hargs).append e3) (by rw [backM_eq] at hfr; exact hfr)
    have hgood : ∀ {φ' M' w'}, Good φ M w m m' φ' M' w' → Good φ M w m (backM m.low m') φ' M' w' := fun hgd => by
      rw [backM_eq]
      exact ⟨hgd.le, hgd.out, hgd.rel, hgd.sub, fun i hi hn => hgd.frame i hi (hn.imp id fun q => Nat.lt_of_lt_of_le q (Nat.min_le_right _ _)), hgd.wg⟩
    unfold Oper.wp
    rw [exec_call' hop e1]
    rcases hcall with ⟨hrun, hc⟩ | ⟨v', w', hrun, v'', hv'', φ', M', hgd, hvr⟩
    · rw [hrun, Oper.upon_enter]
      refine hc.mono ?_
      rintro e w' ⟨v', rfl, φ', M', hgd, hvr⟩
      exact hK v' w' φ' M' (hgood hgd) hvr
    · rw [hrun]
      cases hv''
      exact hK v' w' φ' M' (hgood hgd) hvr

/-- One operation, in any order. -/
theorem evOne_draw (hself : SelfOk P self) (h : evOne P self f o m = some r) (hw : Wf m) (hR : Rel φ M w) (hneed : Need m r M) (hov : OV φ f o a.eval) (hfr : Fresh φ m.next r.m.next) {K : Act → World → Prop} {Q : Exit → Act → World → Prop}
    (hK : ∀ v' w' φ', OneOk φ M w m r v' φ' w' → K (a.put o.dst v') w') : o.wp P a w K Q := by
  rcases evOne_cases h with ⟨r0, h1, rfl⟩ | ⟨fx, args, ats, g, first, captured, vs, v, m', hop, hg, hvs, hs, rfl⟩
  · have hn := app_next m r0.e
    have hok : OpOk P (execOp a.eval o) φ M w m.next r0.v r0.e := evOp_sound h1 hR hov hneed
      (fun hq => hfr m.next (Nat.le_refl _) (by show _ < (m.app r0.e).next; rw [hn, if_pos hq]; omega))
    obtain ⟨φ', w', nx, q1, q2, q3, q4, q5, q6, q7⟩ := hok
    have hsubM : ∀ i b, tM m ⟨r0.v, m.app r0.e, some r0.foot, some r0.e.mods⟩ M i = some b → appM M m.next r0.e i = some b := by
      intro i b hb
      unfold tM at hb
      split at hb
      · rename_i ht
        have hb' := app_get hb
        rcases touch_true ht with t | ⟨t, _⟩ | ⟨l, t1, t2⟩
        · -- fresh
          have t2 : i < (m.app r0.e).next := t.2
          rw [hn] at t2
          split at t2
          · rename_i hq
            have : i = m.next := by omega
            subst this
            revert hb'
            cases he : r0.e with
            | none => rw [he] at hq; cases hq
            | new x => simp [appM, upd]
            | upd j x => rw [he] at hq; cases hq
            | move j x => simp [appM, upd]
          · omega
        · cases t
        · cases t1
          revert hb'
          cases he : r0.e <;> rw [he] at t2 <;> simp [Eff.mods] at t2 <;> subst t2 <;> simp [appM, upd]
      · rename_i ht
        have ht : touchB m ⟨r0.v, m.app r0.e, some r0.foot, some r0.e.mods⟩ i = false := by simpa using ht
        obtain ⟨t1, ⟨t2, _⟩ | ⟨l, t2, t3⟩⟩ := touch_false ht
        · cases t2
        cases t2
        rw [appM_other (fun q e => t1 ⟨by omega, by show _ < (m.app r0.e).next; rw [hn, if_pos q]; omega⟩) t3]
        exact hb
    have hone : ∀ {v'}, VR φ' r0.v v' → OneOk φ M w m ⟨r0.v, m.app r0.e, some r0.foot, some r0.e.mods⟩ v' φ' w' := fun hv => by
      refine ⟨hv, q3, fun i hi => ?_, q6.sub hsubM, q7.sub hsubM⟩
      cases hq : r0.e.adds with
      | false => rw [q5 hq]
      | true => exact q4 i (fun e => hi ⟨by omega, by show _ < (m.app r0.e).next; rw [hn, if_pos hq]; omega⟩)
    unfold Oper.wp
    rw [q1]
    cases nx with
    | value v' => exact hK v' w' φ' (hone q2)
    | skip =>
      have hv : r0.v = undef := q2
      exact hK undef w' φ' (hone (by rw [hv]; exact VR.undef))
    | _ => exact q2.elim
  · have hsound := hself _ _ hs hw
    obtain ⟨m1, m2⟩ := mem_operands_value hop
    obtain ⟨x', y', e1, e2, e3⟩ := (hov fx m1 _ hg).func_inv
    have hargs := valsA_some (φ := φ) (ρ := a.eval) hvs (fun x hx => hov x (m2 x hx))
    have hsub : Sub m M := hneed
    have hcall := hsound.2 φ M w (x' ++ args.toList.map a.eval ++ y') hR hsub ((e2.append hargs).append e3) (by rw [backM_eq] at hfr; exact hfr)
    have hone : ∀ {φ' M' w' v'}, Good φ M w m m' φ' M' w' → VR φ' v v' → OneOk φ M w m ⟨v, backM m.low m', none, iteB (Nat.ble m.next m'.low) (some []) none⟩ v' φ' w' := fun {φ' M' w' v'} hgd hv => by
      have hsubM : ∀ i b, tM m ⟨v, backM m.low m', none, iteB (Nat.ble m.next m'.low) (some []) none⟩ M i = some b → M' i = some b := by
        intro i b hb
        unfold tM at hb
        split at hb
        · rw [backM_eq] at hb; exact hgd.sub i b hb
        · rename_i ht
          have ht : touchB m ⟨v, backM m.low m', none, iteB (Nat.ble m.next m'.low) (some []) none⟩ i = false := by simpa using ht
          obtain ⟨t1, ⟨t2, t3⟩ | ⟨l, t2, t3⟩⟩ := touch_false ht
          · rw [backM_eq] at t1 t3
            rw [hgd.frame i t1 (t3.imp id fun q => Nat.lt_of_lt_of_le q (Nat.min_le_right _ _))]
            exact hb
          rw [backM_eq] at t1
          rw [iteB_eq] at t2
          split at t2
          · rename_i hle
            have hle := Nat.le_of_ble_eq_true hle
            rw [hgd.frame i t1 ?_]
            · exact hb
            · cases hq : m.b.get i with
              | none => exact .inl rfl
              | some b0 => exact .inr (Nat.lt_of_lt_of_le (hw i b0 hq) hle)
          · cases t2
      exact ⟨hv, hgd.le, by rw [backM_eq]; exact hgd.out, hgd.rel.sub hsubM, hgd.wg.sub hsubM⟩
    unfold Oper.wp
    rw [exec_call' hop e1]
    rcases hcall with ⟨hrun, hc⟩ | ⟨v', w', hrun, v'', hv'', φ', M', hgd, hvr⟩
    · rw [hrun, Oper.upon_enter]
      refine hc.mono ?_
      rintro e w' ⟨v', rfl, φ', M', hgd, hvr⟩
      exact hK v' w' φ' (hone hgd hvr)
    · rw [hrun]
      cases hv''
      exact hK v' w' φ' (hone hgd hvr)
end
end Ev
end Go.Proofs.Ytlfojfndkcmfnaa
