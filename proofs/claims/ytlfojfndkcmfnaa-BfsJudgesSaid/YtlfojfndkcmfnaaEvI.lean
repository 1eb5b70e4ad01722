/- Each operation of the evaluator's is one of the model's (7): all of them. -/
import Derived.Test.YtlfojfndkcmfnaaEvH
namespace Go.Proofs.Ytlfojfndkcmfnaa
namespace Ev
open Go

section
variable {P : Program} {φ : Phi} {M : AM} {w : World} {f : Fr} {o : Oper} {m : Mem} {r : R} {ρ : Operand → Value} {next : Nat}

theorem VRL.atomA : ∀ {l : List Value}, l.all Ev.atomA = true → VRL φ l l
  | [], _ => .nil
  | v :: l, h => by
    simp only [List.all_cons, Bool.and_eq_true] at h
    exact .cons (VR.atomA h.1) (VRL.atomA h.2)
theorem VR.atomR {v : Value} (h : atomR v = true) : VR φ v v := by
  unfold Ev.atomR at h
  split at h
  · rename_i vs
    have := VR.tuple (VRL.atomA (φ := φ) h)
    simpa using this
  · exact VR.atomA h
theorem vrl_two {a b : Value} {l' : List Value} (h : VRL φ [a, b] l') : ∃ a' b', l' = [a', b'] ∧ VR φ a a' ∧ VR φ b b' := by
  cases h with
  | cons h1 h2 => cases h2 with
    | cons h3 h4 => cases h4; exact ⟨_, _, rfl, h1, h3⟩
theorem vrl_one {a : Value} {l' : List Value} (h : VRL φ [a] l') : ∃ a', l' = [a'] ∧ VR φ a a' := by
  cases h with
  | cons h1 h2 => cases h2; exact ⟨_, rfl, h1⟩

theorem exec_builtin {b : Builtin} {args : Array Operand} {ats : Array TypeId} (hop : o.op = .call { callee := .builtin b, args := args, argTypes := ats }) :
    execOp ρ o = builtin b ats o.type (args.map fun | .const _ => true | _ => false) (args.map ρ) := by
  unfold execOp
  rw [hop]
  rfl

theorem ok_append {args : Array Operand} {ats : Array TypeId} (hop : o.op = .call { callee := .builtin .append, args := args, argTypes := ats }) (h : (ob (valsA f args.toList) fun vs => evAppend P m vs ats.toList) = some r)
    (hR : Rel φ M w) (hv : OV φ f o ρ) (hm : ∀ i ∈ r.foot, ∀ b, m.b.get i = some b → M i = some b) (hf : r.e.adds = true → φ m.next = none) : OpOk P (execOp ρ o) φ M w m.next r.v r.e := by
  obtain ⟨vs, hvs, h2⟩ := ob_some h
  clear h
  have hvl := valsA_some (φ := φ) (ρ := ρ) hvs (fun x hx => hv x (by rw [hop]; simp [Op.operands, Call.operands]; simpa using hx))
  unfold evAppend at h2
  split at h2
  · rename_i s x t u hats
    obtain ⟨htu, h3⟩ := iteB_some h2
    clear h2
    have htu := Nat.eq_of_beq_eq_true htu
    subst htu
    obtain ⟨d, hd, h4⟩ := ob_some h3
    clear h3
    obtain ⟨s', x', hargs, vs1, vs2⟩ := vrl_two hvl
    split at h4
    · rename_i elem
      unfold appendA at h4
      obtain ⟨i, hi, h5⟩ := ob_some h4
      obtain ⟨q, hq, h6⟩ := ob_some h5
      unfold appendA1 at h6
      obtain ⟨hc, h7⟩ := iteB_some h6
      clear h4 h5 h6
      simp only [Bool.and_eq_true] at hc
      obtain ⟨⟨⟨⟨c1, c2⟩, c3⟩, c4⟩, c5⟩ := hc
      have c1 := Nat.le_of_ble_eq_true c1
      have c2 := Nat.le_of_ble_eq_true c2
      rw [iteB_eq] at h7
      split at h7
      · cases h7
      · rename_i hx0
        have hx0 : lenA x ≠ 0 := fun e => hx0 (by rw [e]; rfl)
        obtain ⟨zl, hzl⟩ := Option.isSome_iff_exists.1 c4
        obtain ⟨zv, z1, z2, z3, z4⟩ := zeroA_some (φ := φ) hzl
        have hzs : zv.cells.size = i.size := by rw [← z3, ← z2]; simp
        have hex : ∀ v' w', (Builtin.append_ #[t, t] o.type #[s', x']).run P w = .ok v' w' → (execOp ρ o).run P w = .ok (.value v') w' := by
          intro v' w' hr
          rw [exec_builtin hop]
          have e1 : args.map ρ = #[s', x'] := by apply Array.toList_inj.1; simp [← hargs]
          have e2 : ats = #[t, t] := by apply Array.toList_inj.1; simp [hats]
          rw [e1, e2]
          simp [builtin, hr]
        have hfx : ∀ j ∈ q.2, j ∈ r.foot := by
          intro j hj
          unfold appendA2 at h7
          split at h7
          · rw [appRes_some h7]; exact hj
          · obtain ⟨b, hb, h8⟩ := ob_some h7
            unfold appSome at h8
            split at h8
            · obtain ⟨_, h9⟩ := iteB_some h8
              rw [iteB_eq] at h9
              split at h9
              · unfold appIn at h9
                obtain ⟨_, h10⟩ := iteB_some h9
                rw [forceN_eq] at h10
                cases h10
                simp [hj]
              · unfold appOut at h9
                obtain ⟨old, _, h10⟩ := ob_some h9
                rw [appRes_some h10]
                simp [hj]
            · cases h8
          · cases h7
        obtain ⟨xa, xc, new', k1, k2, k3, k4⟩ := rowOf_some hq vs2 hR (fun j hj => hm j (hfx j hj)) hx0
        subst k1
        unfold appendA2 at h7
        split at h7
        · have hf : φ m.next = none := hf (by rw [appRes_some h7]; rfl)
          rw [appRes_some h7]
          have e1 := vs1.eq_simple rfl
          subst e1
          have hlen' : new'.length = lenA x * i.size := by rw [← k2.length]; exact k3
          have c1 : lenA x * i.bytes ≤ 100000000 := by have := c1; rw [show lenA (Value.slice none 0 0) = 0 from rfl, Nat.zero_add] at this; exact this
          have c2 : lenA x ≤ 100000000 := by have := c2; rw [show lenA (Value.slice none 0 0) = 0 from rfl, Nat.zero_add] at this; exact this
          have hrun := run_append_nil (P := P) w t o.type elem i zv hd hi z1 xa (lenA x) xc new' hlen' k4 (by omega) (by omega) (by omega)
          have hge := grownCap_ge w (lenA x) 0 elem
          have hxl : lenA x ≤ 100000000 := c2
          have hgl := grownCap_le_maxLen w (lenA x) 0 elem (by unfold maxLen; omega)
          refine grown_ok (P := P) hR hf (elem := elem) (need := lenA x) (cap := grownCap w (lenA x) 0 elem) (sz := i.size) (all := q.1) (all' := new') (rest := (Builtin.zeroCells zv.cells (grownCap w (lenA x) 0 elem - lenA x)).toList)
            k2 (by
              refine hex _ _ ?_
              rw [hrun]
              congr 3
              apply Array.toList_inj.1
              simp) hge (by unfold maxLen at hgl; exact hgl) (by
              rw [k3, zc_size hzs, ← Nat.add_mul]
              congr 1
              omega) rfl (fun j v _ hg => tOf_get hg)
        · rename_i a sLen sCap
          obtain ⟨b, hb, h8⟩ := ob_some h7
          exact appSome_ok hd hi z1 hzs h8 hb hm hR hf vs1 k3 k2 k4 c5 c1 c2 hx0 hex
        · cases h7
    · cases h4
  · cases h2

theorem ok_len {args : Array Operand} {ats : Array TypeId} (hop : o.op = .call { callee := .builtin .len, args := args, argTypes := ats }) (h : (ob (valsA f args.toList) fun vs => evLen P f o vs ats.toList) = some r)
    (hR : Rel φ M w) (hv : OV φ f o ρ) : OpOk P (execOp ρ o) φ M w next r.v r.e := by
  obtain ⟨vs, hvs, h2⟩ := ob_some h
  clear h
  have hvl := valsA_some (φ := φ) (ρ := ρ) hvs (fun x hx => hv x (by rw [hop]; simp [Op.operands, Call.operands]; simpa using hx))
  unfold evLen at h2
  split at h2
  · rename_i sa n c t hats
    obtain ⟨d, hd, h3⟩ := ob_some h2
    obtain ⟨s', hargs, v1⟩ := vrl_one hvl
    split at h3
    · rename_i elem
      rw [forceN_eq] at h3
      rw [val_some h3]
      have hs : ∃ A c', s' = .slice A n c' := by
        cases v1 with
        | simple hs => exact ⟨_, _, rfl⟩
        | slice _ _ _ _ _ => exact ⟨_, _, rfl⟩
      obtain ⟨A, c', rfl⟩ := hs
      refine OpOk.value hR (v' := .int .i64 (.ofNat n)) ?_ (.simple rfl)
      rw [exec_builtin hop]
      have e1 : args.map ρ = #[.slice A n c'] := by apply Array.toList_inj.1; simp [← hargs]
      have e2 : ats = #[t] := by apply Array.toList_inj.1; simp [hats]
      rw [e1, e2]
      simp [builtin, Builtin.len_, run_underlying hd, goInt]
    · cases h3
  · exact ok_pure (by rw [hop]; simp) h2 hR hv

theorem getObj_run {k : Nat} {es : Array MapEntry} {cl : Nat} (h : w.heap[k]? = some (.map es cl)) : (getObj k).run P w = .ok (.map es cl) w := by
  simp [getObj, Sem.run, h]
theorem VR.map_inv {b : Nat} {v' : Value} (h : VR φ (.map (some b)) v') : ∃ l, φ b = some l ∧ v' = .map (some l.blk) := by
  cases h with
  | simple h => simp [Ev.simple] at h
  | map h => exact ⟨_, h, rfl⟩
theorem Rel.mapAt (hR : Rel φ M w) {i : Nat} {es : Array MapEntry} {cl : Nat} {l : Loc} (h : M i = some (.map es cl)) (hl : φ i = some l) : w.heap[l.blk]? = some (.map es cl) := by
  obtain ⟨l', h1, h2⟩ := hR.blk i _ h
  rw [hl] at h1
  cases h1
  exact h2

theorem ok_lookup {t : TypeId} {x k : Operand} {ok : Bool} (hop : o.op = .lookup t x k ok) (h : (ob (f.get k) fun k => ob (P.underlying t) fun d => ob (f.get x) (evLookup P m k ok d)) = some r)
    (hR : Rel φ M w) (hv : OV φ f o ρ) (hm : ∀ i ∈ r.foot, ∀ b, m.b.get i = some b → M i = some b) : OpOk P (execOp ρ o) φ M w next r.v r.e := by
  obtain ⟨kv, hk, h2⟩ := ob_some h
  obtain ⟨d, hd, h3⟩ := ob_some h2
  obtain ⟨xv, hx, h4⟩ := ob_some h3
  clear h h2 h3
  have v1 := hv k (by rw [hop]; simp [Op.operands]) _ hk
  have v2 := hv x (by rw [hop]; simp [Op.operands]) _ hx
  unfold evLookup at h4
  split at h4
  · rename_i key elem q
    obtain ⟨ha, h5⟩ := iteB_some h4
    obtain ⟨b, hb, h6⟩ := ob_some h5
    clear h4 h5
    unfold evLookup1 at h6
    split at h6
    · rename_i es cl
      obtain ⟨v, hrun, h7⟩ := ob_some h6
      obtain ⟨hat, h8⟩ := iteB_some h7
      cases h8
      obtain ⟨l, hl, e2⟩ := v2.map_inv
      have e1 := v1.eq_atomA ha
      have hobj := hR.mapAt (hm q (by simp) _ hb) hl
      refine OpOk.value hR (v' := v) ?_ (VR.atomR hat)
      have hr := runPure_run P _ _ hrun w
      have key : (Instr.lookup t (.map (some l.blk)) kv ok).run P w = .ok v w := by
        simp only [Instr.lookup, Sem.run_bind, run_underlying hd, Result.andThen_ok, getObj_run hobj, Sem.run_pure]
        unfold mapGet at hr
        simp only [Sem.run_bind] at hr
        exact hr
      unfold execOp
      rw [hop]
      simp only [e1, e2, Sem.run_bind, key, Result.andThen_ok, Sem.run_pure]
    · cases h6
  · cases h4

/-- One block of the world gets another object. -/
theorem Rel.setObj (hR : Rel φ M w) {i : Nat} {b : ABlk} {l : Loc} {es : Array MapEntry} {cl : Nat} (hb : M i = some b) (hl : φ i = some l) (hlt : l.blk < w.heap.size) :
    Rel φ (upd M i (some (.map es cl))) { w with heap := w.heap.setIfInBounds l.blk (.map es cl) } ∧ WG φ M w φ (upd M i (some (.map es cl))) { w with heap := w.heap.setIfInBounds l.blk (.map es cl) } := by
  have oth : ∀ k, k ≠ l.blk → (w.heap.setIfInBounds l.blk (.map es cl))[k]? = w.heap[k]? := fun k hk => by rw [Array.getElem?_setIfInBounds, if_neg (fun e => hk e.symm)]
  refine ⟨⟨fun j x hx => ?_, fun j k x y lj lk hne hx hy hj hk => ?_⟩, ⟨rfl, rfl, rfl, by simp, fun k hk hn => oth k (fun e => hn ⟨i, b, l, hb, hl, e.symm⟩), fun k hk h => ?_⟩⟩
  · unfold upd at hx
    by_cases e : j = i
    · subst e; rw [if_pos rfl] at hx; cases hx
      exact ⟨l, hl, by show (w.heap.setIfInBounds l.blk _)[l.blk]? = _; simp [hlt]⟩
    · rw [if_neg e] at hx
      obtain ⟨lj, h1, h2⟩ := hR.blk j x hx
      exact ⟨lj, h1, h2.keep (oth _ (hR.inj j i x b lj l e hx hb h1 hl))⟩
  · unfold upd at hx hy
    by_cases e : j = i
    · subst e
      rw [if_neg (fun q => hne q.symm)] at hy
      exact hR.inj j k b y lj lk hne hb hy hj hk
    · rw [if_neg e] at hx
      by_cases e2 : k = i
      · subst e2; exact hR.inj j k x b lj lk hne hx hb hj hk
      · rw [if_neg e2] at hy; exact hR.inj j k x y lj lk hne hx hy hj hk
  · obtain ⟨j, x, lj, hx, hj, hk'⟩ := h
    unfold upd at hx
    by_cases e : j = i
    · subst e; exact ⟨j, b, lj, hb, hj, hk'⟩
    · rw [if_neg e] at hx; exact ⟨j, x, lj, hx, hj, hk'⟩
theorem setObj_run {k : Nat} {es es' : Array MapEntry} {cl cl' : Nat} (h : w.heap[k]? = some (.map es cl)) : (setObj k (.map es' cl')).run P w = .ok () { w with heap := w.heap.setIfInBounds k (.map es' cl') } := by
  simp [setObj, Sem.run, h]

theorem ok_mapUpdate {t : TypeId} {x k v : Operand} (hop : o.op = .mapUpdate t x k v) (h : (ob (f.get k) fun k => ob (f.get v) fun v => ob (P.underlying t) fun d => ob (f.get x) (evMapSet P m k v d)) = some r)
    (hR : Rel φ M w) (hv : OV φ f o ρ) (hm : ∀ i ∈ r.foot, ∀ b, m.b.get i = some b → M i = some b) : OpOk P (execOp ρ o) φ M w next r.v r.e := by
  obtain ⟨kv, hk, h1⟩ := ob_some h
  obtain ⟨vv, hvv, h2⟩ := ob_some h1
  obtain ⟨d, hd, h3⟩ := ob_some h2
  obtain ⟨xv, hx, h4⟩ := ob_some h3
  clear h h1 h2 h3
  have v1 := hv k (by rw [hop]; simp [Op.operands]) _ hk
  have v2 := hv x (by rw [hop]; simp [Op.operands]) _ hx
  have v3 := hv v (by rw [hop]; simp [Op.operands]) _ hvv
  unfold evMapSet at h4
  split at h4
  · rename_i key elem q
    obtain ⟨ha, h5⟩ := iteB_some h4
    obtain ⟨b, hb, h6⟩ := ob_some h5
    clear h4 h5
    simp only [Bool.and_eq_true] at ha
    unfold evMapSet1 at h6
    split at h6
    · rename_i es cl
      obtain ⟨p, hrun, h7⟩ := ob_some h6
      cases h7
      obtain ⟨l, hl, e2⟩ := v2.map_inv
      have e1 := v1.eq_atomA ha.1
      have e3 := v3.eq_simple ha.2
      have hM := hm q (by simp) _ hb
      have hobj := hR.mapAt hM hl
      have hr := runPure_run P _ _ hrun w
      have hres := hR.setObj (es := p.1) (cl := p.2) hM hl (Array.getElem?_eq_some_iff.1 hobj).1
      refine ⟨φ, _, .skip, ?_, rfl, φ.le_refl, fun _ _ => rfl, fun _ => rfl, hres.1, hres.2⟩
      have key : (Instr.mapUpdate t (.map (some l.blk)) kv vv).run P w = ((mapSet key es cl kv vv).run P w).andThen (fun p w' => (setObj l.blk (.map p.1 p.2)).run P w') := by
        simp only [Instr.mapUpdate, mapSet, Sem.run_bind, run_underlying hd, Result.andThen_ok, getObj_run hobj]
        cases hck : (Instr.checkKey false 10000 key kv).run P w with
        | halt a b => rfl
        | ok u w1 =>
          simp only [Result.andThen_ok]
          cases hfk : (Instr.findKey key kv es.toList).run P w1 with
          | halt a b => rfl
          | ok q w2 =>
            simp only [Result.andThen_ok]
            cases q with
            | none => rfl
            | some q =>
              obtain ⟨i, q⟩ := q
              simp only [Sem.run_bind]
              cases (Instr.keyThatStays (((es[i]?).map (·.key)).getD kv) kv).run P w2 with
              | halt a b => rfl
              | ok k2 w3 => rfl
      rw [hr, Result.andThen_ok, setObj_run hobj] at key
      unfold execOp
      rw [hop]
      simp only [e1, e2, e3, Sem.run_bind, key, Result.andThen_ok, Sem.run_pure]
    · cases h6
  · cases h4

theorem ok_makeMap {t : TypeId} (hop : o.op = .makeMap t none) (hR : Rel φ M w) (hf : φ m.next = none) : OpOk P (execOp ρ o) φ M w m.next (.map (some m.next)) (.new (.map #[] 0)) := by
  have := hR.new (l := ⟨w.heap.size, 0, 0, 0⟩) (b := .map #[] 0) (o := .map #[] 0) hf rfl (heap_alloc_at w _)
  refine ⟨_, _, .value (.map (some w.heap.size)), ?_, VR.map (l := ⟨w.heap.size, 0, 0, 0⟩) (phiSet_self _ _), phiSet_le hf, fun i hi => phiSet_ne _ hi, fun h => (by cases h), this.1, this.2⟩
  unfold execOp
  rw [hop]
  simp [Instr.makeMap, newObj, Sem.run]

theorem buildSlice_adds {t : TypeId} {len : Nat} {parts : Array (Nat × Operand)} (h : (ob (partsA f parts.toList) fun ps => ob (P.underlying t) (evBuildSlice P m len ps)) = some r) : r.e.adds = true := by
  obtain ⟨_, _, h⟩ := ob_some h
  obtain ⟨_, _, h⟩ := ob_some h
  unfold evBuildSlice at h
  split at h
  · obtain ⟨_, _, h⟩ := ob_some h; obtain ⟨_, _, h⟩ := ob_some h
    obtain ⟨_, h⟩ := iteB_some h; obtain ⟨_, _, h⟩ := ob_some h
    cases h; rfl
  · cases h
theorem makeSlice_adds {t : TypeId} {x y : Operand} (h : (ob (f.get x) fun l => ob (f.get y) (evMakeSlice P t m l)) = some r) : r.e.adds = true := by
  obtain ⟨_, _, h⟩ := ob_some h
  obtain ⟨_, _, h⟩ := ob_some h
  unfold evMakeSlice at h
  split at h
  · obtain ⟨_, _, h⟩ := ob_some h
    unfold evMakeSlice1 at h
    split at h
    · obtain ⟨_, _, h⟩ := ob_some h; obtain ⟨_, _, h⟩ := ob_some h
      obtain ⟨_, h⟩ := iteB_some h
      cases h; rfl
    · cases h
  · cases h
/-- Every operation that is no call of a function. -/
theorem evOp_sound (h : evOp P f o m = some r) (hR : Rel φ M w) (hv : OV φ f o ρ) (hm : ∀ i ∈ r.foot, ∀ b, m.b.get i = some b → M i = some b) (hf : r.e.adds = true → φ m.next = none) : OpOk P (execOp ρ o) φ M w m.next r.v r.e := by
  unfold evOp at h
  split at h
  · rename_i x hop; exact ok_move (.inl hop) h hR hv
  · rename_i x hop; exact ok_move (.inr hop) h hR hv
  · rename_i c a b hop; exact ok_pick hop h hR hv
  · rename_i t hop; exact ok_alloc hop h hR (hf (by obtain ⟨_, _, h⟩ := ob_some h; obtain ⟨_, _, h⟩ := ob_some h; cases h; rfl))
  · rename_i t x hop; exact ok_box hop h hR hv (hf (by obtain ⟨_, _, h⟩ := ob_some h; obtain ⟨_, h⟩ := iteB_some h; cases h; rfl))
  · rename_i t ps hop; exact ok_build hop h hR hv
  · rename_i t len ps hop; exact ok_buildSlice hop h hR hv (hf (buildSlice_adds h))
  · rename_i t a hop; exact ok_load hop h hR hv hm
  · rename_i t a x hop; exact ok_store hop h hR hv hm
  · rename_i x hop; exact ok_nilCheck hop h hR hv
  · rename_i s x k hop; exact ok_fieldAddr hop h hR hv
  · rename_i t x k hop; exact ok_field hop h hR hv
  · rename_i t x k hop; exact ok_indexAddr hop h hR hv
  · rename_i x k hop; exact ok_extract hop h hR hv
  · rename_i fn a b hop; exact ok_makeFunc hop h hR hv
  · rename_i t l c hop; exact ok_makeSlice hop h hR hv (hf (makeSlice_adds h))
  · rename_i t x lo hi hop; exact ok_slice hop h hR hv hm
  · rename_i t hop; cases h; exact ok_makeMap hop hR (hf rfl)
  · rename_i t x k b hop; exact ok_lookup hop h hR hv hm
  · rename_i t x k v hop; exact ok_mapUpdate hop h hR hv hm
  · rename_i c hop
    obtain ⟨callee, args, ats⟩ := c
    unfold evCallB at h
    simp only at h
    split at h
    · exact ok_len hop h hR hv
    · exact ok_append hop h hR hv hm hf
    · exact ok_pure (by rw [hop]; simp) h hR hv
    · exact ok_pure (by rw [hop]; simp) h hR hv
    · cases h
  · rename_i hop; exact ok_pure (by rw [hop]; simp) h hR hv
  · rename_i hop; exact ok_pure (by rw [hop]; simp) h hR hv
  · rename_i hop; exact ok_pure (by rw [hop]; simp) h hR hv
  · rename_i hop; exact ok_pure (by rw [hop]; simp) h hR hv
  · cases h
end
end Ev
end Go.Proofs.Ytlfojfndkcmfnaa
