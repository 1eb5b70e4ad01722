/- The evaluator on code: regions in the order of the text, loops, calls. -/
import Derived.Test.YtlfojfndkcmfnaaEvK
namespace Go.Proofs.Ytlfojfndkcmfnaa
namespace Ev
open Go

section
variable {P : Program} {self : Task → Option Out} {φ φ' : Phi} {M M' : AM} {w w' : World} {f f' : Fr} {m m' m'' : Mem} {a : Act}

/-- The pure part of a step. -/
structure Grow (m m' : Mem) : Prop where
  ext : Ext m m'
  low : m'.low ≤ m.low
theorem Grow.refl (h : Wf m) : Grow m m := ⟨Ext.refl h, Nat.le_refl _⟩
theorem Grow.trans (a : Grow m m') (b : Grow m' m'') : Grow m m'' := ⟨Ext.trans b.low a.ext b.ext, Nat.le_trans b.low a.low⟩

theorem evOps_cons {ops : List Oper} {o : Oper} {l : List Oper} {x : FM} (h : evOps P self ops (o :: l) f m = some x) :
    (wantedA ops f o = some false ∧ ∃ f1, f.put o.dst undef = some f1 ∧ evOps P self ops l f1 m = some x) ∨
    (wantedA ops f o = some true ∧ ∃ r f1, evOne P self f o m = some r ∧ f.put o.dst r.v = some f1 ∧ evOps P self ops l f1 r.m = some x) := by
  change ob (wantedA ops f o) (evOps1 P self o (evOps P self ops l) f m) = some x at h
  obtain ⟨b, hb, h2⟩ := ob_some h
  cases b with
  | false =>
    left
    change putNext m (evOps P self ops l) (f.put o.dst undef) = some x at h2
    obtain ⟨f1, h3, h4⟩ := ob_some h2
    exact ⟨hb, f1, h3, h4⟩
  | true =>
    right
    change (ob (evOne P self f o m) fun r => putNext r.m (evOps P self ops l) (f.put o.dst r.v)) = some x at h2
    obtain ⟨r, h3, h4⟩ := ob_some h2
    obtain ⟨f1, h5, h6⟩ := ob_some h4
    exact ⟨hb, r, f1, h3, h5, h6⟩

theorem evOps_sound (hself : SelfOk P self) {ops : Array Oper} : ∀ (l : List Oper) (f : Fr) (m : Mem) (x : FM), evOps P self ops.toList l f m = some x → Wf m →
    Grow m x.m ∧ ∀ φ M w a Q, Rel φ M w → Sub m M → FrR φ f a → Fresh φ m.next x.m.next → (∀ a' w' φ' M', Good φ M w m x.m φ' M' w' → FrR φ' x.f a' → Q .normal a' w') → wpList P ops Q l a w
  | [], f, m, x, h, hw => by
    cases h
    exact ⟨Grow.refl hw, fun φ M w a Q hR hs hf _ hQ => hQ a w φ M (Good.refl hR hs) hf⟩
  | o :: l, f, m, x, h, hw => by
    rcases evOps_cons h with ⟨hwant, f1, h1, h2⟩ | ⟨hwant, r, f1, h1, h2, h3⟩
    · obtain ⟨g1, g2⟩ := evOps_sound hself l f1 m x h2 hw
      refine ⟨g1, fun φ M w a Q hR hs hf hfr hQ => wpList_step fun K hK => ?_⟩
      rw [wantedA_sound (φ := φ) hwant (fun _ _ _ d v _ _ _ hv => hf.get d v hv)]
      exact hK _ _ (g2 φ M w _ Q hR hs (hf.put h1 VR.undef) hfr hQ)
    · have hp := evOne_pure hself h1 hw
      obtain ⟨g1, g2⟩ := evOps_sound hself l f1 r.m x h3 hp.ext.wf
      refine ⟨Grow.trans ⟨hp.ext, hp.low⟩ g1, fun φ M w a Q hR hs hf hfr hQ => wpList_step fun K hK => ?_⟩
      rw [wantedA_sound (φ := φ) hwant (fun _ _ _ d v _ _ _ hv => hf.get d v hv)]
      refine evOne_seq hself h1 hw hR hs hf (hfr.left g1.ext.next) fun v' w' φ' M' hg hv => hK _ _ ?_
      refine g2 φ' M' w' _ Q hg.rel hg.sub ((hf.mono hg.le).put h2 hv) (hg.fresh hp.ext hfr) fun a' w'' φ'' M'' hg' hf' => ?_
      exact hQ a' w'' φ'' M'' (Good.trans hp.ext g1.ext g1.low hg hg') hf'

/-- What the evaluator says of code. -/
def SoundC (P : Program) (c : Code) (f : Fr) (m : Mem) (e : Exit) (f' : Fr) (m' : Mem) : Prop :=
  Grow m m' ∧ ∀ φ M w a, Rel φ M w → Sub m M → FrR φ f a → Fresh φ m.next m'.next → c.wp P (CPost φ M w m e f' m') a w
theorem self_code (hself : SelfOk P self) {c : Code} {out : Out} (h : self (.code c f m) = some out) (hw : Wf m) : ∃ e f' m', out = .code e f' m' ∧ SoundC P c f m e f' m' := by
  have := hself _ _ h
  cases out with
  | code e f' m' => obtain ⟨h1, h2, h3⟩ := this hw; exact ⟨e, f', m', rfl, ⟨h1, h2⟩, h3⟩
  | call v m' => exact this.elim

/-- One step behind another. -/
theorem SoundC.seq {c d : Code} {f1 f2 : Fr} {m1 m2 : Mem} {e : Exit} (h1 : SoundC P c f m .normal f1 m1) (h2 : SoundC P d f1 m1 e f2 m2) : SoundC P (.seq c d) f m e f2 m2 := by
  refine ⟨h1.1.trans h2.1, fun φ M w a hR hs hf hfr => wp_seq (wp_mono (h1.2 φ M w a hR hs hf (hfr.left h2.1.ext.next)) ?_)⟩
  rintro e' a' w' ⟨rfl, φ', M', hg, hf'⟩
  refine wp_mono (h2.2 φ' M' w' a' hg.rel hg.sub hf' (hg.fresh h1.1.ext hfr)) ?_
  rintro e' a'' w'' ⟨rfl, φ'', M'', hg', hf''⟩
  exact ⟨rfl, φ'', M'', Good.trans h1.1.ext h2.1.ext h2.1.low hg hg', hf''⟩
theorem then_other {e : Exit} {K : Act → World → Prop} {Q : Exit → Act → World → Prop} {a : Act} {w : World} (he : e ≠ .normal) (h : Q e a w) : Exit.then K Q e a w := by
  cases e <;> first | exact absurd rfl he | exact h

theorem evLoop_succ {c : Code} {n : Nat} {out : Out} (h : evLoop self c (n + 1) f m = some out) :
    (∃ f1 m1, self (.code c f m) = some (.code .normal f1 m1) ∧ evLoop self c n f1 m1 = some out) ∨ (self (.code c f m) = some out ∧ ∀ f1 m1, out ≠ .code .normal f1 m1) := by
  change ob (self (.code c f m)) (again (evLoop self c n)) = some out at h
  obtain ⟨o1, h1, h2⟩ := ob_some h
  unfold again at h2
  split at h2
  · rename_i f1 m1; exact .inl ⟨f1, m1, h1, h2⟩
  · rename_i hne; cases h2; exact .inr ⟨h1, fun f1 m1 e => hne f1 m1 e⟩
theorem evLoop_sound (hself : SelfOk P self) {c : Code} : ∀ (n : Nat) (f : Fr) (m : Mem) (out : Out), evLoop self c n f m = some out → Wf m → ∃ e f' m', out = .code e f' m' ∧ Grow m m' ∧
    ∀ φ M w a Q, Rel φ M w → Sub m M → FrR φ f a → Fresh φ m.next m'.next → (∀ a' w' φ' M', Good φ M w m m' φ' M' w' → FrR φ' f' a' → Q e a' w') → Code.rounds P c Q n a w
  | 0, f, m, out, h, hw => by cases h
  | n + 1, f, m, out, h, hw => by
    rcases evLoop_succ h with ⟨f1, m1, h1, h2⟩ | ⟨h1, hne⟩
    · obtain ⟨e0, f0, m0, he, hs1⟩ := self_code hself h1 hw
      cases he
      obtain ⟨e, f', m', rfl, hg2, hs2⟩ := evLoop_sound hself n f1 m1 out h2 hs1.1.ext.wf
      refine ⟨e, f', m', rfl, hs1.1.trans hg2, fun φ M w a Q hR hs hf hfr hQ => ?_⟩
      rw [rounds_succ]
      refine wp_mono (hs1.2 φ M w a hR hs hf (hfr.left hg2.ext.next)) ?_
      rintro e' a' w' ⟨rfl, φ', M', hg, hf'⟩
      exact hs2 φ' M' w' a' Q hg.rel hg.sub hf' (hg.fresh hs1.1.ext hfr) fun a'' w'' φ'' M'' hg' hf'' => hQ a'' w'' φ'' M'' (Good.trans hs1.1.ext hg2.ext hg2.low hg hg') hf''
    · obtain ⟨e, f', m', rfl, hs1⟩ := self_code hself h1 hw
      refine ⟨e, f', m', rfl, hs1.1, fun φ M w a Q hR hs hf hfr hQ => ?_⟩
      rw [rounds_succ]
      refine wp_mono (hs1.2 φ M w a hR hs hf hfr) ?_
      rintro e' a' w' ⟨rfl, φ', M', hg, hf'⟩
      exact then_other (by intro q; subst q; exact hne f' m' rfl) (hQ a' w' φ' M' hg hf')

/-- The results of a function. -/
theorem resA_sound (hR : Rel φ M w) (hs : Sub m M) (hf : FrR φ f a) : ∀ {l : List ResultVar} {vs : List Value}, resA P m f l = some vs →
    ∃ vs', VRL φ vs vs' ∧ (l.mapM (fun (x : ResultVar) => match x with
      | .tmp t => pure (a.tmps.getD t undef)
      | .cell ad t => do loadVar t (← asAddr (a.tmps.getD ad undef))) : Sem (List Value)).run P w = .ok vs' w
  | [], vs, h => by cases h; exact ⟨[], .nil, rfl⟩
  | .tmp t :: l, vs, h => by
    unfold resA at h
    split at h
    · rename_i v r hv hr
      cases h
      obtain ⟨vs', e1, e2⟩ := resA_sound hR hs hf hr
      refine ⟨a.tmps.getD t undef :: vs', .cons (hf.get t v hv) e1, ?_⟩
      simp only [List.mapM_cons, Sem.run_bind, Sem.run_pure, Result.andThen_ok, e2]
    · cases h
  | .cell ad t :: l, vs, h => by
    unfold resA at h
    split at h
    · rename_i adr r hv hr
      split at h
      · rename_i v hl
        cases h
        obtain ⟨vs', e1, e2⟩ := resA_sound hR hs hf hr
        obtain ⟨a', u, q1, q2, q3⟩ := loadA_run hl hR (fun b => hs adr.block b) (hf.get ad _ hv)
        refine ⟨u :: vs', .cons q3 e1, ?_⟩
        have hA : (asAddr (a.tmps.getD ad undef)).run P w = .ok a' w := by rw [q1]; rfl
        simp only [List.mapM_cons, Sem.run_bind, hA, Sem.run_pure, Result.andThen_ok, q2, e2]
      · cases h
    · cases h
theorem results_sound {fn : Func} (hR : Rel φ M w) (hs : Sub m M) (hf : FrR φ f a) {vs : List Value} (h : resA P m f fn.results.toList = some vs) :
    ∃ v', (results fn a.tmps).run P w = .ok v' w ∧ VR φ (oneOrTuple vs) v' := by
  obtain ⟨vs', e1, e2⟩ := resA_sound hR hs hf h
  have hrun : (fn.results.mapM (fun (x : ResultVar) => match x with
      | .tmp t => pure (a.tmps.getD t undef)
      | .cell ad t => do loadVar t (← asAddr (a.tmps.getD ad undef))) : Sem (Array Value)).run P w = .ok vs'.toArray w := by
    rw [Array.mapM_eq_mapM_toList, Sem.run_map, e2]
    rfl
  refine ⟨if h : vs'.toArray.size = 1 then vs'.toArray[0] else .tuple vs'.toArray, ?_, ?_⟩
  · unfold results
    rw [Sem.run_bind]
    erw [hrun]
    rfl
  · have hlen := e1.length
    unfold oneOrTuple
    split
    · rename_i v
      obtain ⟨v', rfl, q⟩ := vrl_one e1
      simpa using q
    · rename_i hne
      rw [dif_neg]
      · exact VR.tuple e1
      · intro hq
        simp at hq
        rw [hq] at hlen
        match vs, hlen, hne with
        | [v], _, hne => exact hne v rfl

/-- The program's functions: none is the model's own count of goroutines. -/
def NoNum (P : Program) : Prop := ∀ (g : FuncId) (fn : Func), P.funcs[g]? = some fn → fn.body.isSome = true → (fn.name == "runtime.NumGoroutine") = false

theorem enter_frame {args args' : List Value} (h : VRL φ args args') (n : Nat) :
    FrR φ ⟨Nat.max args.length n, tOf args⟩ { tmps := args'.toArray ++ Array.replicate (n - args'.toArray.size) undef, defers := [] } := by
  have hl := h.length
  refine ⟨by show _ = max args.length n; simp; omega, rfl, fun t v hv => ?_⟩
  obtain ⟨v', h1, h2⟩ := h.get (tOf_get hv)
  have hlt : t < args'.length := by
    rcases Nat.lt_or_ge t args'.length with q | q
    · exact q
    · rw [List.getElem?_eq_none q] at h1; cases h1
  have : (args'.toArray ++ Array.replicate (n - args'.toArray.size) undef).getD t undef = v' := by
    rw [Array.getD_eq_getD_getElem?, Array.getElem?_append_left (by simpa using hlt)]
    simp [h1]
  rw [this]
  exact h2

theorem callFunc_enter (hn : NoNum P) {g : FuncId} {fn : Func} {c : Code} (hg : P.funcs[g]? = some fn) (hb : fn.body = some c) (args : Array Value) (w : World) : (callFunc g args).run P w = .ok (.enter g args) w := by
  have h1 := hn g fn hg (by rw [hb]; rfl)
  have h2 : ¬ (fn.name = "runtime.NumGoroutine") := by simpa using h1
  simp [callFunc, program, Sem.run, hg, hb, h2]

/-- A call of a function with a body. -/
theorem enterFn_sound (hn : NoNum P) (hself : SelfOk P self) {g : FuncId} {fn : Func} {args : List Value} {out : Out} (hg : P.funcs[g]? = some fn) (h : enterFn P self args m fn = some out) : SoundT P (.call g args m) out := by
  unfold enterFn at h
  obtain ⟨c, hc, h2⟩ := ob_some h
  unfold enterBody at h2
  rw [forceN_eq, T.strict_eq] at h2
  obtain ⟨o1, h3, h4⟩ := ob_some h2
  clear h h2
  have hleave : ∀ (f1 : Fr) (m1 : Mem) (e : Exit), (e = .normal ∨ e = .ret) → o1 = .code e f1 m1 → leaveFn P m fn.results.toList f1 m1 = some out → SoundT P (.call g args m) out := by
    intro f1 m1 e he ho h5
    subst ho
    unfold leaveFn at h5
    obtain ⟨vs, hvs, h6⟩ := ob_some h5
    cases h6
    have hwf : Wf m → Wf (enterM m) := fun h => h
    -- the post of the body
    have key : Wf m → Grow (enterM m) m1 ∧ ∀ φ M w args', Rel φ M w → Sub m M → VRL φ args args' → Fresh φ m.next m1.next →
        Calls P g args'.toArray w (fun e w' => ∃ v', e = .returned v' ∧ ∃ φ' M', Good φ M w (enterM m) m1 φ' M' w' ∧ VR φ' (oneOrTuple vs) v') := by
      intro hw
      obtain ⟨e0, f0, m0, heq, hs1⟩ := self_code hself h3 (hwf hw)
      cases heq
      refine ⟨hs1.1, fun φ M w args' hR hs hv hfr => calls_of_wp hg hc ?_⟩
      refine wp_mono (hs1.2 φ M w _ hR hs (enter_frame hv fn.ntmps) hfr) ?_
      rintro e' a' w' ⟨rfl, φ', M', hgd, hf'⟩
      obtain ⟨v', r1, r2⟩ := results_sound hgd.rel hgd.sub hf' hvs
      rcases he with rfl | rfl
      · exact ⟨hf'.defers, v', r1, v', rfl, φ', M', hgd, r2⟩
      · exact ⟨hf'.defers, v', r1, v', rfl, φ', M', hgd, r2⟩
    unfold leave
    rw [iteB_eq]
    split
    · rename_i hcond
      simp only [Bool.and_eq_true] at hcond
      have hlow := Nat.le_of_ble_eq_true hcond.1
      intro hw
      obtain ⟨k1, k2⟩ := key hw
      refine ⟨⟨k1.ext.next, fun i b hb => .inl ⟨b, hb⟩, fun i b _ _ hb => hb, fun i b hb => Nat.lt_of_lt_of_le (hw i b hb) k1.ext.next⟩, fun φ M w args' hR hs hv hfr => .inl ⟨callFunc_enter hn hg hc _ _, ?_⟩⟩
      refine (k2 φ M w args' hR hs hv hfr).mono ?_
      rintro e' w' ⟨v', rfl, φ', M', hgd, hvr⟩
      have hfr' : ∀ i, ¬ (m.next ≤ i ∧ i < m1.next) → (m.b.get i = none ∨ i < m1.low) → M' i = M i := hgd.frame
      refine ⟨v', rfl, φ', M', ⟨hgd.le, hgd.out, hgd.rel, fun i b hb => ?_, hfr', hgd.wg⟩, hvr⟩
      have hi := hw i b hb
      rw [hfr' i (fun q => by omega) (.inr (Nat.lt_of_lt_of_le hi hlow))]
      exact hs i b hb
    · intro hw
      obtain ⟨k1, k2⟩ := key hw
      refine ⟨⟨k1.ext.next, k1.ext.dom, k1.ext.old, k1.ext.wf⟩, fun φ M w args' hR hs hv hfr => .inl ⟨callFunc_enter hn hg hc _ _, ?_⟩⟩
      refine (k2 φ M w args' hR hs hv hfr).mono ?_
      rintro e' w' ⟨v', rfl, φ', M', hgd, hvr⟩
      exact ⟨v', rfl, φ', M', ⟨hgd.le, hgd.out, hgd.rel, hgd.sub, hgd.frame, hgd.wg⟩, hvr⟩
  unfold endFn at h4
  split at h4
  · rename_i f1 m1; exact hleave f1 m1 .normal (.inl rfl) rfl h4
  · rename_i f1 m1; exact hleave f1 m1 .ret (.inr rfl) rfl h4
  · cases h4
end
end Ev
end Go.Proofs.Ytlfojfndkcmfnaa
