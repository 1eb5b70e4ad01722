/- The region that brings a number into range: at = Within(at, len(l)). -/
import Derived.Test.YtegpikhfnhcjaaaGreatRvW
import Derived.Test.YtegpikhfnhcjaaaGreatWith
namespace Go.Proofs.YtegpikhfnhcjaaaGreat
namespace Ev
open Go Go.RowKit

/-- As Fr.put, the value left as it is (it may not be known). -/
noncomputable def put0 (f : Fr) (d : Nat) (v : Value) : Option Fr := iteB (Nat.blt d f.n) (T.strict (T.set LV f.t d (some v)) fun t => some ⟨f.n, t⟩) none
theorem put0_put {f f' : Fr} {d : Nat} {v : Value} (h : put0 f d v = some f') : f.put (some d) v = some f' := by
  unfold put0 at h
  obtain ⟨h1, h2⟩ := iteB_some h
  obtain ⟨n, t⟩ := f
  show iteB (Nat.blt d n) (Fr.set1 n t d v) none = some f'
  unfold Fr.set1
  rw [force_eq, show Nat.blt d n = true from h1]
  exact h2
noncomputable def putAll (l : List (Nat × Value)) : Fr → Option Fr := List.rec (fun f => some f) (fun x _ ih f => ob (put0 f x.1 x.2) ih) l

section
variable {P : Program} {φ : Phi} {f f' : Fr} {a : Act}
theorem FrR.tmp {t : Nat} {v : Value} (h : FrR φ f a) (ht : f.t.get t = some v) : VR φ v (a.eval (.tmp t)) := h.get t v ht
end

theorem eval_put_ne {a : Act} {d t : Nat} {v : Value} (h : t ≠ d) : (a.put (some d) v).eval (.tmp t) = a.eval (.tmp t) := by
  simp only [Act.put, Act.eval]
  have hne : d ≠ t := fun q => h q.symm
  simp [hne]
theorem eval_put_eq {a : Act} {d : Nat} {v : Value} (h : d < a.tmps.size) : (a.put (some d) v).eval (.tmp d) = v := by
  simp only [Act.put, Act.eval]
  simp [h]
theorem put_lt {φ : Phi} {f f' : Fr} {a : Act} {d : Nat} {v : Value} (hf : FrR φ f a) (h : f.put (some d) v = some f') : d < a.tmps.size := by
  rcases put_some h with ⟨hd, _⟩ | ⟨k, hk, h1, _, _⟩
  · cases hd
  · cases hk; rw [hf.size]; exact h1

/-- A list of operations without 'defer', behind the fence. -/
theorem wpListIn_of {P : Program} {r : Option Nat} {ops : Array Oper} {Q : Exit → Act → World → Prop} : ∀ {l : List Oper} {a : Act} {w : World}, (¬ LetsOut Q) → (∀ o ∈ l, ∀ c, o.op ≠ .defer c) → wpList P ops Q l a w → wpListIn (wr r) 0 P ops Q l a w
  | [], _, _, _, _, h => h
  | o :: l, a, w, hQ, hd, h => by
    unfold wpList at h
    unfold wpListIn
    split
    · rename_i hw
      rw [if_pos hw] at h
      exact Oper.wpIn_mono (fun a w q => wpListIn_of hQ (fun o ho => hd o (List.mem_cons_of_mem _ ho)) q) (opIn (hd o (List.mem_cons_self ..)) (h.resolve_right fun q => hQ q.2))
    · rename_i hw
      rw [if_neg hw] at h
      exact ⟨fun _ _ => trivial, wpListIn_of hQ (fun o ho => hd o (List.mem_cons_of_mem _ ho)) h⟩

theorem within_region {id : Nat} {o1 o2 o3 o4 o5 : Oper} {f f' : Fr} {m : Mem} {at' k : Int} {A : Addr} {n c : Nat} {i6 t1 t2 t3 t4 : Nat}
    (e1 : o1.op = .move (.tmp 0) ∧ o1.dst = some t1 ∧ o1.guard = none)
    (e2 : o2.op = .move (.tmp i6) ∧ o2.dst = some t2 ∧ o2.guard = none)
    (e3 : o3.op = .call { callee := .builtin .len, args := #[.tmp t2], argTypes := #[38] } ∧ o3.dst = some t3 ∧ o3.guard = none)
    (e4 : o4.op = .call { callee := .value (.func 41), args := #[.tmp t1, .tmp t3], argTypes := #[3, 3] } ∧ o4.dst = some t4 ∧ o4.guard = none)
    (e5 : o5.op = .assign (.tmp t4) ∧ o5.dst = some 0 ∧ o5.guard = none)
    (hne : (t1 ≠ t2 ∧ t1 ≠ t3 ∧ i6 ≠ t1 ∧ t2 ≠ t1)) (h0 : f.t.get 0 = some (.int .i64 at')) (h6 : f.t.get i6 = some (.slice (some A) n c)) (hat : I64 at') (hn : n ≤ 1000) (hk : withinZ at' n = k)
    (hput : putAll [(t1, .int .i64 at'), (t2, .slice (some A) n c), (t3, .int .i64 n), (t4, .int .i64 k), (0, .int .i64 k)] f = some f') (hw : Wf m) :
    SoundC Tryz.prog (.region id #[o1, o2, o3, o4, o5] false) f m .normal f' m := by
  refine ⟨Grow.refl hw, fun φ M w a r _ hR hs hf _ => wpIn_region_list (wpListIn_of (fun ⟨_, _, q⟩ => by cases q.1) (fun o ho c => ?_) ?_)⟩
  · simp only [List.mem_cons, List.not_mem_nil, or_false] at ho
    rcases ho with rfl | rfl | rfl | rfl | rfl
    · rw [e1.1]; simp
    · rw [e2.1]; simp
    · rw [e3.1]; simp
    · rw [e4.1]; simp
    · rw [e5.1]; simp
  obtain ⟨f1, p1, q⟩ := ob_some hput
  obtain ⟨f2, p2, q⟩ := ob_some q
  obtain ⟨f3, p3, q⟩ := ob_some q
  obtain ⟨f4, p4, q⟩ := ob_some q
  obtain ⟨f5, p5, q⟩ := ob_some q
  cases q
  replace p1 := put0_put p1
  replace p2 := put0_put p2
  replace p3 := put0_put p3
  replace p4 := put0_put p4
  replace p5 := put0_put p5
  obtain ⟨x1, d1, g1⟩ := e1
  obtain ⟨x2, d2, g2⟩ := e2
  obtain ⟨x3, d3, g3⟩ := e3
  obtain ⟨x4, d4, g4⟩ := e4
  obtain ⟨x5, d5, g5⟩ := e5
  have ha0 : a.eval (.tmp 0) = .int .i64 at' := (hf.tmp h0).eq_simple rfl
  have hf1 : FrR φ f1 (a.put (some t1) (.int .i64 at')) := hf.put p1 (.simple rfl)
  refine wpList_plain g1 fun K hK => ?_
  have r1 : (execOp a.eval o1).run Tryz.prog w = .ok (.value (.int .i64 at')) w := by
    rw [← ha0]; simp only [execOp, x1]; rfl
  rw [Oper.wp, r1, Oper.upon_value, d1]
  apply hK
  obtain ⟨A', c', hv6, hvr6⟩ : ∃ A' c', a.eval (.tmp i6) = .slice (some A') n c' ∧ VR φ (.slice (some A) n c) (.slice (some A') n c') := by
    have hv := hf.tmp h6
    obtain ⟨lc, A', c', k1, k2, k3, k4, k5, k6, k7⟩ := hv.slice_inv
    exact ⟨A', c', k3, k3 ▸ hv⟩
  obtain ⟨n1, n2, n3, n4⟩ := hne
  have hf2 := hf1.put p2 hvr6
  have hf3 := hf2.put p3 (VR.simple (v := .int .i64 n) rfl)
  have hf4 := hf3.put p4 (VR.simple (v := .int .i64 k) rfl)
  have hf5 := hf4.put p5 (VR.simple (v := .int .i64 k) rfl)
  refine wpList_plain g2 fun K hK => ?_
  have r2 : (execOp (a.put (some t1) (.int .i64 at')).eval o2).run Tryz.prog w = .ok (.value (.slice (some A') n c')) w := by
    rw [← hv6, ← eval_put_ne (a := a) (v := .int .i64 at') n3]; simp only [execOp, x2]; rfl
  rw [Oper.wp, r2, Oper.upon_value, d2]
  apply hK
  refine wpList_plain g3 fun K hK => ?_
  have r3 : (execOp ((a.put (some t1) (.int .i64 at')).put (some t2) (.slice (some A') n c')).eval o3).run Tryz.prog w = .ok (.value (.int .i64 n)) w := by
    have := eval_put_eq (a := a.put (some t1) (.int .i64 at')) (v := .slice (some A') n c') (put_lt hf1 p2)
    have hlt := put_lt hf1 p2
    rw [show (a.put (some t1) (.int .i64 at')).tmps.size = a.tmps.size by simp [Act.put]] at hlt
    simp [go_sem, execOp, x3, hlt]
  rw [Oper.wp, r3, Oper.upon_value, d3]
  apply hK
  refine wpList_plain g4 fun K hK => ?_
  have v1 : (((a.put (some t1) (.int .i64 at')).put (some t2) (.slice (some A') n c')).put (some t3) (.int .i64 n)).eval (.tmp t1) = .int .i64 at' := by
    rw [eval_put_ne n2, eval_put_ne n1, eval_put_eq (put_lt hf p1)]
  have v3 : (((a.put (some t1) (.int .i64 at')).put (some t2) (.slice (some A') n c')).put (some t3) (.int .i64 n)).eval (.tmp t3) = .int .i64 n := eval_put_eq (put_lt hf2 p3)
  have v4 : ((((a.put (some t1) (.int .i64 at')).put (some t2) (.slice (some A') n c')).put (some t3) (.int .i64 n)).put (some t4) (.int .i64 k)).eval (.tmp t4) = .int .i64 k := eval_put_eq (put_lt hf3 p4)
  have hd3 : (((a.put (some t1) (.int .i64 at')).put (some t2) (.slice (some A') n c')).put (some t3) (.int .i64 n)).defers = a.defers := by simp only [Act.put_defers]
  revert hf3 hf4 hf5 hK v1 v3 v4 hd3
  generalize ((a.put (some t1) (.int .i64 at')).put (some t2) (.slice (some A') n c')).put (some t3) (.int .i64 n) = a3
  intro hf3 hf4 hf5 hK v1 v3 v4 hd3
  have r4 : (execOp a3.eval o4).run Tryz.prog w = .ok (.enter 41 #[.int .i64 at', .int .i64 n]) w := by
    have h1 : a3.tmps.getD t1 undef = .int .i64 at' := v1
    have h3 : a3.tmps.getD t3 undef = .int .i64 n := v3
    simp [go_sem, execOp, x4, h1, h3]
  rw [Oper.wp, r4, Oper.upon_enter]
  refine (Within_any at' n w hat (by unfold I64; omega)).mono ?_
  rintro e w' ⟨rfl, rfl⟩
  show K (a3.put o4.dst (.int .i64 (withinZ at' n))) w'
  rw [hk, d4]
  apply hK
  refine wpList_plain g5 fun K hK => ?_
  have r5 : (execOp (a3.put (some t4) (.int .i64 k)).eval o5).run Tryz.prog w' = .ok (.value (.int .i64 k)) w' := by
    simp only [execOp, x5]; rw [v4]; rfl
  rw [Oper.wp, r5, Oper.upon_value, d5]
  apply hK
  exact wpList_nil ⟨rfl, φ, M, Good.refl hR hs, hf5, Df.same (by simp only [Act.put_defers]; exact hd3)⟩
end Ev
end Go.Proofs.YtegpikhfnhcjaaaGreat
