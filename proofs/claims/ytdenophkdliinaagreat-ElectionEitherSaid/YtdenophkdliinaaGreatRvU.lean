/- A region that begins with Within(x, c), x not known. -/
import Derived.Test.YtdenophkdliinaaGreatRvV
namespace Go.Proofs.YtdenophkdliinaaGreat
namespace Ev
open Go Go.RowKit

theorem within2 {self : Task → Option Out} (hself : SelfOk Tryz.prog self) {id : Nat} {o1 o2 : Oper} {l2 : List Oper} {f f' : Fr} {m : Mem} {at' k : Int} {i t1 t2 c : Nat} {ats : Array TypeId} {x : FM}
    (e1 : o1.op = .move (.tmp i) ∧ o1.dst = some t1 ∧ o1.guard = none)
    (e2 : o2.op = .call { callee := .value (.func 4), args := #[.tmp t1, .const (.int .i64 c)], argTypes := ats } ∧ o2.dst = some t2 ∧ o2.guard = none)
    (h0 : f.t.get i = some (.int .i64 at')) (hat : I64 at') (hc : c ≤ 1000) (hk : withinZ at' c = k)
    (hput : putAll [(t1, .int .i64 at'), (t2, .int .i64 k)] f = some f') (hl2 : evOps Tryz.prog self (o1 :: o2 :: l2) l2 f' m = some x) (hw : Wf m) :
    SoundC Tryz.prog (.region id (o1 :: o2 :: l2).toArray false) f m .normal x.f x.m := by
  have hall := fun rr => evOps_sound (rr := rr) hself (ops := (o1 :: o2 :: l2).toArray) l2 f' m x hl2 hw
  refine ⟨(hall none).1, fun φ M w a r _ hR hs hf hfr => wpIn_region_list ?_⟩
  obtain ⟨f1, p1, q⟩ := ob_some hput
  obtain ⟨f2, p2, q⟩ := ob_some q
  cases q
  replace p1 := put0_put p1
  replace p2 := put0_put p2
  obtain ⟨x1, d1, g1⟩ := e1
  obtain ⟨x2, d2, g2⟩ := e2
  have ha0 : a.eval (.tmp i) = .int .i64 at' := (hf.tmp h0).eq_simple rfl
  have hf1 : FrR φ f1 (a.put (some t1) (.int .i64 at')) := hf.put p1 (.simple rfl)
  have hf2 := hf1.put p2 (VR.simple (v := .int .i64 k) rfl)
  refine wpListIn_plain g1 fun K hK => opIn (by rw [x1]; simp) ?_
  have r1 : (execOp a.eval o1).run Tryz.prog w = .ok (.value (.int .i64 at')) w := by
    rw [← ha0]; simp only [execOp, x1]; rfl
  rw [Oper.wp, r1, Oper.upon_value, d1]
  apply hK
  refine wpListIn_plain g2 fun K hK => opIn (by rw [x2]; simp) ?_
  have v1 : (a.put (some t1) (.int .i64 at')).eval (.tmp t1) = .int .i64 at' := eval_put_eq (put_lt hf p1)
  have hd1 : (a.put (some t1) (.int .i64 at')).defers = a.defers := Act.put_defers _ _ _
  revert hf1 hf2 hK v1 hd1
  generalize a.put (some t1) (.int .i64 at') = a1
  intro hf1 hf2 hK v1 hd1
  have r2 : (execOp a1.eval o2).run Tryz.prog w = .ok (.enter 4 #[.int .i64 at', .int .i64 c]) w := by
    have h1 : a1.tmps.getD t1 undef = .int .i64 at' := v1
    simp [go_sem, execOp, x2, h1]
  rw [Oper.wp, r2, Oper.upon_enter]
  refine (Within_any at' c w hat (by unfold I64; omega)).mono ?_
  rintro e w' ⟨rfl, rfl⟩
  show K (a1.put o2.dst (.int .i64 (withinZ at' c))) w'
  rw [hk, d2]
  apply hK
  exact (hall r).2 φ M w' _ _ hR hs hf2 hfr fun a' w'' φ' M' hgd hf' hd => ⟨rfl, φ', M', hgd, hf', Df.same (hd.trans ((Act.put_defers _ _ _).trans hd1))⟩
end Ev
end Go.Proofs.YtdenophkdliinaaGreat
