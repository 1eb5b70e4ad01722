/- Lemmas, joined: LdD LdE LdF. -/
import Derived.Test.YtlfojfndkcmfnaaPkLe19
import Derived.Test.YtlfojfndkcmfnaaPkLe20
import Derived.Test.YtlfojfndkcmfnaaPkLe12
set_option linter.unusedSimpArgs false
set_option linter.unusedVariables false
namespace Go.Proofs.Ytlfojfndkcmfnaa
open Go
def leadVars : List VarR := [⟨⟨#[108, 101, 97, 100]⟩, 1, 0, 0, 0, 1⟩, ⟨⟨#[100]⟩, 1, 0, -1, 1, 0⟩, ⟨⟨#[112]⟩, 3, 0, 0, 0, 0⟩]
/-- What the specification asks. -/
def leadRefB (g : Gr) (c : Conf) : Bool := connB g && (refConfB g c leadVars && ((List.range c.length).all (fun v => decide ((c.getD v []).getD 0 0 = g.ids.getD (leastI g.ids) 0)) && treeB g (distL g (leastI g.ids)) c 1 2))
namespace Sh
open Ev Go.RowKit
set_option maxRecDepth 8000
theorem vars_at {G : AM} {m : Mem} {φ : Phi} {M : AM} {w : World} {u u' : Value} {l : List VarR} (hG : Le G m.b.get) (hr : RV G om0 (varsV l) u) (hv : VR φ u u') (hR : Rel φ M w) (hs : Sub m M) : VarsAt w u' l := by
  refine sl_at hG hr hv hR hs rfl fun k x b o L L' hx hL hL' hc => ?_
  have hxe : l.getD k default = x := by simp [List.getD, hx]
  rw [hxe] at hL
  obtain ⟨L2, rfl, h1⟩ : ∃ L2, L = L2 ∧ RVL G om0 (varC x) L2 := ⟨L, rfl, hL⟩
  cases h1 with
  | cons a b => cases b with
    | cons a2 b2 => cases b2 with
      | cons a3 b3 => cases b3 with
        | cons a4 b4 => cases b4 with
          | cons a5 b5 => cases b5 with
            | cons a6 b6 =>
              cases b6
              cases a2.int_inv
              cases a3.int_inv
              cases a4.int_inv
              cases a5.int_inv
              cases a6.int_inv
              cases a
              cases hL' with
              | cons p1 q1 => cases q1 with
                | cons p2 q2 => cases q2 with
                  | cons p3 q3 => cases q3 with
                    | cons p4 q4 => cases q4 with
                      | cons p5 q5 => cases q5 with
                        | cons p6 q6 =>
                          cases q6
                          have e1 := p1.eq_simple rfl
                          have e2 := p2.eq_simple rfl
                          have e3 := p3.eq_simple rfl
                          have e4 := p4.eq_simple rfl
                          have e5 := p5.eq_simple rfl
                          have e6 := p6.eq_simple rfl
                          subst e1 e2 e3 e4 e5 e6
                          exact ⟨hc 0 _ rfl, hc 1 _ rfl, hc 2 _ rfl, hc 3 _ rfl, hc 4 _ rfl, hc 5 _ rfl⟩
theorem RConfig_ret {g : Gr} (hI : GrI g) {c : Conf} (hR : RowsI c) {vars : List VarR} (hf : ∀ x ∈ vars, VarFit x) : Returns Try.prog 43 [grV g, rowsV c, varsV vars] (.b (refConfB g c vars)) := by
  refine ret_of ⟨_, _, Try.func43, rfl⟩ (fun _ => .b) (fun _ => .simple rfl) fun H m us hH hr φ M w us' hRl hs hv => ?_
  obtain ⟨u, us2, rfl, h1, h2⟩ : ∃ u us2, us = u :: us2 ∧ RV H om0 (grV g) u ∧ RVL H om0 [rowsV c, varsV vars] us2 := by
    cases hr with | cons x y => exact ⟨_, _, rfl, x, y⟩
  obtain ⟨u2, u3, rfl, h3, h4⟩ := rvl2 h2
  obtain ⟨u', us3, rfl, h5, h6⟩ : ∃ u' us3, us' = u' :: us3 ∧ VR φ u u' ∧ VRL φ [u2, u3] us3 := by
    cases hv with | cons x y => exact ⟨_, _, rfl, x, y⟩
  obtain ⟨u2', u3', rfl, h7, h8⟩ := vrl_two h6
  exact Config_any u' u2' u3' g c vars w (gr_at hH h1 h5 hRl hs hI) (rows_at hH h3 h7 hRl hs hR) (vars_at hH h4 h8 hRl hs) hf
theorem RTree_ret {g : Gr} (hg : GoodG g) {c : Conf} (hR : RowsI c) {a d p : Nat} (ha : a < g.ports.length) (hn : c.length = g.ports.length) (hl : ∀ (v : Nat) s, c[v]? = some s → d < s.length ∧ p < s.length) :
    Returns Try.prog 45 [grV g, rowsV c, .i .i64 a, .i .i64 d, .i .i64 p] (.b (treeB g (distL g a) c d p)) := by
  refine ret_of ⟨_, _, Try.func45, rfl⟩ (fun _ => .b) (fun _ => .simple rfl) fun H m us hH hr φ M w us' hRl hs hv => ?_
  cases hr with
  | cons x1 y1 => cases y1 with
    | cons x2 y2 => cases y2 with
      | cons x3 y3 => cases y3 with
        | cons x4 y4 => cases y4 with
          | cons x5 y5 =>
            cases y5
            cases x3.int_inv
            cases x4.int_inv
            cases x5.int_inv
            cases hv with
            | cons p1 q1 => cases q1 with
              | cons p2 q2 => cases q2 with
                | cons p3 q3 => cases q3 with
                  | cons p4 q4 => cases q4 with
                    | cons p5 q5 =>
                      cases q5
                      have e3 := p3.eq_simple rfl
                      have e4 := p4.eq_simple rfl
                      have e5 := p5.eq_simple rfl
                      subst e3 e4 e5
                      exact refTree_any _ _ g c a d p w (gr_at hH x1 p1 hRl hs (goodI hg)) (rows_at hH x2 p2 hRl hs hR) hg ha hn hl
theorem RConn_ret {g : Gr} (hI : GrI g) : Returns Try.prog 39 [grV g] (.b (connB g)) := by
  refine ret_of ⟨_, _, Try.func39, rfl⟩ (fun _ => .b) (fun _ => .simple rfl) fun G m us hG hr φ M w us' hRl hs hv => ?_
  obtain ⟨u, rfl, h1⟩ := rvl1 hr
  obtain ⟨u', rfl, h2⟩ := vrl_one hv
  exact refConnected_any u' g w (gr_at hG h1 h2 hRl hs hI)
theorem REcc_ret {g : Gr} (hI : GrI g) {v : Int} (hv64 : I64 v) : Returns Try.prog 47 [grV g, .i .i64 v] (.i .i64 (eccP g v)) := by
  refine ret_of ⟨_, _, Try.func47, rfl⟩ (fun _ => .i) (fun _ => .simple rfl) fun G m us hG hr φ M w us' hRl hs hv => ?_
  obtain ⟨u, v', rfl, h1, h2⟩ := rvl2 hr
  obtain ⟨u', v'', rfl, h3, h4⟩ := vrl_two hv
  cases h2.int_inv
  have e := h4.eq_simple rfl
  subst e
  exact refEccentricity_any u' g v w (gr_at hG h1 h3 hRl hs hI) hv64
theorem rFit_ret {g : Gr} (hI : GrI g) : Returns Try.prog 20 [grV g] (.b (connB g)) := by
  refine Returns.of (c_selfstabref26_Fit_ok _ _ ?_)
  have hC := RConn_ret hI
  simp only [grV] at hC
  simp only [c_selfstabref26_Fit, c_selfstabref26_Fit_r0, c_selfstabref26_Fit_r1, grV, go_sem, ↓gb_t, ↓gb_f, ↓gb2_t, ↓gb2_f, Int.reduceToNat, Nat.reduceEqDiff, Nat.reduceAdd, Nat.reduceLeDiff, Nat.reduceLT, Nat.reduceBEq, Nat.reduceBNe, Nat.reduceMul, ↓reduceIte, reduceCtorEq]
  refine hC.use ?_
  simp only [thenO, sim_b, go_sem, ↓gb_t, ↓gb_f, ↓gb2_t, ↓gb2_f, Int.reduceToNat, Nat.reduceEqDiff, Nat.reduceAdd, Nat.reduceLeDiff, Nat.reduceLT, Nat.reduceBEq, Nat.reduceBNe, Nat.reduceMul, ↓reduceIte, reduceCtorEq]
theorem rLeast_ret {g : Gr} (hg : GoodG g) : Returns Try.prog 57 [grV g] (.i .i64 (leastI g.ids)) := by
  refine Returns.of (c_selfstabref26_Least_ok _ _ ?_)
  have h1 := hg.1
  have h24 := hg.2.1
  have hid := hg.2.2.1
  obtain ⟨n, hn⟩ : ∃ n, g.ids.length = n := ⟨_, rfl⟩
  have hle : leastI g.ids = leastTo g.ids n := by rw [← hn]
  rw [hle]
  simp only [c_selfstabref26_Least, c_selfstabref26_Least_r0, c_selfstabref26_Least_r1, c_selfstabref26_Least_r2, grV, go_sem, ↓gb_t, ↓gb_f, ↓gb2_t, ↓gb2_f, Int.reduceToNat, Nat.reduceEqDiff, Nat.reduceAdd, Nat.reduceLeDiff, Nat.reduceLT, Nat.reduceBEq, Nat.reduceBNe, Nat.reduceMul, ↓reduceIte, reduceCtorEq]
  refine loop_on (σ := Nat) (fun k => ⟨[(4, .i .i64 k), (3, .i .i64 (leastTo g.ids k)), (1, .pt (1, 0) 0 0)], [(1, .one (some ⟨25, true, 2, 1, fun _ => [intsV g.ids, portsV g.ports]⟩))]⟩) (fun k => 1 ≤ k ∧ k ≤ n) (fun k => n - k) 1 ⟨by omega, by omega⟩ ?_ ?_
  · refine weak_all [] [] [] ?_
    simp only [leastTo_one, frzOK, injOK, idxF, famNe, allQ, slotOk, ownFits, own1, ownMatch, Tel, telL, pview_nil, pok_nil, pview_i, pview_b, pview_a, pview_sl, pview_rf, pview_ex, pview_ag, pview_tp, pview_fn, pview_pt, pview_os, pok_i, pok_b, pok_a, pok_sl, pok_rf, pok_ex, pok_ag, pok_tp, pok_fn, pok_pt, pok_os, lv, live, nmem, rid, ren_i, ren_b, ren_a, ren_sl, ren_rf, ren_bad, ren_ag, ren_tp, ren_fn, ren_ex, cln_ex, ren_pt, ren_os, cln_i, cln_b, cln_a, cln_sl, cln_rf, cln_bad, cln_ag, cln_tp, cln_fn, cln_pt, cln_os, List.any_cons, List.any_nil, Option.getD, Option.getD_none, Option.getD_some, Option.isSome, sim_self, sim_i, sim_b, ex_some, or_false, false_or, or_true, true_or, false_and, exists_const, exists_false, List.not_mem_nil, and_false, Int.natCast_zero, go_sem, ↓gb_t, ↓gb_f, ↓gb2_t, ↓gb2_f, Int.reduceToNat, Nat.reduceEqDiff, Nat.reduceAdd, Nat.reduceLeDiff, Nat.reduceLT, Nat.reduceBEq, Nat.reduceBNe, Nat.reduceMul, ↓reduceIte, reduceCtorEq]
    rfl
  · rintro k ⟨hk1, hk⟩
    by_cases hlt : k < n
    · have ht : decide ((k : Int) < (n : Int)) = true := decide_eq_true (by omega)
      have hlk : leastTo g.ids k < k := (leastTo_inv g.ids k hk1 (by omega)).1
      by_cases hsm : g.ids.getD k 0 < g.ids.getD (leastTo g.ids k) 0
      · have ht2 : decide (g.ids.getD k 0 < g.ids.getD (leastTo g.ids k) 0) = true := decide_eq_true hsm
        have hst : leastTo g.ids (k + 1) = k := by show (if _ then _ else _) = _; rw [if_pos hsm]
        simp only [c_selfstabref26_Least_r3, c_selfstabref26_Least_r4, c_selfstabref26_Least_r5, c_selfstabref26_Least_r6, intsV, hn, ht, ht2, clash, go_sem, ↓gb_t, ↓gb_f, ↓gb2_t, ↓gb2_f, Int.reduceToNat, Nat.reduceEqDiff, Nat.reduceAdd, Nat.reduceLeDiff, Nat.reduceLT, Nat.reduceBEq, Nat.reduceBNe, Nat.reduceMul, ↓reduceIte, reduceCtorEq]
        refine ⟨⟨by omega, by omega⟩, ⟨by omega, by omega⟩, ikw (by omega) (by omega), loop_again (k + 1) ⟨by omega, by omega⟩ (by omega) ?_⟩
        refine weak_all [] [] [] ?_
        simp only [intsV, hn, hst, frzOK, injOK, idxF, famNe, allQ, slotOk, ownFits, own1, ownMatch, Tel, telL, pview_nil, pok_nil, pview_i, pview_b, pview_a, pview_sl, pview_rf, pview_ex, pview_ag, pview_tp, pview_fn, pview_pt, pview_os, pok_i, pok_b, pok_a, pok_sl, pok_rf, pok_ex, pok_ag, pok_tp, pok_fn, pok_pt, pok_os, lv, live, nmem, rid, ren_i, ren_b, ren_a, ren_sl, ren_rf, ren_bad, ren_ag, ren_tp, ren_fn, ren_ex, cln_ex, ren_pt, ren_os, cln_i, cln_b, cln_a, cln_sl, cln_rf, cln_bad, cln_ag, cln_tp, cln_fn, cln_pt, cln_os, List.any_cons, List.any_nil, Option.getD, Option.getD_none, Option.getD_some, Option.isSome, sim_self, sim_i, sim_b, ex_some, or_false, false_or, or_true, true_or, false_and, exists_const, exists_false, List.not_mem_nil, and_false, Int.natCast_zero, go_sem, ↓gb_t, ↓gb_f, ↓gb2_t, ↓gb2_f, Int.reduceToNat, Nat.reduceEqDiff, Nat.reduceAdd, Nat.reduceLeDiff, Nat.reduceLT, Nat.reduceBEq, Nat.reduceBNe, Nat.reduceMul, ↓reduceIte, reduceCtorEq]
        omega
      · have ht2 : decide (g.ids.getD k 0 < g.ids.getD (leastTo g.ids k) 0) = false := decide_eq_false hsm
        have hst : leastTo g.ids (k + 1) = leastTo g.ids k := by show (if _ then _ else _) = _; rw [if_neg hsm]
        simp only [c_selfstabref26_Least_r3, c_selfstabref26_Least_r4, c_selfstabref26_Least_r5, c_selfstabref26_Least_r6, intsV, hn, ht, ht2, clash, go_sem, ↓gb_t, ↓gb_f, ↓gb2_t, ↓gb2_f, Int.reduceToNat, Nat.reduceEqDiff, Nat.reduceAdd, Nat.reduceLeDiff, Nat.reduceLT, Nat.reduceBEq, Nat.reduceBNe, Nat.reduceMul, ↓reduceIte, reduceCtorEq]
        refine ⟨⟨by omega, by omega⟩, ⟨by omega, by omega⟩, ikw (by omega) (by omega), loop_again (k + 1) ⟨by omega, by omega⟩ (by omega) ?_⟩
        refine weak_all [] [] [] ?_
        simp only [intsV, hn, hst, frzOK, injOK, idxF, famNe, allQ, slotOk, ownFits, own1, ownMatch, Tel, telL, pview_nil, pok_nil, pview_i, pview_b, pview_a, pview_sl, pview_rf, pview_ex, pview_ag, pview_tp, pview_fn, pview_pt, pview_os, pok_i, pok_b, pok_a, pok_sl, pok_rf, pok_ex, pok_ag, pok_tp, pok_fn, pok_pt, pok_os, lv, live, nmem, rid, ren_i, ren_b, ren_a, ren_sl, ren_rf, ren_bad, ren_ag, ren_tp, ren_fn, ren_ex, cln_ex, ren_pt, ren_os, cln_i, cln_b, cln_a, cln_sl, cln_rf, cln_bad, cln_ag, cln_tp, cln_fn, cln_pt, cln_os, List.any_cons, List.any_nil, Option.getD, Option.getD_none, Option.getD_some, Option.isSome, sim_self, sim_i, sim_b, ex_some, or_false, false_or, or_true, true_or, false_and, exists_const, exists_false, List.not_mem_nil, and_false, Int.natCast_zero, go_sem, ↓gb_t, ↓gb_f, ↓gb2_t, ↓gb2_f, Int.reduceToNat, Nat.reduceEqDiff, Nat.reduceAdd, Nat.reduceLeDiff, Nat.reduceLT, Nat.reduceBEq, Nat.reduceBNe, Nat.reduceMul, ↓reduceIte, reduceCtorEq]
        omega
    · obtain rfl : k = n := by omega
      have ht : decide ((k : Int) < (k : Int)) = false := decide_eq_false (by omega)
      simp only [c_selfstabref26_Least_r3, c_selfstabref26_Least_r7, intsV, hn, ht, go_sem, ↓gb_t, ↓gb_f, ↓gb2_t, ↓gb2_f, Int.reduceToNat, Nat.reduceEqDiff, Nat.reduceAdd, Nat.reduceLeDiff, Nat.reduceLT, Nat.reduceBEq, Nat.reduceBNe, Nat.reduceMul, ↓reduceIte, reduceCtorEq]
      exact Sim.refl _
theorem Number_ret (nm : ByteArray) (hi pn pi : Int) : Returns Try.prog 81 [.a (.string nm), .i .i64 hi, .i .i64 pn, .i .i64 pi] (.ag (varC ⟨nm, 1, 0, hi, pn, pi⟩)) := by
  refine Returns.of (c_selfstabref23_Number_ok _ _ ?_)
  simp only [c_selfstabref23_Number, c_selfstabref23_Number_r0, c_selfstabref23_Number_r1, varC, go_sem, ↓gb_t, ↓gb_f, ↓gb2_t, ↓gb2_f, Int.reduceToNat, Nat.reduceEqDiff, Nat.reduceAdd, Nat.reduceLeDiff, Nat.reduceLT, Nat.reduceBEq, Nat.reduceBNe, Nat.reduceMul, ↓reduceIte, reduceCtorEq]
  exact Sim.refl _
theorem Pointer_ret (nm : ByteArray) : Returns Try.prog 82 [.a (.string nm)] (.ag (varC ⟨nm, 3, 0, 0, 0, 0⟩)) := by
  refine Returns.of (c_selfstabref23_Pointer_ok _ _ ?_)
  simp only [c_selfstabref23_Pointer, c_selfstabref23_Pointer_r0, c_selfstabref23_Pointer_r1, varC, go_sem, ↓gb_t, ↓gb_f, ↓gb2_t, ↓gb2_f, Int.reduceToNat, Nat.reduceEqDiff, Nat.reduceAdd, Nat.reduceLeDiff, Nat.reduceLT, Nat.reduceBEq, Nat.reduceBNe, Nat.reduceMul, ↓reduceIte, reduceCtorEq]
  exact Sim.refl _
theorem lVars_ret : Returns Try.prog 56 [] (varsV leadVars) := by
  refine Returns.of (c_selfstabref26_Vars_ok _ _ ?_)
  have h1 := Number_ret ⟨#[108, 101, 97, 100]⟩ 0 0 1
  have h2 := Number_ret ⟨#[100]⟩ (-1) 1 0
  have h3 := Pointer_ret ⟨#[112]⟩
  simp only [varC] at h1 h2 h3
  simp only [c_selfstabref26_Vars, c_selfstabref26_Vars_r0, c_selfstabref26_Vars_r1, clash, go_sem, ↓gb_t, ↓gb_f, ↓gb2_t, ↓gb2_f, Int.reduceToNat, Nat.reduceEqDiff, Nat.reduceAdd, Nat.reduceLeDiff, Nat.reduceLT, Nat.reduceBEq, Nat.reduceBNe, Nat.reduceMul, ↓reduceIte, reduceCtorEq]
  refine h1.use ?_
  simp only [thenO, clash, go_sem, ↓gb_t, ↓gb_f, ↓gb2_t, ↓gb2_f, Int.reduceToNat, Nat.reduceEqDiff, Nat.reduceAdd, Nat.reduceLeDiff, Nat.reduceLT, Nat.reduceBEq, Nat.reduceBNe, Nat.reduceMul, ↓reduceIte, reduceCtorEq]
  refine h2.use ?_
  simp only [thenO, clash, go_sem, ↓gb_t, ↓gb_f, ↓gb2_t, ↓gb2_f, Int.reduceToNat, Nat.reduceEqDiff, Nat.reduceAdd, Nat.reduceLeDiff, Nat.reduceLT, Nat.reduceBEq, Nat.reduceBNe, Nat.reduceMul, ↓reduceIte, reduceCtorEq]
  refine h3.use ?_
  simp only [thenO, splice, clash, go_sem, ↓gb_t, ↓gb_f, ↓gb2_t, ↓gb2_f, Int.reduceToNat, Nat.reduceEqDiff, Nat.reduceAdd, Nat.reduceLeDiff, Nat.reduceLT, Nat.reduceBEq, Nat.reduceBNe, Nat.reduceMul, ↓reduceIte, reduceCtorEq]
  have three : ∀ {q : Nat}, q < 3 → q = 0 ∨ q = 1 ∨ q = 2 := fun {q} h => by omega
  refine ⟨fun q hq => by rcases three hq with rfl | rfl | rfl <;> simp only [go_sem, ↓gb_t, ↓gb_f, ↓gb2_t, ↓gb2_f, Int.reduceToNat, Nat.reduceEqDiff, Nat.reduceAdd, Nat.reduceLeDiff, Nat.reduceLT, Nat.reduceBEq, Nat.reduceBNe, Nat.reduceMul, ↓reduceIte, reduceCtorEq], ?_⟩
  refine sim_sl2 fun q hq => ?_
  rcases three hq with rfl | rfl | rfl <;> (simp only [leadVars, varC, List.getD_cons_zero, List.getD_cons_succ, go_sem, ↓gb_t, ↓gb_f, ↓gb2_t, ↓gb2_f, Int.reduceToNat, Nat.reduceEqDiff, Nat.reduceAdd, Nat.reduceLeDiff, Nat.reduceLT, Nat.reduceBEq, Nat.reduceBNe, Nat.reduceMul, ↓reduceIte, reduceCtorEq]; exact ⟨Sim.refl _, Sim.refl _, Sim.refl _, Sim.refl _, Sim.refl _, Sim.refl _, trivial⟩)
theorem rClaim_ret {g : Gr} (hI : GrI g) : Returns Try.prog 24 [grV g] (leadClaim g) := by
  refine Returns.of (c_selfstabref26_Claim_ok _ _ ?_)
  have hF := rFit_ret hI
  unfold leadClaim
  cases hcn : connB g with
  | false =>
    rw [hcn] at hF
    simp only [grV] at hF
    simp only [c_selfstabref26_Claim, c_selfstabref26_Claim_r0, c_selfstabref26_Claim_r1, c_selfstabref26_Claim_r2, c_selfstabref26_Claim_r3, grV, splice, clmV, clash, go_sem, ↓gb_t, ↓gb_f, ↓gb2_t, ↓gb2_f, Int.reduceToNat, Nat.reduceEqDiff, Nat.reduceAdd, Nat.reduceLeDiff, Nat.reduceLT, Nat.reduceBEq, Nat.reduceBNe, Nat.reduceMul, ↓reduceIte, reduceCtorEq]
    refine hF.use ?_
    simp only [thenO, splice, clmV, clash, go_sem, ↓gb_t, ↓gb_f, ↓gb2_t, ↓gb2_f, Int.reduceToNat, Nat.reduceEqDiff, Nat.reduceAdd, Nat.reduceLeDiff, Nat.reduceLT, Nat.reduceBEq, Nat.reduceBNe, Nat.reduceMul, ↓reduceIte, reduceCtorEq]
    exact Sim.refl _
  | true =>
    have hg := (validB_iff g).1 (connB_valid hcn)
    have h1 := hg.1
    have h24 := hg.2.1
    have hid := hg.2.2.1
    have hlt := leastI_lt hg
    have hU := rLeast_ret hg
    have hE := REcc_ret hI (v := (leastI g.ids : Int)) (i64_small (by omega))
    have hE1 : -1 ≤ eccP g (leastI g.ids) ∧ eccP g (leastI g.ids) ≤ 1000 := by
      unfold eccP
      split
      · exact ⟨greatestP_min _, greatestP_le _ _ (by omega) fun x hx => by
          have := (distL_isDist hg (a := ((leastI g.ids : Nat) : Int).toNat) (by rw [Int.toNat_natCast]; exact leastI_lt hg)).bound hg (by rw [Int.toNat_natCast]; exact leastI_lt hg) x hx
          omega⟩
      · omega
    rw [hcn] at hF
    simp only [grV, intsV, portsV] at hF hU hE
    simp only [c_selfstabref26_Claim, c_selfstabref26_Claim_r0, c_selfstabref26_Claim_r1, c_selfstabref26_Claim_r2, c_selfstabref26_Claim_r3, grV, intsV, portsV, splice, clmV, clash, go_sem, ↓gb_t, ↓gb_f, ↓gb2_t, ↓gb2_f, Int.reduceToNat, Nat.reduceEqDiff, Nat.reduceAdd, Nat.reduceLeDiff, Nat.reduceLT, Nat.reduceBEq, Nat.reduceBNe, Nat.reduceMul, ↓reduceIte, reduceCtorEq]
    refine hF.use ?_
    simp only [thenO, splice, clmV, clash, go_sem, ↓gb_t, ↓gb_f, ↓gb2_t, ↓gb2_f, Int.reduceToNat, Nat.reduceEqDiff, Nat.reduceAdd, Nat.reduceLeDiff, Nat.reduceLT, Nat.reduceBEq, Nat.reduceBNe, Nat.reduceMul, ↓reduceIte, reduceCtorEq]
    refine hU.use ?_
    simp only [thenO, splice, clmV, clash, go_sem, ↓gb_t, ↓gb_f, ↓gb2_t, ↓gb2_f, Int.reduceToNat, Nat.reduceEqDiff, Nat.reduceAdd, Nat.reduceLeDiff, Nat.reduceLT, Nat.reduceBEq, Nat.reduceBNe, Nat.reduceMul, ↓reduceIte, reduceCtorEq]
    refine hE.use ?_
    simp only [thenO, splice, clmV, clash, hid, go_sem, ↓gb_t, ↓gb_f, ↓gb2_t, ↓gb2_f, Int.reduceToNat, Nat.reduceEqDiff, Nat.reduceAdd, Nat.reduceLeDiff, Nat.reduceLT, Nat.reduceBEq, Nat.reduceBNe, Nat.reduceMul, ↓reduceIte, reduceCtorEq]
    exact ⟨ikw (by omega) (by omega), by decide, Sim.refl _⟩
theorem lead_fit : ∀ x ∈ leadVars, VarFit x := fun x hx => by
  simp [leadVars] at hx
  rcases hx with rfl | rfl | rfl <;> (unfold VarFit; simp)
theorem rLegit_ret {g : Gr} (hI : GrI g) {c : Conf} (hR : RowsI c) (hcl : c.length ≤ 1000) : Returns Try.prog 22 [grV g, rowsV c] (.b (leadRefB g c)) := by
  refine Returns.of (c_selfstabref26_Legit_ok _ _ ?_)
  have hF := rFit_ret hI
  cases hcn : connB g with
  | false =>
    have e : leadRefB g c = false := by unfold leadRefB; rw [hcn]; rfl
    rw [hcn] at hF
    rw [e]
    simp only [grV] at hF
    simp only [c_selfstabref26_Legit, c_selfstabref26_Legit_r0, c_selfstabref26_Legit_r1, grV, clash, go_sem, ↓gb_t, ↓gb_f, ↓gb2_t, ↓gb2_f, Int.reduceToNat, Nat.reduceEqDiff, Nat.reduceAdd, Nat.reduceLeDiff, Nat.reduceLT, Nat.reduceBEq, Nat.reduceBNe, Nat.reduceMul, ↓reduceIte, reduceCtorEq]
    refine hF.use ?_
    simp only [thenO, c_selfstabref26_Legit_r2, clash, go_sem, ↓gb_t, ↓gb_f, ↓gb2_t, ↓gb2_f, Int.reduceToNat, Nat.reduceEqDiff, Nat.reduceAdd, Nat.reduceLeDiff, Nat.reduceLT, Nat.reduceBEq, Nat.reduceBNe, Nat.reduceMul, ↓reduceIte, reduceCtorEq]
    exact Sim.refl _
  | true =>
    have hg := (validB_iff g).1 (connB_valid hcn)
    have h1 := hg.1
    have h24 := hg.2.1
    have hid := hg.2.2.1
    have hV := lVars_ret
    have hC := RConfig_ret hI hR lead_fit
    rw [hcn] at hF
    simp only [grV] at hF hC
    simp only [c_selfstabref26_Legit, c_selfstabref26_Legit_r0, c_selfstabref26_Legit_r1, grV, clash, go_sem, ↓gb_t, ↓gb_f, ↓gb2_t, ↓gb2_f, Int.reduceToNat, Nat.reduceEqDiff, Nat.reduceAdd, Nat.reduceLeDiff, Nat.reduceLT, Nat.reduceBEq, Nat.reduceBNe, Nat.reduceMul, ↓reduceIte, reduceCtorEq]
    refine hF.use ?_
    simp only [thenO, clash, go_sem, ↓gb_t, ↓gb_f, ↓gb2_t, ↓gb2_f, Int.reduceToNat, Nat.reduceEqDiff, Nat.reduceAdd, Nat.reduceLeDiff, Nat.reduceLT, Nat.reduceBEq, Nat.reduceBNe, Nat.reduceMul, ↓reduceIte, reduceCtorEq]
    refine hV.use ?_
    simp only [thenO, clash, go_sem, ↓gb_t, ↓gb_f, ↓gb2_t, ↓gb2_f, Int.reduceToNat, Nat.reduceEqDiff, Nat.reduceAdd, Nat.reduceLeDiff, Nat.reduceLT, Nat.reduceBEq, Nat.reduceBNe, Nat.reduceMul, ↓reduceIte, reduceCtorEq]
    refine ⟨by decide, hC.use ?_⟩
    cases hcf : refConfB g c leadVars with
    | false =>
      have e : leadRefB g c = false := by unfold leadRefB; rw [hcf, Bool.false_and, Bool.and_false]
      rw [e]
      simp only [thenO, c_selfstabref26_Legit_r2, clash, go_sem, ↓gb_t, ↓gb_f, ↓gb2_t, ↓gb2_f, Int.reduceToNat, Nat.reduceEqDiff, Nat.reduceAdd, Nat.reduceLeDiff, Nat.reduceLT, Nat.reduceBEq, Nat.reduceBNe, Nat.reduceMul, ↓reduceIte, reduceCtorEq]
      exact ⟨by decide, Sim.refl _⟩
    | true =>
      have hck := (confB_iff _ _ _).1 ((Bool.and_eq_true _ _ ▸ hcf).2)
      have hU := rLeast_ret hg
      have hul := leastI_lt hg
      obtain ⟨u, hu⟩ : ∃ u, leastI g.ids = u := ⟨_, rfl⟩
      have h3 : ∀ v, v < c.length → (c.getD v []).length = 3 := fun v hv => by
        rw [getD_at hv]
        have := (hck.2 v _ (List.getElem?_eq_getElem hv)).1
        simpa [boundsV, leadVars] using this
      have hT := RTree_ret hg hR hul hck.1 (d := 1) (p := 2) (fun v s hs => by
        have hv := (List.getElem?_eq_some_iff.1 hs).1
        have := h3 v hv
        rw [getD_at hv] at this
        have e : c[v] = s := by have := List.getElem?_eq_getElem hv; rw [hs] at this; exact (Option.some.inj this).symm
        rw [e] at this
        omega)
      rw [hu] at hU hul hT
      have hRf : leadRefB g c = ((List.range c.length).all (fun v => decide ((c.getD v []).getD 0 0 = g.ids.getD u 0)) && treeB g (distL g u) c 1 2) := by
        unfold leadRefB
        rw [hcn, hcf, Bool.true_and, Bool.true_and, hu]
      rw [hRf]
      obtain ⟨m, hm⟩ : ∃ m, c.length = m := ⟨_, rfl⟩
      rw [hm] at hcl h3
      simp only [grV] at hU hT
      simp only [thenO, c_selfstabref26_Legit_r3, c_selfstabref26_Legit_r4, clash, go_sem, ↓gb_t, ↓gb_f, ↓gb2_t, ↓gb2_f, Int.reduceToNat, Nat.reduceEqDiff, Nat.reduceAdd, Nat.reduceLeDiff, Nat.reduceLT, Nat.reduceBEq, Nat.reduceBNe, Nat.reduceMul, ↓reduceIte, reduceCtorEq]
      refine ⟨by decide, hU.use ?_⟩
      refine loop_on (σ := Nat) (fun k => ⟨[(6, .i .i64 k), (5, .i .i64 u), (1, rowsV c), (2, .pt (2, 0) 0 0)], [(2, .one (some ⟨25, true, 2, 1, fun _ => [intsV g.ids, portsV g.ports]⟩))]⟩)
        (fun k => k ≤ m ∧ ∀ j, j < k → (c.getD j []).getD 0 0 = g.ids.getD u 0) (fun k => m - k) 0 ⟨Nat.zero_le _, fun j hj => absurd hj (Nat.not_lt_zero j)⟩ ?_ ?_
      · refine weak_all [] [] [] ?_
        simp only [go_sem, frzOK, injOK, idxF, famNe, allQ, slotOk, ownFits, own1, ownMatch, Tel, telL, pview_nil, pok_nil, pview_i, pview_b, pview_a, pview_sl, pview_rf, pview_ex, pview_ag, pview_tp, pview_fn, pview_pt, pview_os, pok_i, pok_b, pok_a, pok_sl, pok_rf, pok_ex, pok_ag, pok_tp, pok_fn, pok_pt, pok_os, lv, live, nmem, rid, ren_i, ren_b, ren_a, ren_sl, ren_rf, ren_bad, ren_ag, ren_tp, ren_fn, ren_ex, cln_ex, ren_pt, ren_os, cln_i, cln_b, cln_a, cln_sl, cln_rf, cln_bad, cln_ag, cln_tp, cln_fn, cln_pt, cln_os, List.any_cons, List.any_nil, Option.getD, Option.getD_none, Option.getD_some, Option.isSome, sim_self, sim_i, sim_b, ex_some, or_false, false_or, or_true, true_or, false_and, exists_const, exists_false, List.not_mem_nil, and_false, Int.natCast_zero, go_sem, ↓gb_t, ↓gb_f, ↓gb2_t, ↓gb2_f, Int.reduceToNat, Nat.reduceEqDiff, Nat.reduceAdd, Nat.reduceLeDiff, Nat.reduceLT, Nat.reduceBEq, Nat.reduceBNe, Nat.reduceMul, ↓reduceIte, reduceCtorEq]
      · rintro k ⟨hk, hall⟩
        by_cases hlt : k < m
        · have ht : decide ((k : Int) < (m : Int)) = true := decide_eq_true (by omega)
          obtain ⟨s, hs⟩ : ∃ s, c.getD k [] = s := ⟨_, rfl⟩
          have hs3 := h3 k hlt
          rw [hs] at hs3
          by_cases heq : s.getD 0 0 = g.ids.getD u 0
          · have ht2 : (s.getD 0 0 != g.ids.getD u 0) = false := by rw [heq]; simp
            simp only [c_selfstabref26_Legit_r5, c_selfstabref26_Legit_r6, c_selfstabref26_Legit_r7, rowsV, intsV, hm, hs, ht, ht2, hs3, clash, go_sem, ↓gb_t, ↓gb_f, ↓gb2_t, ↓gb2_f, Int.reduceToNat, Nat.reduceEqDiff, Nat.reduceAdd, Nat.reduceLeDiff, Nat.reduceLT, Nat.reduceBEq, Nat.reduceBNe, Nat.reduceMul, ↓reduceIte, reduceCtorEq]
            refine ⟨⟨by omega, by omega⟩, ⟨by omega, by omega⟩, ⟨by omega, by omega⟩, ikw (by omega) (by omega), loop_again (k + 1) ⟨by omega, fun j hj => ?_⟩ (by omega) ?_⟩
            · by_cases q : j = k
              · rw [q, hs]; exact heq
              · exact hall j (by omega)
            · refine weak_all [] [] [] ?_
              simp only [rowsV, intsV, hm, frzOK, injOK, idxF, famNe, allQ, slotOk, ownFits, own1, ownMatch, Tel, telL, pview_nil, pok_nil, pview_i, pview_b, pview_a, pview_sl, pview_rf, pview_ex, pview_ag, pview_tp, pview_fn, pview_pt, pview_os, pok_i, pok_b, pok_a, pok_sl, pok_rf, pok_ex, pok_ag, pok_tp, pok_fn, pok_pt, pok_os, lv, live, nmem, rid, ren_i, ren_b, ren_a, ren_sl, ren_rf, ren_bad, ren_ag, ren_tp, ren_fn, ren_ex, cln_ex, ren_pt, ren_os, cln_i, cln_b, cln_a, cln_sl, cln_rf, cln_bad, cln_ag, cln_tp, cln_fn, cln_pt, cln_os, List.any_cons, List.any_nil, Option.getD, Option.getD_none, Option.getD_some, Option.isSome, sim_self, sim_i, sim_b, ex_some, or_false, false_or, or_true, true_or, false_and, exists_const, exists_false, List.not_mem_nil, and_false, Int.natCast_zero, go_sem, ↓gb_t, ↓gb_f, ↓gb2_t, ↓gb2_f, Int.reduceToNat, Nat.reduceEqDiff, Nat.reduceAdd, Nat.reduceLeDiff, Nat.reduceLT, Nat.reduceBEq, Nat.reduceBNe, Nat.reduceMul, ↓reduceIte, reduceCtorEq]
              omega
          · have ht2 : (s.getD 0 0 != g.ids.getD u 0) = true := by simpa using heq
            have e : (List.range c.length).all (fun v => decide ((c.getD v []).getD 0 0 = g.ids.getD u 0)) = false := by
              rw [List.all_eq_false]
              exact ⟨k, List.mem_range.2 (by omega), by rw [hs]; simpa using heq⟩
            rw [e, Bool.false_and]
            simp only [c_selfstabref26_Legit_r5, c_selfstabref26_Legit_r6, c_selfstabref26_Legit_r7, c_selfstabref26_Legit_r8, rowsV, intsV, hm, hs, ht, ht2, hs3, clash, go_sem, ↓gb_t, ↓gb_f, ↓gb2_t, ↓gb2_f, Int.reduceToNat, Nat.reduceEqDiff, Nat.reduceAdd, Nat.reduceLeDiff, Nat.reduceLT, Nat.reduceBEq, Nat.reduceBNe, Nat.reduceMul, ↓reduceIte, reduceCtorEq]
            exact ⟨⟨by omega, by omega⟩, ⟨by omega, by omega⟩, ⟨by omega, by omega⟩, Sim.refl _⟩
        · obtain rfl : k = m := by omega
          have ht : decide ((k : Int) < (k : Int)) = false := decide_eq_false (by omega)
          have e : (List.range c.length).all (fun v => decide ((c.getD v []).getD 0 0 = g.ids.getD u 0)) = true := by
            rw [List.all_eq_true]
            intro v hv
            exact decide_eq_true (hall v (by have := List.mem_range.1 hv; omega))
          rw [e, Bool.true_and]
          simp only [rowsV, intsV, hm] at hT
          simp only [c_selfstabref26_Legit_r5, c_selfstabref26_Legit_r9, rowsV, intsV, hm, ht, clash, go_sem, ↓gb_t, ↓gb_f, ↓gb2_t, ↓gb2_f, Int.reduceToNat, Nat.reduceEqDiff, Nat.reduceAdd, Nat.reduceLeDiff, Nat.reduceLT, Nat.reduceBEq, Nat.reduceBNe, Nat.reduceMul, ↓reduceIte, reduceCtorEq]
          refine hT.use ?_
          simp only [thenO, clash, go_sem, ↓gb_t, ↓gb_f, ↓gb2_t, ↓gb2_f, Int.reduceToNat, Nat.reduceEqDiff, Nat.reduceAdd, Nat.reduceLeDiff, Nat.reduceLT, Nat.reduceBEq, Nat.reduceBNe, Nat.reduceMul, ↓reduceIte, reduceCtorEq]
          exact Sim.refl _
theorem rLeader_ret {g : Gr} (hI : GrI g) {c : Conf} (hR : RowsI c) (hcl : c.length ≤ 1000) : Returns Try.prog 26 [grV g, rowsV c] (.i .i64 (if leadRefB g c = true then (leastI g.ids : Int) else -1)) := by
  refine Returns.of (c_selfstabref26_Leader_ok _ _ ?_)
  have hL := rLegit_ret hI hR hcl
  cases hlg : leadRefB g c with
  | false =>
    rw [hlg] at hL
    simp only [grV] at hL
    simp only [c_selfstabref26_Leader, c_selfstabref26_Leader_r0, c_selfstabref26_Leader_r1, c_selfstabref26_Leader_r2, c_selfstabref26_Leader_r3, grV, clash, go_sem, ↓gb_t, ↓gb_f, ↓gb2_t, ↓gb2_f, Int.reduceToNat, Nat.reduceEqDiff, Nat.reduceAdd, Nat.reduceLeDiff, Nat.reduceLT, Nat.reduceBEq, Nat.reduceBNe, Nat.reduceMul, ↓reduceIte, reduceCtorEq]
    refine hL.use ?_
    simp only [thenO, clash, go_sem, ↓gb_t, ↓gb_f, ↓gb2_t, ↓gb2_f, Int.reduceToNat, Nat.reduceEqDiff, Nat.reduceAdd, Nat.reduceLeDiff, Nat.reduceLT, Nat.reduceBEq, Nat.reduceBNe, Nat.reduceMul, ↓reduceIte, reduceCtorEq]
    exact Sim.refl _
  | true =>
    have hcn : connB g = true := by
      unfold leadRefB at hlg
      simp only [Bool.and_eq_true] at hlg
      exact hlg.1
    have hU := rLeast_ret ((validB_iff g).1 (connB_valid hcn))
    rw [hlg] at hL
    simp only [grV] at hL hU
    simp only [c_selfstabref26_Leader, c_selfstabref26_Leader_r0, c_selfstabref26_Leader_r1, c_selfstabref26_Leader_r2, c_selfstabref26_Leader_r3, grV, clash, go_sem, ↓gb_t, ↓gb_f, ↓gb2_t, ↓gb2_f, Int.reduceToNat, Nat.reduceEqDiff, Nat.reduceAdd, Nat.reduceLeDiff, Nat.reduceLT, Nat.reduceBEq, Nat.reduceBNe, Nat.reduceMul, ↓reduceIte, reduceCtorEq]
    refine hL.use ?_
    simp only [thenO, clash, go_sem, ↓gb_t, ↓gb_f, ↓gb2_t, ↓gb2_f, Int.reduceToNat, Nat.reduceEqDiff, Nat.reduceAdd, Nat.reduceLeDiff, Nat.reduceLT, Nat.reduceBEq, Nat.reduceBNe, Nat.reduceMul, ↓reduceIte, reduceCtorEq]
    refine hU.use ?_
    simp only [thenO, clash, go_sem, ↓gb_t, ↓gb_f, ↓gb2_t, ↓gb2_f, Int.reduceToNat, Nat.reduceEqDiff, Nat.reduceAdd, Nat.reduceLeDiff, Nat.reduceLT, Nat.reduceBEq, Nat.reduceBNe, Nat.reduceMul, ↓reduceIte, reduceCtorEq]
    exact Sim.refl _
theorem lead_same (g : Gr) (c : Conf) : leadLegitB g c = leadRefB g c := by
  cases hcn : connB g with
  | false => unfold leadLegitB leadConfB leadRefB; rw [hcn]; rfl
  | true =>
    have hg := (validB_iff g).1 (connB_valid hcn)
    have h1 := hg.1
    have h24 := hg.2.1
    have hid := hg.2.2.1
    have hul := leastI_lt hg
    have hM : maxI g.ids = topID g := maxI_top (by omega) fun x hx => (hg.2.2.2.1 x hx).1
    have hbd : boundsG g [maxI g.ids, (g.ids.length : Int) - 1, -1] = boundsV g leadVars := by
      funext v
      have e1 : ¬ maxI g.ids = -1 := by have := topID_range hg; omega
      have e2 : ¬ (g.ids.length : Int) - 1 = -1 := by omega
      simp [boundsG, boundsV, leadVars, boundV, e1, e2, degOf]
      refine ⟨by omega, by omega⟩
    unfold leadLegitB leadConfB leadRefB refConfB
    rw [hcn, (validB_iff g).2 hg, hbd]
    simp only [Bool.true_and]
    cases hcf : confB g.ports.length (boundsV g leadVars) c with
    | false => rfl
    | true =>
      simp only [Bool.true_and]
      have hck := (confB_iff _ _ _).1 hcf
      have h3 : ∀ v, v < c.length → (c.getD v []).length = 3 := fun v hv => by
        rw [getD_at hv]
        have := (hck.2 v _ (List.getElem?_eq_getElem hv)).1
        simpa [boundsV, leadVars] using this
      have key : ∀ v, v < c.length → (c.getD v [] = leadS g v ↔ (c.getD v []).getD 0 0 = g.ids.getD (leastI g.ids) 0 ∧ treeOk g (distL g (leastI g.ids)) c 1 2 v) := fun v hv => by
        have h4 := h3 v hv
        unfold treeOk leadS
        match c.getD v [], h4 with
        | [x, y, z], _ => simp
      rw [Bool.eq_iff_iff, Bool.and_eq_true, List.all_eq_true, List.all_eq_true]
      constructor
      · intro h
        have h' : ∀ v, v < c.length → c.getD v [] = leadS g v := fun v hv => of_decide_eq_true (h v (List.mem_range.2 hv))
        exact ⟨fun v hv => decide_eq_true ((key v (List.mem_range.1 hv)).1 (h' v (List.mem_range.1 hv))).1, treeB_true fun v hv => ((key v (by rw [hck.1]; exact hv)).1 (h' v (by rw [hck.1]; exact hv))).2⟩
      · rintro ⟨ha, hb⟩ v hv
        have hv' := List.mem_range.1 hv
        refine decide_eq_true ((key v hv').2 ⟨of_decide_eq_true (ha v hv), ?_⟩)
        unfold treeB at hb
        exact of_decide_eq_true (List.all_eq_true.1 hb v (List.mem_range.2 (by rw [← hck.1]; exact hv')))
end Sh
end Go.Proofs.Ytlfojfndkcmfnaa
namespace Go.Proofs.Ytlfojfndkcmfnaa
namespace Ev
open Go Go.RowKit
def hkL : Hooks := ⟨none, none, some 95, symB, [], none⟩
theorem hkL_ok : HooksOk Try.prog hkL := ⟨fun g h => (by cases h), fun g h => (by cases h), fun g h => (by cases h; exact symm_ok), fun c hc => (by cases hc), fun g h => (by cases h)⟩
set_option maxRecDepth 1000000 in
theorem known26_run : outV (ev Try.prog hkL 3000 (.call 18 [] mem0)) = some (.bool true) := by kernel_rfl
theorem known26 (w : World) : Calls Try.prog 18 #[] w fun e w' => e = .returned (.bool true) ∧ Below w.heap.size w w' :=
  ev_calls_atom mix noNum hkL_ok known26_run rfl rfl ⟨_, _, Try.func18, rfl⟩ w
end Ev
end Go.Proofs.Ytlfojfndkcmfnaa
namespace Go.Proofs.Ytlfojfndkcmfnaa
open Go
namespace Sh
open Ev Go.RowKit
set_option maxRecDepth 8000
theorem known26_ret : Returns Try.prog 18 [] (.b true) := by
  refine ret_of ⟨_, _, Try.func18, rfl⟩ (fun _ => .b) (fun _ => .simple rfl) fun G m us hG hr φ M w us' hRl hs hv => ?_
  cases hr
  cases hv
  exact known26 w
theorem large26_ret (g : Gr) (c : Conf) : Returns Try.prog 17 [grV g, rowsV c] (.b (decide (g.ports.length > 60) || decide (g.ids.length > 60) || decide (c.length > 60))) := by
  refine Returns.of (c_selfstablaw26_large_ok _ _ ?_)
  by_cases h1 : g.ports.length > 60
  · have t1 : decide ((g.ports.length : Int) > 60) = true := decide_eq_true (by omega)
    have t2 : decide (g.ports.length > 60) = true := decide_eq_true h1
    rw [t2]
    simp only [c_selfstablaw26_large, c_selfstablaw26_large_r0, c_selfstablaw26_large_r1, grV, intsV, portsV, rowsV, t1, clash, go_sem, ↓gb_t, ↓gb_f, ↓gb2_t, ↓gb2_f, Int.reduceToNat, Nat.reduceEqDiff, Nat.reduceAdd, Nat.reduceLeDiff, Nat.reduceLT, Nat.reduceBEq, Nat.reduceBNe, Nat.reduceMul, ↓reduceIte, reduceCtorEq]
    exact Sim.refl _
  · have t1 : decide ((g.ports.length : Int) > 60) = false := decide_eq_false (by omega)
    have t2 : decide (g.ports.length > 60) = false := decide_eq_false h1
    rw [t2]
    by_cases h2 : g.ids.length > 60
    · have t3 : decide ((g.ids.length : Int) > 60) = true := decide_eq_true (by omega)
      have t4 : decide (g.ids.length > 60) = true := decide_eq_true h2
      rw [t4]
      simp only [c_selfstablaw26_large, c_selfstablaw26_large_r0, c_selfstablaw26_large_r1, grV, intsV, portsV, rowsV, t1, t3, clash, go_sem, ↓gb_t, ↓gb_f, ↓gb2_t, ↓gb2_f, Int.reduceToNat, Nat.reduceEqDiff, Nat.reduceAdd, Nat.reduceLeDiff, Nat.reduceLT, Nat.reduceBEq, Nat.reduceBNe, Nat.reduceMul, ↓reduceIte, reduceCtorEq]
      exact Sim.refl _
    · have t3 : decide ((g.ids.length : Int) > 60) = false := decide_eq_false (by omega)
      have t4 : decide (g.ids.length > 60) = false := decide_eq_false h2
      rw [t4]
      simp only [c_selfstablaw26_large, c_selfstablaw26_large_r0, c_selfstablaw26_large_r1, grV, intsV, portsV, rowsV, t1, t3, clash, go_sem, ↓gb_t, ↓gb_f, ↓gb2_t, ↓gb2_f, Int.reduceToNat, Nat.reduceEqDiff, Nat.reduceAdd, Nat.reduceLeDiff, Nat.reduceLT, Nat.reduceBEq, Nat.reduceBNe, Nat.reduceMul, ↓reduceIte, reduceCtorEq]
      have e : decide ((c.length : Int) > 60) = decide (c.length > 60) := by
        rw [Bool.eq_iff_iff, decide_eq_true_iff, decide_eq_true_iff]; omega
      rw [e]
      exact Sim.refl _
theorem leaderJudges_ret {g : Gr} (hI : GrI g) {c : Conf} (hR : RowsI c) : Returns Try.prog 4 [grV g, rowsV c] (.b true) := by
  refine Returns.of (c_selfstablaw26_LeaderJudges_ok _ _ ?_)
  have hL := large26_ret g c
  have hK := known26_ret
  cases hlg : (decide (g.ports.length > 60) || decide (g.ids.length > 60) || decide (c.length > 60)) with
  | true =>
    rw [hlg] at hL
    simp only [grV] at hL
    simp only [c_selfstablaw26_LeaderJudges, c_selfstablaw26_LeaderJudges_r0, c_selfstablaw26_LeaderJudges_r1, c_selfstablaw26_LeaderJudges_r2, grV, clash, go_sem, ↓gb_t, ↓gb_f, ↓gb2_t, ↓gb2_f, Int.reduceToNat, Nat.reduceEqDiff, Nat.reduceAdd, Nat.reduceLeDiff, Nat.reduceLT, Nat.reduceBEq, Nat.reduceBNe, Nat.reduceMul, ↓reduceIte, reduceCtorEq]
    refine hL.use ?_
    simp only [thenO, clash, go_sem, ↓gb_t, ↓gb_f, ↓gb2_t, ↓gb2_f, Int.reduceToNat, Nat.reduceEqDiff, Nat.reduceAdd, Nat.reduceLeDiff, Nat.reduceLT, Nat.reduceBEq, Nat.reduceBNe, Nat.reduceMul, ↓reduceIte, reduceCtorEq]
    refine hK.use ?_
    simp only [thenO, clash, go_sem, ↓gb_t, ↓gb_f, ↓gb2_t, ↓gb2_f, Int.reduceToNat, Nat.reduceEqDiff, Nat.reduceAdd, Nat.reduceLeDiff, Nat.reduceLT, Nat.reduceBEq, Nat.reduceBNe, Nat.reduceMul, ↓reduceIte, reduceCtorEq]
    exact Sim.refl _
  | false =>
    rw [hlg] at hL
    have hcl : c.length ≤ 1000 := by
      simp at hlg
      omega
    have f1 := lFit_ret hI
    have f2 := rFit_ret hI
    have f3 := lLegit_ret hI hR hcl
    have f4 := rLegit_ret hI hR hcl
    have f5 := lClaim_ret hI
    have f6 := rClaim_ret hI
    have f7 := lLeader_ret hI hR hcl
    have f8 := rLeader_ret hI hR hcl
    rw [← lead_same] at f4 f8
    generalize leadLegitB g c = B at f3 f4 f7 f8
    generalize connB g = C at f1 f2
    obtain ⟨CL, hCL⟩ : ∃ CL, leadClaim g = .ag CL := by unfold leadClaim; split <;> exact ⟨_, rfl⟩
    have hsq : eqL [false, true, true, false, false] CL CL = some true := by
      unfold leadClaim at hCL
      split at hCL
      · cases hCL; simp [clmV, eqL]
      · cases hCL; simp [clmV, eqL]
    have hsc : CL.all (scalar 4) = true := by
      unfold leadClaim at hCL
      split at hCL
      · cases hCL; rfl
      · cases hCL; rfl
    have hone : CL.all one1 = true := by
      unfold leadClaim at hCL
      split at hCL
      · cases hCL; rfl
      · cases hCL; rfl
    rw [hCL] at f5 f6
    simp only [grV] at hL f1 f2 f3 f4 f5 f6 f7 f8
    simp only [c_selfstablaw26_LeaderJudges, c_selfstablaw26_LeaderJudges_r0, c_selfstablaw26_LeaderJudges_r1, c_selfstablaw26_LeaderJudges_r3, grV, clash, go_sem, ↓gb_t, ↓gb_f, ↓gb2_t, ↓gb2_f, Int.reduceToNat, Nat.reduceEqDiff, Nat.reduceAdd, Nat.reduceLeDiff, Nat.reduceLT, Nat.reduceBEq, Nat.reduceBNe, Nat.reduceMul, ↓reduceIte, reduceCtorEq]
    refine hL.use ?_
    simp only [thenO, clash, go_sem, ↓gb_t, ↓gb_f, ↓gb2_t, ↓gb2_f, Int.reduceToNat, Nat.reduceEqDiff, Nat.reduceAdd, Nat.reduceLeDiff, Nat.reduceLT, Nat.reduceBEq, Nat.reduceBNe, Nat.reduceMul, ↓reduceIte, reduceCtorEq]
    refine hK.use ?_
    simp only [thenO, clash, go_sem, ↓gb_t, ↓gb_f, ↓gb2_t, ↓gb2_f, Int.reduceToNat, Nat.reduceEqDiff, Nat.reduceAdd, Nat.reduceLeDiff, Nat.reduceLT, Nat.reduceBEq, Nat.reduceBNe, Nat.reduceMul, ↓reduceIte, reduceCtorEq]
    refine f1.use ?_
    simp only [thenO, clash, go_sem, ↓gb_t, ↓gb_f, ↓gb2_t, ↓gb2_f, Int.reduceToNat, Nat.reduceEqDiff, Nat.reduceAdd, Nat.reduceLeDiff, Nat.reduceLT, Nat.reduceBEq, Nat.reduceBNe, Nat.reduceMul, ↓reduceIte, reduceCtorEq]
    refine f2.use ?_
    simp only [thenO, clash, go_sem, ↓gb_t, ↓gb_f, ↓gb2_t, ↓gb2_f, Int.reduceToNat, Nat.reduceEqDiff, Nat.reduceAdd, Nat.reduceLeDiff, Nat.reduceLT, Nat.reduceBEq, Nat.reduceBNe, Nat.reduceMul, ↓reduceIte, reduceCtorEq]
    refine f3.use ?_
    simp only [thenO, clash, go_sem, ↓gb_t, ↓gb_f, ↓gb2_t, ↓gb2_f, Int.reduceToNat, Nat.reduceEqDiff, Nat.reduceAdd, Nat.reduceLeDiff, Nat.reduceLT, Nat.reduceBEq, Nat.reduceBNe, Nat.reduceMul, ↓reduceIte, reduceCtorEq]
    refine f4.use ?_
    simp only [thenO, clash, go_sem, ↓gb_t, ↓gb_f, ↓gb2_t, ↓gb2_f, Int.reduceToNat, Nat.reduceEqDiff, Nat.reduceAdd, Nat.reduceLeDiff, Nat.reduceLT, Nat.reduceBEq, Nat.reduceBNe, Nat.reduceMul, ↓reduceIte, reduceCtorEq]
    refine f5.use ?_
    simp only [thenO, clash, hone, hsc, go_sem, ↓gb_t, ↓gb_f, ↓gb2_t, ↓gb2_f, Int.reduceToNat, Nat.reduceEqDiff, Nat.reduceAdd, Nat.reduceLeDiff, Nat.reduceLT, Nat.reduceBEq, Nat.reduceBNe, Nat.reduceMul, ↓reduceIte, reduceCtorEq]
    refine f6.use ?_
    simp only [thenO, clash, hone, hsq, hsc, go_sem, ↓gb_t, ↓gb_f, ↓gb2_t, ↓gb2_f, Int.reduceToNat, Nat.reduceEqDiff, Nat.reduceAdd, Nat.reduceLeDiff, Nat.reduceLT, Nat.reduceBEq, Nat.reduceBNe, Nat.reduceMul, ↓reduceIte, reduceCtorEq]
    refine f7.use ?_
    simp only [thenO, clash, go_sem, ↓gb_t, ↓gb_f, ↓gb2_t, ↓gb2_f, Int.reduceToNat, Nat.reduceEqDiff, Nat.reduceAdd, Nat.reduceLeDiff, Nat.reduceLT, Nat.reduceBEq, Nat.reduceBNe, Nat.reduceMul, ↓reduceIte, reduceCtorEq]
    refine f8.use ?_
    simp only [thenO, clash, go_sem, ↓gb_t, ↓gb_f, ↓gb2_t, ↓gb2_f, Int.reduceToNat, Nat.reduceEqDiff, Nat.reduceAdd, Nat.reduceLeDiff, Nat.reduceLT, Nat.reduceBEq, Nat.reduceBNe, Nat.reduceMul, ↓reduceIte, reduceCtorEq]
    exact Sim.refl _
end Sh
end Go.Proofs.Ytlfojfndkcmfnaa
