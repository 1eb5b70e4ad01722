/- Lemmas, joined: LdC RefC RefD. -/
import Derived.Test.YtlfojfndkcmfnaaPkLe18
import Derived.Test.YtlfojfndkcmfnaaPkLe17
import Derived.Test.YtlfojfndkcmfnaaPkLe14
import Derived.Test.YtlfojfndkcmfnaaPkLe11
set_option linter.unusedSimpArgs false
set_option linter.unusedVariables false
namespace Go.Proofs.Ytlfojfndkcmfnaa
open Go
/-- What is right for a node: the least identifier, the distance from it, and the way to it. -/
def leadS (g : Gr) (v : Nat) : List Int := [g.ids.getD (leastI g.ids) 0, (distL g (leastI g.ids)).getD v 0, wayP g (distL g (leastI g.ids)) v]
def leadConfB (g : Gr) (c : Conf) : Bool := connB g && confB g.ports.length (boundsG g [maxI g.ids, (g.ids.length : Int) - 1, -1]) c
def leadLegitB (g : Gr) (c : Conf) : Bool := leadConfB g c && (List.range c.length).all fun v => decide (c.getD v [] = leadS g v)
namespace Sh
open Ev Go.RowKit
set_option maxRecDepth 8000
def clmV (kind : Int) (fair silent : Bool) (rounds moves : Int) : List SV := [.i .i64 kind, .b fair, .b silent, .i .i64 rounds, .i .i64 moves]
def leadClaim (g : Gr) : SV := if connB g = true then .ag (clmV 3 false true ((g.ids.length : Int) + eccP g (leastI g.ids)) (-1)) else .ag (clmV 0 false false 0 0)
theorem Conf_ret {g : Gr} (hg : GoodG g) {c : Conf} (hR : RowsI c) {G : List Int} (hG : ∀ x ∈ G, I64 x) : Returns Try.prog 50 [grV g, rowsV c, intsV G] (.b (confB g.ports.length (boundsG g G) c)) := by
  refine ret_of ⟨_, _, Try.func50, rfl⟩ (fun _ => .b) (fun _ => .simple rfl) fun H m us hH hr φ M w us' hRl hs hv => ?_
  obtain ⟨u, us2, rfl, h1, h2⟩ : ∃ u us2, us = u :: us2 ∧ RV H om0 (grV g) u ∧ RVL H om0 [rowsV c, intsV G] us2 := by
    cases hr with | cons x y => exact ⟨_, _, rfl, x, y⟩
  obtain ⟨u2, u3, rfl, h3, h4⟩ := rvl2 h2
  obtain ⟨u', us3, rfl, h5, h6⟩ : ∃ u' us3, us' = u' :: us3 ∧ VR φ u u' ∧ VRL φ [u2, u3] us3 := by
    cases hv with | cons x y => exact ⟨_, _, rfl, x, y⟩
  obtain ⟨u2', u3', rfl, h7, h8⟩ := vrl_two h6
  exact Configuration_any u' u2' u3' g c G w (gr_at hH h1 h5 hRl hs (goodI hg)) (rows_at hH h3 h7 hRl hs hR) (ints_at hH h4 h8 hRl hs hG) hg
theorem Legit1_ret {g : Gr} {D : List Int} (hD : D.length = g.ports.length) (hDb : ∀ x ∈ D, -1 ≤ x ∧ x ≤ 24) {v : Nat} (hv : v < g.ports.length) (hn : g.ports.length ≤ 24) {l : Int × Int} (hl : 0 ≤ l.1 ∧ l.1 < g.ports.length) :
    Returns Try.prog 54 [.ag [.i .i64 l.1, .i .i64 l.2], .rf [intsV D], .rf [.i .i64 v]] (.b (towardP D v l)) := by
  refine Returns.of (c_leader_Legit_1_ok _ _ ?_)
  have h1 : -1 ≤ D.getD v 0 ∧ D.getD v 0 ≤ 24 := by rw [getD_at (show v < D.length by omega)]; exact hDb _ (List.getElem_mem _)
  simp only [c_leader_Legit_1, c_leader_Legit_1_r0, c_leader_Legit_1_r1, intsV, clash, go_sem, ↓gb_t, ↓gb_f, ↓gb2_t, ↓gb2_f, Int.reduceToNat, Nat.reduceEqDiff, Nat.reduceAdd, Nat.reduceLeDiff, Nat.reduceLT, Nat.reduceBEq, Nat.reduceBNe, Nat.reduceMul, ↓reduceIte, reduceCtorEq]
  refine ⟨⟨by omega, by omega⟩, ⟨by omega, by omega⟩, ikw (by omega) (by omega), ?_⟩
  exact Sim.refl _
theorem lLegit_ret {g : Gr} (hI : GrI g) {c : Conf} (hR : RowsI c) (hcl : c.length ≤ 1000) : Returns Try.prog 21 [grV g, rowsV c] (.b (leadLegitB g c)) := by
  refine Returns.of (c_leader_Legit_ok _ _ ?_)
  have hF := lFit_ret hI
  cases hcn : connB g with
  | false =>
    have e : leadLegitB g c = false := by unfold leadLegitB leadConfB; rw [hcn]; rfl
    rw [hcn] at hF
    rw [e]
    simp only [grV] at hF
    simp only [c_leader_Legit, c_leader_Legit_r0, c_leader_Legit_r1, grV, clash, go_sem, ↓gb_t, ↓gb_f, ↓gb2_t, ↓gb2_f, Int.reduceToNat, Nat.reduceEqDiff, Nat.reduceAdd, Nat.reduceLeDiff, Nat.reduceLT, Nat.reduceBEq, Nat.reduceBNe, Nat.reduceMul, ↓reduceIte, reduceCtorEq]
    refine hF.use ?_
    simp only [thenO, c_leader_Legit_r2, clash, go_sem, ↓gb_t, ↓gb_f, ↓gb2_t, ↓gb2_f, Int.reduceToNat, Nat.reduceEqDiff, Nat.reduceAdd, Nat.reduceLeDiff, Nat.reduceLT, Nat.reduceBEq, Nat.reduceBNe, Nat.reduceMul, ↓reduceIte, reduceCtorEq]
    exact Sim.refl _
  | true =>
    have hg := (validB_iff g).1 (connB_valid hcn)
    have h1 := hg.1
    have h24 := hg.2.1
    have hid := hg.2.2.1
    have hM := Max_ret g.ids (by omega) (by omega)
    have hMi : 0 ≤ maxI g.ids ∧ maxI g.ids ≤ 255 := by
      rw [maxI_top (by omega) fun x hx => (hg.2.2.2.1 x hx).1]
      exact topID_range hg
    have hC := Conf_ret hg hR (G := [maxI g.ids, (g.ids.length : Int) - 1, -1]) (fun x hx => by
      simp at hx
      rcases hx with rfl | rfl | rfl <;> exact i64_small (by omega))
    rw [hcn] at hF
    simp only [grV, intsV] at hF hM
    simp only [c_leader_Legit, c_leader_Legit_r0, c_leader_Legit_r1, grV, intsV, clash, go_sem, ↓gb_t, ↓gb_f, ↓gb2_t, ↓gb2_f, Int.reduceToNat, Nat.reduceEqDiff, Nat.reduceAdd, Nat.reduceLeDiff, Nat.reduceLT, Nat.reduceBEq, Nat.reduceBNe, Nat.reduceMul, ↓reduceIte, reduceCtorEq]
    refine hF.use ?_
    simp only [thenO, clash, go_sem, ↓gb_t, ↓gb_f, ↓gb2_t, ↓gb2_f, Int.reduceToNat, Nat.reduceEqDiff, Nat.reduceAdd, Nat.reduceLeDiff, Nat.reduceLT, Nat.reduceBEq, Nat.reduceBNe, Nat.reduceMul, ↓reduceIte, reduceCtorEq]
    refine hM.use ?_
    simp only [thenO, clash, go_sem, ↓gb_t, ↓gb_f, ↓gb2_t, ↓gb2_f, Int.reduceToNat, Nat.reduceEqDiff, Nat.reduceAdd, Nat.reduceLeDiff, Nat.reduceLT, Nat.reduceBEq, Nat.reduceBNe, Nat.reduceMul, ↓reduceIte, reduceCtorEq]
    have three : ∀ {q : Nat}, q < 3 → q = 0 ∨ q = 1 ∨ q = 2 := fun {q} h => by omega
    refine ⟨ikw (by omega) (by omega), by decide, .inl ⟨?_, hC.useS ?_ ?_⟩⟩
    · intro q hq
      rcases three hq with rfl | rfl | rfl <;> simp only [go_sem, ↓gb_t, ↓gb_f, ↓gb2_t, ↓gb2_f, Int.reduceToNat, Nat.reduceEqDiff, Nat.reduceAdd, Nat.reduceLeDiff, Nat.reduceLT, Nat.reduceBEq, Nat.reduceBNe, Nat.reduceMul, ↓reduceIte, reduceCtorEq]
    · refine ⟨Sim.refl (grV g), Sim.refl _, ?_, trivial⟩
      refine sim_sl2 fun q hq => ?_
      rcases three hq with rfl | rfl | rfl <;> (simp only [List.getD_cons_zero, List.getD_cons_succ, go_sem, ↓gb_t, ↓gb_f, ↓gb2_t, ↓gb2_f, Int.reduceToNat, Nat.reduceEqDiff, Nat.reduceAdd, Nat.reduceLeDiff, Nat.reduceLT, Nat.reduceBEq, Nat.reduceBNe, Nat.reduceMul, ↓reduceIte, reduceCtorEq]; exact ⟨Sim.refl _, trivial⟩)
    cases hcf : confB g.ports.length (boundsG g [maxI g.ids, (g.ids.length : Int) - 1, -1]) c with
    | false =>
      have e : leadLegitB g c = false := by unfold leadLegitB leadConfB; rw [hcf, Bool.and_false]; rfl
      rw [e]
      simp only [thenO, c_leader_Legit_r2, clash, go_sem, ↓gb_t, ↓gb_f, ↓gb2_t, ↓gb2_f, Int.reduceToNat, Nat.reduceEqDiff, Nat.reduceAdd, Nat.reduceLeDiff, Nat.reduceLT, Nat.reduceBEq, Nat.reduceBNe, Nat.reduceMul, ↓reduceIte, reduceCtorEq]
      exact ⟨by decide, Sim.refl _⟩
    | true =>
      have hU := least_ret hg
      have hul := leastI_lt hg
      have hD := GDist_ret hg hul
      have hDl := distL_length hg hul
      have hDb := (distL_isDist hg hul).bound hg hul
      obtain ⟨D, hDe⟩ : ∃ D, distL g (leastI g.ids) = D := ⟨_, rfl⟩
      rw [hDe] at hD hDl hDb
      obtain ⟨u, hu⟩ : ∃ u, leastI g.ids = u := ⟨_, rfl⟩
      rw [hu] at hU hul hD
      simp only [grV, intsV] at hU hD
      obtain ⟨m, hm⟩ : ∃ m, c.length = m := ⟨_, rfl⟩
      simp only [thenO, c_leader_Legit_r3, c_leader_Legit_r4, c_leader_Legit_r5, clash, go_sem, ↓gb_t, ↓gb_f, ↓gb2_t, ↓gb2_f, Int.reduceToNat, Nat.reduceEqDiff, Nat.reduceAdd, Nat.reduceLeDiff, Nat.reduceLT, Nat.reduceBEq, Nat.reduceBNe, Nat.reduceMul, ↓reduceIte, reduceCtorEq]
      refine ⟨by decide, hU.use ?_⟩
      simp only [thenO, clash, go_sem, ↓gb_t, ↓gb_f, ↓gb2_t, ↓gb2_f, Int.reduceToNat, Nat.reduceEqDiff, Nat.reduceAdd, Nat.reduceLeDiff, Nat.reduceLT, Nat.reduceBEq, Nat.reduceBNe, Nat.reduceMul, ↓reduceIte, reduceCtorEq]
      refine hD.use ?_
      simp only [thenO, rowsV, hm, clash, go_sem, ↓gb_t, ↓gb_f, ↓gb2_t, ↓gb2_f, Int.reduceToNat, Nat.reduceEqDiff, Nat.reduceAdd, Nat.reduceLeDiff, Nat.reduceLT, Nat.reduceBEq, Nat.reduceBNe, Nat.reduceMul, ↓reduceIte, reduceCtorEq]
      refine loop_on (σ := Nat) (fun k => ⟨[(34, .i .i64 k), (33, .i .i64 m), (32, rowsV c), (5, .i .i64 u), (6, .pt (6, 0) 0 0), (2, .pt (2, 0) 0 0)],
          [(2, .one (some ⟨25, true, 2, 1, fun _ => [intsV g.ids, portsV g.ports]⟩)), (6, .one (some ⟨22, true, 1, 1, fun _ => [intsV D]⟩))]⟩)
        (fun k => k ≤ m ∧ ∀ j, j < k → c.getD j [] = leadS g j) (fun k => m - k) 0 ⟨Nat.zero_le _, fun j hj => absurd hj (Nat.not_lt_zero j)⟩ ?_ ?_
      · refine weak_all [] [] [] ?_
        simp only [rowsV, intsV, hm, frzOK, injOK, idxF, famNe, allQ, slotOk, ownFits, own1, ownMatch, Tel, telL, pview_nil, pok_nil, pview_i, pview_b, pview_a, pview_sl, pview_rf, pview_ex, pview_ag, pview_tp, pview_fn, pview_pt, pview_os, pok_i, pok_b, pok_a, pok_sl, pok_rf, pok_ex, pok_ag, pok_tp, pok_fn, pok_pt, pok_os, lv, live, nmem, rid, ren_i, ren_b, ren_a, ren_sl, ren_rf, ren_bad, ren_ag, ren_tp, ren_fn, ren_ex, cln_ex, ren_pt, ren_os, cln_i, cln_b, cln_a, cln_sl, cln_rf, cln_bad, cln_ag, cln_tp, cln_fn, cln_pt, cln_os, List.any_cons, List.any_nil, Option.getD, Option.getD_none, Option.getD_some, Option.isSome, sim_self, sim_i, sim_b, ex_some, or_false, false_or, or_true, true_or, false_and, exists_const, exists_false, List.not_mem_nil, and_false, Int.natCast_zero, go_sem, ↓gb_t, ↓gb_f, ↓gb2_t, ↓gb2_f, Int.reduceToNat, Nat.reduceEqDiff, Nat.reduceAdd, Nat.reduceLeDiff, Nat.reduceLT, Nat.reduceBEq, Nat.reduceBNe, Nat.reduceMul, ↓reduceIte, reduceCtorEq]
      · rintro k ⟨hk, hall⟩
        have hcn2 : m = g.ports.length := by rw [← hm]; exact ((confB_iff _ _ _).1 hcf).1
        by_cases hlt : k < m
        · have ht : decide ((k : Int) < (m : Int)) = true := decide_eq_true (by omega)
          obtain ⟨s, hs⟩ : ∃ s, c.getD k [] = s := ⟨_, rfl⟩
          have hFP := FirstPort_ret g k (by omega) 54 [.rf [intsV D], .rf [.i .i64 k]] (towardP D k) (by rfl) (by have := hg.deg_lt (v := k); omega) (fun l hl => by
            have hk2 : g.ports[k]? = some (g.ports.getD k []) := by simp [List.getD, show k < g.ports.length by omega]
            obtain ⟨k1, k2, _⟩ := hg.link hk2 hl
            exact Legit1_ret hDl hDb (by omega) h24 ⟨k1, k2⟩)
          have hEq := Equal_ret s (leadS g k) (by
            have := ((confB_iff _ _ _).1 hcf).2 k s (by rw [← hs, getD_at (show k < c.length by omega)]; exact List.getElem?_eq_getElem _)
            have := this.1
            simp [boundsG] at this
            omega)
          simp only [grV, intsV] at hFP
          simp only [c_leader_Legit_r6, c_leader_Legit_r7, c_leader_Legit_r8, c_leader_Legit_r9, rowsV, intsV, hm, hs, ht, clash, go_sem, ↓gb_t, ↓gb_f, ↓gb2_t, ↓gb2_f, Int.reduceToNat, Nat.reduceEqDiff, Nat.reduceAdd, Nat.reduceLeDiff, Nat.reduceLT, Nat.reduceBEq, Nat.reduceBNe, Nat.reduceMul, ↓reduceIte, reduceCtorEq]
          refine ⟨⟨by omega, by omega⟩, .inl (hFP.use ?_)⟩
          simp only [thenO, clash, go_sem, ↓gb_t, ↓gb_f, ↓gb2_t, ↓gb2_f, Int.reduceToNat, Nat.reduceEqDiff, Nat.reduceAdd, Nat.reduceLeDiff, Nat.reduceLT, Nat.reduceBEq, Nat.reduceBNe, Nat.reduceMul, ↓reduceIte, reduceCtorEq]
          have hle : leadS g k = [g.ids.getD u 0, D.getD k 0, firstP (towardP D k) (g.ports.getD k [])] := by
            unfold leadS
            rw [hDe, hu]
            rfl
          refine ⟨⟨by omega, by omega⟩, ⟨by omega, by omega⟩, .inl ⟨fun q hq => by rcases three hq with rfl | rfl | rfl <;> simp only [go_sem, ↓gb_t, ↓gb_f, ↓gb2_t, ↓gb2_f, Int.reduceToNat, Nat.reduceEqDiff, Nat.reduceAdd, Nat.reduceLeDiff, Nat.reduceLT, Nat.reduceBEq, Nat.reduceBNe, Nat.reduceMul, ↓reduceIte, reduceCtorEq], hEq.useS ?_ ?_⟩⟩
          · refine ⟨Sim.refl (intsV s), ?_, trivial⟩
            rw [hle]
            refine sim_sl2 fun q hq => ?_
            rcases three hq with rfl | rfl | rfl <;> (simp only [List.getD_cons_zero, List.getD_cons_succ, go_sem, ↓gb_t, ↓gb_f, ↓gb2_t, ↓gb2_f, Int.reduceToNat, Nat.reduceEqDiff, Nat.reduceAdd, Nat.reduceLeDiff, Nat.reduceLT, Nat.reduceBEq, Nat.reduceBNe, Nat.reduceMul, ↓reduceIte, reduceCtorEq]; exact ⟨Sim.refl _, trivial⟩)
          by_cases hse : s = leadS g k
          · simp only [thenO, c_leader_Legit_r11, hse, clash, go_sem, ↓gb_t, ↓gb_f, ↓gb2_t, ↓gb2_f, Int.reduceToNat, Nat.reduceEqDiff, Nat.reduceAdd, Nat.reduceLeDiff, Nat.reduceLT, Nat.reduceBEq, Nat.reduceBNe, Nat.reduceMul, ↓reduceIte, reduceCtorEq]
            refine ⟨by decide, ikw (by omega) (by omega), loop_again (k + 1) ⟨by omega, fun j hj => ?_⟩ (by omega) ?_⟩
            · by_cases q : j = k
              · rw [q, hs, hse]
              · exact hall j (by omega)
            · refine weak_all [] [] [] ?_
              simp only [rowsV, intsV, hm, frzOK, injOK, idxF, famNe, allQ, slotOk, ownFits, own1, ownMatch, Tel, telL, pview_nil, pok_nil, pview_i, pview_b, pview_a, pview_sl, pview_rf, pview_ex, pview_ag, pview_tp, pview_fn, pview_pt, pview_os, pok_i, pok_b, pok_a, pok_sl, pok_rf, pok_ex, pok_ag, pok_tp, pok_fn, pok_pt, pok_os, lv, live, nmem, rid, ren_i, ren_b, ren_a, ren_sl, ren_rf, ren_bad, ren_ag, ren_tp, ren_fn, ren_ex, cln_ex, ren_pt, ren_os, cln_i, cln_b, cln_a, cln_sl, cln_rf, cln_bad, cln_ag, cln_tp, cln_fn, cln_pt, cln_os, List.any_cons, List.any_nil, Option.getD, Option.getD_none, Option.getD_some, Option.isSome, sim_self, sim_i, sim_b, ex_some, or_false, false_or, or_true, true_or, false_and, exists_const, exists_false, List.not_mem_nil, and_false, Int.natCast_zero, go_sem, ↓gb_t, ↓gb_f, ↓gb2_t, ↓gb2_f, Int.reduceToNat, Nat.reduceEqDiff, Nat.reduceAdd, Nat.reduceLeDiff, Nat.reduceLT, Nat.reduceBEq, Nat.reduceBNe, Nat.reduceMul, ↓reduceIte, reduceCtorEq]
              omega
          · have e : leadLegitB g c = false := by
              unfold leadLegitB
              rw [Bool.and_eq_false_iff]
              right
              rw [List.all_eq_false]
              exact ⟨k, List.mem_range.2 (by omega), by rw [hs]; simp [hse]⟩
            rw [e]
            simp only [thenO, c_leader_Legit_r10, hse, clash, go_sem, ↓gb_t, ↓gb_f, ↓gb2_t, ↓gb2_f, Int.reduceToNat, Nat.reduceEqDiff, Nat.reduceAdd, Nat.reduceLeDiff, Nat.reduceLT, Nat.reduceBEq, Nat.reduceBNe, Nat.reduceMul, ↓reduceIte, reduceCtorEq]
            exact ⟨by decide, Sim.refl _⟩
        · obtain rfl : k = m := by omega
          have ht : decide ((k : Int) < (k : Int)) = false := decide_eq_false (by omega)
          have e : leadLegitB g c = true := by
            unfold leadLegitB leadConfB
            rw [hcn, hcf, Bool.true_and, Bool.true_and, List.all_eq_true]
            intro v hv
            exact decide_eq_true (hall v (by have := List.mem_range.1 hv; omega))
          rw [e]
          simp only [c_leader_Legit_r6, c_leader_Legit_r12, ht, go_sem, ↓gb_t, ↓gb_f, ↓gb2_t, ↓gb2_f, Int.reduceToNat, Nat.reduceEqDiff, Nat.reduceAdd, Nat.reduceLeDiff, Nat.reduceLT, Nat.reduceBEq, Nat.reduceBNe, Nat.reduceMul, ↓reduceIte, reduceCtorEq]
          exact Sim.refl _
theorem lLeader_ret {g : Gr} (hI : GrI g) {c : Conf} (hR : RowsI c) (hcl : c.length ≤ 1000) : Returns Try.prog 25 [grV g, rowsV c] (.i .i64 (if leadLegitB g c = true then (leastI g.ids : Int) else -1)) := by
  refine Returns.of (c_leader_Leader_ok _ _ ?_)
  have hL := lLegit_ret hI hR hcl
  cases hlg : leadLegitB g c with
  | false =>
    rw [hlg] at hL
    simp only [grV] at hL
    simp only [c_leader_Leader, c_leader_Leader_r0, c_leader_Leader_r1, c_leader_Leader_r2, c_leader_Leader_r3, grV, clash, go_sem, ↓gb_t, ↓gb_f, ↓gb2_t, ↓gb2_f, Int.reduceToNat, Nat.reduceEqDiff, Nat.reduceAdd, Nat.reduceLeDiff, Nat.reduceLT, Nat.reduceBEq, Nat.reduceBNe, Nat.reduceMul, ↓reduceIte, reduceCtorEq]
    refine hL.use ?_
    simp only [thenO, clash, go_sem, ↓gb_t, ↓gb_f, ↓gb2_t, ↓gb2_f, Int.reduceToNat, Nat.reduceEqDiff, Nat.reduceAdd, Nat.reduceLeDiff, Nat.reduceLT, Nat.reduceBEq, Nat.reduceBNe, Nat.reduceMul, ↓reduceIte, reduceCtorEq]
    exact Sim.refl _
  | true =>
    have hcn : connB g = true := by
      unfold leadLegitB leadConfB at hlg
      simp only [Bool.and_eq_true] at hlg
      exact hlg.1.1
    have hU := least_ret ((validB_iff g).1 (connB_valid hcn))
    rw [hlg] at hL
    simp only [grV] at hL hU
    simp only [c_leader_Leader, c_leader_Leader_r0, c_leader_Leader_r1, c_leader_Leader_r2, c_leader_Leader_r3, grV, clash, go_sem, ↓gb_t, ↓gb_f, ↓gb2_t, ↓gb2_f, Int.reduceToNat, Nat.reduceEqDiff, Nat.reduceAdd, Nat.reduceLeDiff, Nat.reduceLT, Nat.reduceBEq, Nat.reduceBNe, Nat.reduceMul, ↓reduceIte, reduceCtorEq]
    refine hL.use ?_
    simp only [thenO, clash, go_sem, ↓gb_t, ↓gb_f, ↓gb2_t, ↓gb2_f, Int.reduceToNat, Nat.reduceEqDiff, Nat.reduceAdd, Nat.reduceLeDiff, Nat.reduceLT, Nat.reduceBEq, Nat.reduceBNe, Nat.reduceMul, ↓reduceIte, reduceCtorEq]
    refine hU.use ?_
    simp only [thenO, clash, go_sem, ↓gb_t, ↓gb_f, ↓gb2_t, ↓gb2_f, Int.reduceToNat, Nat.reduceEqDiff, Nat.reduceAdd, Nat.reduceLeDiff, Nat.reduceLT, Nat.reduceBEq, Nat.reduceBNe, Nat.reduceMul, ↓reduceIte, reduceCtorEq]
    exact Sim.refl _
theorem lClaim_ret {g : Gr} (hI : GrI g) : Returns Try.prog 23 [grV g] (leadClaim g) := by
  refine Returns.of (c_leader_Claim_ok _ _ ?_)
  have hF := lFit_ret hI
  unfold leadClaim
  cases hcn : connB g with
  | false =>
    rw [hcn] at hF
    simp only [grV] at hF
    simp only [c_leader_Claim, c_leader_Claim_r0, c_leader_Claim_r1, c_leader_Claim_r2, c_leader_Claim_r3, c_leader_Claim_r4, grV, splice, clmV, clash, go_sem, ↓gb_t, ↓gb_f, ↓gb2_t, ↓gb2_f, Int.reduceToNat, Nat.reduceEqDiff, Nat.reduceAdd, Nat.reduceLeDiff, Nat.reduceLT, Nat.reduceBEq, Nat.reduceBNe, Nat.reduceMul, ↓reduceIte, reduceCtorEq]
    refine hF.use ?_
    simp only [thenO, splice, clmV, clash, go_sem, ↓gb_t, ↓gb_f, ↓gb2_t, ↓gb2_f, Int.reduceToNat, Nat.reduceEqDiff, Nat.reduceAdd, Nat.reduceLeDiff, Nat.reduceLT, Nat.reduceBEq, Nat.reduceBNe, Nat.reduceMul, ↓reduceIte, reduceCtorEq]
    exact Sim.refl _
  | true =>
    have hg := (validB_iff g).1 (connB_valid hcn)
    have h24 := hg.2.1
    have hid := hg.2.2.1
    have hU := least_ret hg
    have hE := GEcc_ret hI (leastI g.ids)
    have hE1 : -1 ≤ eccP g (leastI g.ids) ∧ eccP g (leastI g.ids) ≤ 1000 := by
      unfold eccP
      split
      · exact ⟨greatestP_min _, greatestP_le _ _ (by omega) fun x hx => by
          have := (distL_isDist hg (a := ((leastI g.ids : Nat) : Int).toNat) (by rw [Int.toNat_natCast]; exact leastI_lt hg)).bound hg (by rw [Int.toNat_natCast]; exact leastI_lt hg) x hx
          omega⟩
      · omega
    rw [hcn] at hF
    simp only [grV, intsV] at hF hU hE
    simp only [c_leader_Claim, c_leader_Claim_r0, c_leader_Claim_r1, c_leader_Claim_r2, c_leader_Claim_r3, c_leader_Claim_r4, grV, intsV, splice, clmV, clash, go_sem, ↓gb_t, ↓gb_f, ↓gb2_t, ↓gb2_f, Int.reduceToNat, Nat.reduceEqDiff, Nat.reduceAdd, Nat.reduceLeDiff, Nat.reduceLT, Nat.reduceBEq, Nat.reduceBNe, Nat.reduceMul, ↓reduceIte, reduceCtorEq]
    refine hF.use ?_
    simp only [thenO, splice, clmV, clash, go_sem, ↓gb_t, ↓gb_f, ↓gb2_t, ↓gb2_f, Int.reduceToNat, Nat.reduceEqDiff, Nat.reduceAdd, Nat.reduceLeDiff, Nat.reduceLT, Nat.reduceBEq, Nat.reduceBNe, Nat.reduceMul, ↓reduceIte, reduceCtorEq]
    refine hU.use ?_
    simp only [thenO, splice, clmV, clash, go_sem, ↓gb_t, ↓gb_f, ↓gb2_t, ↓gb2_f, Int.reduceToNat, Nat.reduceEqDiff, Nat.reduceAdd, Nat.reduceLeDiff, Nat.reduceLT, Nat.reduceBEq, Nat.reduceBNe, Nat.reduceMul, ↓reduceIte, reduceCtorEq]
    refine hE.use ?_
    simp only [thenO, splice, clmV, clash, go_sem, ↓gb_t, ↓gb_f, ↓gb2_t, ↓gb2_f, Int.reduceToNat, Nat.reduceEqDiff, Nat.reduceAdd, Nat.reduceLeDiff, Nat.reduceLT, Nat.reduceBEq, Nat.reduceBNe, Nat.reduceMul, ↓reduceIte, reduceCtorEq]
    exact ⟨ikw (by omega) (by omega), Sim.refl _⟩
end Sh
end Go.Proofs.Ytlfojfndkcmfnaa
namespace Go.Proofs.Ytlfojfndkcmfnaa
open Go.RowKit

theorem hasAt_snoc (R : List Int) (x : Int) (ls : List (Int × Int)) (i : Nat) (hi : i < ls.length) : hasAt R x (ls.take (i + 1)) = (hasAt R x (ls.take i) || decide (R[ls[i].1.toNat]? = some x)) := by
  unfold hasAt
  rw [take_snoc ls i hi, List.any_append]
  simp

/-- After D - 1 layers. -/
def layers (g : Gr) (a D : Nat) : List Int := (List.range (D - 1)).foldl (fun R d => stepD g R (d + 1)) (start g a)
theorem layers_step (g : Gr) (a : Nat) {D : Nat} (hD : 1 ≤ D) : layers g a (D + 1) = stepD g (layers g a D) D := by
  obtain ⟨k, rfl⟩ : ∃ k, D = k + 1 := ⟨D - 1, by omega⟩
  unfold layers
  rw [Nat.add_sub_cancel, List.range_succ, List.foldl_append]
  rfl
def nodesTo (g : Gr) (R : List Int) (D v : Nat) : List Int := (List.range v).foldl (stepV g D) R
theorem nodesTo_step (g : Gr) (R : List Int) (D v : Nat) : nodesTo g R D (v + 1) = stepV g D (nodesTo g R D v) v := by
  unfold nodesTo
  rw [List.range_succ, List.foldl_append]
  rfl
theorem map_set_int (R : List Int) (k : Nat) (x : Int) : (R.map (Value.int .i64)).set k (.int .i64 x) = (R.set k x).map (Value.int .i64) := by rw [List.map_set]
theorem start_cells (g : Gr) (a : Nat) : ((List.replicate g.ports.length (-1 : Int)).map (Value.int .i64)).set a (.int .i64 0) = (start g a).map (Value.int .i64) := by rw [map_set_int]; rfl

set_option maxHeartbeats 4000000 in
theorem refDistances_any (gv : Value) (g : Gr) (v : Int) (w : World) (hg : GrAt w gv g) (hv64 : I64 v) :
    Calls Try.prog 76 #[gv, .int .i64 v] w (RetInts (distsP g v) w) := by
  have hg0 := Lib.hid hg
  obtain ⟨i, p, rfl, hi, hp⟩ := hg
  obtain ⟨A2, c2, rfl, hB1, hB2⟩ := slAt_form hp
  have Hp := Lib.hid hp
  clear hi hp
  cases hc : validB g with
  | false =>
    have Hf := Lib.hid (show distsP g v = [] from distsP_out (by simp [hc]))
    go_enter Try.func76, Try.ntmps76
    go_wp2_with fail
    refine (refValid_any _ g _ (hg0.out.below ((Below.refl _ _).alloc (Nat.le_refl _) _))).mono ?_
    rintro e w1 ⟨rfl, hb1⟩
    go_wp2_with fail
    go_ret
    exact ⟨_, rfl, by rw [Hf.out]; exact SlAt.nil _, belowA hb1⟩
  | true =>
    have hgood := (validB_iff g).1 hc
    have hn1 := hgood.1
    have hn24 := hgood.2.1
    have Hgood := Lib.hid hgood
    clear hgood
    obtain ⟨hv1, hv2⟩ := hv64
    by_cases c2 : 0 ≤ v ∧ v < g.ports.length
    · obtain ⟨c2a, c2b⟩ := c2
      obtain ⟨a, rfl⟩ := Int.eq_ofNat_of_zero_le c2a
      have Hf := Lib.hid (show distsP g a = distL g a from distsP_in hc (by omega) c2b)
      have ha : a < g.ports.length := by omega
      go_enter Try.func76, Try.ntmps76
      go_wp2_with fail
      refine (refValid_any _ g _ (hg0.out.below ((Below.refl _ _).alloc (Nat.le_refl _) _))).mono ?_
      rintro e w1 ⟨rfl, hb1⟩
      obtain ⟨q0, q1⟩ := newA2 hb1
      have Hb1 := Lib.hid hb1
      clear hb1
      go_wp2_with fail
      refine (In_t _ _ _ _ (by omega) (by omega)).mono ?_
      rintro e w1' ⟨rfl, rfl⟩
      go_wp2_with fail
      obtain ⟨i0, hi0, hz0, hz1, hz2⟩ := info_parts int_info
      have Hi0 := Lib.hid (show _ ∧ _ ∧ _ ∧ _ from ⟨hi0, hz0, hz1, hz2⟩)
      clear hi0 hz0 hz1 hz2
      obtain ⟨W1, hW1⟩ : ∃ W, W = w.alloc (.cells #[i, .slice A2 g.ports.length c2] 25) := ⟨_, rfl⟩
      have HB := Lib.hid (show ∀ wr, Below (w.heap.size + 1) W1 wr → wr.cell? ⟨w.heap.size, 0, none⟩ = some i ∧ wr.cell? ⟨w.heap.size, 1, none⟩ = some (.slice A2 g.ports.length c2) ∧ Below w.heap.size w wr ∧ w.heap.size < wr.heap.size by subst hW1; exact fun wr h => box2 h)
      have Hb1' := Lib.hid (show Below (w.heap.size + 1) W1 w1 by subst hW1; simpa using Hb1.out)
      clear hW1 Hb1
      go_loopg [6, 7] g.ports.length (fun q t6 t wr => ∃ k : Nat, q + k = g.ports.length ∧ t = .int .i64 k ∧ Hid (Below (w.heap.size + 1) W1 wr) ∧ Hid (Owns wr (w.heap.size + 1) 3 1 t6 k ((List.replicate k (-1 : Int)).map (Value.int .i64))))
      case atStart => exact ⟨0, by omega, rfl, Hb1', Lib.hid (Owns.nil _ _ _ _)⟩
      case round =>
        clear q0 q1 Hb1'
        obtain ⟨k, hq, rfl, hbel, hown⟩ := hrel
        have hsz := (HB.out _ hbel.out).2.2.2
        by_cases hlt : k < g.ports.length
        · go_wp2_with (at_builtin; refine wpList_append_owns _ rfl _ _ 22 rfl (w.heap.size + 1) 3 i0 (.int .i64 0) 1 8 Try.underlying22 Hi0.out.1 Hi0.out.2.1 Hi0.out.2.2.1 Hi0.out.2.2.2 rfl (by decide) u6 k ((List.replicate k (-1 : Int)).map (Value.int .i64)) (by rfl) (hown.out.alloc _) _ 1 1 [.int .i64 (-1)] (by rfl) rfl (cell_one rfl) (by simp [Value.oneCell']) (by simp only [maxLen]; omega) (by omega) (by simp; omega) ?_; intro v' w' hown' hgr hob)
          have Hown := Lib.hid hown'
          have Hgr := Lib.hid hgr
          clear hown' hgr hob
          go_wp2
          go_roundg (gk - 1)
          case measure => omega
          case rel =>
            refine ⟨k + 1, by omega, by go_num, Lib.hid ((hbel.out.alloc (by omega) _).grown Hgr.out (by simp; omega) (fun x hx => (hown.out.lt hx).1)), Lib.hid ?_⟩
            have := Hown.out
            rwa [← List.map_singleton (f := Value.int .i64), ← List.map_append, ← List.replicate_succ'] at this
        · obtain rfl : k = g.ports.length := by omega
          obtain ⟨gO, oO, cO, rfl, hO1, hO2, hO3, hO4, hO5⟩ := hown.out.form (by omega)
          unfold maxLen at hO4
          have hca := hO5 a (.int .i64 (-1)) (by simp [ha])
          have hfa := hown.out.frozen (oO + a)
          clear hO5
          go_wp2
          go_loopg [8] (g.ports.length - 1) (fun q t wr => ∃ D : Nat, 1 ≤ D ∧ q + D = g.ports.length ∧ t = .int .i64 D ∧ Hid (Below (w.heap.size + 1) W1 wr) ∧ Hid (Owns wr (w.heap.size + 1) 3 1 (.slice (some ⟨gO, oO, none⟩) g.ports.length cO) g.ports.length ((layers g a D).map (Value.int .i64))))
          case atStart =>
            refine ⟨1, Nat.le_refl _, by omega, rfl, Lib.hid (hbel.out.setCell (by simp; omega) _), Lib.hid ?_⟩
            have := hown.out.store1 ha (.int .i64 0)
            rw [start_cells] at this
            exact this
          case round =>
            clear hbel hown hca hfa hsz hO2
            obtain ⟨D, hD1, hq, rfl, hbel, hown⟩ := hrel
            by_cases hlt : D < g.ports.length
            · go_wp2
              obtain ⟨go, rfl⟩ : ∃ go, go = gk := ⟨_, rfl⟩
              go_loopg [9] g.ports.length (fun q t wr => ∃ v : Nat, q + v = g.ports.length ∧ t = .int .i64 v ∧ Hid (Below (w.heap.size + 1) W1 wr) ∧ Hid (Owns wr (w.heap.size + 1) 3 1 (.slice (some ⟨gO, oO, none⟩) g.ports.length cO) g.ports.length ((nodesTo g (layers g a D) D v).map (Value.int .i64))))
              case atStart => exact ⟨0, by omega, rfl, hbel, hown⟩
              case round =>
                clear hbel hown
                obtain ⟨v, hqv, rfl, hbel, hown⟩ := hrel
                by_cases hvlt : v < g.ports.length
                · obtain ⟨R, hR⟩ : ∃ R, nodesTo g (layers g a D) D v = R := ⟨_, rfl⟩
                  have Hst := Lib.hid (nodesTo_step g (layers g a D) D v)
                  rw [hR] at hown Hst
                  clear hR
                  have Hlen := Lib.hid (show R.length = g.ports.length by have := hown.out.1; simpa using this)
                  obtain ⟨b2, off2, lv, rfl, hb2, hclw, hls⟩ := rowsAt_at Hp.out (List.getElem?_eq_getElem hvlt)
                  obtain ⟨A3, c3, rfl, hl1, hl2⟩ := slAt_form hls
                  obtain ⟨ls, hle⟩ : ∃ ls, g.ports[v] = ls := ⟨_, rfl⟩
                  have Hlp := Lib.hid (show g.ports[v]? = some ls by rw [List.getElem?_eq_getElem hvlt, hle])
                  rw [hle] at hls hclw hl1
                  have Hls := Lib.hid hls
                  have Hst2 := Lib.hid (show stepV g D R v = if decide (R.getD v 0 < 0) && hasAt R ((D : Int) - 1) ls then R.set v D else R by
                    unfold stepV; rw [show g.ports.getD v [] = ls by simp [List.getD, Hlp.out]])
                  clear hle hls
                  have hRv : v < R.length := by rw [Hlen.out]; exact hvlt
                  obtain ⟨xv, hxv⟩ : ∃ x, R[v] = x := ⟨_, rfl⟩
                  have Hgd := Lib.hid (show R.getD v 0 = xv by simp [List.getD, hRv, hxv])
                  clear hxv
                  go_wp2
                  obtain ⟨gv, rfl⟩ : ∃ gv, gv = gk := ⟨_, rfl⟩
                  go_loopg [10] ls.length (fun q t wr => ∃ i : Nat, q + i = ls.length ∧ t = .int .i64 i ∧ Hid (Below (w.heap.size + 1) W1 wr) ∧ ∃ R' x, R'[v]? = some x ∧ Hid (Owns wr (w.heap.size + 1) 3 1 (.slice (some ⟨gO, oO, none⟩) g.ports.length cO) g.ports.length (R'.map (Value.int .i64))) ∧ Hid ((R' = R ∧ x = xv ∧ hasAt R ((D : Int) - 1) (ls.take i) = false) ∨ (R' = stepV g D R v ∧ 0 ≤ x)))
                  case atStart => exact ⟨0, by omega, rfl, hbel, R, xv, by rw [List.getElem?_eq_getElem hRv]; have := Hgd.out; simp [List.getD, hRv] at this; rw [this], hown, Lib.hid (.inl ⟨rfl, rfl, by simp [hasAt]⟩)⟩
                  case round =>
                    clear hbel hown
                    obtain ⟨i, hqi, rfl, hbel, R', x, hx, hown, hdis⟩ := hrel
                    obtain ⟨p0, p1, hbw, hsz⟩ := HB.out _ hbel.out
                    have hcl := keepCells hbw _ _ hclw
                    have Hlen' := Lib.hid (show R'.length = g.ports.length by have := hown.out.1; simpa using this)
                    obtain ⟨_, _, _, e5, _, _, _, _, hO5⟩ := hown.out.form (by omega)
                    cases e5
                    have hcv := hO5 v (.int .i64 x) (by simp [hx])
                    have hfv := hown.out.frozen (oO + v)
                    have Hx := Lib.hid hx
                    have HO5 := Lib.hid hO5
                    have Hbw := Lib.hid hbw
                    clear hx hO5 hbw
                    by_cases hil : i < ls.length
                    · obtain ⟨A4, c4, e4, _, _, hE⟩ := Hls.out.below Stable.link Hbw.out
                      cases e4
                      obtain ⟨b3, off3, rfl, hb3, hE⟩ := hE (by omega)
                      obtain ⟨⟨l1, wt⟩, hle⟩ : ∃ l, ls[i] = l := ⟨_, rfl⟩
                      have hl? : ls[i]? = some (l1, wt) := by rw [List.getElem?_eq_getElem hil, hle]
                      obtain ⟨hx1, hx2, ⟨hr1, hr2⟩, ⟨hr3, hr4⟩⟩ := hE i _ hl?
                      obtain ⟨k1, k2, k3, k4, k5⟩ := Hgood.out.link Hlp.out (List.mem_of_getElem? hl?)
                      simp only at k1 k2 k3 k4 k5 hx1 hx2 hr1 hr2 hr3 hr4
                      obtain ⟨u, rfl⟩ := Int.eq_ofNat_of_zero_le k1
                      have Hl? := Lib.hid hl?
                      have Hsn := Lib.hid (hasAt_snoc R ((D : Int) - 1) ls i hil)
                      rw [hle] at Hsn
                      have HE := Lib.hid hE
                      clear hE hl? hle k1 k3
                      by_cases c2 : x < 0
                      · have Hin := Lib.hid (show R' = R ∧ x = xv ∧ hasAt R ((D : Int) - 1) (ls.take i) = false by
                          rcases hdis.out with h | h
                          · exact h
                          · omega)
                        have hul : u < R'.length := by rw [Hlen'.out]; omega
                        obtain ⟨y, hy⟩ : ∃ y, R'[u]? = some y := ⟨_, List.getElem?_eq_getElem hul⟩
                        have hcu := HO5.out u (.int .i64 y) (by simp [hy])
                        have Hy := Lib.hid hy
                        clear hy
                        by_cases c3 : y = (D : Int) - 1
                        · have c3' : (y == (D : Int) - 1) = true := by simp [c3]
                          have Hset := Lib.hid (show stepV g D R v = R'.set v D by
                            obtain ⟨e1, e2, _⟩ := Hin.out
                            rw [Hst2.out, Hgd.out, if_pos, e1]
                            rw [Bool.and_eq_true]
                            refine ⟨decide_eq_true (by omega), ?_⟩
                            unfold hasAt
                            rw [List.any_eq_true]
                            refine ⟨_, List.mem_of_getElem? Hl?.out, decide_eq_true ?_⟩
                            simp only [Int.toNat_natCast]
                            rw [← e1, Hy.out, c3])
                          clear c3
                          go_wp2
                          go_roundg (gk - 1)
                          case measure => omega
                          case rel =>
                            refine ⟨i + 1, by omega, by go_num, Lib.hid (hbel.out.setCell (by simp; omega) _), R'.set v D, D, by rw [List.getElem?_set, if_pos rfl, if_pos (by rw [Hlen'.out]; exact hvlt)], Lib.hid ?_, Lib.hid (.inr ⟨Hset.out.symm, by omega⟩)⟩
                            rw [← map_set_int]
                            exact hown.out.store1 hvlt _
                        · have c3' : (y == (D : Int) - 1) = false := by simp [c3]
                          have Hno := Lib.hid (show hasAt R ((D : Int) - 1) (ls.take (i + 1)) = false by
                            obtain ⟨e1, e2, e3⟩ := Hin.out
                            rw [Hsn.out, e3, Bool.false_or, decide_eq_false_iff_not]
                            simp only [Int.toNat_natCast]
                            rw [← e1, Hy.out]
                            simpa using c3)
                          clear c3
                          go_wp2
                          go_roundg (gk - 1)
                          case measure => omega
                          case rel => exact ⟨i + 1, by omega, by go_num, hbel, R', x, Hx.out, hown, Lib.hid (.inl ⟨Hin.out.1, Hin.out.2.1, Hno.out⟩)⟩
                      · have Hend := Lib.hid (show R' = stepV g D R v by
                          rcases hdis.out with ⟨e1, e2, _⟩ | ⟨e1, _⟩
                          · rw [Hst2.out, Hgd.out, if_neg, e1]
                            rw [Bool.and_eq_true]
                            intro h
                            have := of_decide_eq_true h.1
                            omega
                          · exact e1)
                        go_wp2
                        go_roundg (gv - 1)
                        case measure => omega
                        case rel => exact ⟨v + 1, by omega, by go_num, hbel, Lib.hid (by rw [Hst.out, ← Hend.out]; exact hown.out)⟩
                    · obtain rfl : i = ls.length := by omega
                      have Hend := Lib.hid (show R' = stepV g D R v by
                        rcases hdis.out with ⟨e1, e2, e3⟩ | ⟨e1, _⟩
                        · rw [List.take_length] at e3
                          rw [Hst2.out, e3, Bool.and_false, if_neg (by simp), e1]
                        · exact e1)
                      go_wp2
                      go_roundg (gv - 1)
                      case measure => omega
                      case rel => exact ⟨v + 1, by omega, by go_num, hbel, Lib.hid (by rw [Hst.out, ← Hend.out]; exact hown.out)⟩
                · obtain rfl : v = g.ports.length := by omega
                  go_wp2
                  go_roundg (go - 1)
                  case measure => omega
                  case rel => exact ⟨D + 1, by omega, by omega, by go_num, hbel, Lib.hid (by rw [layers_step g a hD1]; exact hown.out)⟩
            · obtain rfl : D = g.ports.length := by omega
              go_wp2
              go_ret
              refine ⟨_, rfl, ?_, (HB.out _ hbel.out).2.2.1⟩
              rw [Hf.out]
              exact hown.out.ints (fun x hx => by have := (distL_isDist Hgood.out ha).bound Hgood.out ha x hx; unfold I64; omega)
    · have Hf := Lib.hid (show distsP g v = [] from distsP_out (by omega))
      have c3 : v < 0 ∨ (g.ports.length : Int) - 1 < v := by omega
      clear c2
      go_enter Try.func76, Try.ntmps76
      go_wp2_with fail
      refine (refValid_any _ g _ (hg0.out.below ((Below.refl _ _).alloc (Nat.le_refl _) _))).mono ?_
      rintro e w1 ⟨rfl, hb1⟩
      obtain ⟨q0, q1⟩ := newA2 hb1
      have Hb1 := Lib.hid (belowA hb1)
      clear hb1
      go_wp2_with fail
      refine (In_f _ _ _ _ (by omega)).mono ?_
      rintro e w1' ⟨rfl, rfl⟩
      go_wp2_with fail
      go_ret
      exact ⟨_, rfl, by rw [Hf.out]; exact SlAt.nil _, Hb1.out⟩
end Go.Proofs.Ytlfojfndkcmfnaa
namespace Go.Proofs.Ytlfojfndkcmfnaa
open Go.RowKit

theorem refGreatest_any (dv : Value) (D : List Int) (w : World) (hd : IntsAt w dv D) :
    Calls Try.prog 75 #[dv] w fun e w' => e = .returned (.int .i64 (refGreatest D)) ∧ w = w' := by
  obtain ⟨A, c, rfl, hA1, hA2⟩ := slAt_form hd
  have Hd := Lib.hid hd
  clear hd
  go_enter Try.func75, Try.ntmps75
  go_wp2
  go_loopg [3, 4] D.length (fun q m t wr => ∃ k : Nat, q + k = D.length ∧ t = .int .i64 k ∧ wr = w ∧ m = .int .i64 (greatestP (D.take k)) ∧ Hid ((D.take k).all (fun x => decide (0 ≤ x)) = true))
  case atStart => exact ⟨0, by omega, rfl, rfl, by simp [greatestP], Lib.hid (by simp)⟩
  case round =>
    obtain ⟨k, hq, rfl, rfl, rfl, hall⟩ := hrel
    by_cases hlt : k < D.length
    · obtain ⟨b, off, rfl, hb, hc, hr⟩ := intsAt_at Hd.out hlt
      by_cases c1 : D[k] < 0
      · have Hf := Lib.hid (show refGreatest D = -1 by
          unfold refGreatest
          rw [if_neg]
          rw [List.all_eq_true]
          intro h
          have := of_decide_eq_true (h _ (List.getElem_mem hlt))
          omega)
        go_wp2
        go_ret
        exact ⟨ret_int Hf.out.symm, rfl⟩
      · have Hs := Lib.hid (greatestP_snoc D k hlt)
        have Ha := Lib.hid (show (D.take (k + 1)).all (fun x => decide (0 ≤ x)) = true by
          rw [take_snoc D k hlt, List.all_append, hall.out]
          simp
          omega)
        go_wp2
        all_goals
          go_roundg (gk - 1)
          case measure => omega
          case rel => exact ⟨k + 1, by omega, by go_num, rfl, by rw [Hs.out]; try (congr 1; omega), Ha⟩
    · obtain rfl : k = D.length := by omega
      have Hf := Lib.hid (show refGreatest D = greatestP D by
        have := hall.out
        rw [List.take_length] at this
        exact if_pos this)
      go_wp2
      go_ret
      exact ⟨ret_int (by rw [Hf.out, List.take_length]), rfl⟩

theorem refConnected_any (gv : Value) (g : Gr) (w : World) (hg : GrAt w gv g) :
    Calls Try.prog 39 #[gv] w fun e w' => e = .returned (.bool (connB g)) ∧ Below w.heap.size w w' := by
  have hg0 := Lib.hid hg
  obtain ⟨i, p, rfl, hi, hp⟩ := hg
  clear hi hp
  have Hc := Lib.hid (refConn_eq g)
  go_enter Try.func39, Try.ntmps39
  go_wp2_with fail
  refine (refDistances_any _ g 0 _ (hg0.out.below ((Below.refl _ _).alloc (Nat.le_refl _) _)) ⟨by omega, by omega⟩).mono ?_
  rintro e w1 ⟨v, rfl, hv, hb1⟩
  have Hv := Lib.hid hv
  have Hb1 := Lib.hid (belowA hb1)
  clear hv hb1
  go_wp2_with fail
  refine (refGreatest_any _ _ _ Hv.out).mono ?_
  rintro e w2 ⟨rfl, rfl⟩
  go_wp2_with fail
  go_ret
  exact ⟨ret_bool Hc.out, Hb1.out⟩

theorem refEccentricity_any (gv : Value) (g : Gr) (v : Int) (w : World) (hg : GrAt w gv g) (hv64 : I64 v) :
    Calls Try.prog 47 #[gv, .int .i64 v] w fun e w' => e = .returned (.int .i64 (eccP g v)) ∧ Below w.heap.size w w' := by
  have hg0 := Lib.hid hg
  obtain ⟨i, p, rfl, hi, hp⟩ := hg
  clear hi hp
  have Hc := Lib.hid (refEcc_eq g v)
  go_enter Try.func47, Try.ntmps47
  go_wp2_with fail
  refine (refDistances_any _ g v _ (hg0.out.below ((Below.refl _ _).alloc (Nat.le_refl _) _)) hv64).mono ?_
  rintro e w1 ⟨v, rfl, hv, hb1⟩
  have Hv := Lib.hid hv
  have Hb1 := Lib.hid (belowA hb1)
  clear hv hb1
  go_wp2_with fail
  refine (refGreatest_any _ _ _ Hv.out).mono ?_
  rintro e w2 ⟨rfl, rfl⟩
  go_wp2_with fail
  go_ret
  exact ⟨ret_int Hc.out, Hb1.out⟩
end Go.Proofs.Ytlfojfndkcmfnaa
