/- Lemmas, joined: SgA SgB RowB GraphA. -/
import Derived.Test.YtlfojfndkcmfnaaPkLe13
import Derived.Test.YtlfojfndkcmfnaaPkLe14
import Derived.Test.YtlfojfndkcmfnaaPkLe11
set_option linter.unusedSimpArgs false
set_option linter.unusedVariables false
namespace Go.Proofs.Ytlfojfndkcmfnaa
namespace Sh
open Go Ev

def intsV (l : List Int) : SV := .sl 1 l.length (fun k => [.i .i64 (l.getD k 0)])
def linksV (ls : List (Int × Int)) : SV := .sl 2 ls.length (fun j => [.i .i64 (ls.getD j (0, 0)).1, .i .i64 (ls.getD j (0, 0)).2])
def portsV (ps : List (List (Int × Int))) : SV := .sl 1 ps.length (fun v => [linksV (ps.getD v [])])
def rowsV (c : List (List Int)) : SV := .sl 1 c.length (fun v => [intsV (c.getD v [])])
def grV (g : Gr) : SV := .ag [intsV g.ids, portsV g.ports]
theorem ik {n : Int} (h1 : -1000000000000 ≤ n) (h2 : n ≤ 1000000000000) : inK .i64 n := by
  unfold inK; simp [IntKind.min, IntKind.max, IntKind.bits, IntKind.signed]; omega
theorem ikw {n : Int} (h1 : -4611686018427387904 ≤ n) (h2 : n ≤ 4611686018427387904) : inK .i64 n := by
  unfold inK; simp [IntKind.min, IntKind.max, IntKind.bits, IntKind.signed]; omega
theorem getD_at {α : Type} {l : List α} {k : Nat} {d : α} (h : k < l.length) : l.getD k d = l[k] := by simp [List.getD, h]
theorem getD_set {l : List Int} {i k : Nat} {x : Int} (h : i < l.length) : (l.set i x).getD k 0 = if k = i then x else l.getD k 0 := by
  simp only [List.getD, List.getElem?_set]
  by_cases q : i = k
  · subst q; simp [h]
  · rw [if_neg q, if_neg (Ne.symm q)]

set_option maxRecDepth 8000

theorem Index_ret (l : List Int) (x : Int) (hl : l.length ≤ 100000) : Returns Try.prog 84 [intsV l, .i .i64 x] (.i .i64 (idxP l x)) := by
  refine Returns.of (c_slices_Indexintint_ok _ _ ?_)
  simp only [c_slices_Indexintint, c_slices_Indexintint_r0, c_slices_Indexintint_r1, intsV, go_sem, ↓gb_t, ↓gb_f, ↓gb2_t, ↓gb2_f, Int.reduceToNat, Nat.reduceEqDiff, Nat.reduceAdd, Nat.reduceLeDiff, Nat.reduceLT, Nat.reduceBEq, Nat.reduceBNe, Nat.reduceMul, ↓reduceIte, reduceCtorEq]
  refine loop_on (σ := Nat) (fun k => ⟨[(8, .i .i64 k), (0, intsV l), (1, .i .i64 x), (7, .i .i64 l.length)], []⟩) (fun k => k ≤ l.length ∧ (l.take k).findIdx? (fun y => x == y) = none) (fun k => l.length - k) 0 ⟨Nat.zero_le _, by simp⟩ ?_ ?_
  · refine weak_all [] [] [] ?_
    simp only [intsV, frzOK, injOK, idxF, famNe, allQ, slotOk, ownFits, own1, ownMatch, Tel, telL, pview_nil, pok_nil, pview_i, pview_b, pview_a, pview_sl, pview_rf, pview_ex, pview_ag, pview_tp, pview_fn, pview_pt, pview_os, pok_i, pok_b, pok_a, pok_sl, pok_rf, pok_ex, pok_ag, pok_tp, pok_fn, pok_pt, pok_os, lv, live, nmem, rid, ren_i, ren_b, ren_a, ren_sl, ren_rf, ren_bad, ren_ag, ren_tp, ren_fn, ren_ex, cln_ex, ren_pt, ren_os, cln_i, cln_b, cln_a, cln_sl, cln_rf, cln_bad, cln_ag, cln_tp, cln_fn, cln_pt, cln_os, List.any_cons, List.any_nil, Option.getD, Option.getD_none, Option.getD_some, Option.isSome, sim_self, sim_i, sim_b, ex_some, or_false, false_or, or_true, true_or, false_and, exists_const, exists_false, List.not_mem_nil, and_false, Int.natCast_zero, go_sem, ↓gb_t, ↓gb_f, ↓gb2_t, ↓gb2_f, Int.reduceToNat, Nat.reduceEqDiff, Nat.reduceAdd, Nat.reduceLeDiff, Nat.reduceLT, Nat.reduceBEq, Nat.reduceBNe, Nat.reduceMul, ↓reduceIte, reduceCtorEq]
  · intro k ⟨hk, hno⟩
    simp only [c_slices_Indexintint_r2, c_slices_Indexintint_r3, c_slices_Indexintint_r4, c_slices_Indexintint_r5, c_slices_Indexintint_r6, c_slices_Indexintint_r7, intsV, sim_i, go_sem, ↓gb_t, ↓gb_f, ↓gb2_t, ↓gb2_f, Int.reduceToNat, Nat.reduceEqDiff, Nat.reduceAdd, Nat.reduceLeDiff, Nat.reduceLT, Nat.reduceBEq, Nat.reduceBNe, Nat.reduceMul, ↓reduceIte, reduceCtorEq]
    refine ⟨fun h => ⟨by omega, fun he => ?_, fun he => ⟨ik (by omega) (by omega), ?_⟩⟩, fun h => ?_⟩
    · have hlt : k < l.length := by omega
      rw [idxP_hit hlt (by rw [he, getD_at hlt]) hno]
    · have hlt : k < l.length := by omega
      refine loop_again (k + 1) ⟨by omega, idx_snoc hlt (by rw [← getD_at (d := 0) hlt]; exact he) hno⟩ (by omega) ?_
      refine weak_all [] [] [] ?_
      simp only [intsV, frzOK, injOK, idxF, famNe, allQ, slotOk, ownFits, own1, ownMatch, Tel, telL, pview_nil, pok_nil, pview_i, pview_b, pview_a, pview_sl, pview_rf, pview_ex, pview_ag, pview_tp, pview_fn, pview_pt, pview_os, pok_i, pok_b, pok_a, pok_sl, pok_rf, pok_ex, pok_ag, pok_tp, pok_fn, pok_pt, pok_os, lv, live, nmem, rid, ren_i, ren_b, ren_a, ren_sl, ren_rf, ren_bad, ren_ag, ren_tp, ren_fn, ren_ex, cln_ex, ren_pt, ren_os, cln_i, cln_b, cln_a, cln_sl, cln_rf, cln_bad, cln_ag, cln_tp, cln_fn, cln_pt, cln_os, List.any_cons, List.any_nil, Option.getD, Option.getD_none, Option.getD_some, Option.isSome, sim_self, sim_i, sim_b, ex_some, or_false, false_or, or_true, true_or, false_and, exists_const, exists_false, List.not_mem_nil, and_false, Int.natCast_zero, go_sem, ↓gb_t, ↓gb_f, ↓gb2_t, ↓gb2_f, Int.reduceToNat, Nat.reduceEqDiff, Nat.reduceAdd, Nat.reduceLeDiff, Nat.reduceLT, Nat.reduceBEq, Nat.reduceBNe, Nat.reduceMul, ↓reduceIte, reduceCtorEq]
      simp
    · obtain rfl : k = l.length := by omega
      rw [idxP_none hno]
theorem Max_ret (l : List Int) (h0 : 0 < l.length) (hl : l.length ≤ 100000) : Returns Try.prog 51 [intsV l] (.i .i64 (maxI l)) := by
  refine Returns.of (c_slices_Maxintint_ok _ _ ?_)
  simp only [c_slices_Maxintint, c_slices_Maxintint_r0, c_slices_Maxintint_r1, c_slices_Maxintint_r2, c_slices_Maxintint_r3, c_slices_Maxintint_r4, intsV, go_sem, ↓gb_t, ↓gb_f, ↓gb2_t, ↓gb2_f, Int.reduceToNat, Nat.reduceEqDiff, Nat.reduceAdd, Nat.reduceLeDiff, Nat.reduceLT, Nat.reduceBEq, Nat.reduceBNe, Nat.reduceMul, ↓reduceIte, reduceCtorEq]
  refine ⟨fun h => by omega, fun _ => ⟨by omega, ?_⟩⟩
  refine loop_on (σ := Nat) (fun k => ⟨[(4, .i .i64 k), (3, .i .i64 (maxTo l k)), (0, intsV l)], []⟩) (fun k => 1 ≤ k ∧ k ≤ l.length) (fun k => l.length - k) 1 ⟨by omega, by omega⟩ ?_ ?_
  · refine weak_all [] [] [] ?_
    simp only [intsV, maxTo_one, frzOK, injOK, idxF, famNe, allQ, slotOk, ownFits, own1, ownMatch, Tel, telL, pview_nil, pok_nil, pview_i, pview_b, pview_a, pview_sl, pview_rf, pview_ex, pview_ag, pview_tp, pview_fn, pview_pt, pview_os, pok_i, pok_b, pok_a, pok_sl, pok_rf, pok_ex, pok_ag, pok_tp, pok_fn, pok_pt, pok_os, lv, live, nmem, rid, ren_i, ren_b, ren_a, ren_sl, ren_rf, ren_bad, ren_ag, ren_tp, ren_fn, ren_ex, cln_ex, ren_pt, ren_os, cln_i, cln_b, cln_a, cln_sl, cln_rf, cln_bad, cln_ag, cln_tp, cln_fn, cln_pt, cln_os, List.any_cons, List.any_nil, Option.getD, Option.getD_none, Option.getD_some, Option.isSome, sim_self, sim_i, sim_b, ex_some, or_false, false_or, or_true, true_or, false_and, exists_const, exists_false, List.not_mem_nil, and_false, Int.natCast_zero, go_sem, ↓gb_t, ↓gb_f, ↓gb2_t, ↓gb2_f, Int.reduceToNat, Nat.reduceEqDiff, Nat.reduceAdd, Nat.reduceLeDiff, Nat.reduceLT, Nat.reduceBEq, Nat.reduceBNe, Nat.reduceMul, ↓reduceIte, reduceCtorEq]
    cases l <;> simp at h0 ⊢
  · intro k ⟨hk1, hk⟩
    simp only [c_slices_Maxintint_r5, c_slices_Maxintint_r6, c_slices_Maxintint_r7, c_slices_Maxintint_r8, intsV, sim_i, go_sem, ↓gb_t, ↓gb_f, ↓gb2_t, ↓gb2_f, Int.reduceToNat, Nat.reduceEqDiff, Nat.reduceAdd, Nat.reduceLeDiff, Nat.reduceLT, Nat.reduceBEq, Nat.reduceBNe, Nat.reduceMul, ↓reduceIte, reduceCtorEq]
    refine ⟨fun h => ⟨by omega, ik (by omega) (by omega), ?_⟩, fun h => ?_⟩
    · refine loop_again (k + 1) ⟨by omega, by omega⟩ (by omega) ?_
      refine weak_all [] [] [] ?_
      have hlt : k < l.length := by omega
      simp only [intsV, maxTo_snoc hk1 hlt, getD_at hlt, frzOK, injOK, idxF, famNe, allQ, slotOk, ownFits, own1, ownMatch, Tel, telL, pview_nil, pok_nil, pview_i, pview_b, pview_a, pview_sl, pview_rf, pview_ex, pview_ag, pview_tp, pview_fn, pview_pt, pview_os, pok_i, pok_b, pok_a, pok_sl, pok_rf, pok_ex, pok_ag, pok_tp, pok_fn, pok_pt, pok_os, lv, live, nmem, rid, ren_i, ren_b, ren_a, ren_sl, ren_rf, ren_bad, ren_ag, ren_tp, ren_fn, ren_ex, cln_ex, ren_pt, ren_os, cln_i, cln_b, cln_a, cln_sl, cln_rf, cln_bad, cln_ag, cln_tp, cln_fn, cln_pt, cln_os, List.any_cons, List.any_nil, Option.getD, Option.getD_none, Option.getD_some, Option.isSome, sim_self, sim_i, sim_b, ex_some, or_false, false_or, or_true, true_or, false_and, exists_const, exists_false, List.not_mem_nil, and_false, Int.natCast_zero, go_sem, ↓gb_t, ↓gb_f, ↓gb2_t, ↓gb2_f, Int.reduceToNat, Nat.reduceEqDiff, Nat.reduceAdd, Nat.reduceLeDiff, Nat.reduceLT, Nat.reduceBEq, Nat.reduceBNe, Nat.reduceMul, ↓reduceIte, reduceCtorEq]
      simp
    · obtain rfl : k = l.length := by omega
      rfl
theorem Equal_ret (a b : List Int) (hl : a.length ≤ 100000) : Returns Try.prog 55 [intsV a, intsV b] (.b (decide (a = b))) := by
  refine Returns.of (c_slices_Equalintint_ok _ _ ?_)
  simp only [c_slices_Equalintint, c_slices_Equalintint_r0, c_slices_Equalintint_r1, c_slices_Equalintint_r2, c_slices_Equalintint_r3, intsV, sim_b, go_sem, ↓gb_t, ↓gb_f, ↓gb2_t, ↓gb2_f, Int.reduceToNat, Nat.reduceEqDiff, Nat.reduceAdd, Nat.reduceLeDiff, Nat.reduceLT, Nat.reduceBEq, Nat.reduceBNe, Nat.reduceMul, ↓reduceIte, reduceCtorEq]
  refine ⟨fun h => ?_, fun h => ?_⟩
  · have : a ≠ b := fun e => h (by rw [e])
    simp [this]
  have hlen : a.length = b.length := by omega
  refine loop_on (σ := Nat) (fun k => ⟨[(13, .i .i64 k), (0, intsV a), (1, intsV b), (12, .i .i64 a.length)], []⟩) (fun k => k ≤ a.length ∧ ∀ j, j < k → a.getD j 0 = b.getD j 0) (fun k => a.length - k) 0 ⟨Nat.zero_le _, fun j h => absurd h (Nat.not_lt_zero _)⟩ ?_ ?_
  · refine weak_all [] [] [] ?_
    simp only [intsV, frzOK, injOK, idxF, famNe, allQ, slotOk, ownFits, own1, ownMatch, Tel, telL, pview_nil, pok_nil, pview_i, pview_b, pview_a, pview_sl, pview_rf, pview_ex, pview_ag, pview_tp, pview_fn, pview_pt, pview_os, pok_i, pok_b, pok_a, pok_sl, pok_rf, pok_ex, pok_ag, pok_tp, pok_fn, pok_pt, pok_os, lv, live, nmem, rid, ren_i, ren_b, ren_a, ren_sl, ren_rf, ren_bad, ren_ag, ren_tp, ren_fn, ren_ex, cln_ex, ren_pt, ren_os, cln_i, cln_b, cln_a, cln_sl, cln_rf, cln_bad, cln_ag, cln_tp, cln_fn, cln_pt, cln_os, List.any_cons, List.any_nil, Option.getD, Option.getD_none, Option.getD_some, Option.isSome, sim_self, sim_i, sim_b, ex_some, or_false, false_or, or_true, true_or, false_and, exists_const, exists_false, List.not_mem_nil, and_false, Int.natCast_zero, go_sem, ↓gb_t, ↓gb_f, ↓gb2_t, ↓gb2_f, Int.reduceToNat, Nat.reduceEqDiff, Nat.reduceAdd, Nat.reduceLeDiff, Nat.reduceLT, Nat.reduceBEq, Nat.reduceBNe, Nat.reduceMul, ↓reduceIte, reduceCtorEq]
  · intro k ⟨hk, hno⟩
    simp only [c_slices_Equalintint_r4, c_slices_Equalintint_r5, c_slices_Equalintint_r6, c_slices_Equalintint_r7, c_slices_Equalintint_r8, c_slices_Equalintint_r9, intsV, sim_b, clash, go_sem, ↓gb_t, ↓gb_f, ↓gb2_t, ↓gb2_f, Int.reduceToNat, Nat.reduceEqDiff, Nat.reduceAdd, Nat.reduceLeDiff, Nat.reduceLT, Nat.reduceBEq, Nat.reduceBNe, Nat.reduceMul, ↓reduceIte, reduceCtorEq]
    refine ⟨fun h => ⟨by omega, by omega, fun he => ?_, fun he => ⟨ik (by omega) (by omega), ?_⟩⟩, fun h => ?_⟩
    · have : a ≠ b := fun e => he (by rw [e])
      simp [this]
    · refine loop_again (k + 1) ⟨by omega, fun j hj => ?_⟩ (by omega) ?_
      · by_cases q : j < k
        · exact hno j q
        · obtain rfl : j = k := by omega
          exact he
      · refine weak_all [] [] [] ?_
        simp only [intsV, frzOK, injOK, idxF, famNe, allQ, slotOk, ownFits, own1, ownMatch, Tel, telL, pview_nil, pok_nil, pview_i, pview_b, pview_a, pview_sl, pview_rf, pview_ex, pview_ag, pview_tp, pview_fn, pview_pt, pview_os, pok_i, pok_b, pok_a, pok_sl, pok_rf, pok_ex, pok_ag, pok_tp, pok_fn, pok_pt, pok_os, lv, live, nmem, rid, ren_i, ren_b, ren_a, ren_sl, ren_rf, ren_bad, ren_ag, ren_tp, ren_fn, ren_ex, cln_ex, ren_pt, ren_os, cln_i, cln_b, cln_a, cln_sl, cln_rf, cln_bad, cln_ag, cln_tp, cln_fn, cln_pt, cln_os, List.any_cons, List.any_nil, Option.getD, Option.getD_none, Option.getD_some, Option.isSome, sim_self, sim_i, sim_b, ex_some, or_false, false_or, or_true, true_or, false_and, exists_const, exists_false, List.not_mem_nil, and_false, Int.natCast_zero, go_sem, ↓gb_t, ↓gb_f, ↓gb2_t, ↓gb2_f, Int.reduceToNat, Nat.reduceEqDiff, Nat.reduceAdd, Nat.reduceLeDiff, Nat.reduceLT, Nat.reduceBEq, Nat.reduceBNe, Nat.reduceMul, ↓reduceIte, reduceCtorEq]
        simp
    · have : a = b := by
        refine List.ext_getElem hlen fun j h1 h2 => ?_
        have := hno j (by omega)
        rwa [getD_at h1, getD_at h2] at this
      simp [this]
theorem greatest_ret (l : List Int) (hl : l.length ≤ 100000) : Returns Try.prog 83 [intsV l] (.i .i64 (greatestP l)) := by
  refine Returns.of (c_graph_greatest_ok _ _ ?_)
  simp only [c_graph_greatest, c_graph_greatest_r0, c_graph_greatest_r1, c_graph_greatest_r2, intsV, go_sem, ↓gb_t, ↓gb_f, ↓gb2_t, ↓gb2_f, Int.reduceToNat, Nat.reduceEqDiff, Nat.reduceAdd, Nat.reduceLeDiff, Nat.reduceLT, Nat.reduceBEq, Nat.reduceBNe, Nat.reduceMul, ↓reduceIte, reduceCtorEq]
  refine loop_on (σ := Nat) (fun k => ⟨[(8, .i .i64 k), (3, .i .i64 (greatestP (l.take k))), (6, intsV l), (7, .i .i64 l.length)], []⟩) (fun k => k ≤ l.length) (fun k => l.length - k) 0 (Nat.zero_le _) ?_ ?_
  · refine weak_all [] [] [] ?_
    simp only [intsV, frzOK, injOK, idxF, famNe, allQ, slotOk, ownFits, own1, ownMatch, Tel, telL, pview_nil, pok_nil, pview_i, pview_b, pview_a, pview_sl, pview_rf, pview_ex, pview_ag, pview_tp, pview_fn, pview_pt, pview_os, pok_i, pok_b, pok_a, pok_sl, pok_rf, pok_ex, pok_ag, pok_tp, pok_fn, pok_pt, pok_os, lv, live, nmem, rid, ren_i, ren_b, ren_a, ren_sl, ren_rf, ren_bad, ren_ag, ren_tp, ren_fn, ren_ex, cln_ex, ren_pt, ren_os, cln_i, cln_b, cln_a, cln_sl, cln_rf, cln_bad, cln_ag, cln_tp, cln_fn, cln_pt, cln_os, List.any_cons, List.any_nil, Option.getD, Option.getD_none, Option.getD_some, Option.isSome, sim_self, sim_i, sim_b, ex_some, or_false, false_or, or_true, true_or, false_and, exists_const, exists_false, List.not_mem_nil, and_false, Int.natCast_zero, go_sem, ↓gb_t, ↓gb_f, ↓gb2_t, ↓gb2_f, Int.reduceToNat, Nat.reduceEqDiff, Nat.reduceAdd, Nat.reduceLeDiff, Nat.reduceLT, Nat.reduceBEq, Nat.reduceBNe, Nat.reduceMul, ↓reduceIte, reduceCtorEq]
    simp [greatestP]
  · intro k hk
    simp only [c_graph_greatest_r3, c_graph_greatest_r4, c_graph_greatest_r5, c_graph_greatest_r6, c_graph_greatest_r7, intsV, sim_i, go_sem, ↓gb_t, ↓gb_f, ↓gb2_t, ↓gb2_f, Int.reduceToNat, Nat.reduceEqDiff, Nat.reduceAdd, Nat.reduceLeDiff, Nat.reduceLT, Nat.reduceBEq, Nat.reduceBNe, Nat.reduceMul, ↓reduceIte, reduceCtorEq]
    refine ⟨fun h => ⟨by omega, ik (by omega) (by omega), ?_⟩, fun h => ?_⟩
    · refine loop_again (k + 1) (by omega) (by omega) ?_
      refine weak_all [] [] [] ?_
      have hlt : k < l.length := by omega
      simp only [intsV, greatestP_snoc l k hlt, getD_at hlt, frzOK, injOK, idxF, famNe, allQ, slotOk, ownFits, own1, ownMatch, Tel, telL, pview_nil, pok_nil, pview_i, pview_b, pview_a, pview_sl, pview_rf, pview_ex, pview_ag, pview_tp, pview_fn, pview_pt, pview_os, pok_i, pok_b, pok_a, pok_sl, pok_rf, pok_ex, pok_ag, pok_tp, pok_fn, pok_pt, pok_os, lv, live, nmem, rid, ren_i, ren_b, ren_a, ren_sl, ren_rf, ren_bad, ren_ag, ren_tp, ren_fn, ren_ex, cln_ex, ren_pt, ren_os, cln_i, cln_b, cln_a, cln_sl, cln_rf, cln_bad, cln_ag, cln_tp, cln_fn, cln_pt, cln_os, List.any_cons, List.any_nil, Option.getD, Option.getD_none, Option.getD_some, Option.isSome, sim_self, sim_i, sim_b, ex_some, or_false, false_or, or_true, true_or, false_and, exists_const, exists_false, List.not_mem_nil, and_false, Int.natCast_zero, go_sem, ↓gb_t, ↓gb_f, ↓gb2_t, ↓gb2_f, Int.reduceToNat, Nat.reduceEqDiff, Nat.reduceAdd, Nat.reduceLeDiff, Nat.reduceLT, Nat.reduceBEq, Nat.reduceBNe, Nat.reduceMul, ↓reduceIte, reduceCtorEq]
      simp
    · obtain rfl : k = l.length := by omega
      simp
theorem FirstPort_ret (g : Gr) (v : Nat) (hv : v < g.ports.length) (h : FuncId) (cp : List SV) (acc : Int × Int → Bool) (hcp4 : cp.any (owned 4) = false) (hl : (g.ports.getD v []).length ≤ 100000)
    (hacc : ∀ l ∈ g.ports.getD v [], Returns Try.prog h (.ag [.i .i64 l.1, .i .i64 l.2] :: cp) (.b (acc l))) : Returns Try.prog 53 [grV g, .i .i64 v, .fn h [] cp] (.i .i64 (firstP acc (g.ports.getD v []))) := by
  refine Returns.of (c_graph_FirstPort_ok _ _ ?_)
  have hcp := owned_mono_any hcp4
  simp only [c_graph_FirstPort, c_graph_FirstPort_r0, c_graph_FirstPort_r1, grV, portsV, linksV, intsV, go_sem, ↓gb_t, ↓gb_f, ↓gb2_t, ↓gb2_f, Int.reduceToNat, Nat.reduceEqDiff, Nat.reduceAdd, Nat.reduceLeDiff, Nat.reduceLT, Nat.reduceBEq, Nat.reduceBNe, Nat.reduceMul, ↓reduceIte, reduceCtorEq]
  refine ⟨by omega, ?_⟩
  obtain ⟨ls, hls⟩ : ∃ ls, g.ports.getD v [] = ls := ⟨_, rfl⟩
  rw [hls] at hl hacc ⊢
  refine loop_on (σ := Nat) (fun k => ⟨[(15, .i .i64 k), (13, linksV ls), (14, .i .i64 ls.length), (2, .fn h [] cp)], []⟩) (fun k => k ≤ ls.length ∧ (ls.take k).findIdx? acc = none) (fun k => ls.length - k) 0 ⟨Nat.zero_le _, by simp⟩ ?_ ?_
  · refine weak_all [] [] [] ?_
    simp only [linksV, hls, ren_owned_all _ hcp4, cln_owned_all _ hcp4, frzOK, injOK, idxF, famNe, allQ, slotOk, ownFits, own1, ownMatch, Tel, telL, pview_nil, pok_nil, pview_i, pview_b, pview_a, pview_sl, pview_rf, pview_ex, pview_ag, pview_tp, pview_fn, pview_pt, pview_os, pok_i, pok_b, pok_a, pok_sl, pok_rf, pok_ex, pok_ag, pok_tp, pok_fn, pok_pt, pok_os, lv, live, nmem, rid, ren_i, ren_b, ren_a, ren_sl, ren_rf, ren_bad, ren_ag, ren_tp, ren_fn, ren_ex, cln_ex, ren_pt, ren_os, cln_i, cln_b, cln_a, cln_sl, cln_rf, cln_bad, cln_ag, cln_tp, cln_fn, cln_pt, cln_os, List.any_cons, List.any_nil, Option.getD, Option.getD_none, Option.getD_some, Option.isSome, sim_self, sim_i, sim_b, ex_some, or_false, false_or, or_true, true_or, false_and, exists_const, exists_false, List.not_mem_nil, and_false, Int.natCast_zero, go_sem, ↓gb_t, ↓gb_f, ↓gb2_t, ↓gb2_f, Int.reduceToNat, Nat.reduceEqDiff, Nat.reduceAdd, Nat.reduceLeDiff, Nat.reduceLT, Nat.reduceBEq, Nat.reduceBNe, Nat.reduceMul, ↓reduceIte, reduceCtorEq]
  · intro k ⟨hk, hno⟩
    simp only [c_graph_FirstPort_r2, c_graph_FirstPort_r3, c_graph_FirstPort_r4, c_graph_FirstPort_r5, c_graph_FirstPort_r6, c_graph_FirstPort_r7, linksV, sim_i, hcp, List.any_append, List.any_cons, List.any_nil, go_sem, ↓gb_t, ↓gb_f, ↓gb2_t, ↓gb2_f, Int.reduceToNat, Nat.reduceEqDiff, Nat.reduceAdd, Nat.reduceLeDiff, Nat.reduceLT, Nat.reduceBEq, Nat.reduceBNe, Nat.reduceMul, ↓reduceIte, reduceCtorEq]
    refine ⟨fun hlt => ⟨by omega, ?_⟩, fun hlt => ?_⟩
    · have hlt : k < ls.length := by omega
      have hm : ls.getD k (0, 0) ∈ ls := by rw [getD_at hlt]; exact List.getElem_mem hlt
      refine (hacc _ hm).use ?_
      simp only [thenO, sim_i, go_sem, ↓gb_t, ↓gb_f, ↓gb2_t, ↓gb2_f, Int.reduceToNat, Nat.reduceEqDiff, Nat.reduceAdd, Nat.reduceLeDiff, Nat.reduceLT, Nat.reduceBEq, Nat.reduceBNe, Nat.reduceMul, ↓reduceIte, reduceCtorEq]
      refine ⟨fun ha => ?_, fun ha => ⟨ik (by omega) (by omega), ?_⟩⟩
      · rw [getD_at hlt] at ha
        have : ls.findIdx? acc = some k := by
          rw [List.findIdx?_eq_some_iff_getElem]
          refine ⟨hlt, ha, fun j hj => ?_⟩
          rw [List.findIdx?_eq_none_iff] at hno
          simp [hno ls[j] (List.mem_take_iff_getElem.2 ⟨j, by omega, rfl⟩)]
        unfold firstP
        rw [this]
      · rw [getD_at hlt] at ha
        refine loop_again (k + 1) ⟨by omega, ?_⟩ (by omega) ?_
        · rw [List.take_succ_eq_append_getElem hlt, List.findIdx?_append, hno]
          simp [ha]
        · refine weak_all [] [] [] ?_
          simp only [linksV, ren_owned_all _ hcp4, cln_owned_all _ hcp4, frzOK, injOK, idxF, famNe, allQ, slotOk, ownFits, own1, ownMatch, Tel, telL, pview_nil, pok_nil, pview_i, pview_b, pview_a, pview_sl, pview_rf, pview_ex, pview_ag, pview_tp, pview_fn, pview_pt, pview_os, pok_i, pok_b, pok_a, pok_sl, pok_rf, pok_ex, pok_ag, pok_tp, pok_fn, pok_pt, pok_os, lv, live, nmem, rid, ren_i, ren_b, ren_a, ren_sl, ren_rf, ren_bad, ren_ag, ren_tp, ren_fn, ren_ex, cln_ex, ren_pt, ren_os, cln_i, cln_b, cln_a, cln_sl, cln_rf, cln_bad, cln_ag, cln_tp, cln_fn, cln_pt, cln_os, List.any_cons, List.any_nil, Option.getD, Option.getD_none, Option.getD_some, Option.isSome, sim_self, sim_i, sim_b, ex_some, or_false, false_or, or_true, true_or, false_and, exists_const, exists_false, List.not_mem_nil, and_false, Int.natCast_zero, go_sem, ↓gb_t, ↓gb_f, ↓gb2_t, ↓gb2_f, Int.reduceToNat, Nat.reduceEqDiff, Nat.reduceAdd, Nat.reduceLeDiff, Nat.reduceLT, Nat.reduceBEq, Nat.reduceBNe, Nat.reduceMul, ↓reduceIte, reduceCtorEq]
          simp
    · obtain rfl : k = ls.length := by omega
      rw [List.take_length] at hno
      unfold firstP
      rw [hno]
end Sh
end Go.Proofs.Ytlfojfndkcmfnaa
namespace Go.Proofs.Ytlfojfndkcmfnaa
namespace Sh
open Go Ev Go.RowKit

def GrI (g : Gr) : Prop := (∀ x ∈ g.ids, I64 x) ∧ ∀ ls ∈ g.ports, ∀ l ∈ ls, I64 l.1 ∧ I64 l.2
def RowsI (c : List (List Int)) : Prop := ∀ s ∈ c, ∀ x ∈ s, I64 x

section
variable {G : AM} {m : Mem} {φ : Phi} {M : AM} {w : World} {u u' : Value}

theorem sl_at {α : Type} {z n : Nat} {gg : Nat → List SV} {xs : List α} {E : Elem α} (hG : Le G m.b.get) (hr : RV G om0 (.sl z n gg) u) (hv : VR φ u u') (hR : Rel φ M w) (hs : Sub m M) (hn : xs.length = n)
    (hE : ∀ k x b o L L', xs[k]? = some x → RVL G om0 (gg k) L → VRL φ L L' → (∀ j v, L'[j]? = some v → w.cell? ⟨b, o + j, none⟩ = some v) → E w b o x) : SlAt z E w u' xs := by
  rcases hr.sl_inv with ⟨rfl, h0⟩ | ⟨bk, p, cp, T, N, e, zz, L, rfl, g1, g2, g3, g4, g5, g6, g7⟩
  · have : xs = [] := List.eq_nil_of_length_eq_zero hn
    subst this
    rcases h0 with rfl | ⟨b, o, c, rfl⟩
    · have e := hv.eq_simple rfl
      subst e
      exact SlAt.nil w
    · obtain ⟨lc, A, c', k1, k2, k3, k4, k5, k6, k7⟩ := hv.slice_inv
      subst k3
      exact ⟨some A, c', rfl, Nat.zero_le _, k6, fun q => absurd q (by simp)⟩
  · obtain ⟨lc, A, c', k1, k2, k3, k4, k5, k6, k7⟩ := hv.slice_inv
    subst k3
    subst hn
    refine ⟨some A, c', rfl, k4, k6, fun hpos => ?_⟩
    rcases k7 with ⟨rfl, _⟩ | k7
    · obtain ⟨lc', h1, h2⟩ := hR.blk _ _ (hs _ _ (hG _ _ g1))
      have k1' : φ bk = some lc := k1
      rw [k1'] at h1
      cases h1
      obtain ⟨h3, h4, cs, e2, fz2, h0, h5, h6, h7⟩ := h2
      refine ⟨lc.blk, lc.base + p, rfl, (Array.getElem?_eq_some_iff.1 h5).1, fun k x hx => ?_⟩
      have hk : k < xs.length := (List.getElem?_eq_some_iff.1 hx).1
      have hin := mul_in (z := z) hk
      -- the cells of element k
      have hcells : ∀ j v, j < z → (L k)[j]? = some v → ∃ v', cs[lc.base + (p + k * z + j)]? = some v' ∧ VR φ v v' := fun j v hj hv => h7 _ v (by omega) (by rw [g5 k hk j hj]; exact hv)
      have hex : ∀ (l : List Value) (q : Nat), (∀ j v, l[j]? = some v → ∃ v', cs[q + j]? = some v' ∧ VR φ v v') → ∃ l', VRL φ l l' ∧ ∀ j v, l'[j]? = some v → cs[q + j]? = some v := by
        intro l
        induction l with
        | nil => intro q _; exact ⟨[], .nil, fun j v h => by simp at h⟩
        | cons a l ih =>
          intro q h
          obtain ⟨v', e1, e2⟩ := h 0 a rfl
          obtain ⟨l', e3, e4⟩ := ih (q + 1) (fun j v hv => by have := h (j + 1) v (by simpa using hv); rw [show q + 1 + j = q + (j + 1) by omega]; exact this)
          refine ⟨v' :: l', .cons e2 e3, fun j v hv => ?_⟩
          cases j with
          | zero => simp at hv; subst hv; exact e1
          | succ j => have := e4 j v (by simpa using hv); rw [show q + (j + 1) = q + 1 + j by omega]; exact this
      obtain ⟨L', r1, r2⟩ := hex (L k) (lc.base + p + k * z) (fun j v hv => by
        have hj : j < z := by rw [← g4 k hk]; exact (List.getElem?_eq_some_iff.1 hv).1
        have := hcells j v hj hv
        rw [show lc.base + p + k * z + j = lc.base + (p + k * z + j) by omega]
        exact this)
      exact hE k x _ _ (L k) L' hx (g6 k hk) r1 fun j v hv => cell_of h5 (by have := r2 j v hv; exact this)
    · omega
theorem ints_at {l : List Int} (hG : Le G m.b.get) (hr : RV G om0 (intsV l) u) (hv : VR φ u u') (hR : Rel φ M w) (hs : Sub m M) (hI : ∀ x ∈ l, I64 x) : IntsAt w u' l := by
  refine sl_at hG hr hv hR hs rfl fun k x b o L L' hx hL hL' hc => ?_
  have hk : k < l.length := (List.getElem?_eq_some_iff.1 hx).1
  have hxe : l.getD k 0 = x := by simp [List.getD, hx]
  rw [hxe] at hL
  cases hL with
  | cons a b =>
    cases b
    cases a.int_inv
    obtain ⟨v', rfl, hvv⟩ := vrl_one hL'
    have := hvv.eq_simple rfl
    subst this
    exact ⟨hc 0 _ rfl, hI x (List.mem_of_getElem? hx)⟩
theorem links_at {ls : List (Int × Int)} (hG : Le G m.b.get) (hr : RV G om0 (linksV ls) u) (hv : VR φ u u') (hR : Rel φ M w) (hs : Sub m M) (hI : ∀ l ∈ ls, I64 l.1 ∧ I64 l.2) : LinksAt w u' ls := by
  refine sl_at hG hr hv hR hs rfl fun k x b o L L' hx hL hL' hc => ?_
  have hxe : ls.getD k (0, 0) = x := by simp [List.getD, hx]
  rw [hxe] at hL
  cases hL with
  | cons a b =>
    cases b with
    | cons a2 b2 =>
      cases b2
      cases a.int_inv
      cases a2.int_inv
      obtain ⟨v1, v2, rfl, h1, h2⟩ := vrl_two hL'
      have := h1.eq_simple rfl
      subst this
      have := h2.eq_simple rfl
      subst this
      exact ⟨hc 0 _ rfl, hc 1 _ rfl, hI x (List.mem_of_getElem? hx)⟩
theorem ports_at {ps : List (List (Int × Int))} (hG : Le G m.b.get) (hr : RV G om0 (portsV ps) u) (hv : VR φ u u') (hR : Rel φ M w) (hs : Sub m M) (hI : ∀ ls ∈ ps, ∀ l ∈ ls, I64 l.1 ∧ I64 l.2) : PortsAt w u' ps := by
  refine sl_at hG hr hv hR hs rfl fun k x b o L L' hx hL hL' hc => ?_
  have hxe : ps.getD k [] = x := by simp [List.getD, hx]
  rw [hxe] at hL
  cases hL with
  | cons a b =>
    cases b
    obtain ⟨v', rfl, hvv⟩ := vrl_one hL'
    exact ⟨v', hc 0 _ rfl, links_at hG a hvv hR hs (hI x (List.mem_of_getElem? hx))⟩
theorem rows_at {c : List (List Int)} (hG : Le G m.b.get) (hr : RV G om0 (rowsV c) u) (hv : VR φ u u') (hR : Rel φ M w) (hs : Sub m M) (hI : RowsI c) : RowsAt w u' c := by
  refine sl_at hG hr hv hR hs rfl fun k x b o L L' hx hL hL' hc => ?_
  have hxe : c.getD k [] = x := by simp [List.getD, hx]
  rw [hxe] at hL
  cases hL with
  | cons a b =>
    cases b
    obtain ⟨v', rfl, hvv⟩ := vrl_one hL'
    exact ⟨v', hc 0 _ rfl, ints_at hG a hvv hR hs (hI x (List.mem_of_getElem? hx))⟩
theorem gr_at {g : Gr} (hG : Le G m.b.get) (hr : RV G om0 (grV g) u) (hv : VR φ u u') (hR : Rel φ M w) (hs : Sub m M) (hI : GrI g) : GrAt w u' g := by
  obtain ⟨L, rfl, hL⟩ := hr.ag_inv
  cases hL with
  | cons a b =>
    cases b with
    | cons a2 b2 =>
      cases b2
      obtain ⟨L', rfl, hL'⟩ := hv.agg_inv
      obtain ⟨v1, v2, rfl, h1, h2⟩ := vrl_two hL'
      exact ⟨v1, v2, rfl, ints_at hG a h1 hR hs hI.1, ports_at hG a2 h2 hR hs hI.2⟩
end
/-- A walked contract whose value has no addresses. -/
theorem ret_of {g : FuncId} {args : List SV} {r : SV} {v : Value} (hg : ∃ fn c, Try.prog.funcs[g]? = some fn ∧ fn.body = some c) (hrv : ∀ F, RV F om0 r v) (hvr : ∀ φ, VR φ v v)
    (h : ∀ (G : AM) (m : Mem) (us : List Value), Le G m.b.get → RVL G om0 args us → ∀ φ M w us', Rel φ M w → Sub m M → VRL φ us us' → Calls Try.prog g us'.toArray w fun e w' => e = .returned v ∧ Below w.heap.size w w') : Returns Try.prog g args r := by
  intro G m us hw hle hr
  refine ⟨v, enterM m, r, sound_of_below noNum hg fun φ M w us' hR hs hv => (h G m us hle hr φ M w us' hR hs hv).mono ?_, Nat.le_refl _, Le.refl _, rfl, hrv _⟩
  rintro e w' ⟨rfl, hb⟩
  exact ⟨v, rfl, hvr φ, hb⟩
theorem rvl1 {F : AM} {ω : Om} {a : SV} {us : List Value} (h : RVL F ω [a] us) : ∃ u, us = [u] ∧ RV F ω a u := by
  cases h with | cons x y => cases y; exact ⟨_, rfl, x⟩
theorem rvl2 {F : AM} {ω : Om} {a b : SV} {us : List Value} (h : RVL F ω [a, b] us) : ∃ u v, us = [u, v] ∧ RV F ω a u ∧ RV F ω b v := by
  cases h with | cons x y => obtain ⟨v, rfl, q⟩ := rvl1 y; exact ⟨_, v, rfl, x, q⟩
end Sh
end Go.Proofs.Ytlfojfndkcmfnaa
namespace Go.Proofs.Ytlfojfndkcmfnaa
namespace Sh
open Go Ev Go.RowKit Go.ChangeShapes Go.WideShapes Go.ChangeAt
/-- A value of the world is told of so. -/
def TellV (w : World) (g : SV) (v : Value) : Prop := ∃ u, absV w.heap.size v = some u ∧ RV (memW w).b.get om0 g u
def TellL (w : World) (g : List SV) (cs : List Value) : Prop := ∃ L, cs.map (absV w.heap.size) = L.map some ∧ RVL (memW w).b.get om0 g L
theorem TellL.nil (w : World) : TellL w [] [] := ⟨[], rfl, .nil⟩
theorem TellV.cons {w : World} {g : SV} {v : Value} {gs : List SV} {cs : List Value} (h : TellV w g v) (t : TellL w gs cs) : TellL w (g :: gs) (v :: cs) := by
  obtain ⟨u, h1, h2⟩ := h
  obtain ⟨L, h3, h4⟩ := t
  exact ⟨u :: L, by rw [List.map_cons, List.map_cons, h1, h3], .cons h2 h4⟩
theorem tell_int (w : World) (k : IntKind) (n : Int) : TellV w (.i k n) (.int k n) := ⟨.int k n, rfl, .i⟩
theorem cell_blk {w : World} {a : Addr} {v : Value} (h : w.cell? a = some v) : a.spot = none ∧ a.block < w.heap.size ∧ ∃ c e fz, w.heap[a.block]? = some (.cells c e fz) ∧ c[a.off]? = some v := by
  unfold World.cell? at h
  split at h
  · rename_i c e fz hc
    split at h
    · cases h
    · rename_i hs
      refine ⟨?_, (Array.getElem?_eq_some_iff.1 hc).1, c, e, fz, hc, h⟩
      cases hq : a.spot with
      | none => rfl
      | some x => rw [hq] at hs; simp at hs
  · cases h
section
variable {H : Type} {enc : TypeId × Value → H} {P : Program} {w : World} {base : Nat} {held : Bool}
theorem tell_slice {α : Type} {z : Nat} {f : α → List SV} {p : α → Prop} (d : α) {t e : TypeId} {fuel : Nat} {v : Value} {x : DataW H × List MemPlace} (ht : P.underlying t = some (.slice e)) (hC : P.cellsOf e = z) (h0 : 0 < z)
    (hE : ∀ (n : Nat) (cs' : List Value) (y : DataW H × List MemPlace), DataW.trod enc P w base (fun _ => true) held n e cs' = some y → cs'.length = z → ∃ x, p x ∧ TellL w (f x) cs' ∧ (f x).all one1 = true)
    (h : DataW.trod enc P w base (fun _ => true) held fuel t [v] = some x) : ∃ xs : List α, (∀ x ∈ xs, p x) ∧ TellV w (.sl z xs.length (fun k => f (xs.getD k d))) v := by
  rcases Go.Deep.open_slice ht h with ⟨h1, _⟩ | ⟨a, len, cap, m, n, D, Pl, hcs, hb, hl, hm, hmm, hx, hi⟩
  · simp at h1
    subst h1
    exact ⟨[], fun x hx => (by cases hx), .slice none 0 0, rfl, .sl0 (.inl rfl)⟩
  · simp at hcs
    subst hcs
    simp only [if_true] at hmm
    subst hmm
    unfold maxLen at hm
    rw [hC] at hi
    obtain ⟨b, off, spot⟩ := a
    rcases Nat.eq_zero_or_pos m with rfl | hcap
    · obtain rfl : len = 0 := by omega
      refine ⟨[], fun x hx => (by cases hx), .slice (some ⟨w.heap.size, 0, none⟩) 0 CU, ?_, .sl0 (.inr ⟨_, _, _, rfl⟩)⟩
      cases spot <;> rfl
    · have h00 : ∃ v0, w.cell? ⟨b, off, spot⟩ = some v0 := by
        obtain ⟨cs', h2, _⟩ := hi 0 hcap
        obtain ⟨_, h3, h4⟩ := World.cells?_some h2
        have h5 := h4 0 h0
        have h6 : cs'[0]? = some (cs'[0]'(by omega)) := List.getElem?_eq_getElem (by omega)
        rw [h6] at h5
        have e : (((⟨b, off, spot⟩ : Addr).add (0 * z)).add 0) = ⟨b, off, spot⟩ := by
          unfold Addr.add
          simp
        rw [e] at h5
        exact ⟨_, h5⟩
      obtain ⟨v0, hv0⟩ := h00
      obtain ⟨hsp, hblk, c, e', fz, hc, _⟩ := cell_blk hv0
      have hsp : spot = none := hsp
      subst hsp
      have hblk : b < w.heap.size := hblk
      have hc : w.heap[b]? = some (.cells c e' fz) := hc
      have habs : absV w.heap.size (.slice (some ⟨b, off, none⟩) len m) = some (.slice (some ⟨b, off, none⟩) len CU) := by
        unfold absV
        rw [if_neg (by simp [simple])]
        simp only
        rw [if_pos ⟨hl, hm⟩, if_neg (by omega), if_pos (by omega)]
      obtain ⟨xs, x1, x2⟩ := list_of (p := fun i x => p x ∧ (f x).all one1 = true ∧ ∃ L : List Value, L.length = z ∧ RVL (memW w).b.get om0 (f x) L ∧ ∀ j, j < z → ∃ cv, w.cell? ⟨b, off + i * z + j, none⟩ = some cv ∧ absV w.heap.size cv = L[j]?) len fun i hil => by
        obtain ⟨cs', h2, h3⟩ := hi i (by omega)
        obtain ⟨_, h4, h5⟩ := World.cells?_some h2
        obtain ⟨x, q1, ⟨L, q2, q3⟩, q4⟩ := hE n cs' _ h3 h4
        have hLz : L.length = z := by
          have := congrArg List.length q2
          simpa [h4] using this.symm
        refine ⟨x, q1, q4, L, hLz, q3, fun j hj => ?_⟩
        have hj' : j < cs'.length := by omega
        refine ⟨cs'[j], ?_, ?_⟩
        · have := h5 j hj
          rw [List.getElem?_eq_getElem hj'] at this
          rw [← this]
          congr 1
          unfold Addr.add
          split <;> split <;> simp_all <;> omega
        · have := congrArg (fun l => l[j]?) q2
          simp only [List.getElem?_map, List.getElem?_eq_getElem hj'] at this
          rw [List.getElem?_eq_getElem (show j < L.length by omega)] at this ⊢
          simpa using this
      refine ⟨xs, fun x hx => ?_, _, habs, ?_⟩
      · obtain ⟨i, hi', rfl⟩ := List.getElem_of_mem hx
        exact (x2 i _ (List.getElem?_eq_getElem hi')).1
      · rw [x1]
        rcases Nat.eq_zero_or_pos len with rfl | hlen
        · exact .sl0 (.inr ⟨_, _, _, rfl⟩)
        · have hat : ∀ k, k < len → ∃ L : List Value, L.length = z ∧ RVL (memW w).b.get om0 (f (xs.getD k d)) L ∧ (f (xs.getD k d)).all one1 = true ∧ ∀ j, j < z → ∃ cv, w.cell? ⟨b, off + k * z + j, none⟩ = some cv ∧ absV w.heap.size cv = L[j]? := fun k hk => by
            have hk' : k < xs.length := by omega
            obtain ⟨_, q2, L, q3, q4, q5⟩ := x2 k _ (List.getElem?_eq_getElem hk')
            rw [List.getD_eq_getElem?_getD, List.getElem?_eq_getElem hk']
            exact ⟨L, q3, q4, q2, q5⟩
          classical
          let L : Nat → List Value := fun k => if hk : k < len then Classical.choose (hat k hk) else []
          have hL : ∀ k (hk : k < len), (L k).length = z ∧ RVL (memW w).b.get om0 (f (xs.getD k d)) (L k) ∧ (f (xs.getD k d)).all one1 = true ∧ ∀ j, j < z → ∃ cv, w.cell? ⟨b, off + k * z + j, none⟩ = some cv ∧ absV w.heap.size cv = (L k)[j]? := fun k hk => by
            have e : L k = Classical.choose (hat k hk) := by show (if hk : k < len then _ else _) = _; rw [dif_pos hk]
            rw [e]
            exact Classical.choose_spec (hat k hk)
          have hmem : (memW w).b.get b = some (.cells (tfrom .leaf 0 (c.toList.map (absV w.heap.size))) c.size CU 0) := by
            rw [memW_get]
            unfold absB
            rw [hc]
          have hget : ∀ j cv, w.cell? ⟨b, j, none⟩ = some cv → j < c.size ∧ (tfrom .leaf 0 (c.toList.map (absV w.heap.size))).get j = absV w.heap.size cv := fun j cv hcv => by
            obtain ⟨_, _, c2, e2, fz2, h1, h2⟩ := cell_blk hcv
            have h1 : w.heap[b]? = some (.cells c2 e2 fz2) := h1
            rw [hc] at h1
            cases h1
            have h2 : c[j]? = some cv := h2
            have hj : j < c.size := (Array.getElem?_eq_some_iff.1 h2).1
            refine ⟨hj, ?_⟩
            rw [tfrom_get, if_pos ⟨Nat.zero_le _, by simpa using hj⟩, Nat.sub_zero, List.getElem?_map]
            have : c.toList[j]? = some cv := by simpa using h2
            rw [this]
            simp
          refine .sl (L := L) hmem (.inr rfl) ?_ (fun k hk => (hL k hk).1) (fun k hk j hj => ?_) (fun k hk => (hL k hk).2.1) (fun k hk => (hL k hk).2.2.1)
          · obtain ⟨_, _, _, q⟩ := hL (len - 1) (by omega)
            obtain ⟨cv, h1, _⟩ := q (z - 1) (by omega)
            have := (hget _ _ h1).1
            have e : len * z = (len - 1) * z + z := by
              obtain ⟨y, rfl⟩ : ∃ y, len = y + 1 := ⟨len - 1, by omega⟩
              rw [Nat.succ_mul]; simp
            omega
          · obtain ⟨_, _, _, q⟩ := hL k hk
            obtain ⟨cv, h1, h2⟩ := q j hj
            rw [(hget _ _ h1).2, h2]
theorem tell_ints {t e : TypeId} {fuel : Nat} {v : Value} {x : DataW H × List MemPlace} (ht : P.underlying t = some (.slice e)) (he : P.underlying e = some (.int .i64)) (hC : P.cellsOf e = 1)
    (h : DataW.trod enc P w base (fun _ => true) held fuel t [v] = some x) : ∃ xs, (∀ x ∈ xs, I64 x) ∧ TellV w (intsV xs) v := by
  refine tell_slice (f := fun x => [.i .i64 x]) (p := I64) 0 ht hC (by decide) (fun n cs' y h1 h2 => ?_) h
  obtain ⟨k, rfl, _, hw⟩ := DataW.trod_int he h1
  exact ⟨k, wf_i64 hw, (tell_int w .i64 k).cons (TellL.nil w), rfl⟩
theorem tell_links {t e q q' : TypeId} {f0 f1 : Field} {fuel : Nat} {v : Value} {x : DataW H × List MemPlace} (ht : P.underlying t = some (.slice e)) (he : P.underlying e = some (.struct #[f0, f1])) (hC : P.cellsOf e = 2)
    (h0 : f0.type = q ∧ f0.offset = 0 ∧ P.cellsOf q = 1) (h1 : f1.type = q' ∧ f1.offset = 1 ∧ P.cellsOf q' = 1) (hq : P.underlying q = some (.int .i64)) (hq' : P.underlying q' = some (.int .i64))
    (h : DataW.trod enc P w base (fun _ => true) held fuel t [v] = some x) : ∃ xs, (∀ l ∈ xs, I64 l.1 ∧ I64 l.2) ∧ TellV w (linksV xs) v := by
  refine tell_slice (f := fun l : Int × Int => [.i .i64 l.1, .i .i64 l.2]) (p := fun l => I64 l.1 ∧ I64 l.2) (0, 0) ht hC (by decide) (fun n cs' y k1 k2 => ?_) h
  obtain ⟨xs, n', _, _, _, hlen, hf⟩ := DataW.trod_struct he k1
  match cs', k2 with
  | [c0, c1], _ =>
    have g0 := hf 0 f0 rfl
    have g1 := hf 1 f1 rfl
    rw [h0.1, h0.2.1, h0.2.2] at g0
    rw [h1.1, h1.2.1, h1.2.2] at g1
    match xs, hlen with
    | [y0, y1], _ =>
      obtain ⟨a0, e0, _, w0⟩ := DataW.trod_int hq (x := y0) (by simpa using g0)
      obtain ⟨a1, e1, _, w1⟩ := DataW.trod_int hq' (x := y1) (by simpa using g1)
      simp at e0 e1
      subst e0 e1
      exact ⟨(a0, a1), ⟨wf_i64 w0, wf_i64 w1⟩, (tell_int w .i64 a0).cons ((tell_int w .i64 a1).cons (TellL.nil w)), rfl⟩
theorem tell_sls {α : Type} {g : List α → SV} (hg1 : ∀ x, one1 (g x) = true) {p : List α → Prop} {t e : TypeId} {fuel : Nat} {v : Value} {x : DataW H × List MemPlace} (ht : P.underlying t = some (.slice e)) (hC : P.cellsOf e = 1)
    (hE : ∀ (n : Nat) (u : Value) (y : DataW H × List MemPlace), DataW.trod enc P w base (fun _ => true) held n e [u] = some y → ∃ xs, p xs ∧ TellV w (g xs) u)
    (h : DataW.trod enc P w base (fun _ => true) held fuel t [v] = some x) : ∃ xs : List (List α), (∀ x ∈ xs, p x) ∧ TellV w (.sl 1 xs.length (fun k => [g (xs.getD k [])])) v := by
  refine tell_slice (f := fun x => [g x]) (p := p) [] ht hC (by decide) (fun n cs' y h1 h2 => ?_) h
  match cs', h2 with
  | [u], _ =>
    obtain ⟨xs, hp, hxs⟩ := hE n u y h1
    exact ⟨xs, hp, hxs.cons (TellL.nil w), by simp [hg1]⟩
end
section
variable {H : Type} {enc : TypeId × Value → H} {w : World} {base : Nat} {held : Bool} {n : Nat} {v : Value} {x : DataW H × List MemPlace}
theorem tellA_ids (h : DataW.trod enc Try.prog w base (fun _ => true) held n 22 [v] = some x) : ∃ xs, (∀ x ∈ xs, I64 x) ∧ TellV w (intsV xs) v :=
  tell_ints Try.underlying22 Try.underlying3 (by kernel_rfl) h
theorem tellA_rows (h : DataW.trod enc Try.prog w base (fun _ => true) held n 26 [v] = some x) : ∃ xs, RowsI xs ∧ TellV w (rowsV xs) v :=
  tell_sls (fun _ => rfl) Try.underlying26 (by kernel_rfl) (fun _ _ _ h => tellA_ids h) h
theorem tellA_links (h : DataW.trod enc Try.prog w base (fun _ => true) held n 66 [v] = some x) : ∃ xs, (∀ l ∈ xs, I64 l.1 ∧ I64 l.2) ∧ TellV w (linksV xs) v :=
  tell_links Try.underlying66 Try.underlying54 (by kernel_rfl) ⟨rfl, rfl, by kernel_rfl⟩ ⟨rfl, rfl, by kernel_rfl⟩ Try.underlying3 Try.underlying3 h
theorem tellA_ports (h : DataW.trod enc Try.prog w base (fun _ => true) held n 23 [v] = some x) : ∃ xs, (∀ ls ∈ xs, ∀ l ∈ ls, I64 l.1 ∧ I64 l.2) ∧ TellV w (portsV xs) v :=
  tell_sls (fun _ => rfl) Try.underlying23 (by kernel_rfl) (fun _ _ _ h => tellA_links h) h
end
/-- A contract whose value is a truth value, in the world. -/
theorem calls_told {P : Program} {g : FuncId} {args : List SV} {x : Bool} {us' : List Value} {w : World} (h : Returns P g args (.b x)) (hg : ∃ fn c, P.funcs[g]? = some fn ∧ fn.body = some c) (hn : NoNum P)
    {us : List Value} (ha : RVL (memW w).b.get om0 args us) (hv : VRL (phiW w) us us') : Calls P g us'.toArray w fun e w' => e = .returned (.bool x) ∧ Below w.heap.size w w' :=
  calls_of h hg hn ha hv (fun F u hu => by cases hu; rfl) (fun φ v' hv' => hv'.eq_simple rfl)
end Sh
end Go.Proofs.Ytlfojfndkcmfnaa
namespace Go.Proofs.Ytlfojfndkcmfnaa
open Go.RowKit

theorem fill_step (n k : Nat) (hk : k < n) : (List.replicate k (-1 : Int) ++ List.replicate (n - k) 0).set k (-1) = List.replicate (k + 1) (-1) ++ List.replicate (n - (k + 1)) 0 := by
  apply List.ext_getElem
  · simp; omega
  · intro i h1 h2
    rw [List.getElem_set]
    split
    · subst_vars
      rw [List.getElem_append_left (by simp)]
      simp
    · by_cases hi : i < k
      · rw [List.getElem_append_left (by simpa using hi), List.getElem_append_left (by simp; omega)]; simp
      · rw [List.getElem_append_right (by simp; omega), List.getElem_append_right (by simp; omega)]; simp

theorem unfound_start (g : Gr) (a : Nat) (h : g.ports.length ≤ 24) : 1 + unfound (start g a) ≤ 30 := by
  have h1 := List.countP_le_length (p := fun x : Int => decide (x < 0)) (l := start g a)
  have h2 : (start g a).length = g.ports.length := by simp [start]
  unfold unfound
  omega

set_option maxHeartbeats 2000000 in
theorem search_any (gv : Value) (g : Gr) (a : Nat) (w : World) (hg : GrAt w gv g) (hgood : GoodG g) (ha : a < g.ports.length) :
    Calls Try.prog 74 #[gv, .int .i64 a] w (RetInts (distL g a) w) := by
  have hn24 := hgood.2.1
  have Hgood := Lib.hid hgood
  clear hgood
  obtain ⟨i, p, rfl, hi, hp⟩ := hg
  obtain ⟨A2, c2, rfl, hB1, hB2⟩ := slAt_form hp
  have Hp := Lib.hid hp
  clear hi hp
  have hmk := run_makeInts g.ports.length (by omega)
  go_enter Try.func74, Try.ntmps74
  go_wp2
  go_loopg [17] g.ports.length (fun q t wr => ∃ k : Nat, q + k = g.ports.length ∧ t = .int .i64 k ∧ Hid (Below (w.heap.size + 1) (w.alloc (.cells #[i, .slice A2 g.ports.length c2] 25)) wr) ∧ Hid (IBlk wr (w.heap.size + 1) (List.replicate k (-1) ++ List.replicate (g.ports.length - k) 0)))
  case atStart =>
    refine ⟨0, by omega, rfl, Lib.hid ((Below.refl _ _).alloc (by simp) _), Lib.hid ?_⟩
    have := IBlk.new (w.alloc (.cells #[i, .slice A2 g.ports.length c2] 25)) (List.replicate g.ports.length (0 : Int))
    simpa using this
  case round =>
    obtain ⟨k, hq, rfl, hbel, hblk⟩ := hrel
    by_cases hlt : k < g.ports.length
    · obtain ⟨x, hx⟩ : ∃ x, wr.cell? ⟨w.heap.size + 1, k, none⟩ = some (.int .i64 x) := ⟨_, hblk.out.cell (by simp; omega)⟩
      have hf := hblk.out.frozen k
      go_wp2
      go_roundg (gk - 1)
      case measure => omega
      case rel =>
        refine ⟨k + 1, by omega, by go_num, Lib.hid (hbel.out.setCell (by simp) _), Lib.hid ?_⟩
        have := hblk.out.set_ k (-1)
        rwa [fill_step _ _ hlt] at this
    · obtain rfl : k = g.ports.length := by omega
      have hblk0 : IBlk wr (w.heap.size + 1) (List.replicate g.ports.length (-1)) := by simpa using hblk.out
      obtain ⟨x, hx⟩ : ∃ x, wr.cell? ⟨w.heap.size + 1, a, none⟩ = some (.int .i64 x) := ⟨_, hblk0.cell (by simpa using ha)⟩
      have hf := hblk0.frozen a
      have Hb0 := Lib.hid hblk0
      clear hblk0 hblk hmk
      go_wp2
      go_loopg [7] (1 + unfound (start g a)) (fun q t wr => ∃ R Q, q = Q.length + unfound R ∧ q ≤ 30 ∧ Hid (Below (w.heap.size + 1) (w.alloc (.cells #[i, .slice A2 g.ports.length c2] 25)) wr) ∧ Hid (IBlk wr (w.heap.size + 1) R) ∧ Hid (BfsInv g a R Q) ∧ Hid (Owns wr (w.heap.size + 2) 3 1 t Q.length (Q.map (fun q : Nat => Value.int .i64 (q : Int)))))
      case atStart =>
        refine ⟨start g a, [a], rfl, unfound_start g a hn24, Lib.hid ((hbel.out.setCell (by simp) _).alloc (by have := hbel.out.size; simp at this ⊢; omega) _), Lib.hid ((Hb0.out.set_ a 0).alloc _), Lib.hid (BfsInv.start ha), Lib.hid ?_⟩
        refine ⟨rfl, .inr ⟨_, 0, 1, #[.int .i64 (a : Int)], rfl, ?_, ?_, Nat.le_refl _, by simp [maxLen], by simp, ?_⟩⟩
        · have := Hb0.out.lt; simp; omega
        · have := heap_alloc_new (wr.setCell ⟨w.heap.size + 1, a, none⟩ (.int .i64 0)) (.cells #[.int .i64 (a : Int)] 3); simpa using this
        · intro j u hu
          simpa using hu
      case round =>
        clear hbel Hb0 hx hf
        obtain ⟨R, Q, hq, hq30, hbel, hblk, hinv, hown⟩ := hrel
        obtain ⟨AQ, cQ, rfl⟩ := hown.out.val
        cases Q with
        | nil =>
          have Hd := Lib.hid (hinv.out.isDist.unique (distL_isDist Hgood.out ha))
          go_wp2
          go_ret
          have h := hblk.out.ints (fun x hx => by have := hinv.out.isDist.bound Hgood.out ha x hx; unfold I64; omega) (by rw [hinv.out.len]; omega)
          rw [hinv.out.len, Hd.out] at h
          exact ⟨_, rfl, h, (box2 hbel.out).2.2.1⟩
        | cons v Q =>
          obtain ⟨gQ, oQ, cap, hv, hg1, hg2, hg3, hg4, hcell⟩ := hown.out.form (by simp)
          cases hv
          have hc0 := hcell 0 (.int .i64 (v : Int)) rfl
          simp only [Nat.add_zero] at hc0
          have Hcell := Lib.hid hcell
          obtain ⟨d, hd⟩ := hinv.out.qin v (by simp)
          have hvl : v < g.ports.length := by rw [← hinv.out.len]; exact (List.getElem?_eq_some_iff.1 hd).1
          obtain ⟨q0, q1, hbw, hsz⟩ := box2 hbel.out
          obtain ⟨b2, off2, lv, rfl, hb2, hclw, hls⟩ := rowsAt_at Hp.out (List.getElem?_eq_getElem hvl)
          have hcl := keepCells hbw _ _ hclw
          clear hclw
          obtain ⟨A3, c3, rfl, hl1, hl2⟩ := slAt_form hls
          obtain ⟨ls, hle⟩ : ∃ ls, g.ports[v] = ls := ⟨_, rfl⟩
          have Hlp := Lib.hid (show g.ports[v]? = some ls by rw [List.getElem?_eq_getElem hvl, hle])
          rw [hle] at hls hcl hl1
          have Hls := Lib.hid hls
          have Hin := Lib.hid (hinv.out.pop hd ls)
          have Hbw := Lib.hid hbw
          clear hle hls hbw hcell hinv hd
          simp only [List.length_cons] at hq hg3 hown hc0
          obtain ⟨i0, hi0, hz0, hz1, hz2⟩ := info_parts int_info
          obtain ⟨vQ, hsl, hoQ, hobQ⟩ := run_cut1 (P := Try.prog) Try.underlying22 hi0 hz1 hown.out (k := 1) (by simp) (by simp)
          simp only [Nat.add_sub_cancel, Nat.mul_one, List.map_cons, List.drop_succ_cons, List.drop_zero] at hoQ
          have hsl' : ∀ W, (Instr.slice 22 (.slice (some ⟨gQ, oQ, none⟩) (Q.length + 1) cQ) (some (.int .i64 1)) none none).run Try.prog W = .ok vQ W := fun W => by simpa using hsl W
          have HoQ := Lib.hid hoQ
          have Hi0 := Lib.hid (show _ ∧ _ ∧ _ ∧ _ from ⟨hi0, hz0, hz1, hz2⟩)
          clear hoQ hown hsl hobQ hi0 hz0 hz1 hz2
          unfold maxLen at hg4
          go_wp2
          clear hsl'
          obtain ⟨go, rfl⟩ : ∃ go, go = gk := ⟨_, rfl⟩
          go_loopg [43, 7] ls.length (fun q t tq wr => ∃ (k : Nat) (R : List Int) (Q : List Nat), q + k = ls.length ∧ t = .int .i64 k ∧ Hid (go = Q.length + 1 + unfound R) ∧ Hid (Below (w.heap.size + 1) (w.alloc (.cells #[i, .slice (some ⟨b2, off2, none⟩) g.ports.length c2] 25)) wr) ∧ Hid (IBlk wr (w.heap.size + 1) R) ∧ Hid (BfsIn g a v d ls k R Q) ∧ Hid (Owns wr (w.heap.size + 2) 3 1 tq Q.length (Q.map (fun q : Nat => Value.int .i64 (q : Int)))))
          case atStart => exact ⟨0, R, Q, by omega, rfl, Lib.hid (by omega), hbel, hblk, Hin, HoQ⟩
          case round =>
            clear hbel hblk Hin HoQ hq hcl q0 q1 Hbw hsz
            obtain ⟨k, R, Q, hq, rfl, Hgk, hbel, hblk, Hin, HoQ⟩ := hrel
            by_cases hlt : k < ls.length
            · obtain ⟨q0, q1, hbw, hsz⟩ := box2 hbel.out
              have Hbw := Lib.hid hbw
              obtain ⟨A4, c4, e4, _, _, hE⟩ := Hls.out.below Stable.link hbw
              cases e4
              obtain ⟨b3, off3, rfl, hb3, hE⟩ := hE (by omega)
              obtain ⟨⟨l1, wt⟩, hle⟩ : ∃ l, ls[k] = l := ⟨_, rfl⟩
              have hl? : ls[k]? = some (l1, wt) := by rw [List.getElem?_eq_getElem hlt, hle]
              obtain ⟨hx1, hx2, ⟨hr1, hr2⟩, ⟨hr3, hr4⟩⟩ := hE k _ hl?
              obtain ⟨k1, k2, k3, k4, k5⟩ := Hgood.out.link Hlp.out (List.mem_of_getElem? hl?)
              simp only at k1 k2 k3 k4 k5 hx1 hx2 hr1 hr2 hr3 hr4
              obtain ⟨u, rfl⟩ := Int.eq_ofNat_of_zero_le k1
              have hul : u < R.length := by rw [Hin.out.len]; omega
              have hvR : v < R.length := by rw [Hin.out.len]; omega
              have hRv : R[v]? = some (d : Int) := Hin.out.rv
              have hcv := hblk.out.cell hvR
              rw [show R[v] = (d : Int) by have := List.getElem?_eq_getElem hvR; rw [hRv] at this; exact (Option.some.inj this).symm] at hcv
              have hcu := hblk.out.cell hul
              have hfu := hblk.out.frozen u
              have hd24 : d < g.ports.length := by
                rcases Hin.out.val v _ hRv with e | ⟨k', e, h1, h2⟩
                · omega
                · obtain rfl : d = k' := by omega
                  exact dist_lt Hgood.out ha h1 h2
              have hle1 : ls[k].1 = (u : Int) := by rw [hle]
              have hRu : R[u]? = some R[u] := List.getElem?_eq_getElem hul
              have hB : w.heap.size + 1 < wr.heap.size := hblk.out.lt
              clear hE hl? hle hbw k1 k3 hRv
              by_cases hneg : R[u] < 0
              · have hRm : R[u]? = some (-1) := by
                  rcases Hin.out.val u _ hRu with e | ⟨k', e, _⟩
                  · exact hRu.trans (congrArg some e)
                  · exact absurd e (by omega)
                have Hd := Lib.hid (Hin.out.discover Hlp.out hlt hle1 hRm)
                have Hun := Lib.hid (unfound_set (R := R) (u := u) (x := (d : Int) + 1) hRm (by omega))
                clear hRu hRm hle1
                go_wp2
                go_region
                go_wp2_with (at_builtin; refine wpList_append_owns _ rfl _ _ 22 rfl (w.heap.size + 2) 3 i0 (.int .i64 0) 1 8 Try.underlying22 Hi0.out.1 Hi0.out.2.1 Hi0.out.2.2.1 Hi0.out.2.2.2 rfl (by decide) u7 Q.length (Q.map (fun q : Nat => Value.int .i64 (q : Int))) (by rfl) ?hown _ 1 1 [.int .i64 (u : Int)] (by rfl) rfl ?c1 ?c2 ?c3 ?c4 ?c5 ?_)
                case hown => exact (((HoQ.out.low (p := ⟨w.heap.size + 1, u, none⟩) (by simp) _).alloc _).alloc _).drew
                case c1 => exact cell_one (by simp)
                case c2 => simp [Value.oneCell']
                case c3 => have := Hgk.out; simp only [maxLen]; omega
                case c4 => have := Hgk.out; omega
                case c5 => simp; omega
                intro vQ' w' hown' hgr hob
                have hgo := Hgk.out
                have Hown := Lib.hid hown'
                have Hgr := Lib.hid hgr
                clear hown' hgr hob
                go_wp2
                go_roundg (gk - 1)
                case measure => omega
                case rel =>
                  have hb1 := (((hbel.out.setCell (p := ⟨w.heap.size + 1, u, none⟩) (by simp) (.int .i64 ((d : Int) + 1))).alloc (by simp; omega) (.cells #[.int .i64 (u : Int), .int .i64 wt] 54)).alloc (by simp; omega) (.cells #[.int .i64 (u : Int)] 3)).drew
                  have hk1 := ((((hblk.out.set_ u ((d : Int) + 1)).alloc (.cells #[.int .i64 (u : Int), .int .i64 wt] 54)).alloc (.cells #[.int .i64 (u : Int)] 3)).drew)
                  refine ⟨k + 1, R.set u ((d : Int) + 1), Q ++ [u], by omega, by go_num, Lib.hid ?_, Lib.hid (hb1.grown Hgr.out (by simp; omega) (fun x hx => ?_)), Lib.hid (hk1.grown Hgr.out (fun e => ?_)), Hd, Lib.hid ?_⟩
                  · have := Hun.out; simp; omega
                  · have := (HoQ.out.lt hx).1; omega
                  · have := (HoQ.out.lt e.symm).1; omega
                  · have := Hown.out
                    simpa using this
              · have hpos : 0 ≤ R[u] := by omega
                obtain ⟨j, hj⟩ := Int.eq_ofNat_of_zero_le hpos
                have Hsk := Lib.hid (Hin.out.skip hlt (j := j) (by rw [hle1, Int.toNat_natCast, hRu, hj]))
                clear hRu hle1 hj
                go_wp2
                have hgo := Hgk.out
                go_roundg (gk - 1)
                case measure => omega
                case rel => exact ⟨k + 1, R, Q, by omega, by go_num, Hgk, Lib.hid (hbel.out.alloc (by omega) _), Lib.hid (hblk.out.alloc _), Hsk, Lib.hid (HoQ.out.alloc _)⟩
            · obtain rfl : k = ls.length := by omega
              go_wp2
              have hgo := Hgk.out
              go_roundg (Q.length + unfound R)
              case measure => omega
              case rel => exact ⟨R, Q, rfl, by omega, hbel, hblk, Lib.hid (Hin.out.finish Hlp.out), HoQ⟩
end Go.Proofs.Ytlfojfndkcmfnaa
