/- Lemmas, joined: LdB BfsA. -/
import Derived.Test.YtlfojfndkcmfnaaPkLe16
import Derived.Test.YtlfojfndkcmfnaaPkLe17
import Derived.Test.YtlfojfndkcmfnaaPkLe15
import Derived.Test.YtlfojfndkcmfnaaPkLe14
set_option linter.unusedSimpArgs false
set_option linter.unusedVariables false
namespace Go.Proofs.Ytlfojfndkcmfnaa
open Go
namespace Sh
open Ev Go.RowKit
set_option maxRecDepth 8000
theorem snocL {α : Type} (l : List α) (x d : α) (i : Nat) : (l ++ [x]).getD i d = if i < l.length then l.getD i d else if i = l.length then x else d := by
  by_cases h : i < l.length
  · simp [List.getD, List.getElem?_append_left h, h]
  · by_cases e : i = l.length
    · subst e; simp [List.getD]
    · rw [if_neg h, if_neg e, List.getD, List.getElem?_eq_none (by simp; omega)]
      rfl
theorem fillG (k i : Nat) (hi : i ≠ k) : (if i < k + 1 then (-1 : Int) else 0) = if i < k then -1 else 0 := by
  by_cases h : i < k
  · rw [if_pos h, if_pos (by omega)]
  · rw [if_neg h, if_neg (by omega)]
theorem getD_start (g : Gr) (a i : Nat) (ha : a < g.ports.length) (hi : i < g.ports.length) : (start g a).getD i 0 = if i = a then 0 else -1 := by
  unfold start
  rw [getD_set (by simpa using ha)]
  split
  · rfl
  · rw [List.getD_eq_getElem?_getD, List.getElem?_replicate, if_pos hi]; rfl
theorem Search_ret {g : Gr} (hg : GoodG g) {a : Nat} (ha : a < g.ports.length) : Returns Try.prog 74 [grV g, .i .i64 a] (intsV (distL g a)) := by
  refine Returns.of (c_graph_search_ok _ _ ?_)
  obtain ⟨n, hn⟩ : ∃ n, g.ports.length = n := ⟨_, rfl⟩
  have h24 := hg.2.1
  have h1 := hg.1
  rw [hn] at h24 h1 ha
  obtain ⟨PV, hPV⟩ : ∃ P, portsV g.ports = P := ⟨_, rfl⟩
  simp only [c_graph_search, c_graph_search_r0, c_graph_search_r1, c_graph_search_r2, grV, portsV, hn, go_sem, ↓gb_t, ↓gb_f, ↓gb2_t, ↓gb2_f, Int.reduceToNat, Nat.reduceEqDiff, Nat.reduceAdd, Nat.reduceLeDiff, Nat.reduceLT, Nat.reduceBEq, Nat.reduceBNe, Nat.reduceMul, ↓reduceIte, reduceCtorEq]
  refine ⟨by omega, ?_⟩
  refine loop_on (σ := Nat) (fun k => ⟨[(17, .i .i64 k), (16, .i .i64 n), (5, .os (14, 0) 0 n true), (2, .pt (2, 0) 0 0), (1, .i .i64 a)],
      [(2, .one (some ⟨25, true, 2, 1, fun _ => [intsV g.ids, portsV g.ports]⟩)), (14, .one (some ⟨3, false, 1, n, fun i => [.i .i64 (if i < k then -1 else 0)]⟩))]⟩) (fun k => k ≤ n) (fun k => n - k) 0 (Nat.zero_le _) ?_ ?_
  · refine weak_all [] [] [] ?_
    simp only [portsV, hn, frzOK, injOK, idxF, famNe, allQ, slotOk, ownFits, own1, ownMatch, Tel, telL, pview_nil, pok_nil, pview_i, pview_b, pview_a, pview_sl, pview_rf, pview_ex, pview_ag, pview_tp, pview_fn, pview_pt, pview_os, pok_i, pok_b, pok_a, pok_sl, pok_rf, pok_ex, pok_ag, pok_tp, pok_fn, pok_pt, pok_os, lv, live, nmem, rid, ren_i, ren_b, ren_a, ren_sl, ren_rf, ren_bad, ren_ag, ren_tp, ren_fn, ren_ex, cln_ex, ren_pt, ren_os, cln_i, cln_b, cln_a, cln_sl, cln_rf, cln_bad, cln_ag, cln_tp, cln_fn, cln_pt, cln_os, List.any_cons, List.any_nil, Option.getD, Option.getD_none, Option.getD_some, Option.isSome, sim_self, sim_i, sim_b, ex_some, or_false, false_or, or_true, true_or, false_and, exists_const, exists_false, List.not_mem_nil, and_false, Int.natCast_zero, go_sem, ↓gb_t, ↓gb_f, ↓gb2_t, ↓gb2_f, Int.reduceToNat, Nat.reduceEqDiff, Nat.reduceAdd, Nat.reduceLeDiff, Nat.reduceLT, Nat.reduceBEq, Nat.reduceBNe, Nat.reduceMul, ↓reduceIte, reduceCtorEq]
    exact fun i _ => by rw [if_neg (by omega)]
  · intro k hk
    by_cases hlt : k < n
    · have ht : decide ((k : Int) < (n : Int)) = true := decide_eq_true (by omega)
      simp only [c_graph_search_r3, c_graph_search_r4, c_graph_search_r5, c_graph_search_r6, ht, splice, and_false, go_sem, ↓gb_t, ↓gb_f, ↓gb2_t, ↓gb2_f, Int.reduceToNat, Nat.reduceEqDiff, Nat.reduceAdd, Nat.reduceLeDiff, Nat.reduceLT, Nat.reduceBEq, Nat.reduceBNe, Nat.reduceMul, ↓reduceIte, reduceCtorEq]
      refine ⟨by omega, by omega, ikw (by omega) (by omega), ?_⟩
      refine loop_again (k + 1) (by omega) (by omega) ?_
      refine weak_all [] [] [] ?_
      simp only [go_sem, frzOK, injOK, idxF, famNe, allQ, slotOk, ownFits, own1, ownMatch, Tel, telL, pview_nil, pok_nil, pview_i, pview_b, pview_a, pview_sl, pview_rf, pview_ex, pview_ag, pview_tp, pview_fn, pview_pt, pview_os, pok_i, pok_b, pok_a, pok_sl, pok_rf, pok_ex, pok_ag, pok_tp, pok_fn, pok_pt, pok_os, lv, live, nmem, rid, ren_i, ren_b, ren_a, ren_sl, ren_rf, ren_bad, ren_ag, ren_tp, ren_fn, ren_ex, cln_ex, ren_pt, ren_os, cln_i, cln_b, cln_a, cln_sl, cln_rf, cln_bad, cln_ag, cln_tp, cln_fn, cln_pt, cln_os, List.any_cons, List.any_nil, Option.getD, Option.getD_none, Option.getD_some, Option.isSome, sim_self, sim_i, sim_b, ex_some, or_false, false_or, or_true, true_or, false_and, exists_const, exists_false, List.not_mem_nil, and_false, Int.natCast_zero, go_sem, ↓gb_t, ↓gb_f, ↓gb2_t, ↓gb2_f, Int.reduceToNat, Nat.reduceEqDiff, Nat.reduceAdd, Nat.reduceLeDiff, Nat.reduceLT, Nat.reduceBEq, Nat.reduceBNe, Nat.reduceMul, ↓reduceIte, reduceCtorEq]
      refine ⟨by omega, fun i hi => ?_⟩
      by_cases q : i = k
      · subst q
        simp only [if_pos rfl, if_pos (Nat.lt_succ_self i)]
        simp only [frzOK, injOK, idxF, famNe, allQ, slotOk, ownFits, own1, ownMatch, Tel, telL, pview_nil, pok_nil, pview_i, pview_b, pview_a, pview_sl, pview_rf, pview_ex, pview_ag, pview_tp, pview_fn, pview_pt, pview_os, pok_i, pok_b, pok_a, pok_sl, pok_rf, pok_ex, pok_ag, pok_tp, pok_fn, pok_pt, pok_os, lv, live, nmem, rid, ren_i, ren_b, ren_a, ren_sl, ren_rf, ren_bad, ren_ag, ren_tp, ren_fn, ren_ex, cln_ex, ren_pt, ren_os, cln_i, cln_b, cln_a, cln_sl, cln_rf, cln_bad, cln_ag, cln_tp, cln_fn, cln_pt, cln_os, List.any_cons, List.any_nil, Option.getD, Option.getD_none, Option.getD_some, Option.isSome, sim_self, sim_i, sim_b, ex_some, or_false, false_or, or_true, true_or, false_and, exists_const, exists_false, List.not_mem_nil, and_false, Int.natCast_zero, go_sem, ↓gb_t, ↓gb_f, ↓gb2_t, ↓gb2_f, Int.reduceToNat, Nat.reduceEqDiff, Nat.reduceAdd, Nat.reduceLeDiff, Nat.reduceLT, Nat.reduceBEq, Nat.reduceBNe, Nat.reduceMul, ↓reduceIte, reduceCtorEq]
      · simp only [if_neg q, fillG k i q]
        simp only [frzOK, injOK, idxF, famNe, allQ, slotOk, ownFits, own1, ownMatch, Tel, telL, pview_nil, pok_nil, pview_i, pview_b, pview_a, pview_sl, pview_rf, pview_ex, pview_ag, pview_tp, pview_fn, pview_pt, pview_os, pok_i, pok_b, pok_a, pok_sl, pok_rf, pok_ex, pok_ag, pok_tp, pok_fn, pok_pt, pok_os, lv, live, nmem, rid, ren_i, ren_b, ren_a, ren_sl, ren_rf, ren_bad, ren_ag, ren_tp, ren_fn, ren_ex, cln_ex, ren_pt, ren_os, cln_i, cln_b, cln_a, cln_sl, cln_rf, cln_bad, cln_ag, cln_tp, cln_fn, cln_pt, cln_os, List.any_cons, List.any_nil, Option.getD, Option.getD_none, Option.getD_some, Option.isSome, sim_self, sim_i, sim_b, ex_some, or_false, false_or, or_true, true_or, false_and, exists_const, exists_false, List.not_mem_nil, and_false, Int.natCast_zero, go_sem, ↓gb_t, ↓gb_f, ↓gb2_t, ↓gb2_f, Int.reduceToNat, Nat.reduceEqDiff, Nat.reduceAdd, Nat.reduceLeDiff, Nat.reduceLT, Nat.reduceBEq, Nat.reduceBNe, Nat.reduceMul, ↓reduceIte, reduceCtorEq]
    · obtain rfl : k = n := by omega
      have ht : decide ((k : Int) < (k : Int)) = false := decide_eq_false (by omega)
      simp only [c_graph_search_r3, c_graph_search_r7, c_graph_search_r8, ht, splice, and_false, go_sem, ↓gb_t, ↓gb_f, ↓gb2_t, ↓gb2_f, Int.reduceToNat, Nat.reduceEqDiff, Nat.reduceAdd, Nat.reduceLeDiff, Nat.reduceLT, Nat.reduceBEq, Nat.reduceBNe, Nat.reduceMul, ↓reduceIte, reduceCtorEq]
      refine ⟨⟨by omega, by omega⟩, by omega, ?_⟩
      refine loop_on (σ := List Int × List Nat × Nat) (fun q => ⟨[(7, .os (128, 0) q.2.2 (q.2.1.length - q.2.2) true), (5, .os (14, 0) 0 k true), (2, .pt (2, 0) 0 0)],
          [(2, .one (some ⟨25, true, 2, 1, fun _ => [intsV g.ids, portsV g.ports]⟩)), (14, .one (some ⟨3, false, 1, k, fun i => [.i .i64 (q.1.getD i 0)]⟩)), (128, .one (some ⟨3, false, 1, q.2.1.length, fun i => [.i .i64 (q.2.1.getD i 0 : Nat)]⟩))]⟩)
          (fun q => q.2.2 ≤ q.2.1.length ∧ BfsInv g a q.1 (q.2.1.drop q.2.2) ∧ q.2.1.length - q.2.2 + unfound q.1 ≤ 30 ∧ q.2.1.length ≤ 31) (fun q => q.2.1.length - q.2.2 + unfound q.1) (start g a, [a], 0) ⟨Nat.zero_le _, BfsInv.start (by omega), unfound_start g a (by omega), by simp⟩ ?_ ?_
      · refine weak_all [(128, fun i => (28, i))] [] [] ?_
        simp only [go_sem, frzOK, injOK, idxF, famNe, allQ, slotOk, ownFits, own1, ownMatch, Tel, telL, pview_nil, pok_nil, pview_i, pview_b, pview_a, pview_sl, pview_rf, pview_ex, pview_ag, pview_tp, pview_fn, pview_pt, pview_os, pok_i, pok_b, pok_a, pok_sl, pok_rf, pok_ex, pok_ag, pok_tp, pok_fn, pok_pt, pok_os, lv, live, nmem, rid, ren_i, ren_b, ren_a, ren_sl, ren_rf, ren_bad, ren_ag, ren_tp, ren_fn, ren_ex, cln_ex, ren_pt, ren_os, cln_i, cln_b, cln_a, cln_sl, cln_rf, cln_bad, cln_ag, cln_tp, cln_fn, cln_pt, cln_os, List.any_cons, List.any_nil, Option.getD, Option.getD_none, Option.getD_some, Option.isSome, sim_self, sim_i, sim_b, ex_some, or_false, false_or, or_true, true_or, false_and, exists_const, exists_false, List.not_mem_nil, and_false, Int.natCast_zero, go_sem, ↓gb_t, ↓gb_f, ↓gb2_t, ↓gb2_f, Int.reduceToNat, Nat.reduceEqDiff, Nat.reduceAdd, Nat.reduceLeDiff, Nat.reduceLT, Nat.reduceBEq, Nat.reduceBNe, Nat.reduceMul, ↓reduceIte, reduceCtorEq]
        refine ⟨fun i hi => ?_, fun i hi => ?_⟩
        · rw [getD_start g a i (by omega) (by omega), if_pos hi]
          by_cases q : i = a
          · simp only [if_pos q]
            simp only [frzOK, injOK, idxF, famNe, allQ, slotOk, ownFits, own1, ownMatch, Tel, telL, pview_nil, pok_nil, pview_i, pview_b, pview_a, pview_sl, pview_rf, pview_ex, pview_ag, pview_tp, pview_fn, pview_pt, pview_os, pok_i, pok_b, pok_a, pok_sl, pok_rf, pok_ex, pok_ag, pok_tp, pok_fn, pok_pt, pok_os, lv, live, nmem, rid, ren_i, ren_b, ren_a, ren_sl, ren_rf, ren_bad, ren_ag, ren_tp, ren_fn, ren_ex, cln_ex, ren_pt, ren_os, cln_i, cln_b, cln_a, cln_sl, cln_rf, cln_bad, cln_ag, cln_tp, cln_fn, cln_pt, cln_os, List.any_cons, List.any_nil, Option.getD, Option.getD_none, Option.getD_some, Option.isSome, sim_self, sim_i, sim_b, ex_some, or_false, false_or, or_true, true_or, false_and, exists_const, exists_false, List.not_mem_nil, and_false, Int.natCast_zero, go_sem, ↓gb_t, ↓gb_f, ↓gb2_t, ↓gb2_f, Int.reduceToNat, Nat.reduceEqDiff, Nat.reduceAdd, Nat.reduceLeDiff, Nat.reduceLT, Nat.reduceBEq, Nat.reduceBNe, Nat.reduceMul, ↓reduceIte, reduceCtorEq]
          · simp only [if_neg q]
            simp only [frzOK, injOK, idxF, famNe, allQ, slotOk, ownFits, own1, ownMatch, Tel, telL, pview_nil, pok_nil, pview_i, pview_b, pview_a, pview_sl, pview_rf, pview_ex, pview_ag, pview_tp, pview_fn, pview_pt, pview_os, pok_i, pok_b, pok_a, pok_sl, pok_rf, pok_ex, pok_ag, pok_tp, pok_fn, pok_pt, pok_os, lv, live, nmem, rid, ren_i, ren_b, ren_a, ren_sl, ren_rf, ren_bad, ren_ag, ren_tp, ren_fn, ren_ex, cln_ex, ren_pt, ren_os, cln_i, cln_b, cln_a, cln_sl, cln_rf, cln_bad, cln_ag, cln_tp, cln_fn, cln_pt, cln_os, List.any_cons, List.any_nil, Option.getD, Option.getD_none, Option.getD_some, Option.isSome, sim_self, sim_i, sim_b, ex_some, or_false, false_or, or_true, true_or, false_and, exists_const, exists_false, List.not_mem_nil, and_false, Int.natCast_zero, go_sem, ↓gb_t, ↓gb_f, ↓gb2_t, ↓gb2_f, Int.reduceToNat, Nat.reduceEqDiff, Nat.reduceAdd, Nat.reduceLeDiff, Nat.reduceLT, Nat.reduceBEq, Nat.reduceBNe, Nat.reduceMul, ↓reduceIte, reduceCtorEq]
        · obtain rfl : i = 0 := by omega
          simp only [Nat.zero_mul, List.getD_cons_zero, frzOK, injOK, idxF, famNe, allQ, slotOk, ownFits, own1, ownMatch, Tel, telL, pview_nil, pok_nil, pview_i, pview_b, pview_a, pview_sl, pview_rf, pview_ex, pview_ag, pview_tp, pview_fn, pview_pt, pview_os, pok_i, pok_b, pok_a, pok_sl, pok_rf, pok_ex, pok_ag, pok_tp, pok_fn, pok_pt, pok_os, lv, live, nmem, rid, ren_i, ren_b, ren_a, ren_sl, ren_rf, ren_bad, ren_ag, ren_tp, ren_fn, ren_ex, cln_ex, ren_pt, ren_os, cln_i, cln_b, cln_a, cln_sl, cln_rf, cln_bad, cln_ag, cln_tp, cln_fn, cln_pt, cln_os, List.any_cons, List.any_nil, Option.getD, Option.getD_none, Option.getD_some, Option.isSome, sim_self, sim_i, sim_b, ex_some, or_false, false_or, or_true, true_or, false_and, exists_const, exists_false, List.not_mem_nil, and_false, Int.natCast_zero, go_sem, ↓gb_t, ↓gb_f, ↓gb2_t, ↓gb2_f, Int.reduceToNat, Nat.reduceEqDiff, Nat.reduceAdd, Nat.reduceLeDiff, Nat.reduceLT, Nat.reduceBEq, Nat.reduceBNe, Nat.reduceMul, ↓reduceIte, reduceCtorEq]
      · rintro ⟨R, W, o⟩ ⟨ho, hinv, hm30, hw31⟩
        have ho : o ≤ W.length := ho
        have hinv : BfsInv g a R (W.drop o) := hinv
        have hm30 : W.length - o + unfound R ≤ 30 := hm30
        have hw31 : W.length ≤ 31 := hw31
        obtain ⟨m, hm⟩ : ∃ m, W.length = m := ⟨_, rfl⟩
        rw [hm] at ho hm30 hw31
        by_cases hlt2 : o < m
        · have hQ : W.drop o = W[o] :: W.drop (o + 1) := (List.drop_eq_getElem_cons (by omega))
          obtain ⟨v, hv⟩ : ∃ v, W.getD o 0 = v := ⟨_, rfl⟩
          have hv' : W[o] = v := by rw [← hv, getD_at (show o < W.length by omega)]
          rw [hv'] at hQ
          rw [hQ] at hinv
          obtain ⟨d, hd⟩ := hinv.qin v (by simp)
          have hvl : v < g.ports.length := by rw [← hinv.len]; exact (List.getElem?_eq_some_iff.1 hd).1
          obtain ⟨ls, hls⟩ : ∃ ls, g.ports.getD v [] = ls := ⟨_, rfl⟩
          have hls? : g.ports[v]? = some ls := by rw [← hls]; simp [List.getD, hvl]
          have hin := hinv.pop hd ls
          have hls24 : ls.length < 24 := by rw [← hls]; exact hg.deg_lt
          have ht2 : decide (((m - o : Nat) : Int) > 0) = true := decide_eq_true (by omega)
          simp only [c_graph_search_r9, c_graph_search_r10, c_graph_search_r11, c_graph_search_r12, ht2, hm, hv, portsV, linksV, hls, hn, splice, go_sem, ↓gb_t, ↓gb_f, ↓gb2_t, ↓gb2_f, Int.reduceToNat, Nat.reduceEqDiff, Nat.reduceAdd, Nat.reduceLeDiff, Nat.reduceLT, Nat.reduceBEq, Nat.reduceBNe, Nat.reduceMul, ↓reduceIte, reduceCtorEq]
          refine ⟨⟨by omega, by omega⟩, hlt2, ⟨by omega, by omega, by omega⟩, ⟨by omega, by omega⟩, ?_⟩
          refine loop_on (σ := Nat × List Int × List Nat × Nat) (fun q => ⟨[(43, .i .i64 q.1), (42, .i .i64 ls.length), (41, linksV ls), (8, .i .i64 v), (7, .os (128, 0) q.2.2.2 (q.2.2.1.length - q.2.2.2) true), (5, .os (14, 0) 0 k true), (2, .pt (2, 0) 0 0)],
              [(2, .one (some ⟨25, true, 2, 1, fun _ => [intsV g.ids, portsV g.ports]⟩)), (14, .one (some ⟨3, false, 1, k, fun i => [.i .i64 (q.2.1.getD i 0)]⟩)), (128, .one (some ⟨3, false, 1, q.2.2.1.length, fun i => [.i .i64 (q.2.2.1.getD i 0 : Nat)]⟩))]⟩)
              (fun q => q.1 ≤ ls.length ∧ q.2.2.2 ≤ q.2.2.1.length ∧ BfsIn g a v d ls q.1 q.2.1 (q.2.2.1.drop q.2.2.2) ∧ q.2.2.1.length - q.2.2.2 + 1 + unfound q.2.1 = m - o + unfound R ∧ q.2.2.1.length ≤ 31) (fun q => ls.length - q.1) (0, R, W, o + 1) ⟨Nat.zero_le _, by show o + 1 ≤ W.length; omega, hin, by show W.length - (o + 1) + 1 + unfound R = _; omega, by show W.length ≤ 31; omega⟩ ?_ ?_
          · refine weak_all [] [] [] ?_
            simp only [portsV, linksV, hn, hm, Nat.sub_sub, frzOK, injOK, idxF, famNe, allQ, slotOk, ownFits, own1, ownMatch, Tel, telL, pview_nil, pok_nil, pview_i, pview_b, pview_a, pview_sl, pview_rf, pview_ex, pview_ag, pview_tp, pview_fn, pview_pt, pview_os, pok_i, pok_b, pok_a, pok_sl, pok_rf, pok_ex, pok_ag, pok_tp, pok_fn, pok_pt, pok_os, lv, live, nmem, rid, ren_i, ren_b, ren_a, ren_sl, ren_rf, ren_bad, ren_ag, ren_tp, ren_fn, ren_ex, cln_ex, ren_pt, ren_os, cln_i, cln_b, cln_a, cln_sl, cln_rf, cln_bad, cln_ag, cln_tp, cln_fn, cln_pt, cln_os, List.any_cons, List.any_nil, Option.getD, Option.getD_none, Option.getD_some, Option.isSome, sim_self, sim_i, sim_b, ex_some, or_false, false_or, or_true, true_or, false_and, exists_const, exists_false, List.not_mem_nil, and_false, Int.natCast_zero, go_sem, ↓gb_t, ↓gb_f, ↓gb2_t, ↓gb2_f, Int.reduceToNat, Nat.reduceEqDiff, Nat.reduceAdd, Nat.reduceLeDiff, Nat.reduceLT, Nat.reduceBEq, Nat.reduceBNe, Nat.reduceMul, ↓reduceIte, reduceCtorEq]
          · rintro ⟨j, R', W', o'⟩ ⟨hj, ho', hin', hun', hw'⟩
            have hj : j ≤ ls.length := hj
            have ho' : o' ≤ W'.length := ho'
            have hin' : BfsIn g a v d ls j R' (W'.drop o') := hin'
            have hun' : W'.length - o' + 1 + unfound R' = m - o + unfound R := hun'
            have hw' : W'.length ≤ 31 := hw'
            obtain ⟨m', hm'⟩ : ∃ m, W'.length = m := ⟨_, rfl⟩
            rw [hm'] at ho' hun' hw'
            by_cases hjl : j < ls.length
            · have ht3 : decide ((j : Int) < (ls.length : Int)) = true := decide_eq_true (by omega)
              obtain ⟨l, hl⟩ : ∃ l, ls.getD j (0, 0) = l := ⟨_, rfl⟩
              have hl' : ls[j] = l := by rw [← hl, getD_at hjl]
              have hlm : l ∈ ls := by rw [← hl']; exact List.getElem_mem _
              obtain ⟨k1, k2, k3, k4, k5⟩ := hg.link hls? hlm
              obtain ⟨u, hu⟩ := Int.eq_ofNat_of_zero_le k1
              have hul : u < R'.length := by rw [hin'.len]; omega
              have hRv : R'.getD v 0 = (d : Int) := by have := hin'.rv; simp [List.getD, this]
              have hd24 : d < g.ports.length := by
                rcases hin'.val v _ hin'.rv with e | ⟨k', e, h1, h2⟩
                · omega
                · obtain rfl : d = k' := by omega
                  exact dist_lt hg (by omega) h1 h2
              have hRu : R'[u]? = some (R'.getD u 0) := by rw [getD_at hul]; exact List.getElem?_eq_getElem hul
              by_cases hneg : R'.getD u 0 < 0
              · have ht4 : decide (R'.getD u 0 < 0) = true := decide_eq_true hneg
                simp only [c_graph_search_r13, c_graph_search_r14, c_graph_search_r15, c_graph_search_r16, c_graph_search_r17, c_graph_search_r18, linksV, hl, hu, ht3, ht4, hm', hRv, splice, and_false, go_sem, ↓gb_t, ↓gb_f, ↓gb2_t, ↓gb2_f, Int.reduceToNat, Nat.reduceEqDiff, Nat.reduceAdd, Nat.reduceLeDiff, Nat.reduceLT, Nat.reduceBEq, Nat.reduceBNe, Nat.reduceMul, ↓reduceIte, reduceCtorEq]
                refine ⟨⟨by omega, by omega⟩, ⟨by omega, by omega⟩, by omega, ⟨by omega, by omega⟩, by omega, ikw (by omega) (by omega), ⟨by omega, by omega⟩, by omega, by decide, ⟨by omega, by omega, by omega⟩, ikw (by omega) (by omega), ?_⟩
                have hRm : R'[u]? = some (-1) := by
                  rcases hin'.val u _ hRu with e | ⟨k', e, _⟩
                  · rw [hRu, e]
                  · omega
                have hdis := hin'.discover hls? hjl (u := u) (by rw [hl']; exact hu) hRm
                have hunf := unfound_set (R := R') (u := u) (x := (d : Int) + 1) hRm (by omega)
                have hlen : (W'.drop o' ++ [u]).length = m' - o' + 1 := by rw [List.length_append, List.length_drop, hm']; rfl
                refine loop_again (j + 1, R'.set u ((d : Int) + 1), W'.drop o' ++ [u], 0) ⟨by show j + 1 ≤ _; omega, Nat.zero_le _, hdis, by show (W'.drop o' ++ [u]).length - 0 + 1 + unfound (R'.set u ((d : Int) + 1)) = _; omega, by show (W'.drop o' ++ [u]).length ≤ 31; omega⟩ (by show ls.length - (j + 1) < ls.length - j; omega) ?_
                refine weak_all [(128, fun i => (66, i))] [] [] ?_
                simp only [portsV, linksV, hn, hlen, frzOK, injOK, idxF, famNe, allQ, slotOk, ownFits, own1, ownMatch, Tel, telL, pview_nil, pok_nil, pview_i, pview_b, pview_a, pview_sl, pview_rf, pview_ex, pview_ag, pview_tp, pview_fn, pview_pt, pview_os, pok_i, pok_b, pok_a, pok_sl, pok_rf, pok_ex, pok_ag, pok_tp, pok_fn, pok_pt, pok_os, lv, live, nmem, rid, ren_i, ren_b, ren_a, ren_sl, ren_rf, ren_bad, ren_ag, ren_tp, ren_fn, ren_ex, cln_ex, ren_pt, ren_os, cln_i, cln_b, cln_a, cln_sl, cln_rf, cln_bad, cln_ag, cln_tp, cln_fn, cln_pt, cln_os, List.any_cons, List.any_nil, Option.getD, Option.getD_none, Option.getD_some, Option.isSome, sim_self, sim_i, sim_b, ex_some, or_false, false_or, or_true, true_or, false_and, exists_const, exists_false, List.not_mem_nil, and_false, Int.natCast_zero, go_sem, ↓gb_t, ↓gb_f, ↓gb2_t, ↓gb2_f, Int.reduceToNat, Nat.reduceEqDiff, Nat.reduceAdd, Nat.reduceLeDiff, Nat.reduceLT, Nat.reduceBEq, Nat.reduceBNe, Nat.reduceMul, ↓reduceIte, reduceCtorEq]
                refine ⟨⟨by omega, Sim.refl _⟩, fun i hi => ?_, fun i hi => ?_⟩
                · rw [getD_set hul]
                  by_cases q : i = u
                  · simp only [if_pos q]
                    simp only [frzOK, injOK, idxF, famNe, allQ, slotOk, ownFits, own1, ownMatch, Tel, telL, pview_nil, pok_nil, pview_i, pview_b, pview_a, pview_sl, pview_rf, pview_ex, pview_ag, pview_tp, pview_fn, pview_pt, pview_os, pok_i, pok_b, pok_a, pok_sl, pok_rf, pok_ex, pok_ag, pok_tp, pok_fn, pok_pt, pok_os, lv, live, nmem, rid, ren_i, ren_b, ren_a, ren_sl, ren_rf, ren_bad, ren_ag, ren_tp, ren_fn, ren_ex, cln_ex, ren_pt, ren_os, cln_i, cln_b, cln_a, cln_sl, cln_rf, cln_bad, cln_ag, cln_tp, cln_fn, cln_pt, cln_os, List.any_cons, List.any_nil, Option.getD, Option.getD_none, Option.getD_some, Option.isSome, sim_self, sim_i, sim_b, ex_some, or_false, false_or, or_true, true_or, false_and, exists_const, exists_false, List.not_mem_nil, and_false, Int.natCast_zero, go_sem, ↓gb_t, ↓gb_f, ↓gb2_t, ↓gb2_f, Int.reduceToNat, Nat.reduceEqDiff, Nat.reduceAdd, Nat.reduceLeDiff, Nat.reduceLT, Nat.reduceBEq, Nat.reduceBNe, Nat.reduceMul, ↓reduceIte, reduceCtorEq]
                  · simp only [if_neg q]
                    simp only [frzOK, injOK, idxF, famNe, allQ, slotOk, ownFits, own1, ownMatch, Tel, telL, pview_nil, pok_nil, pview_i, pview_b, pview_a, pview_sl, pview_rf, pview_ex, pview_ag, pview_tp, pview_fn, pview_pt, pview_os, pok_i, pok_b, pok_a, pok_sl, pok_rf, pok_ex, pok_ag, pok_tp, pok_fn, pok_pt, pok_os, lv, live, nmem, rid, ren_i, ren_b, ren_a, ren_sl, ren_rf, ren_bad, ren_ag, ren_tp, ren_fn, ren_ex, cln_ex, ren_pt, ren_os, cln_i, cln_b, cln_a, cln_sl, cln_rf, cln_bad, cln_ag, cln_tp, cln_fn, cln_pt, cln_os, List.any_cons, List.any_nil, Option.getD, Option.getD_none, Option.getD_some, Option.isSome, sim_self, sim_i, sim_b, ex_some, or_false, false_or, or_true, true_or, false_and, exists_const, exists_false, List.not_mem_nil, and_false, Int.natCast_zero, go_sem, ↓gb_t, ↓gb_f, ↓gb2_t, ↓gb2_f, Int.reduceToNat, Nat.reduceEqDiff, Nat.reduceAdd, Nat.reduceLeDiff, Nat.reduceLT, Nat.reduceBEq, Nat.reduceBNe, Nat.reduceMul, ↓reduceIte, reduceCtorEq]
                · rw [snocL, List.length_drop, hm']
                  by_cases q : i < m' - o'
                  · have e : (W'.drop o').getD i 0 = W'.getD (o' + i) 0 := by simp [List.getD, List.getElem?_drop]
                    simp only [if_pos q, e]
                    simp only [frzOK, injOK, idxF, famNe, allQ, slotOk, ownFits, own1, ownMatch, Tel, telL, pview_nil, pok_nil, pview_i, pview_b, pview_a, pview_sl, pview_rf, pview_ex, pview_ag, pview_tp, pview_fn, pview_pt, pview_os, pok_i, pok_b, pok_a, pok_sl, pok_rf, pok_ex, pok_ag, pok_tp, pok_fn, pok_pt, pok_os, lv, live, nmem, rid, ren_i, ren_b, ren_a, ren_sl, ren_rf, ren_bad, ren_ag, ren_tp, ren_fn, ren_ex, cln_ex, ren_pt, ren_os, cln_i, cln_b, cln_a, cln_sl, cln_rf, cln_bad, cln_ag, cln_tp, cln_fn, cln_pt, cln_os, List.any_cons, List.any_nil, Option.getD, Option.getD_none, Option.getD_some, Option.isSome, sim_self, sim_i, sim_b, ex_some, or_false, false_or, or_true, true_or, false_and, exists_const, exists_false, List.not_mem_nil, and_false, Int.natCast_zero, go_sem, ↓gb_t, ↓gb_f, ↓gb2_t, ↓gb2_f, Int.reduceToNat, Nat.reduceEqDiff, Nat.reduceAdd, Nat.reduceLeDiff, Nat.reduceLT, Nat.reduceBEq, Nat.reduceBNe, Nat.reduceMul, ↓reduceIte, reduceCtorEq]
                  · obtain rfl : i = m' - o' := by omega
                    simp only [if_neg q, Nat.sub_self, Nat.zero_mul, ↓reduceIte]
                    simp only [frzOK, injOK, idxF, famNe, allQ, slotOk, ownFits, own1, ownMatch, Tel, telL, pview_nil, pok_nil, pview_i, pview_b, pview_a, pview_sl, pview_rf, pview_ex, pview_ag, pview_tp, pview_fn, pview_pt, pview_os, pok_i, pok_b, pok_a, pok_sl, pok_rf, pok_ex, pok_ag, pok_tp, pok_fn, pok_pt, pok_os, lv, live, nmem, rid, ren_i, ren_b, ren_a, ren_sl, ren_rf, ren_bad, ren_ag, ren_tp, ren_fn, ren_ex, cln_ex, ren_pt, ren_os, cln_i, cln_b, cln_a, cln_sl, cln_rf, cln_bad, cln_ag, cln_tp, cln_fn, cln_pt, cln_os, List.any_cons, List.any_nil, Option.getD, Option.getD_none, Option.getD_some, Option.isSome, sim_self, sim_i, sim_b, ex_some, or_false, false_or, or_true, true_or, false_and, exists_const, exists_false, List.not_mem_nil, and_false, Int.natCast_zero, go_sem, ↓gb_t, ↓gb_f, ↓gb2_t, ↓gb2_f, Int.reduceToNat, Nat.reduceEqDiff, Nat.reduceAdd, Nat.reduceLeDiff, Nat.reduceLT, Nat.reduceBEq, Nat.reduceBNe, Nat.reduceMul, ↓reduceIte, reduceCtorEq]
              · have ht4 : decide (R'.getD u 0 < 0) = false := decide_eq_false hneg
                simp only [c_graph_search_r13, c_graph_search_r14, c_graph_search_r15, c_graph_search_r16, c_graph_search_r17, c_graph_search_r18, linksV, hl, hu, ht3, ht4, hm', hRv, splice, and_false, go_sem, ↓gb_t, ↓gb_f, ↓gb2_t, ↓gb2_f, Int.reduceToNat, Nat.reduceEqDiff, Nat.reduceAdd, Nat.reduceLeDiff, Nat.reduceLT, Nat.reduceBEq, Nat.reduceBNe, Nat.reduceMul, ↓reduceIte, reduceCtorEq]
                refine ⟨⟨by omega, by omega⟩, ⟨by omega, by omega⟩, by omega, ikw (by omega) (by omega), ?_⟩
                obtain ⟨y, hy⟩ := Int.eq_ofNat_of_zero_le (show 0 ≤ R'.getD u 0 by omega)
                have hsk := hin'.skip hjl (j := y) (by rw [hl', hu, Int.toNat_natCast, hRu, hy])
                refine loop_again (j + 1, R', W', o') ⟨by show j + 1 ≤ _; omega, by show o' ≤ W'.length; omega, hsk, by show W'.length - o' + 1 + unfound R' = _; omega, by show W'.length ≤ 31; omega⟩ (by show ls.length - (j + 1) < ls.length - j; omega) ?_
                refine weak_all [] [] [] ?_
                simp only [portsV, linksV, hn, hm', frzOK, injOK, idxF, famNe, allQ, slotOk, ownFits, own1, ownMatch, Tel, telL, pview_nil, pok_nil, pview_i, pview_b, pview_a, pview_sl, pview_rf, pview_ex, pview_ag, pview_tp, pview_fn, pview_pt, pview_os, pok_i, pok_b, pok_a, pok_sl, pok_rf, pok_ex, pok_ag, pok_tp, pok_fn, pok_pt, pok_os, lv, live, nmem, rid, ren_i, ren_b, ren_a, ren_sl, ren_rf, ren_bad, ren_ag, ren_tp, ren_fn, ren_ex, cln_ex, ren_pt, ren_os, cln_i, cln_b, cln_a, cln_sl, cln_rf, cln_bad, cln_ag, cln_tp, cln_fn, cln_pt, cln_os, List.any_cons, List.any_nil, Option.getD, Option.getD_none, Option.getD_some, Option.isSome, sim_self, sim_i, sim_b, ex_some, or_false, false_or, or_true, true_or, false_and, exists_const, exists_false, List.not_mem_nil, and_false, Int.natCast_zero, go_sem, ↓gb_t, ↓gb_f, ↓gb2_t, ↓gb2_f, Int.reduceToNat, Nat.reduceEqDiff, Nat.reduceAdd, Nat.reduceLeDiff, Nat.reduceLT, Nat.reduceBEq, Nat.reduceBNe, Nat.reduceMul, ↓reduceIte, reduceCtorEq]
                omega
            · obtain rfl : j = ls.length := by omega
              have ht3 : decide ((ls.length : Int) < (ls.length : Int)) = false := decide_eq_false (by omega)
              simp only [c_graph_search_r13, c_graph_search_r14, c_graph_search_r15, c_graph_search_r16, c_graph_search_r17, c_graph_search_r18, ht3, go_sem, ↓gb_t, ↓gb_f, ↓gb2_t, ↓gb2_f, Int.reduceToNat, Nat.reduceEqDiff, Nat.reduceAdd, Nat.reduceLeDiff, Nat.reduceLT, Nat.reduceBEq, Nat.reduceBNe, Nat.reduceMul, ↓reduceIte, reduceCtorEq]
              refine loop_again (R', W', o') ⟨by show o' ≤ W'.length; omega, hin'.finish hls?, by show W'.length - o' + unfound R' ≤ 30; omega, by show W'.length ≤ 31; omega⟩ (by show W'.length - o' + unfound R' < m - o + unfound R; omega) ?_
              refine weak_all [] [] [] ?_
              simp only [portsV, linksV, hn, hm', frzOK, injOK, idxF, famNe, allQ, slotOk, ownFits, own1, ownMatch, Tel, telL, pview_nil, pok_nil, pview_i, pview_b, pview_a, pview_sl, pview_rf, pview_ex, pview_ag, pview_tp, pview_fn, pview_pt, pview_os, pok_i, pok_b, pok_a, pok_sl, pok_rf, pok_ex, pok_ag, pok_tp, pok_fn, pok_pt, pok_os, lv, live, nmem, rid, ren_i, ren_b, ren_a, ren_sl, ren_rf, ren_bad, ren_ag, ren_tp, ren_fn, ren_ex, cln_ex, ren_pt, ren_os, cln_i, cln_b, cln_a, cln_sl, cln_rf, cln_bad, cln_ag, cln_tp, cln_fn, cln_pt, cln_os, List.any_cons, List.any_nil, Option.getD, Option.getD_none, Option.getD_some, Option.isSome, sim_self, sim_i, sim_b, ex_some, or_false, false_or, or_true, true_or, false_and, exists_const, exists_false, List.not_mem_nil, and_false, Int.natCast_zero, go_sem, ↓gb_t, ↓gb_f, ↓gb2_t, ↓gb2_f, Int.reduceToNat, Nat.reduceEqDiff, Nat.reduceAdd, Nat.reduceLeDiff, Nat.reduceLT, Nat.reduceBEq, Nat.reduceBNe, Nat.reduceMul, ↓reduceIte, reduceCtorEq]
        · obtain rfl : o = m := by omega
          have ht2 : decide (((o - o : Nat) : Int) > 0) = false := decide_eq_false (by omega)
          rw [List.drop_eq_nil_of_le (by omega)] at hinv
          have hdist := hinv.isDist.unique (distL_isDist hg (by omega))
          subst hdist
          have hlen := hinv.len
          simp only [c_graph_search_r9, c_graph_search_r19, ht2, hm, portsV, linksV, hn, splice, go_sem, ↓gb_t, ↓gb_f, ↓gb2_t, ↓gb2_f, Int.reduceToNat, Nat.reduceEqDiff, Nat.reduceAdd, Nat.reduceLeDiff, Nat.reduceLT, Nat.reduceBEq, Nat.reduceBNe, Nat.reduceMul, ↓reduceIte, reduceCtorEq]
          have e : (distL g a).length = k := by omega
          unfold intsV
          rw [e]
          exact Sim.refl _
theorem GDist_ret {g : Gr} (hg : GoodG g) {a : Nat} (ha : a < g.ports.length) : Returns Try.prog 41 [grV g, .i .i64 a] (intsV (distL g a)) := by
  refine Returns.of (c_graph_Distances_ok _ _ ?_)
  have hV := GValid_ret (goodI hg)
  rw [(validB_iff g).2 hg] at hV
  have hS := Search_ret hg ha
  have t1 : decide ((a : Int) < 0) = false := decide_eq_false (by omega)
  have t2 : decide ((a : Int) ≥ (g.ports.length : Int)) = false := decide_eq_false (by omega)
  simp only [grV, portsV] at hV hS
  simp only [c_graph_Distances, c_graph_Distances_r0, c_graph_Distances_r1, c_graph_Distances_r2, c_graph_Distances_r3, grV, portsV, t1, t2, clash, go_sem, ↓gb_t, ↓gb_f, ↓gb2_t, ↓gb2_f, Int.reduceToNat, Nat.reduceEqDiff, Nat.reduceAdd, Nat.reduceLeDiff, Nat.reduceLT, Nat.reduceBEq, Nat.reduceBNe, Nat.reduceMul, ↓reduceIte, reduceCtorEq]
  refine hV.use ?_
  simp only [thenO, t1, t2, clash, go_sem, ↓gb_t, ↓gb_f, ↓gb2_t, ↓gb2_f, Int.reduceToNat, Nat.reduceEqDiff, Nat.reduceAdd, Nat.reduceLeDiff, Nat.reduceLT, Nat.reduceBEq, Nat.reduceBNe, Nat.reduceMul, ↓reduceIte, reduceCtorEq]
  refine hS.use ?_
  simp only [thenO, clash, go_sem, ↓gb_t, ↓gb_f, ↓gb2_t, ↓gb2_f, Int.reduceToNat, Nat.reduceEqDiff, Nat.reduceAdd, Nat.reduceLeDiff, Nat.reduceLT, Nat.reduceBEq, Nat.reduceBNe, Nat.reduceMul, ↓reduceIte, reduceCtorEq]
  exact Sim.refl _
theorem Min_ret (l : List Int) (h0 : 0 < l.length) (hl : l.length ≤ 100000) : Returns Try.prog 85 [intsV l] (.i .i64 (minI l)) := by
  refine Returns.of (c_slices_Minintint_ok _ _ ?_)
  have t0 : decide ((l.length : Int) < 1) = false := decide_eq_false (by omega)
  simp only [c_slices_Minintint, c_slices_Minintint_r0, c_slices_Minintint_r1, c_slices_Minintint_r3, c_slices_Minintint_r4, intsV, t0, go_sem, ↓gb_t, ↓gb_f, ↓gb2_t, ↓gb2_f, Int.reduceToNat, Nat.reduceEqDiff, Nat.reduceAdd, Nat.reduceLeDiff, Nat.reduceLT, Nat.reduceBEq, Nat.reduceBNe, Nat.reduceMul, ↓reduceIte, reduceCtorEq]
  refine ⟨⟨by omega, by omega⟩, ?_⟩
  refine loop_on (σ := Nat) (fun k => ⟨[(4, .i .i64 k), (3, .i .i64 (minTo l k)), (0, intsV l)], []⟩) (fun k => 1 ≤ k ∧ k ≤ l.length) (fun k => l.length - k) 1 ⟨by omega, by omega⟩ ?_ ?_
  · refine weak_all [] [] [] ?_
    simp only [intsV, minTo_one, frzOK, injOK, idxF, famNe, allQ, slotOk, ownFits, own1, ownMatch, Tel, telL, pview_nil, pok_nil, pview_i, pview_b, pview_a, pview_sl, pview_rf, pview_ex, pview_ag, pview_tp, pview_fn, pview_pt, pview_os, pok_i, pok_b, pok_a, pok_sl, pok_rf, pok_ex, pok_ag, pok_tp, pok_fn, pok_pt, pok_os, lv, live, nmem, rid, ren_i, ren_b, ren_a, ren_sl, ren_rf, ren_bad, ren_ag, ren_tp, ren_fn, ren_ex, cln_ex, ren_pt, ren_os, cln_i, cln_b, cln_a, cln_sl, cln_rf, cln_bad, cln_ag, cln_tp, cln_fn, cln_pt, cln_os, List.any_cons, List.any_nil, Option.getD, Option.getD_none, Option.getD_some, Option.isSome, sim_self, sim_i, sim_b, ex_some, or_false, false_or, or_true, true_or, false_and, exists_const, exists_false, List.not_mem_nil, and_false, Int.natCast_zero, go_sem, ↓gb_t, ↓gb_f, ↓gb2_t, ↓gb2_f, Int.reduceToNat, Nat.reduceEqDiff, Nat.reduceAdd, Nat.reduceLeDiff, Nat.reduceLT, Nat.reduceBEq, Nat.reduceBNe, Nat.reduceMul, ↓reduceIte, reduceCtorEq]
    cases l <;> simp at h0 ⊢
  · intro k ⟨hk1, hk⟩
    simp only [c_slices_Minintint_r5, c_slices_Minintint_r6, c_slices_Minintint_r7, c_slices_Minintint_r8, intsV, sim_i, go_sem, ↓gb_t, ↓gb_f, ↓gb2_t, ↓gb2_f, Int.reduceToNat, Nat.reduceEqDiff, Nat.reduceAdd, Nat.reduceLeDiff, Nat.reduceLT, Nat.reduceBEq, Nat.reduceBNe, Nat.reduceMul, ↓reduceIte, reduceCtorEq]
    refine ⟨fun h => ⟨by omega, ik (by omega) (by omega), ?_⟩, fun h => ?_⟩
    · refine loop_again (k + 1) ⟨by omega, by omega⟩ (by omega) ?_
      refine weak_all [] [] [] ?_
      have hlt : k < l.length := by omega
      simp only [intsV, minTo_snoc hk1 hlt, getD_at hlt, frzOK, injOK, idxF, famNe, allQ, slotOk, ownFits, own1, ownMatch, Tel, telL, pview_nil, pok_nil, pview_i, pview_b, pview_a, pview_sl, pview_rf, pview_ex, pview_ag, pview_tp, pview_fn, pview_pt, pview_os, pok_i, pok_b, pok_a, pok_sl, pok_rf, pok_ex, pok_ag, pok_tp, pok_fn, pok_pt, pok_os, lv, live, nmem, rid, ren_i, ren_b, ren_a, ren_sl, ren_rf, ren_bad, ren_ag, ren_tp, ren_fn, ren_ex, cln_ex, ren_pt, ren_os, cln_i, cln_b, cln_a, cln_sl, cln_rf, cln_bad, cln_ag, cln_tp, cln_fn, cln_pt, cln_os, List.any_cons, List.any_nil, Option.getD, Option.getD_none, Option.getD_some, Option.isSome, sim_self, sim_i, sim_b, ex_some, or_false, false_or, or_true, true_or, false_and, exists_const, exists_false, List.not_mem_nil, and_false, Int.natCast_zero, go_sem, ↓gb_t, ↓gb_f, ↓gb2_t, ↓gb2_f, Int.reduceToNat, Nat.reduceEqDiff, Nat.reduceAdd, Nat.reduceLeDiff, Nat.reduceLT, Nat.reduceBEq, Nat.reduceBNe, Nat.reduceMul, ↓reduceIte, reduceCtorEq]
      simp
    · obtain rfl : k = l.length := by omega
      rfl
theorem least_ret {g : Gr} (hg : GoodG g) : Returns Try.prog 52 [grV g] (.i .i64 (leastI g.ids)) := by
  refine Returns.of (c_leader_least_ok _ _ ?_)
  have h1 := hg.1
  have h2 := hg.2.1
  have h3 := hg.2.2.1
  have hM := Min_ret g.ids (by omega) (by omega)
  have hX := Index_ret g.ids (minI g.ids) (by omega)
  rw [idxP_least (by omega)] at hX
  simp only [c_leader_least, c_leader_least_r0, c_leader_least_r1, grV, clash, go_sem, ↓gb_t, ↓gb_f, ↓gb2_t, ↓gb2_f, Int.reduceToNat, Nat.reduceEqDiff, Nat.reduceAdd, Nat.reduceLeDiff, Nat.reduceLT, Nat.reduceBEq, Nat.reduceBNe, Nat.reduceMul, ↓reduceIte, reduceCtorEq]
  refine hM.use ?_
  simp only [thenO, clash, go_sem, ↓gb_t, ↓gb_f, ↓gb2_t, ↓gb2_f, Int.reduceToNat, Nat.reduceEqDiff, Nat.reduceAdd, Nat.reduceLeDiff, Nat.reduceLT, Nat.reduceBEq, Nat.reduceBNe, Nat.reduceMul, ↓reduceIte, reduceCtorEq]
  refine hX.use ?_
  simp only [thenO, clash, go_sem, ↓gb_t, ↓gb_f, ↓gb2_t, ↓gb2_f, Int.reduceToNat, Nat.reduceEqDiff, Nat.reduceAdd, Nat.reduceLeDiff, Nat.reduceLT, Nat.reduceBEq, Nat.reduceBNe, Nat.reduceMul, ↓reduceIte, reduceCtorEq]
  exact Sim.refl _
theorem leastI_lt {g : Gr} (hg : GoodG g) : leastI g.ids < g.ports.length := by
  have h1 := hg.1
  have h3 := hg.2.2.1
  have : leastI g.ids < g.ids.length := (leastTo_inv g.ids g.ids.length (by omega) (Nat.le_refl _)).1
  omega
theorem GConn_ret {g : Gr} (hI : GrI g) : Returns Try.prog 38 [grV g] (.b (connB g)) := by
  refine ret_of ⟨_, _, Try.func38, rfl⟩ (fun _ => .b) (fun _ => .simple rfl) fun G m us hG hr φ M w us' hRl hs hv => ?_
  obtain ⟨u, rfl, h1⟩ := rvl1 hr
  obtain ⟨u', rfl, h2⟩ := vrl_one hv
  exact Connected_any u' g w (gr_at hG h1 h2 hRl hs hI)
theorem GEcc_ret {g : Gr} (hI : GrI g) (v : Int) : Returns Try.prog 46 [grV g, .i .i64 v] (.i .i64 (eccP g v)) := by
  refine ret_of ⟨_, _, Try.func46, rfl⟩ (fun _ => .i) (fun _ => .simple rfl) fun G m us hG hr φ M w us' hRl hs hv => ?_
  obtain ⟨u, v', rfl, h1, h2⟩ := rvl2 hr
  obtain ⟨u', v'', rfl, h3, h4⟩ := vrl_two hv
  cases h2.int_inv
  have e := h4.eq_simple rfl
  subst e
  exact Eccentricity_any u' g v w (gr_at hG h1 h3 hRl hs hI)
theorem lFit_ret {g : Gr} (hI : GrI g) : Returns Try.prog 19 [grV g] (.b (connB g)) := by
  refine Returns.of (c_leader_Fit_ok _ _ ?_)
  have hC := GConn_ret hI
  simp only [grV] at hC
  simp only [c_leader_Fit, c_leader_Fit_r0, c_leader_Fit_r1, grV, go_sem, ↓gb_t, ↓gb_f, ↓gb2_t, ↓gb2_f, Int.reduceToNat, Nat.reduceEqDiff, Nat.reduceAdd, Nat.reduceLeDiff, Nat.reduceLT, Nat.reduceBEq, Nat.reduceBNe, Nat.reduceMul, ↓reduceIte, reduceCtorEq]
  refine hC.use ?_
  simp only [thenO, sim_b, go_sem, ↓gb_t, ↓gb_f, ↓gb2_t, ↓gb2_f, Int.reduceToNat, Nat.reduceEqDiff, Nat.reduceAdd, Nat.reduceLeDiff, Nat.reduceLT, Nat.reduceBEq, Nat.reduceBNe, Nat.reduceMul, ↓reduceIte, reduceCtorEq]
end Sh
end Go.Proofs.Ytlfojfndkcmfnaa
namespace Go.Proofs.Ytlfojfndkcmfnaa
open Go.RowKit

theorem boundsG_length (g : Gr) (G : List Int) (v : Nat) : (boundsG g G v).length = G.length := by simp [boundsG]

set_option maxHeartbeats 2000000 in
theorem Configuration_any (gv cv Gv : Value) (g : Gr) (c : Conf) (G : List Int) (w : World) (hg : GrAt w gv g) (hc : RowsAt w cv c) (hG : IntsAt w Gv G) (hgood : GoodG g) :
    Calls Try.prog 50 #[gv, cv, Gv] w fun e w' => e = .returned (.bool (confB g.ports.length (boundsG g G) c)) ∧ Below w.heap.size w w' := by
  have hn24 := hgood.2.1
  have hid := hgood.2.2.1
  have Hid' := Lib.hid hid
  clear hgood
  obtain ⟨i, p, rfl, hi, hp⟩ := hg
  obtain ⟨A, c0, rfl, hA1, hA2⟩ := slAt_form hi
  obtain ⟨A2, c2, rfl, hB1, hB2⟩ := slAt_form hp
  obtain ⟨A3, c3, rfl, hC1, hC2⟩ := slAt_form hc
  obtain ⟨A4, c4, rfl, hD1, hD2⟩ := slAt_form hG
  have Hp := Lib.hid hp
  have Hc := Lib.hid hc
  have HG := Lib.hid hG
  clear hi hp hc hG
  by_cases n1 : c.length = g.ids.length
  · have n1' : ((c.length : Int) != (g.ids.length : Int)) = false := by simp [n1]
    have Hn := Lib.hid (n1.trans hid)
    have hcn : c.length ≤ 24 := by omega
    clear n1 hid
    go_enter Try.func50, Try.ntmps50
    go_wp2
    obtain ⟨W1, hW1⟩ : ∃ W, W = w.alloc (.cells #[.slice A g.ids.length c0, .slice A2 g.ports.length c2] 25) := ⟨_, rfl⟩
    have hbox : W1.cell? ⟨w.heap.size, 1, none⟩ = some (.slice A2 g.ports.length c2) := by subst hW1; simp
    have HbW := Lib.hid (show Below w.heap.size w W1 by subst hW1; exact (Below.refl _ _).alloc (Nat.le_refl _) _)
    rw [← hW1]
    clear hW1
    go_loopg [21] c.length (fun q t wr => ∃ v n : Nat, q + v = c.length ∧ t = .int .i64 v ∧ wr = W1.drewN n ∧ Hid (∀ (u : Nat) s, u < v → c[u]? = some s → StateOk (boundsG g G u) s))
    case atStart => exact ⟨0, 0, by omega, rfl, rfl, Lib.hid (fun u s hu => absurd hu (by omega))⟩
    case round =>
      obtain ⟨v, n, hq, rfl, rfl, hok⟩ := hrel
      by_cases hlt : v < c.length
      · obtain ⟨b3, off3, sv, rfl, hb3, hcs, hs⟩ := rowsAt_at (Hc.out.below (Stable.sl Stable.int) HbW.out) (List.getElem?_eq_getElem hlt)
        obtain ⟨A5, c5, rfl, hE1, hE2⟩ := slAt_form hs
        obtain ⟨s, hse⟩ : ∃ s, c[v] = s := ⟨_, rfl⟩
        have Hs? := Lib.hid (show c[v]? = some s by rw [List.getElem?_eq_getElem hlt, hse])
        rw [hse] at hs hcs hE1
        have Hbad := Lib.hid (show ¬ StateOk (boundsG g G v) s → confB g.ports.length (boundsG g G) c = false from fun h => confB_false (fun hc => h (hc.2 v s Hs?.out)))
        have Hs := Lib.hid hs
        clear hs hse
        by_cases c1 : s.length = G.length
        · have c1' : ((s.length : Int) != (G.length : Int)) = false := by simp [c1]
          have Hsl := Lib.hid c1
          clear c1
          have hvp : v < g.ports.length := by rw [← Hn.out]; exact hlt
          go_wp2
          obtain ⟨go, rfl⟩ : ∃ go, go = gk := ⟨_, rfl⟩
          go_loopg [33] s.length (fun q t wr => ∃ x n : Nat, q + x = s.length ∧ t = .int .i64 x ∧ wr = W1.drewN n ∧ Hid (∀ (j : Nat) b z, j < x → (boundsG g G v)[j]? = some b → s[j]? = some z → b.1 ≤ z ∧ z ≤ b.2))
          case atStart => exact ⟨0, n, by omega, rfl, rfl, Lib.hid (fun j b z hj => absurd hj (by omega))⟩
          case round =>
            obtain ⟨x, n, hqx, rfl, rfl, hst⟩ := hrel
            by_cases hxl : x < s.length
            · have hxG : x < G.length := by rw [← Hsl.out]; exact hxl
              obtain ⟨b5, o5, rfl, hb5, hc5, hr5⟩ := intsAt_at (Hs.out) hxl
              obtain ⟨b6, o6, rfl, hb6, hc6, hr6⟩ := intsAt_at (HG.out.below Stable.int HbW.out) hxG
              obtain ⟨b7, o7, lv, rfl, hb7, hc7, hl7⟩ := rowsAt_at (Hp.out.below (Stable.sl Stable.link) HbW.out) (List.getElem?_eq_getElem hvp)
              obtain ⟨A8, c8, rfl, hF1, hF2⟩ := slAt_form hl7
              obtain ⟨ds, hds⟩ : ∃ ds, g.ports[v] = ds := ⟨_, rfl⟩
              have hdeg : degOf g v = ds.length := by simp [degOf, List.getD, List.getElem?_eq_getElem hvp, hds]
              rw [hds] at hc7 hF1
              obtain ⟨y, hy⟩ : ∃ y, s[x] = y := ⟨_, rfl⟩
              obtain ⟨h, hh⟩ : ∃ h, G[x] = h := ⟨_, rfl⟩
              have Hy? := Lib.hid (show s[x]? = some y by rw [List.getElem?_eq_getElem hxl, hy])
              have hb? : (boundsG g G v)[x]? = some (if h = -1 then (-1, (ds.length : Int) - 1) else (0, h)) := by
                simp [boundsG, hxG, hh, hdeg]
              rw [hy] at hc5 hr5
              rw [hh] at hc6 hr6
              obtain ⟨hr5a, hr5b⟩ := hr5
              obtain ⟨hr6a, hr6b⟩ := hr6
              clear hl7 hds hdeg hy hh
              by_cases c2 : h = -1
              · have c2' : (h == -1) = true := by simp [c2]
                rw [if_pos c2] at hb?
                have Hb? := Lib.hid hb?
                clear hb? c2
                by_cases c3 : y < -1
                · have Hf := Lib.hid (Hbad.out (fun h => by have := h.2 x _ y Hb?.out Hy?.out; simp only at this; omega))
                  go_wp2
                  go_quiet (fail)
                  go_wp2
                  go_quiet (fail)
                  go_wp2
                  go_ret
                  exact ⟨ret_bool Hf.out.symm, below_drewN HbW.out _⟩
                · by_cases c4 : (ds.length : Int) - 1 < y
                  · have Hf := Lib.hid (Hbad.out (fun h => by have := h.2 x _ y Hb?.out Hy?.out; simp only at this; omega))
                    go_wp2
                    go_quiet (fail)
                    go_wp2
                    go_quiet (fail)
                    go_wp2
                    go_ret
                    exact ⟨ret_bool Hf.out.symm, below_drewN HbW.out _⟩
                  · have c4d : decide ((ds.length : Int) - 1 < y) = false := by simp; omega
                    go_wp2
                    go_quiet (fail)
                    go_wp2
                    go_quiet (fail)
                    go_wp2
                    go_roundg (gk - 1)
                    case measure => omega
                    case rel =>
                      refine ⟨x + 1, _, by omega, by go_num, rfl, Lib.hid (fun j b z hj hb hz => ?_)⟩
                      by_cases hjx : j < x
                      · exact hst.out j b z hjx hb hz
                      · obtain rfl : j = x := by omega
                        rw [Hb?.out] at hb
                        rw [Hy?.out] at hz
                        cases hb
                        cases hz
                        simp only
                        omega
              · have c2' : (h == -1) = false := by simp [c2]
                rw [if_neg c2] at hb?
                have Hb? := Lib.hid hb?
                clear hb? c2
                by_cases c3 : y < 0
                · have Hf := Lib.hid (Hbad.out (fun h => by have := h.2 x _ y Hb?.out Hy?.out; simp only at this; omega))
                  go_wp2
                  go_quiet (fail)
                  go_wp2
                  go_ret
                  exact ⟨ret_bool Hf.out.symm, below_drewN HbW.out _⟩
                · by_cases c4 : h < y
                  · have Hf := Lib.hid (Hbad.out (fun h => by have := h.2 x _ y Hb?.out Hy?.out; simp only at this; omega))
                    go_wp2
                    go_quiet (fail)
                    go_wp2
                    go_ret
                    exact ⟨ret_bool Hf.out.symm, below_drewN HbW.out _⟩
                  · have c4d : decide (h < y) = false := by simp; omega
                    go_wp2
                    go_quiet (fail)
                    go_wp2
                    go_roundg (gk - 1)
                    case measure => omega
                    case rel =>
                      refine ⟨x + 1, _, by omega, by go_num, rfl, Lib.hid (fun j b z hj hb hz => ?_)⟩
                      by_cases hjx : j < x
                      · exact hst.out j b z hjx hb hz
                      · obtain rfl : j = x := by omega
                        rw [Hb?.out] at hb
                        rw [Hy?.out] at hz
                        cases hb
                        cases hz
                        simp only
                        omega
            · obtain rfl : x = s.length := by omega
              go_wp2
              go_roundg (go - 1)
              case measure => omega
              case rel =>
                refine ⟨v + 1, _, by omega, by go_num, rfl, Lib.hid (fun u s' hu hs' => ?_)⟩
                by_cases huv : u < v
                · exact hok.out u s' huv hs'
                · obtain rfl : u = v := by omega
                  rw [Hs?.out] at hs'
                  cases hs'
                  refine ⟨by rw [boundsG_length, Hsl.out], fun j b z hb hz => hst.out j b z (List.getElem?_eq_some_iff.1 hz).1 hb hz⟩
        · have c1' : ((s.length : Int) != (G.length : Int)) = true := by simp; omega
          have Hf := Lib.hid (Hbad.out (fun h => c1 (by rw [h.1, boundsG_length])))
          clear c1
          go_wp2
          go_ret
          exact ⟨ret_bool Hf.out.symm, below_drewN HbW.out _⟩
      · obtain rfl : v = c.length := by omega
        have Ht := Lib.hid (confB_true (n := g.ports.length) (bs := boundsG g G) (c := c) ⟨Hn.out, fun v s hs => hok.out v s (List.getElem?_eq_some_iff.1 hs).1 hs⟩)
        go_wp2
        go_ret
        exact ⟨ret_bool Ht.out.symm, below_drewN HbW.out _⟩
  · have n1' : ((c.length : Int) != (g.ids.length : Int)) = true := by simp; omega
    have Hf := Lib.hid (confB_false (n := g.ports.length) (bs := boundsG g G) (c := c) (fun h => n1 (h.1.trans hid.symm)))
    clear n1 hid
    go_enter Try.func50, Try.ntmps50
    go_wp2
    go_ret
    exact ⟨ret_bool Hf.out.symm, (Below.refl _ _).alloc (Nat.le_refl _) _⟩
end Go.Proofs.Ytlfojfndkcmfnaa
