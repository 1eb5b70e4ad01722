/- For every graph and every list of rows of numbers, LeaderJudges returns true, and its arguments read as before; no conditions. -/
import Derived.Test.YtlfojfndkcmfnaaPkLe15
import Derived.Test.YtlfojfndkcmfnaaPkLe21
set_option linter.unusedSimpArgs false
set_option linter.unusedVariables false
namespace Go.Proofs.Ytlfojfndkcmfnaa
open Go.ChangeShapes Go.WideShapes Go.ChangeAt Go.RowKit Go.Joins
set_option linter.unusedVariables false

set_option maxRecDepth 100000 in
theorem leaderJudges_lifted (os : Os) (started : os.Started) (H : Type) (enc : TypeId × Value → H) :
    ReturnsInHanded {} Try.checked os 4 .any (Rows.leaderJudgesSpec.pre6 enc Try.prog Try.f4 Rows.leaderJudgesRow.domain false) (Rows.leaderJudgesSpec.post enc Try.prog Try.f4 false true false false) := by
  refine returnsInHanded_of_change (C := Try.checked) own started (by kernel_rfl) Try.func4
    (ChangeSpec.witness6 (enc := enc) (C := Try.checked) false ⟨#[], #[.agg #[.slice .none 0 0, .slice .none 0 0], .slice .none 0 0], []⟩ 8 (by kernel_rfl) (by kernel_rfl) (by kernel_rfl) (by kernel_rfl)) ?_
  intro W base args ds gs before hval0 hW hcnd _
  have hval : ∀ (j : Nat) t v, Try.f4.params[j]? = some t → args[j]? = some v → Value.okWide Try.prog W .any base t v := hval0
  have hW' := hW
  obtain ⟨p, q, hA0, hV, rfl, hfz, hnd⟩ := hW
  have hA : DataW.TrodAll enc Try.prog W 0 (fun _ => true) true Try.f4.params.toList args.toList ds p := hA0
  rw [Try.params4] at hA hval
  obtain ⟨v0, vs0, d0, ds0, p0, q0, hargs, rfl, rfl, h0, r0⟩ := trodAll_cons hA
  obtain ⟨v1, vs1, d1, ds1, p1, q1, rfl, rfl, rfl, h1, r1⟩ := trodAll_cons r0
  obtain ⟨rfl, rfl, rfl⟩ := trodAll_nil r1
  obtain rfl : args = #[v0, v1] := by cases args; simp_all
  obtain ⟨rfl, rfl⟩ := trodVars_none hV
  have k0 := h0
  have k1 := h1
  have lt0 : ∀ x ∈ p0, x.block < W.heap.size := by obtain ⟨m, hm⟩ := k0; exact DataW.trod_lt m _ _ _ hm
  have lt1 : ∀ x ∈ p1, x.block < W.heap.size := by obtain ⟨m, hm⟩ := k1; exact DataW.trod_lt m _ _ _ hm
  obtain ⟨g0, g1, y0, y1, n, rfl, rfl, rfl, t0, t1⟩ := open_agg2 Try.underlying25 (by kernel_rfl) (by kernel_rfl) (hval 0 25 v0 rfl rfl) h0
  obtain ⟨ids, hidsI, u0, a0, r0'⟩ := Sh.tellA_ids t0
  obtain ⟨ports, hportsI, u1, a1, r1'⟩ := Sh.tellA_ports t1
  obtain ⟨m, hm⟩ := h1
  obtain ⟨A1, len1, cap1, rfl⟩ := okWide_slice Try.underlying26 (hval 1 26 v1 rfl rfl)
  obtain ⟨c, hcI, u2, a2, r2'⟩ := Sh.tellA_rows (v := .slice A1 len1 cap1) hm
  clear hA0 hval0
  have ha : Sh.RVL (Sh.memW W).b.get Sh.om0 [Sh.grV ⟨ids, ports⟩, Sh.rowsV c] [.agg [u0, u1].toArray, u2] := .cons (.ag (.cons r0' (.cons r1' .nil))) (.cons r2' .nil)
  have hv : Ev.VRL (Sh.phiW W) [.agg [u0, u1].toArray, u2] [.agg #[g0, g1], .slice A1 len1 cap1] := .cons (.agg (a := [u0, u1]) (a' := [g0, g1]) (.cons (Sh.absV_vr a0) (.cons (Sh.absV_vr a1) .nil))) (.cons (Sh.absV_vr a2) .nil)
  refine (Sh.calls_told (Sh.leaderJudges_ret (g := ⟨ids, ports⟩) ⟨hidsI, hportsI⟩ hcI) ⟨_, _, Try.func4, rfl⟩ Ev.noNum ha hv).mono fun e W' ⟨he, bel⟩ => ?_
  subst he
  exact ⟨_, rfl, _, _, _, [], _, [], hW', trodAll_mk1 (shut_bool Try.underlying4 _), (trodAll_cons_mk (Below.trod laidOut (by kernel_rfl) (of_decide_eq_true (by kernel_rfl)) k0 bel lt0) (trodAll_cons_mk (Below.trod laidOut (by kernel_rfl) (of_decide_eq_true (by kernel_rfl)) k1 bel lt1) trodAll_mk0)), rfl, bel.frame _, fun h => by cases h⟩

theorem leaderJudges_over : Rows.leaderJudgesRow.holds Try.pinned (OpenSpec.ofChange Rows.leaderJudgesSpec) :=
  OpenClaim.holds_of_wide 4 Try.f4 rfl rfl rfl rfl rfl rfl rfl ⟨rfl, rfl, rfl, rfl, rfl⟩ rfl rfl rfl rfl rfl (by kernel_rfl) Try.func4 (by kernel_rfl)
    (of_decide_eq_true (by kernel_rfl)) (by unfold Func.isWrapper; first | (rw [if_pos (by decide +kernel)]; kernel_rfl) | (rw [if_neg (by decide +kernel)]; exact ⟨rfl, rfl⟩))
    (fun os started H enc _ => leaderJudges_lifted os started H enc)

theorem leaderJudges_holds : Rows.LeaderJudgesSaid := leaderJudges_over
#print axioms leaderJudges_holds
end Go.Proofs.Ytlfojfndkcmfnaa
