/- Walk of BfsJudges. -/
import Derived.Test.YtlfojfndkcmfnaaLawA
import Derived.Test.YtlfojfndkcmfnaaEvU
namespace Go.Proofs.Ytlfojfndkcmfnaa
open Go.RowKit

theorem hb_known : HasBody Try.prog 7 := ⟨_, Try.func7, by kernel_rfl, by kernel_rfl⟩
theorem hb_Fit : HasBody Try.prog 8 := ⟨_, Try.func8, by kernel_rfl, by kernel_rfl⟩
theorem hb_Legit : HasBody Try.prog 10 := ⟨_, Try.func10, by kernel_rfl, by kernel_rfl⟩
theorem hb_refLegit : HasBody Try.prog 11 := ⟨_, Try.func11, by kernel_rfl, by kernel_rfl⟩
theorem hb_Claim : HasBody Try.prog 12 := ⟨_, Try.func12, by kernel_rfl, by kernel_rfl⟩
theorem hb_refClaim : HasBody Try.prog 13 := ⟨_, Try.func13, by kernel_rfl, by kernel_rfl⟩
theorem hb_Parents : HasBody Try.prog 15 := ⟨_, Try.func15, by kernel_rfl, by kernel_rfl⟩
theorem hb_refParents : HasBody Try.prog 16 := ⟨_, Try.func16, by kernel_rfl, by kernel_rfl⟩
theorem hb_sameInts : HasBody Try.prog 14 := ⟨_, Try.func14, by kernel_rfl, by kernel_rfl⟩
section
variable {ops : Array Oper} {Q : Exit → Act → World → Prop} {l : List Value} {ds : List Deferred} {w : World} {i d : Nat} {σ : List (Nat × Bool)} {o : Oper} {S : World → Prop}
theorem Seq.eqlT {x y : Operand} {t' : TypeId} {b : Bool} (ho : ops[i]? = some o) (hop : o.op = .binOp .eql 4 x y t') (hd : o.dst = some d) (hw : wantedL ops o l = true) (hx : evalL l x = .bool b) (hy : evalL l y = .bool b) (hS : S w)
    (h : Seq Try.prog ops Q S σ ⟨(l.set d (.bool true)).toArray, ds⟩ w) : Seq Try.prog ops Q S ((i, true) :: σ) ⟨l.toArray, ds⟩ w :=
  Seq.yield _ ho hd hw hS (fun _ _ => by rw [exec_eqlB hop hx hy]; simp) h
theorem claim_eql (g : Gr) (x y : Operand) (w : World) : (do eqGuard .eql 31 x y (bfsClaimV g) (bfsClaimV g); binOp .eql 31 (bfsClaimV g) (bfsClaimV g) : Sem Value).run Try.prog w = .ok (.bool true) w := by
  have hgt : Try.prog.eqGuardType Try.prog.depth 31 = false := by kernel_rfl
  unfold bfsClaimV
  split
  · simp [eqGuard, hgt, go_sem]
  · simp [claimZero, eqGuard, hgt, go_sem]
theorem Seq.eqlC {x y : Operand} {t t' : TypeId} {v : Value} (heq : ∀ x y w, (do eqGuard .eql t x y v v; binOp .eql t v v : Sem Value).run Try.prog w = .ok (.bool true) w) (ho : ops[i]? = some o) (hop : o.op = .binOp .eql t x y t') (hd : o.dst = some d) (hw : wantedL ops o l = true) (hx : evalL l x = v) (hy : evalL l y = v) (hS : S w)
    (h : Seq Try.prog ops Q S σ ⟨(l.set d (.bool true)).toArray, ds⟩ w) : Seq Try.prog ops Q S ((i, true) :: σ) ⟨l.toArray, ds⟩ w :=
  Seq.yield _ ho hd hw hS (fun w _ => by
    unfold execOp
    rw [hop]
    have := heq x y w
    simp only [hx, hy]
    simp only [Sem.run_bind] at this ⊢
    rw [this]
    rfl) h
end
theorem legit_ref (gv cv : Value) (g : Gr) (c : Conf) (w : World) (hg : GrAt w gv g) (hc : RowsAt w cv c) :
    Calls Try.prog 11 #[gv, cv] w fun e w' => e = .returned (.bool (bfsLegitB g c)) ∧ Below w.heap.size w w' := by
  rw [← legit_eq]; exact refLegit_any gv cv g c w hg hc
theorem same_ref (a b : Value) (xs : List Int) (w : World) (ha : IntsAt w a xs) (hb : IntsAt w b xs) :
    Calls Try.prog 14 #[a, b] w fun e w' => e = .returned (.bool true) ∧ Below w.heap.size w w' := by
  refine (sameInts_any a b xs xs w ha hb).mono ?_
  rintro e w' ⟨rfl, n, rfl⟩
  exact ⟨by simp, below_drewN (Below.refl _ _) n⟩

set_option maxHeartbeats 4000000 in
theorem bfsJudges_any (gv cv : Value) (g : Gr) (c : Conf) (w : World) (hg : GrAt w gv g) (hc : RowsAt w cv c) :
    Calls Try.prog 3 #[gv, cv] w fun e w' => e = .returned (.bool true) ∧ Below w.heap.size w w' := by
  have hg0 := Lib.hid hg
  have hc0 := Lib.hid hc
  have Hlg := fun W (h1 : GrAt W gv g) (h2 : RowsAt W cv c) => large_any gv cv g c W h1 h2
  obtain ⟨i, p, rfl, hi, hp⟩ := hg
  clear hi hp hc
  have HA : Below w.heap.size w (w.alloc (.cells #[i, p] 25)) := (Below.refl _ _).alloc (Nat.le_refl _) _
  have HA0 := Lib.hid HA
  clear HA
  cases hl : largeB g c with
  | true =>
    rw [hl] at Hlg
    have HL := Lib.hid Hlg
    clear Hlg
    go_enter Try.func3, Try.ntmps3
    go_wp2_with fail
    refine (HL.out _ (hg0.out.below HA0.out) (hc0.out.below (Stable.sl Stable.int) HA0.out)).mono ?_
    rintro e w1 ⟨rfl, hb1⟩
    have HB1 := Lib.hid (HA0.out.trans (hb1.mono HA0.out.size))
    clear hb1
    go_wp2_with fail
    refine (Ev.known23 _).mono ?_
    rintro e w2 ⟨rfl, hb2⟩
    have HB2 := Lib.hid (HB1.out.trans (hb2.mono HB1.out.size))
    clear hb2
    go_wp2_with fail
    go_ret
    exact ⟨rfl, HB2.out⟩
  | false =>
    rw [hl] at Hlg
    have HL := Lib.hid Hlg
    clear Hlg
    have HS := Lib.hid (BoxS.start w i p 25)
    go_enter Try.func3, Try.ntmps3
    go_wp2_with fail
    refine (HL.out _ (hg0.out.below HA0.out) (hc0.out.below (Stable.sl Stable.int) HA0.out)).mono ?_
    rintro e w0 ⟨rfl, hb0⟩
    have HS1 := Lib.hid (BoxS.calls (w := w) (x := i) (y := p) (w1 := w.alloc (.cells #[i, p] 25)) ⟨by simp, by simp, HA0.out⟩ hb0)
    clear hb0
    go_wp2_with fail
    have hS := HS1.out.drew
    refine wp_region_plan mixed [(0, false), (1, true), (2, true), (4, true), (3, false), (5, false), (6, true), (7, true), (8, true), (9, true), (10, true), (12, true), (13, true), (11, false), (14, false), (15, true), (16, true), (17, true), (18, true), (20, true), (19, false), (21, false), (22, true), (23, true), (24, true), (25, true), (26, true), (28, true), (29, true), (27, false), (30, false), (31, false), (32, true), (33, true)] (BoxS w i p) (by kernel_rfl) (fun _ d _ _ _ h => by cases d <;> exact h) rfl (by kernel_rfl) ?_
    refine Seq.call #[] rfl rfl rfl rfl hb_known rfl ?_
    refine (Ev.known23 _).mono ?_
    rintro e w1 ⟨rfl, hb1⟩
    refine ⟨_, rfl, hS.calls hb1, ?_⟩
    replace hS := hS.calls hb1
    simp only [List.set_cons_zero, List.set_cons_succ]
    refine Seq.move rfl rfl rfl rfl rfl hS ?_
    simp only [List.set_cons_zero, List.set_cons_succ]
    refine Seq.loadG rfl rfl rfl rfl rfl hS ?_
    simp only [List.set_cons_zero, List.set_cons_succ]
    refine Seq.loadG rfl rfl rfl rfl rfl hS ?_
    simp only [List.set_cons_zero, List.set_cons_succ]
    refine Seq.call #[.agg #[i, p]] rfl rfl rfl rfl hb_Fit rfl ?_
    refine (Fit_any _ g _ (hg0.out.below hS.2.2)).mono ?_
    rintro e w2 ⟨rfl, hb2⟩
    refine ⟨_, rfl, hS.calls hb2, ?_⟩
    replace hS := hS.calls hb2
    simp only [List.set_cons_zero, List.set_cons_succ]
    refine Seq.call #[.agg #[i, p]] rfl rfl rfl rfl hb_refFit rfl ?_
    refine (refFit_any _ g _ (hg0.out.below hS.2.2)).mono ?_
    rintro e w3 ⟨rfl, hb3⟩
    refine ⟨_, rfl, hS.calls hb3, ?_⟩
    replace hS := hS.calls hb3
    simp only [List.set_cons_zero, List.set_cons_succ]
    refine Seq.eqlT rfl rfl rfl rfl rfl rfl hS ?_
    simp only [List.set_cons_zero, List.set_cons_succ]
    refine Seq.pick rfl rfl rfl rfl rfl rfl hS ?_
    simp only [List.set_cons_zero, List.set_cons_succ]
    refine Seq.move rfl rfl rfl rfl rfl hS ?_
    simp only [List.set_cons_zero, List.set_cons_succ]
    refine Seq.loadG rfl rfl rfl rfl rfl hS ?_
    simp only [List.set_cons_zero, List.set_cons_succ]
    refine Seq.move rfl rfl rfl rfl rfl hS ?_
    simp only [List.set_cons_zero, List.set_cons_succ]
    refine Seq.loadG rfl rfl rfl rfl rfl hS ?_
    simp only [List.set_cons_zero, List.set_cons_succ]
    refine Seq.move rfl rfl rfl rfl rfl hS ?_
    simp only [List.set_cons_zero, List.set_cons_succ]
    refine Seq.call #[.agg #[i, p], cv] rfl rfl rfl rfl hb_Legit rfl ?_
    refine (Legit_any _ _ g c _ (hg0.out.below hS.2.2) (hc0.out.below (Stable.sl Stable.int) hS.2.2)).mono ?_
    rintro e w4 ⟨rfl, hb4⟩
    refine ⟨_, rfl, hS.calls hb4, ?_⟩
    replace hS := hS.calls hb4
    simp only [List.set_cons_zero, List.set_cons_succ]
    refine Seq.call #[.agg #[i, p], cv] rfl rfl rfl rfl hb_refLegit rfl ?_
    refine (legit_ref _ _ g c _ (hg0.out.below hS.2.2) (hc0.out.below (Stable.sl Stable.int) hS.2.2)).mono ?_
    rintro e w5 ⟨rfl, hb5⟩
    refine ⟨_, rfl, hS.calls hb5, ?_⟩
    replace hS := hS.calls hb5
    simp only [List.set_cons_zero, List.set_cons_succ]
    refine Seq.eqlT rfl rfl rfl rfl rfl rfl hS ?_
    simp only [List.set_cons_zero, List.set_cons_succ]
    refine Seq.pick rfl rfl rfl rfl rfl rfl hS ?_
    simp only [List.set_cons_zero, List.set_cons_succ]
    refine Seq.move rfl rfl rfl rfl rfl hS ?_
    simp only [List.set_cons_zero, List.set_cons_succ]
    refine Seq.loadG rfl rfl rfl rfl rfl hS ?_
    simp only [List.set_cons_zero, List.set_cons_succ]
    refine Seq.loadG rfl rfl rfl rfl rfl hS ?_
    simp only [List.set_cons_zero, List.set_cons_succ]
    refine Seq.call #[.agg #[i, p]] rfl rfl rfl rfl hb_Claim rfl ?_
    refine (Claim_any _ g _ (hg0.out.below hS.2.2)).mono ?_
    rintro e w6 ⟨rfl, hb6⟩
    refine ⟨_, rfl, hS.calls hb6, ?_⟩
    replace hS := hS.calls hb6
    simp only [List.set_cons_zero, List.set_cons_succ]
    refine Seq.call #[.agg #[i, p]] rfl rfl rfl rfl hb_refClaim rfl ?_
    refine (refClaim_any _ g _ (hg0.out.below hS.2.2)).mono ?_
    rintro e w7 ⟨rfl, hb7⟩
    refine ⟨_, rfl, hS.calls hb7, ?_⟩
    replace hS := hS.calls hb7
    simp only [List.set_cons_zero, List.set_cons_succ]
    refine Seq.eqlC (claim_eql g) rfl rfl rfl rfl rfl rfl hS ?_
    simp only [List.set_cons_zero, List.set_cons_succ]
    refine Seq.pick rfl rfl rfl rfl rfl rfl hS ?_
    simp only [List.set_cons_zero, List.set_cons_succ]
    refine Seq.move rfl rfl rfl rfl rfl hS ?_
    simp only [List.set_cons_zero, List.set_cons_succ]
    refine Seq.loadG rfl rfl rfl rfl rfl hS ?_
    simp only [List.set_cons_zero, List.set_cons_succ]
    refine Seq.move rfl rfl rfl rfl rfl hS ?_
    simp only [List.set_cons_zero, List.set_cons_succ]
    refine Seq.loadG rfl rfl rfl rfl rfl hS ?_
    simp only [List.set_cons_zero, List.set_cons_succ]
    refine Seq.move rfl rfl rfl rfl rfl hS ?_
    simp only [List.set_cons_zero, List.set_cons_succ]
    refine Seq.call #[.agg #[i, p], cv] rfl rfl rfl rfl hb_Parents rfl ?_
    refine (Parents_any _ _ g c _ (hg0.out.below hS.2.2) (hc0.out.below (Stable.sl Stable.int) hS.2.2)).mono ?_
    rintro e w8 ⟨pv, rfl, hpv, hb8⟩
    refine ⟨_, rfl, hS.calls hb8, ?_⟩
    replace hS := hS.calls hb8
    simp only [List.set_cons_zero, List.set_cons_succ]
    refine Seq.call #[.agg #[i, p], cv] rfl rfl rfl rfl hb_refParents rfl ?_
    refine (refParents_any _ _ g c _ (hg0.out.below hS.2.2) (hc0.out.below (Stable.sl Stable.int) hS.2.2)).mono ?_
    rintro e w9 ⟨qv, rfl, hqv, hb9⟩
    refine ⟨_, rfl, hS.calls hb9, ?_⟩
    replace hS := hS.calls hb9
    simp only [List.set_cons_zero, List.set_cons_succ]
    refine Seq.call #[pv, qv] rfl rfl rfl rfl hb_sameInts rfl ?_
    refine (same_ref _ _ (bfsParents g c) _ (hpv.below Stable.int hb9) (by rw [← parents_eq]; exact hqv)).mono ?_
    rintro e w10 ⟨rfl, hb10⟩
    refine ⟨_, rfl, hS.calls hb10, ?_⟩
    replace hS := hS.calls hb10
    simp only [List.set_cons_zero, List.set_cons_succ]
    refine Seq.pick rfl rfl rfl rfl rfl rfl hS ?_
    simp only [List.set_cons_zero, List.set_cons_succ]
    refine Seq.assign rfl rfl rfl rfl rfl hS ?_
    simp only [List.set_cons_zero, List.set_cons_succ]
    refine Seq.done ?_
    have HSS := Lib.hid hS
    clear hS
    go_wp2_with fail
    go_ret
    exact ⟨rfl, HSS.out.2.2⟩
end Go.Proofs.Ytlfojfndkcmfnaa
