/- Walk of ColouringJudges. -/
import Derived.Test.YtegpikhfnhcjaaaGreatCjD
import Derived.Test.YtegpikhfnhcjaaaGreatKcM
namespace Go.Proofs.YtegpikhfnhcjaaaGreat
open Go.RowKit

def largeB (g : Gr) (c : Conf) : Bool := decide (g.ports.length > 60) || decide (g.ids.length > 60) || decide (c.length > 60)

set_option maxHeartbeats 1000000 in
theorem large_any (gv cv : Value) (g : Gr) (c : Conf) (w : World) (hg : GrAt w gv g) (hc : RowsAt w cv c) :
    Calls Tryz.prog 4 #[gv, cv] w fun e w' => e = .returned (.bool (largeB g c)) ∧ Below w.heap.size w w' := by
  obtain ⟨i, p, rfl, hi, hp⟩ := hg
  obtain ⟨A, ci, rfl, hi1, hi2⟩ := slAt_form hi
  obtain ⟨B, cp, rfl, hp1, hp2⟩ := slAt_form hp
  obtain ⟨C, cc, rfl, hc1, hc2⟩ := slAt_form hc
  clear hi hp hc
  by_cases h1 : g.ports.length > 60
  · have Hr := Lib.hid (show largeB g c = true by simp [largeB, h1])
    have h1' : decide ((g.ports.length : Int) > 60) = true := by simp; omega
    go_enter Tryz.func4, Tryz.ntmps4
    go_wp2
    go_ret
    exact ⟨ret_bool Hr.out.symm, (Below.refl _ _).alloc (Nat.le_refl _) _⟩
  · by_cases h2 : g.ids.length > 60
    · have Hr := Lib.hid (show largeB g c = true by simp [largeB, h2])
      have h1' : decide ((g.ports.length : Int) > 60) = false := by simp; omega
      have h2' : decide ((g.ids.length : Int) > 60) = true := by simp; omega
      go_enter Tryz.func4, Tryz.ntmps4
      go_wp2
      go_ret
      exact ⟨ret_bool Hr.out.symm, (Below.refl _ _).alloc (Nat.le_refl _) _⟩
    · by_cases h3 : c.length > 60
      · have Hr := Lib.hid (show largeB g c = true by simp [largeB, h3])
        have h1' : decide ((g.ports.length : Int) > 60) = false := by simp; omega
        have h2' : decide ((g.ids.length : Int) > 60) = false := by simp; omega
        have h3' : decide ((c.length : Int) > 60) = true := by simp; omega
        go_enter Tryz.func4, Tryz.ntmps4
        go_wp2
        go_ret
        exact ⟨ret_bool Hr.out.symm, (Below.refl _ _).alloc (Nat.le_refl _) _⟩
      · have Hr := Lib.hid (show largeB g c = false by simp [largeB]; omega)
        have h1' : decide ((g.ports.length : Int) > 60) = false := by simp; omega
        have h2' : decide ((g.ids.length : Int) > 60) = false := by simp; omega
        have h3' : decide ((c.length : Int) > 60) = false := by simp; omega
        go_enter Tryz.func4, Tryz.ntmps4
        go_wp2
        go_ret
        exact ⟨ret_bool Hr.out.symm, (Below.refl _ _).alloc (Nat.le_refl _) _⟩
theorem hbl_known : HasBody Tryz.prog 5 := ⟨_, Tryz.func5, by kernel_rfl, by kernel_rfl⟩
theorem hbl_Fit : HasBody Tryz.prog 6 := ⟨_, Tryz.func6, by kernel_rfl, by kernel_rfl⟩
theorem hbl_rFit : HasBody Tryz.prog 7 := ⟨_, Tryz.func7, by kernel_rfl, by kernel_rfl⟩
theorem hbl_Legit : HasBody Tryz.prog 8 := ⟨_, Tryz.func8, by kernel_rfl, by kernel_rfl⟩
theorem hbl_rLegit : HasBody Tryz.prog 9 := ⟨_, Tryz.func9, by kernel_rfl, by kernel_rfl⟩
theorem hbl_Claim : HasBody Tryz.prog 10 := ⟨_, Tryz.func10, by kernel_rfl, by kernel_rfl⟩
theorem hbl_rClaim : HasBody Tryz.prog 11 := ⟨_, Tryz.func11, by kernel_rfl, by kernel_rfl⟩
theorem hbl_Conf : HasBody Tryz.prog 12 := ⟨_, Tryz.func12, by kernel_rfl, by kernel_rfl⟩
theorem hbl_rConf : HasBody Tryz.prog 13 := ⟨_, Tryz.func13, by kernel_rfl, by kernel_rfl⟩
section
variable {ops : Array Oper} {Q : Exit → Act → World → Prop} {l : List Value} {ds : List Deferred} {w : World} {i d : Nat} {σ : List (Nat × Bool)} {o : Oper} {S : World → Prop}
theorem Seq.eqlT {x y : Operand} {t' : TypeId} {b : Bool} (ho : ops[i]? = some o) (hop : o.op = .binOp .eql 4 x y t') (hd : o.dst = some d) (hw : wantedL ops o l = true) (hx : evalL l x = .bool b) (hy : evalL l y = .bool b) (hS : S w)
    (h : Seq Tryz.prog ops Q S σ ⟨(l.set d (.bool true)).toArray, ds⟩ w) : Seq Tryz.prog ops Q S ((i, true) :: σ) ⟨l.toArray, ds⟩ w :=
  Seq.yield _ ho hd hw hS (fun _ _ => by rw [exec_eqlB hop hx hy]; simp) h
theorem claim_eql (g : Gr) (x y : Operand) (w : World) : (do eqGuard .eql 31 x y (colClaimV g) (colClaimV g); binOp .eql 31 (colClaimV g) (colClaimV g) : Sem Value).run Tryz.prog w = .ok (.bool true) w := by
  have hgt : Tryz.prog.eqGuardType Tryz.prog.depth 31 = false := by kernel_rfl
  unfold colClaimV
  split
  · simp [eqGuard, hgt, go_sem]
  · simp [claimZero, eqGuard, hgt, go_sem]
theorem Seq.eqlC {x y : Operand} {t t' : TypeId} {v : Value} (heq : ∀ x y w, (do eqGuard .eql t x y v v; binOp .eql t v v : Sem Value).run Tryz.prog w = .ok (.bool true) w) (ho : ops[i]? = some o) (hop : o.op = .binOp .eql t x y t') (hd : o.dst = some d) (hw : wantedL ops o l = true) (hx : evalL l x = v) (hy : evalL l y = v) (hS : S w)
    (h : Seq Tryz.prog ops Q S σ ⟨(l.set d (.bool true)).toArray, ds⟩ w) : Seq Tryz.prog ops Q S ((i, true) :: σ) ⟨l.toArray, ds⟩ w :=
  Seq.yield _ ho hd hw hS (fun w _ => by
    unfold execOp
    rw [hop]
    have := heq x y w
    simp only [hx, hy]
    simp only [Sem.run_bind] at this ⊢
    rw [this]
    rfl) h
theorem Seq.eqlUT {x y : Operand} {t' : TypeId} {a : Int} (ho : ops[i]? = some o) (hop : o.op = .binOp .eql 33 x y t') (hd : o.dst = some d) (hw : wantedL ops o l = true) (hx : evalL l x = .int .u32 a) (hy : evalL l y = .int .u32 a) (hS : S w)
    (h : Seq Tryz.prog ops Q S σ ⟨(l.set d (.bool true)).toArray, ds⟩ w) : Seq Tryz.prog ops Q S ((i, true) :: σ) ⟨l.toArray, ds⟩ w :=
  Seq.yield _ ho hd hw hS (fun _ _ => by rw [exec_eqlU hop hx hy]; simp) h
end
set_option maxHeartbeats 4000000 in
theorem colouringJudges_any (gv cv : Value) (g : Gr) (c : Conf) (w : World) (hg : GrAt w gv g) (hc : RowsAt w cv c) :
    Calls Tryz.prog 3 #[gv, cv] w fun e w' => e = .returned (.bool true) ∧ Below w.heap.size w w' := by
  have hg0 := Lib.hid hg
  have hc0 := Lib.hid hc
  have Hlg := fun W (h1 : GrAt W gv g) (h2 : RowsAt W cv c) => large_any gv cv g c W h1 h2
  obtain ⟨i, p, rfl, hi, hp⟩ := hg
  clear hi hp hc
  have HA : Below w.heap.size w (w.alloc (.cells #[i, p] 25)) := (Below.refl _ _).alloc (Nat.le_refl _) _
  have HA0 := Lib.hid HA
  clear HA
  cases hl : largeB g c with
  | true =>
    rw [hl] at Hlg
    have HL := Lib.hid Hlg
    clear Hlg
    go_enter Tryz.func3, Tryz.ntmps3
    go_wp2_with fail
    refine (HL.out _ (hg0.out.below HA0.out) (hc0.out.below (Stable.sl Stable.int) HA0.out)).mono ?_
    rintro e w1 ⟨rfl, hb1⟩
    have HB1 := Lib.hid (HA0.out.trans (hb1.mono HA0.out.size))
    clear hb1
    go_wp2_with fail
    refine (Ev.known32 _).mono ?_
    rintro e w2 ⟨rfl, hb2⟩
    have HB2 := Lib.hid (HB1.out.trans (hb2.mono HB1.out.size))
    clear hb2
    go_wp2_with fail
    go_ret
    exact ⟨rfl, HB2.out⟩
  | false =>
    rw [hl] at Hlg
    have HL := Lib.hid Hlg
    clear Hlg
    have HS := Lib.hid (BoxS.start w i p 25)
    go_enter Tryz.func3, Tryz.ntmps3
    go_wp2_with fail
    refine (HL.out _ (hg0.out.below HA0.out) (hc0.out.below (Stable.sl Stable.int) HA0.out)).mono ?_
    rintro e w0 ⟨rfl, hb0⟩
    have HS1 := Lib.hid (BoxS.calls (w := w) (x := i) (y := p) (w1 := w.alloc (.cells #[i, p] 25)) ⟨by simp, by simp, HA0.out⟩ hb0)
    clear hb0
    go_wp2_with fail
    have hS := HS1.out.drew
    refine wp_region_plan mixed [(0, false), (1, true), (2, true), (4, true), (3, false), (5, false), (6, true), (7, true), (8, true), (9, true), (10, true), (12, true), (13, true), (11, false), (14, false), (15, true), (16, true), (17, true), (18, true), (20, true), (19, false), (21, false), (22, true), (23, true), (24, true), (25, true), (26, true), (28, true), (29, true), (27, false), (30, false), (31, true), (32, true), (33, true)] (BoxS w i p) (by kernel_rfl) (fun _ d _ _ _ h => by cases d <;> exact h) rfl (by kernel_rfl) ?_
    refine Seq.call #[] rfl rfl rfl rfl hbl_known rfl ?_
    refine ((Ev.known32 _)).mono ?_
    rintro e w1 ⟨rfl, hb1⟩
    refine ⟨_, rfl, hS.calls hb1, ?_⟩
    replace hS := hS.calls hb1
    simp only [List.set_cons_zero, List.set_cons_succ]
    refine Seq.move rfl rfl rfl rfl rfl hS ?_
    simp only [List.set_cons_zero, List.set_cons_succ]
    refine Seq.loadG rfl rfl rfl rfl rfl hS ?_
    simp only [List.set_cons_zero, List.set_cons_succ]
    refine Seq.loadG rfl rfl rfl rfl rfl hS ?_
    simp only [List.set_cons_zero, List.set_cons_succ]
    refine Seq.call #[.agg #[i, p]] rfl rfl rfl rfl hbl_Fit rfl ?_
    refine (FitC_any _ g _ (hg0.out.below hS.2.2)).mono ?_
    rintro e w2 ⟨rfl, hb2⟩
    refine ⟨_, rfl, hS.calls hb2, ?_⟩
    replace hS := hS.calls hb2
    simp only [List.set_cons_zero, List.set_cons_succ]
    refine Seq.call #[.agg #[i, p]] rfl rfl rfl rfl hbl_rFit rfl ?_
    refine (refFitC_any _ g _ (hg0.out.below hS.2.2)).mono ?_
    rintro e w3 ⟨rfl, hb3⟩
    refine ⟨_, rfl, hS.calls hb3, ?_⟩
    replace hS := hS.calls hb3
    simp only [List.set_cons_zero, List.set_cons_succ]
    refine Seq.eqlT rfl rfl rfl rfl rfl rfl hS ?_
    simp only [List.set_cons_zero, List.set_cons_succ]
    refine Seq.pick rfl rfl rfl rfl rfl rfl hS ?_
    simp only [List.set_cons_zero, List.set_cons_succ]
    refine Seq.move rfl rfl rfl rfl rfl hS ?_
    simp only [List.set_cons_zero, List.set_cons_succ]
    refine Seq.loadG rfl rfl rfl rfl rfl hS ?_
    simp only [List.set_cons_zero, List.set_cons_succ]
    refine Seq.move rfl rfl rfl rfl rfl hS ?_
    simp only [List.set_cons_zero, List.set_cons_succ]
    refine Seq.loadG rfl rfl rfl rfl rfl hS ?_
    simp only [List.set_cons_zero, List.set_cons_succ]
    refine Seq.move rfl rfl rfl rfl rfl hS ?_
    simp only [List.set_cons_zero, List.set_cons_succ]
    refine Seq.call #[.agg #[i, p], cv] rfl rfl rfl rfl hbl_Legit rfl ?_
    refine (LegitC_any _ _ g c _ (hg0.out.below hS.2.2) (hc0.out.below (Stable.sl Stable.int) hS.2.2)).mono ?_
    rintro e w4 ⟨rfl, hb4⟩
    refine ⟨_, rfl, hS.calls hb4, ?_⟩
    replace hS := hS.calls hb4
    simp only [List.set_cons_zero, List.set_cons_succ]
    refine Seq.call #[.agg #[i, p], cv] rfl rfl rfl rfl hbl_rLegit rfl ?_
    refine (refLegitC_any _ _ g c _ (hg0.out.below hS.2.2) (hc0.out.below (Stable.sl Stable.int) hS.2.2)).mono ?_
    rintro e w5 ⟨rfl, hb5⟩
    refine ⟨_, rfl, hS.calls hb5, ?_⟩
    replace hS := hS.calls hb5
    simp only [List.set_cons_zero, List.set_cons_succ]
    refine Seq.eqlT rfl rfl rfl rfl rfl rfl hS ?_
    simp only [List.set_cons_zero, List.set_cons_succ]
    refine Seq.pick rfl rfl rfl rfl rfl rfl hS ?_
    simp only [List.set_cons_zero, List.set_cons_succ]
    refine Seq.move rfl rfl rfl rfl rfl hS ?_
    simp only [List.set_cons_zero, List.set_cons_succ]
    refine Seq.loadG rfl rfl rfl rfl rfl hS ?_
    simp only [List.set_cons_zero, List.set_cons_succ]
    refine Seq.loadG rfl rfl rfl rfl rfl hS ?_
    simp only [List.set_cons_zero, List.set_cons_succ]
    refine Seq.call #[.agg #[i, p]] rfl rfl rfl rfl hbl_Claim rfl ?_
    refine (ClaimC_any _ g _ (hg0.out.below hS.2.2)).mono ?_
    rintro e w6 ⟨rfl, hb6⟩
    refine ⟨_, rfl, hS.calls hb6, ?_⟩
    replace hS := hS.calls hb6
    simp only [List.set_cons_zero, List.set_cons_succ]
    refine Seq.call #[.agg #[i, p]] rfl rfl rfl rfl hbl_rClaim rfl ?_
    refine (refClaimC_any _ g _ (hg0.out.below hS.2.2)).mono ?_
    rintro e w7 ⟨rfl, hb7⟩
    refine ⟨_, rfl, hS.calls hb7, ?_⟩
    replace hS := hS.calls hb7
    simp only [List.set_cons_zero, List.set_cons_succ]
    refine Seq.eqlC (claim_eql g) rfl rfl rfl rfl rfl rfl hS ?_
    simp only [List.set_cons_zero, List.set_cons_succ]
    refine Seq.pick rfl rfl rfl rfl rfl rfl hS ?_
    simp only [List.set_cons_zero, List.set_cons_succ]
    refine Seq.move rfl rfl rfl rfl rfl hS ?_
    simp only [List.set_cons_zero, List.set_cons_succ]
    refine Seq.loadG rfl rfl rfl rfl rfl hS ?_
    simp only [List.set_cons_zero, List.set_cons_succ]
    refine Seq.move rfl rfl rfl rfl rfl hS ?_
    simp only [List.set_cons_zero, List.set_cons_succ]
    refine Seq.loadG rfl rfl rfl rfl rfl hS ?_
    simp only [List.set_cons_zero, List.set_cons_succ]
    refine Seq.move rfl rfl rfl rfl rfl hS ?_
    simp only [List.set_cons_zero, List.set_cons_succ]
    refine Seq.call #[.agg #[i, p], cv] rfl rfl rfl rfl hbl_Conf rfl ?_
    refine (ConflictsC_any _ _ g c _ (hg0.out.below hS.2.2) (hc0.out.below (Stable.sl Stable.int) hS.2.2)).mono ?_
    rintro e w8 ⟨rfl, hb8⟩
    refine ⟨_, rfl, hS.calls hb8, ?_⟩
    replace hS := hS.calls hb8
    simp only [List.set_cons_zero, List.set_cons_succ]
    refine Seq.call #[.agg #[i, p], cv] rfl rfl rfl rfl hbl_rConf rfl ?_
    refine (refConflictsC_any _ _ g c _ (hg0.out.below hS.2.2) (hc0.out.below (Stable.sl Stable.int) hS.2.2)).mono ?_
    rintro e w9 ⟨rfl, hb9⟩
    refine ⟨_, rfl, hS.calls hb9, ?_⟩
    replace hS := hS.calls hb9
    simp only [List.set_cons_zero, List.set_cons_succ]
    refine Seq.eqlUT rfl rfl rfl rfl rfl rfl hS ?_
    simp only [List.set_cons_zero, List.set_cons_succ]
    refine Seq.pick rfl rfl rfl rfl rfl rfl hS ?_
    simp only [List.set_cons_zero, List.set_cons_succ]
    refine Seq.assign rfl rfl rfl rfl rfl hS ?_
    simp only [List.set_cons_zero, List.set_cons_succ]
    refine Seq.done ?_
    have HSS := Lib.hid hS
    clear hS
    go_wp2_with fail
    go_ret
    exact ⟨rfl, HSS.out.2.2⟩
end Go.Proofs.YtegpikhfnhcjaaaGreat
