/- Walks of colouring: Legit, Claim, Conflicts. -/
import Derived.Test.YtegpikhfnhcjaaaGreatCjB
namespace Go.Proofs.YtegpikhfnhcjaaaGreat
open Go.RowKit

/-- colouring.Conflicts. -/
def colConf (g : Gr) (c : Conf) : Nat := if colConfB g c = true then confN g c else 0
def colLegitB (g : Gr) (c : Conf) : Bool := colConfB g c && decide (confN g c = 0)
def claimZero : Value := .agg #[.int .i64 0, .bool false, .bool false, .int .i64 0, .int .i64 0]
def colClaimV (g : Gr) : Value := if validB g = true then .agg #[.int .i64 2, .bool false, .bool true, .int .i64 1, .int .i64 g.ports.length] else claimZero

theorem ConflictsC_any (gv cv : Value) (g : Gr) (c : Conf) (w : World) (hg : GrAt w gv g) (hc : RowsAt w cv c) :
    Calls Tryz.prog 12 #[gv, cv] w fun e w' => e = .returned (.int .u32 (colConf g c)) ∧ Below w.heap.size w w' := by
  have hg0 := Lib.hid hg
  have hc0 := Lib.hid hc
  obtain ⟨i, p, rfl, hi, hp⟩ := hg
  clear hi hp hc
  cases hcn : colConfB g c with
  | false =>
    have Hf := Lib.hid (show colConf g c = 0 by unfold colConf; rw [hcn]; rfl)
    go_enter Tryz.func12, Tryz.ntmps12
    go_wp2_with fail
    refine (boolv (configurationC_any _ cv g c _ (hg0.out.below ((Below.refl _ _).alloc (Nat.le_refl _) _)) (hc0.out.below (Stable.sl Stable.int) ((Below.refl _ _).alloc (Nat.le_refl _) _))) hcn).mono ?_
    rintro e w1 ⟨rfl, hb1⟩
    go_wp2_with fail
    go_ret
    exact ⟨by rw [Hf.out]; rfl, belowA hb1⟩
  | true =>
    have Hf := Lib.hid (show colConf g c = confN g c by unfold colConf; rw [hcn]; rfl)
    have Hcn := Lib.hid hcn
    go_enter Tryz.func12, Tryz.ntmps12
    go_wp2_with fail
    refine (boolv (configurationC_any _ cv g c _ (hg0.out.below ((Below.refl _ _).alloc (Nat.le_refl _) _)) (hc0.out.below (Stable.sl Stable.int) ((Below.refl _ _).alloc (Nat.le_refl _) _))) hcn).mono ?_
    rintro e w1 ⟨rfl, hb1⟩
    obtain ⟨q0, q1⟩ := newA2 hb1
    have Hb1 := Lib.hid (belowA hb1)
    clear hb1
    go_wp2_with fail
    refine (conflicts_any _ cv g c _ (hg0.out.below Hb1.out) (hc0.out.below (Stable.sl Stable.int) Hb1.out) Hcn.out).mono ?_
    rintro e w2 ⟨rfl, hb2⟩
    go_wp2_with fail
    go_ret
    exact ⟨by rw [Hf.out]; rfl, Hb1.out.trans (hb2.mono Hb1.out.size)⟩

theorem LegitC_any (gv cv : Value) (g : Gr) (c : Conf) (w : World) (hg : GrAt w gv g) (hc : RowsAt w cv c) :
    Calls Tryz.prog 8 #[gv, cv] w fun e w' => e = .returned (.bool (colLegitB g c)) ∧ Below w.heap.size w w' := by
  have hg0 := Lib.hid hg
  have hc0 := Lib.hid hc
  obtain ⟨i, p, rfl, hi, hp⟩ := hg
  clear hi hp hc
  cases hcn : colConfB g c with
  | false =>
    have Hf := Lib.hid (show colLegitB g c = false by unfold colLegitB; rw [hcn]; rfl)
    go_enter Tryz.func8, Tryz.ntmps8
    go_wp2_with fail
    refine (boolv (configurationC_any _ cv g c _ (hg0.out.below ((Below.refl _ _).alloc (Nat.le_refl _) _)) (hc0.out.below (Stable.sl Stable.int) ((Below.refl _ _).alloc (Nat.le_refl _) _))) hcn).mono ?_
    rintro e w1 ⟨rfl, hb1⟩
    go_wp2_with fail
    go_ret
    exact ⟨ret_bool Hf.out.symm, belowA hb1⟩
  | true =>
    have Hf := Lib.hid (show colLegitB g c = decide (confN g c = 0) by unfold colLegitB; rw [hcn]; rfl)
    have Hcn := Lib.hid hcn
    go_enter Tryz.func8, Tryz.ntmps8
    go_wp2_with fail
    refine (boolv (configurationC_any _ cv g c _ (hg0.out.below ((Below.refl _ _).alloc (Nat.le_refl _) _)) (hc0.out.below (Stable.sl Stable.int) ((Below.refl _ _).alloc (Nat.le_refl _) _))) hcn).mono ?_
    rintro e w1 ⟨rfl, hb1⟩
    obtain ⟨q0, q1⟩ := newA2 hb1
    have Hb1 := Lib.hid (belowA hb1)
    clear hb1
    go_wp2_with fail
    refine (conflicts_any _ cv g c _ (hg0.out.below Hb1.out) (hc0.out.below (Stable.sl Stable.int) Hb1.out) Hcn.out).mono ?_
    rintro e w2 ⟨rfl, hb2⟩
    go_wp2_with fail
    go_ret
    refine ⟨ret_bool ?_, Hb1.out.trans (hb2.mono Hb1.out.size)⟩
    rw [Hf.out]
    show ((confN g c : Int) == 0) = decide (confN g c = 0)
    rw [Bool.eq_iff_iff]
    simp

theorem ClaimC_any (gv : Value) (g : Gr) (w : World) (hg : GrAt w gv g) :
    Calls Tryz.prog 10 #[gv] w fun e w' => e = .returned (colClaimV g) ∧ Below w.heap.size w w' := by
  have hg0 := Lib.hid hg
  obtain ⟨i, p, rfl, hi, hp⟩ := hg
  obtain ⟨A, c0, rfl, hA1, hA2⟩ := slAt_form hi
  obtain ⟨B, c1, rfl, hB1, hB2⟩ := slAt_form hp
  clear hi hp
  cases hcn : validB g with
  | false =>
    have Hf := Lib.hid (show colClaimV g = claimZero by unfold colClaimV; rw [hcn]; rfl)
    go_enter Tryz.func10, Tryz.ntmps10
    go_wp2_with fail
    refine (boolv (FitC_any _ g _ (hg0.out.below (((Below.refl _ _).alloc (Nat.le_refl _) _).alloc (by simp) _))) hcn).mono ?_
    rintro e w1 ⟨rfl, hb1⟩
    obtain ⟨q0, q1, hcc, hff, hbw, hsz⟩ := twoNew hb1
    have Hbw := Lib.hid hbw
    have HF := Lib.hid (bcell hb1)
    clear hb1 hbw
    go_wp2_with fail
    refine bodyPost_ret (v := claimZero) (by simp [results, Tryz.results10, go_sem, hcc, claimZero]) rfl ⟨by rw [Hf.out], ?_⟩
    exact (((((Hbw.out.setCell (by simp) _).setCell (by simp) _).setCell (by simp) _).setCell (by simp) _).setCell (by simp) _)
  | true =>
    have hgood := (validB_iff g).1 hcn
    have hidn := hgood.2.2.1
    have Hf := Lib.hid (show colClaimV g = .agg #[.int .i64 2, .bool false, .bool true, .int .i64 1, .int .i64 g.ids.length] by unfold colClaimV; rw [hcn, hidn]; rfl)
    clear hgood hidn
    go_enter Tryz.func10, Tryz.ntmps10
    go_wp2_with fail
    refine (boolv (FitC_any _ g _ (hg0.out.below (((Below.refl _ _).alloc (Nat.le_refl _) _).alloc (by simp) _))) hcn).mono ?_
    rintro e w1 ⟨rfl, hb1⟩
    obtain ⟨q0, q1, hcc, hff, hbw, hsz⟩ := twoNew hb1
    have Hbw := Lib.hid hbw
    have HF := Lib.hid (bcell hb1)
    clear hb1 hbw
    go_wp2_with fail
    refine bodyPost_ret (v := .agg #[.int .i64 2, .bool false, .bool true, .int .i64 1, .int .i64 g.ids.length]) (by simp [results, Tryz.results10, go_sem, hcc]) rfl ⟨by rw [Hf.out], ?_⟩
    exact (((((Hbw.out.setCell (by simp) _).setCell (by simp) _).setCell (by simp) _).setCell (by simp) _).setCell (by simp) _)
theorem refClaimC_any (gv : Value) (g : Gr) (w : World) (hg : GrAt w gv g) :
    Calls Tryz.prog 11 #[gv] w fun e w' => e = .returned (colClaimV g) ∧ Below w.heap.size w w' := by
  have hg0 := Lib.hid hg
  obtain ⟨i, p, rfl, hi, hp⟩ := hg
  obtain ⟨A, c0, rfl, hA1, hA2⟩ := slAt_form hi
  obtain ⟨B, c1, rfl, hB1, hB2⟩ := slAt_form hp
  clear hi hp
  cases hcn : validB g with
  | false =>
    have Hf := Lib.hid (show colClaimV g = claimZero by unfold colClaimV; rw [hcn]; rfl)
    go_enter Tryz.func11, Tryz.ntmps11
    go_wp2_with fail
    refine (boolv (refFitC_any _ g _ (hg0.out.below (((Below.refl _ _).alloc (Nat.le_refl _) _).alloc (by simp) _))) hcn).mono ?_
    rintro e w1 ⟨rfl, hb1⟩
    obtain ⟨q0, q1, hcc, hff, hbw, hsz⟩ := twoNew hb1
    have Hbw := Lib.hid hbw
    have HF := Lib.hid (bcell hb1)
    clear hb1 hbw
    go_wp2_with fail
    refine bodyPost_ret (v := claimZero) (by simp [results, Tryz.results11, go_sem, hcc, claimZero]) rfl ⟨by rw [Hf.out], ?_⟩
    exact (((((Hbw.out.setCell (by simp) _).setCell (by simp) _).setCell (by simp) _).setCell (by simp) _).setCell (by simp) _)
  | true =>
    have hgood := (validB_iff g).1 hcn
    have hidn := hgood.2.2.1
    have Hf := Lib.hid (show colClaimV g = .agg #[.int .i64 2, .bool false, .bool true, .int .i64 1, .int .i64 g.ports.length] by unfold colClaimV; rw [hcn]; rfl)
    clear hgood hidn
    go_enter Tryz.func11, Tryz.ntmps11
    go_wp2_with fail
    refine (boolv (refFitC_any _ g _ (hg0.out.below (((Below.refl _ _).alloc (Nat.le_refl _) _).alloc (by simp) _))) hcn).mono ?_
    rintro e w1 ⟨rfl, hb1⟩
    obtain ⟨q0, q1, hcc, hff, hbw, hsz⟩ := twoNew hb1
    have Hbw := Lib.hid hbw
    have HF := Lib.hid (bcell hb1)
    clear hb1 hbw
    go_wp2_with fail
    refine bodyPost_ret (v := .agg #[.int .i64 2, .bool false, .bool true, .int .i64 1, .int .i64 g.ports.length]) (by simp [results, Tryz.results11, go_sem, hcc]) rfl ⟨by rw [Hf.out], ?_⟩
    exact (((((Hbw.out.setCell (by simp) _).setCell (by simp) _).setCell (by simp) _).setCell (by simp) _).setCell (by simp) _)
end Go.Proofs.YtegpikhfnhcjaaaGreat
