/- Walks of package colouring: Fit, configuration; of the reference 32: Fit, Vars. -/
import Derived.Test.YtegpikhfnhcjaaaGreatBfA
import Derived.Test.YtegpikhfnhcjaaaGreatR23
import Derived.Test.YtegpikhfnhcjaaaGreatRegionG
namespace Go.Proofs.YtegpikhfnhcjaaaGreat
open Go.RowKit

theorem ints1 (w : World) (x : Int) (hx : I64 x) : IntsAt (w.alloc (.cells #[.int .i64 x] 3)) (.slice (some ⟨w.heap.size, 0, none⟩) 1 1) [x] := by
  refine ⟨_, 1, rfl, by simp, by omega, fun _ => ⟨w.heap.size, 0, rfl, by simp, fun j z hj => ?_⟩⟩
  match j, hj with
  | 0, hj => simp at hj; subst hj; exact ⟨by simp, hx⟩
  | j + 1, hj => simp at hj
theorem FitC_any (gv : Value) (g : Gr) (w : World) (hg : GrAt w gv g) :
    Calls Tryz.prog 6 #[gv] w fun e w' => e = .returned (.bool (validB g)) ∧ Below w.heap.size w w' := by
  have hg0 := Lib.hid hg
  obtain ⟨i, p, rfl, hi, hp⟩ := hg
  clear hi hp
  go_enter Tryz.func6, Tryz.ntmps6
  go_wp2_with fail
  refine (Valid_any _ g _ (hg0.out.below ((Below.refl _ _).alloc (Nat.le_refl _) _))).mono ?_
  rintro e w1 ⟨rfl, hb1⟩
  go_wp2_with fail
  go_ret
  exact ⟨rfl, belowA hb1⟩
theorem refFitC_any (gv : Value) (g : Gr) (w : World) (hg : GrAt w gv g) :
    Calls Tryz.prog 7 #[gv] w fun e w' => e = .returned (.bool (validB g)) ∧ Below w.heap.size w w' := by
  have hg0 := Lib.hid hg
  obtain ⟨i, p, rfl, hi, hp⟩ := hg
  clear hi hp
  go_enter Tryz.func7, Tryz.ntmps7
  go_wp2_with fail
  refine (refValid_any _ g _ (hg0.out.below ((Below.refl _ _).alloc (Nat.le_refl _) _))).mono ?_
  rintro e w1 ⟨rfl, hb1⟩
  go_wp2_with fail
  go_ret
  exact ⟨rfl, belowA hb1⟩

/-- colouring.configuration. -/
def colConfB (g : Gr) (c : Conf) : Bool := validB g && confB g.ports.length (boundsG g [(g.ports.length : Int)]) c

theorem configurationC_any (gv cv : Value) (g : Gr) (c : Conf) (w : World) (hg : GrAt w gv g) (hc : RowsAt w cv c) :
    Calls Tryz.prog 20 #[gv, cv] w fun e w' => e = .returned (.bool (colConfB g c)) ∧ Below w.heap.size w w' := by
  have hg0 := Lib.hid hg
  have hc0 := Lib.hid hc
  obtain ⟨i, p, rfl, hi, hp⟩ := hg
  obtain ⟨A, c0, rfl, hA1, hA2⟩ := slAt_form hi
  clear hi hp hc
  cases hcn : validB g with
  | false =>
    have Hf := Lib.hid (show colConfB g c = false by unfold colConfB; rw [hcn]; rfl)
    go_enter Tryz.func20, Tryz.ntmps20
    go_wp2_with fail
    refine (boolv (FitC_any _ g _ (hg0.out.below ((Below.refl _ _).alloc (Nat.le_refl _) _))) hcn).mono ?_
    rintro e w1 ⟨rfl, hb1⟩
    go_wp2_with fail
    go_ret
    exact ⟨ret_bool Hf.out.symm, belowA hb1⟩
  | true =>
    have hgood := (validB_iff g).1 hcn
    have Hgood := Lib.hid hgood
    have hidn := hgood.2.2.1
    have hn24 := hgood.2.1
    have Hf := Lib.hid (show colConfB g c = confB g.ports.length (boundsG g [(g.ids.length : Int)]) c by unfold colConfB; rw [hcn, hidn]; rfl)
    have hid24 : g.ids.length ≤ 24 := by omega
    clear hgood hidn
    go_enter Tryz.func20, Tryz.ntmps20
    go_wp2_with fail
    refine (boolv (FitC_any _ g _ (hg0.out.below ((Below.refl _ _).alloc (Nat.le_refl _) _))) hcn).mono ?_
    rintro e w1 ⟨rfl, hb1⟩
    obtain ⟨q0, q1⟩ := newA2 hb1
    have Hb1 := Lib.hid (belowA hb1)
    clear hb1
    go_wp2_with fail
    refine (Configuration_any _ _ _ g c [(g.ids.length : Int)] _ (hg0.out.below (Hb1.out.alloc Hb1.out.size _)) (hc0.out.below (Stable.sl Stable.int) (Hb1.out.alloc Hb1.out.size _)) (ints1 w1 _ ⟨by omega, by omega⟩) Hgood.out).mono ?_
    rintro e w2 ⟨rfl, hb2⟩
    go_wp2_with fail
    go_ret
    exact ⟨ret_bool Hf.out.symm, Hb1.out.trans ((belowA hb2).mono Hb1.out.size)⟩

def colVars : List VarR := [⟨⟨#[99]⟩, 1, 0, 0, 1, 0⟩]
def RetVars (V : List VarR) (w : World) (e : Ending) (w' : World) : Prop := ∃ v, e = .returned v ∧ VarsAt w' v V ∧ Below w.heap.size w w'
theorem VarsC_any (w : World) : Calls Tryz.prog 23 #[] w (RetVars colVars w) := by
  go_enter Tryz.func23, Tryz.ntmps23
  go_wp2_with fail
  refine (Number_any _ _ _ _ _).mono ?_
  rintro e w1 ⟨rfl, hb1⟩
  have Hb1 := Lib.hid hb1
  clear hb1
  go_wp2_with fail
  go_ret
  refine ⟨_, rfl, ?_, Hb1.out.alloc Hb1.out.size _⟩
  refine ⟨_, 1, rfl, by simp [colVars], by omega, fun _ => ⟨w1.heap.size, 0, rfl, by simp, fun j x hj => ?_⟩⟩
  match j, hj with
  | 0, hj => simp [colVars] at hj; subst hj; simp [varE]
  | j + 1, hj => simp [colVars] at hj
theorem colVars_fit : ∀ x ∈ colVars, VarFit x := by
  intro x hx
  simp [colVars] at hx
  subst hx
  simp [VarFit]
theorem boundsV_col {g : Gr} (v : Nat) : boundsV g colVars v = boundsG g [(g.ports.length : Int)] v := by
  have h : ((g.ports.length : Int) = -1) = False := by simp
  simp [boundsV, boundsG, colVars, boundV, h]
theorem confC_eq (g : Gr) (c : Conf) : (validB g && refConfB g c colVars) = colConfB g c := by
  unfold colConfB refConfB
  rw [show boundsV g colVars = boundsG g [(g.ports.length : Int)] from funext fun v => boundsV_col v]
  cases hc : validB g with
  | false => rfl
  | true => rfl
end Go.Proofs.YtegpikhfnhcjaaaGreat
