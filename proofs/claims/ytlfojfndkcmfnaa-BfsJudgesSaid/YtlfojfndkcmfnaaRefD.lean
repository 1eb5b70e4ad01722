/- Walks of the reference's greatest, Connected, Eccentricity. -/
import Derived.Test.YtlfojfndkcmfnaaRefC
namespace Go.Proofs.Ytlfojfndkcmfnaa
open Go.RowKit

theorem refGreatest_any (dv : Value) (D : List Int) (w : World) (hd : IntsAt w dv D) :
    Calls Try.prog 75 #[dv] w fun e w' => e = .returned (.int .i64 (refGreatest D)) ∧ w = w' := by
  obtain ⟨A, c, rfl, hA1, hA2⟩ := slAt_form hd
  have Hd := Lib.hid hd
  clear hd
  go_enter Try.func75, Try.ntmps75
  go_wp2
  go_loopg [3, 4] D.length (fun q m t wr => ∃ k : Nat, q + k = D.length ∧ t = .int .i64 k ∧ wr = w ∧ m = .int .i64 (greatestP (D.take k)) ∧ Hid ((D.take k).all (fun x => decide (0 ≤ x)) = true))
  case atStart => exact ⟨0, by omega, rfl, rfl, by simp [greatestP], Lib.hid (by simp)⟩
  case round =>
    obtain ⟨k, hq, rfl, rfl, rfl, hall⟩ := hrel
    by_cases hlt : k < D.length
    · obtain ⟨b, off, rfl, hb, hc, hr⟩ := intsAt_at Hd.out hlt
      by_cases c1 : D[k] < 0
      · have Hf := Lib.hid (show refGreatest D = -1 by
          unfold refGreatest
          rw [if_neg]
          rw [List.all_eq_true]
          intro h
          have := of_decide_eq_true (h _ (List.getElem_mem hlt))
          omega)
        go_wp2
        go_ret
        exact ⟨ret_int Hf.out.symm, rfl⟩
      · have Hs := Lib.hid (greatestP_snoc D k hlt)
        have Ha := Lib.hid (show (D.take (k + 1)).all (fun x => decide (0 ≤ x)) = true by
          rw [take_snoc D k hlt, List.all_append, hall.out]
          simp
          omega)
        go_wp2
        all_goals
          go_roundg (gk - 1)
          case measure => omega
          case rel => exact ⟨k + 1, by omega, by go_num, rfl, by rw [Hs.out]; try (congr 1; omega), Ha⟩
    · obtain rfl : k = D.length := by omega
      have Hf := Lib.hid (show refGreatest D = greatestP D by
        have := hall.out
        rw [List.take_length] at this
        exact if_pos this)
      go_wp2
      go_ret
      exact ⟨ret_int (by rw [Hf.out, List.take_length]), rfl⟩

theorem refConnected_any (gv : Value) (g : Gr) (w : World) (hg : GrAt w gv g) :
    Calls Try.prog 39 #[gv] w fun e w' => e = .returned (.bool (connB g)) ∧ Below w.heap.size w w' := by
  have hg0 := Lib.hid hg
  obtain ⟨i, p, rfl, hi, hp⟩ := hg
  clear hi hp
  have Hc := Lib.hid (refConn_eq g)
  go_enter Try.func39, Try.ntmps39
  go_wp2_with fail
  refine (refDistances_any _ g 0 _ (hg0.out.below ((Below.refl _ _).alloc (Nat.le_refl _) _)) ⟨by omega, by omega⟩).mono ?_
  rintro e w1 ⟨v, rfl, hv, hb1⟩
  have Hv := Lib.hid hv
  have Hb1 := Lib.hid (belowA hb1)
  clear hv hb1
  go_wp2_with fail
  refine (refGreatest_any _ _ _ Hv.out).mono ?_
  rintro e w2 ⟨rfl, rfl⟩
  go_wp2_with fail
  go_ret
  exact ⟨ret_bool Hc.out, Hb1.out⟩

theorem refEccentricity_any (gv : Value) (g : Gr) (v : Int) (w : World) (hg : GrAt w gv g) (hv64 : I64 v) :
    Calls Try.prog 47 #[gv, .int .i64 v] w fun e w' => e = .returned (.int .i64 (eccP g v)) ∧ Below w.heap.size w w' := by
  have hg0 := Lib.hid hg
  obtain ⟨i, p, rfl, hi, hp⟩ := hg
  clear hi hp
  have Hc := Lib.hid (refEcc_eq g v)
  go_enter Try.func47, Try.ntmps47
  go_wp2_with fail
  refine (refDistances_any _ g v _ (hg0.out.below ((Below.refl _ _).alloc (Nat.le_refl _) _)) hv64).mono ?_
  rintro e w1 ⟨v, rfl, hv, hb1⟩
  have Hv := Lib.hid hv
  have Hb1 := Lib.hid (belowA hb1)
  clear hv hb1
  go_wp2_with fail
  refine (refGreatest_any _ _ _ Hv.out).mono ?_
  rintro e w2 ⟨rfl, rfl⟩
  go_wp2_with fail
  go_ret
  exact ⟨ret_int Hc.out, Hb1.out⟩
end Go.Proofs.Ytlfojfndkcmfnaa
