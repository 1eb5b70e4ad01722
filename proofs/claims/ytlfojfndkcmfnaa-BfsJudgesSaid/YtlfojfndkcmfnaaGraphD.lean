/- Walks of graph.Connected, greatest, Eccentricity, Distances. -/
import Derived.Test.YtlfojfndkcmfnaaGraphC
import Derived.Test.YtlfojfndkcmfnaaPlainF
namespace Go.Proofs.Ytlfojfndkcmfnaa
open Go.RowKit

theorem greatest_any (dv : Value) (D : List Int) (w : World) (hd : IntsAt w dv D) :
    Calls Try.prog 83 #[dv] w fun e w' => e = .returned (.int .i64 (greatestP D)) ∧ w = w' := by
  obtain ⟨A, c, rfl, hA1, hA2⟩ := slAt_form hd
  have Hd := Lib.hid hd
  clear hd
  go_enter Try.func83, Try.ntmps83
  go_wp2
  go_loopg [3, 8] D.length (fun q m t wr => ∃ k : Nat, q + k = D.length ∧ t = .int .i64 k ∧ wr = w ∧ m = .int .i64 (greatestP (D.take k)))
  case atStart => exact ⟨0, by omega, rfl, rfl, by simp [greatestP]⟩
  case round =>
    obtain ⟨k, hq, rfl, rfl, rfl⟩ := hrel
    by_cases hlt : k < D.length
    · obtain ⟨b, off, rfl, hb, hc, hr⟩ := intsAt_at Hd.out hlt
      have Hs := Lib.hid (greatestP_snoc D k hlt)
      go_wp2
      all_goals
        go_roundg (gk - 1)
        case measure => omega
        case rel => exact ⟨k + 1, by omega, by go_num, rfl, by rw [Hs.out]; try (congr 1; omega)⟩
    · obtain rfl : k = D.length := by omega
      go_wp2
      go_ret
      exact ⟨ret_int (by rw [List.take_length]), rfl⟩

theorem Connected_any (gv : Value) (g : Gr) (w : World) (hg : GrAt w gv g) :
    Calls Try.prog 38 #[gv] w fun e w' => e = .returned (.bool (connB g)) ∧ Below w.heap.size w w' := by
  have hg0 := Lib.hid hg
  obtain ⟨i, p, rfl, hi, hp⟩ := hg
  clear hi hp
  cases hv : validB g with
  | false =>
    have Hf := Lib.hid (show connB g = false by unfold connB; rw [hv]; rfl)
    go_enter Try.func38, Try.ntmps38
    go_wp2_with fail
    refine (Valid_any _ g _ (hg0.out.below ((Below.refl _ _).alloc (Nat.le_refl _) _))).mono ?_
    rintro e w1 ⟨rfl, hb1⟩
    go_wp2_with fail
    go_ret
    exact ⟨ret_bool Hf.out.symm, belowA hb1⟩
  | true =>
    have hgood := (validB_iff g).1 hv
    have hn1 := hgood.1
    have hn24 := hgood.2.1
    have Hgood := Lib.hid hgood
    have Hd := Lib.hid (distL_length hgood (a := 0) (by omega))
    have Hc := Lib.hid (show connB g = (distL g 0).all (fun x => decide (0 ≤ x)) by unfold connB; rw [hv]; rfl)
    clear hgood
    go_enter Try.func38, Try.ntmps38
    go_wp2_with fail
    refine (Valid_any _ g _ (hg0.out.below ((Below.refl _ _).alloc (Nat.le_refl _) _))).mono ?_
    rintro e w1 ⟨rfl, hb1⟩
    obtain ⟨q0, q1⟩ := newA2 hb1
    have Hb1 := Lib.hid (belowA hb1)
    clear hb1
    go_wp2_with fail
    refine (search_any _ g 0 _ (hg0.out.below Hb1.out) Hgood.out (by omega)).mono ?_
    rintro e w2 ⟨v, rfl, hv2, hb2⟩
    have Hb2 := Lib.hid (Hb1.out.trans (hb2.mono Hb1.out.size))
    obtain ⟨A, c, rfl, hA1, hA2⟩ := slAt_form hv2
    have Hv2 := Lib.hid hv2
    clear hb2 hv2
    obtain ⟨D, hD⟩ : ∃ D, distL g 0 = D := ⟨_, rfl⟩
    rw [hD] at Hv2 Hd hA1 Hc ⊢
    clear hD
    go_wp2
    go_loopg [11] D.length (fun q t wr => ∃ k : Nat, q + k = D.length ∧ t = .int .i64 k ∧ wr = w2 ∧ Hid (∀ j (hj : j < D.length), j < k → 0 ≤ D[j]))
    case atStart => exact ⟨0, by omega, rfl, rfl, Lib.hid (fun j _ hj => absurd hj (by omega))⟩
    case round =>
      obtain ⟨k, hq, rfl, rfl, hall⟩ := hrel
      by_cases hlt : k < D.length
      · obtain ⟨b, off, rfl, hb, hc, hr⟩ := intsAt_at Hv2.out hlt
        by_cases c1 : D[k] < 0
        · have Hf := Lib.hid (show connB g = false by
            rw [Hc.out, List.all_eq_false]
            exact ⟨D[k], List.getElem_mem hlt, by simp; omega⟩)
          go_wp2
          go_ret
          exact ⟨ret_bool Hf.out.symm, Hb2.out⟩
        · go_wp2
          go_roundg (gk - 1)
          case measure => omega
          case rel =>
            refine ⟨k + 1, by omega, by go_num, rfl, Lib.hid (fun j hj hjk => ?_)⟩
            by_cases e : j = k
            · subst e; omega
            · exact hall.out j hj (by omega)
      · obtain rfl : k = D.length := by omega
        have Ht := Lib.hid (show connB g = true by
          rw [Hc.out, List.all_eq_true]
          intro x hx
          obtain ⟨j, hj, rfl⟩ := List.mem_iff_getElem.1 hx
          exact decide_eq_true (hall.out j hj hj))
        go_wp2
        go_ret
        exact ⟨ret_bool Ht.out.symm, Hb2.out⟩

theorem connB_valid {g : Gr} (h : connB g = true) : validB g = true := (Bool.and_eq_true _ _ ▸ h).1

theorem Eccentricity_any (gv : Value) (g : Gr) (v : Int) (w : World) (hg : GrAt w gv g) :
    Calls Try.prog 46 #[gv, .int .i64 v] w fun e w' => e = .returned (.int .i64 (eccP g v)) ∧ Below w.heap.size w w' := by
  have hg0 := Lib.hid hg
  obtain ⟨i, p, rfl, hi, hp⟩ := hg
  obtain ⟨A2, c2, rfl, hB1, hB2⟩ := slAt_form hp
  clear hi hp
  cases hc : connB g with
  | false =>
    have Hf := Lib.hid (show eccP g v = -1 by unfold eccP; rw [hc]; simp)
    go_enter Try.func46, Try.ntmps46
    go_wp2_with fail
    refine (Connected_any _ g _ (hg0.out.below ((Below.refl _ _).alloc (Nat.le_refl _) _))).mono ?_
    rintro e w1 ⟨rfl, hb1⟩
    go_wp2_with fail
    go_ret
    exact ⟨ret_int Hf.out.symm, belowA hb1⟩
  | true =>
    have Hgood := Lib.hid ((validB_iff g).1 (connB_valid hc))
    by_cases c1 : v < 0
    · have Hf := Lib.hid (show eccP g v = -1 by unfold eccP; rw [if_neg]; omega)
      go_enter Try.func46, Try.ntmps46
      go_wp2_with fail
      refine (Connected_any _ g _ (hg0.out.below ((Below.refl _ _).alloc (Nat.le_refl _) _))).mono ?_
      rintro e w1 ⟨rfl, hb1⟩
      go_wp2_with fail
      go_ret
      exact ⟨ret_int Hf.out.symm, belowA hb1⟩
    · by_cases c2 : v < g.ports.length
      · obtain ⟨u, rfl⟩ := Int.eq_ofNat_of_zero_le (show 0 ≤ v by omega)
        have Hf := Lib.hid (show eccP g u = greatestP (distL g u) by unfold eccP; rw [if_pos ⟨hc, by omega, c2⟩]; rfl)
        have c3 : u < g.ports.length := by omega
        have c4 : decide ((g.ports.length : Int) ≤ (u : Int)) = false := by simp; omega
        have c5 : decide (g.ports.length ≤ u) = false := by simp; omega
        go_enter Try.func46, Try.ntmps46
        go_wp2_with fail
        refine (Connected_any _ g _ (hg0.out.below ((Below.refl _ _).alloc (Nat.le_refl _) _))).mono ?_
        rintro e w1 ⟨rfl, hb1⟩
        obtain ⟨q0, q1⟩ := newA2 hb1
        have Hb1 := Lib.hid (belowA hb1)
        clear hb1
        go_wp2_with fail
        refine (search_any _ g u _ (hg0.out.below Hb1.out) Hgood.out c3).mono ?_
        rintro e w2 ⟨x, rfl, hv2, hb2⟩
        have Hb2 := Lib.hid (Hb1.out.trans (hb2.mono Hb1.out.size))
        have Hv2 := Lib.hid hv2
        clear hb2 hv2
        go_wp2_with fail
        refine (greatest_any _ _ _ Hv2.out).mono ?_
        rintro e w3 ⟨rfl, rfl⟩
        go_wp2_with fail
        go_ret
        exact ⟨ret_int Hf.out.symm, Hb2.out⟩
      · have Hf := Lib.hid (show eccP g v = -1 by unfold eccP; rw [if_neg]; omega)
        have c4 : decide ((g.ports.length : Int) ≤ v) = true := by simp; omega
        go_enter Try.func46, Try.ntmps46
        go_wp2_with fail
        refine (Connected_any _ g _ (hg0.out.below ((Below.refl _ _).alloc (Nat.le_refl _) _))).mono ?_
        rintro e w1 ⟨rfl, hb1⟩
        obtain ⟨q0, q1⟩ := newA2 hb1
        go_wp2_with fail
        go_ret
        exact ⟨ret_int Hf.out.symm, belowA hb1⟩

theorem Distances_any (gv : Value) (g : Gr) (v : Int) (w : World) (hg : GrAt w gv g) :
    Calls Try.prog 41 #[gv, .int .i64 v] w (RetInts (distsP g v) w) := by
  have hg0 := Lib.hid hg
  obtain ⟨i, p, rfl, hi, hp⟩ := hg
  obtain ⟨A2, c2, rfl, hB1, hB2⟩ := slAt_form hp
  clear hi hp
  cases hc : validB g with
  | false =>
    have Hf := Lib.hid (show distsP g v = [] from distsP_out (by simp [hc]))
    go_enter Try.func41, Try.ntmps41
    go_wp2_with fail
    refine (Valid_any _ g _ (hg0.out.below ((Below.refl _ _).alloc (Nat.le_refl _) _))).mono ?_
    rintro e w1 ⟨rfl, hb1⟩
    go_wp2_with fail
    go_ret
    exact ⟨_, rfl, by rw [Hf.out]; exact SlAt.nil _, belowA hb1⟩
  | true =>
    have Hgood := Lib.hid ((validB_iff g).1 hc)
    by_cases c1 : v < 0
    · have Hf := Lib.hid (show distsP g v = [] from distsP_out (by omega))
      go_enter Try.func41, Try.ntmps41
      go_wp2_with fail
      refine (Valid_any _ g _ (hg0.out.below ((Below.refl _ _).alloc (Nat.le_refl _) _))).mono ?_
      rintro e w1 ⟨rfl, hb1⟩
      go_wp2_with fail
      go_ret
      exact ⟨_, rfl, by rw [Hf.out]; exact SlAt.nil _, belowA hb1⟩
    · by_cases c2 : v < g.ports.length
      · obtain ⟨u, rfl⟩ := Int.eq_ofNat_of_zero_le (show 0 ≤ v by omega)
        have Hf := Lib.hid (show distsP g u = distL g u from distsP_in hc (by omega) c2)
        have c3 : u < g.ports.length := by omega
        have c4 : decide ((g.ports.length : Int) ≤ (u : Int)) = false := by simp; omega
        have c5 : decide (g.ports.length ≤ u) = false := by simp; omega
        go_enter Try.func41, Try.ntmps41
        go_wp2_with fail
        refine (Valid_any _ g _ (hg0.out.below ((Below.refl _ _).alloc (Nat.le_refl _) _))).mono ?_
        rintro e w1 ⟨rfl, hb1⟩
        obtain ⟨q0, q1⟩ := newA2 hb1
        have Hb1 := Lib.hid (belowA hb1)
        clear hb1
        go_wp2_with fail
        refine (search_any _ g u _ (hg0.out.below Hb1.out) Hgood.out c3).mono ?_
        rintro e w2 ⟨x, rfl, hv2, hb2⟩
        have Hb2 := Lib.hid (Hb1.out.trans (hb2.mono Hb1.out.size))
        have Hv2 := Lib.hid hv2
        clear hb2 hv2
        go_wp2_with fail
        go_ret
        exact ⟨_, rfl, by rw [Hf.out]; exact Hv2.out, Hb2.out⟩
      · have Hf := Lib.hid (show distsP g v = [] from distsP_out (by omega))
        have c4 : decide ((g.ports.length : Int) ≤ v) = true := by simp; omega
        go_enter Try.func41, Try.ntmps41
        go_wp2_with fail
        refine (Valid_any _ g _ (hg0.out.below ((Below.refl _ _).alloc (Nat.le_refl _) _))).mono ?_
        rintro e w1 ⟨rfl, hb1⟩
        obtain ⟨q0, q1⟩ := newA2 hb1
        go_wp2_with fail
        go_ret
        exact ⟨_, rfl, by rw [Hf.out]; exact SlAt.nil _, belowA hb1⟩
end Go.Proofs.Ytlfojfndkcmfnaa
