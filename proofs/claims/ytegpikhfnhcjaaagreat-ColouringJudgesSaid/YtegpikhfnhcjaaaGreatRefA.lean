/- Walks of the reference's graph layer: In, Port, linksValid. -/
import Derived.Test.YtegpikhfnhcjaaaGreatHead
import Derived.Test.YtegpikhfnhcjaaaGreatPlainA
namespace Go.Proofs.YtegpikhfnhcjaaaGreat
open Go.RowKit

theorem In_t (v lo hi : Int) (w : World) (h1 : lo ≤ v) (h2 : v ≤ hi) :
    Calls Tryz.prog 33 #[.int .i64 v, .int .i64 lo, .int .i64 hi] w fun e w' => e = .returned (.bool true) ∧ w = w' := by
  go_enter Tryz.func33, Tryz.ntmps33
  go_wp2
  go_ret
  exact ⟨rfl, rfl⟩

theorem In_f (v lo hi : Int) (w : World) (h : v < lo ∨ hi < v) :
    Calls Tryz.prog 33 #[.int .i64 v, .int .i64 lo, .int .i64 hi] w fun e w' => e = .returned (.bool false) ∧ w = w' := by
  by_cases h1 : lo ≤ v
  · have h2 : hi < v := by omega
    go_enter Tryz.func33, Tryz.ntmps33
    go_wp2
    go_ret
    exact ⟨ret_bool (by simp; omega), rfl⟩
  · go_enter Tryz.func33, Tryz.ntmps33
    go_wp2
    go_ret
    exact ⟨rfl, rfl⟩

theorem Port_any (gv : Value) (g : Gr) (v : Nat) (ls : List (Int × Int)) (u : Int) (w : World) (hg : GrAt w gv g) (hv : g.ports[v]? = some ls) :
    Calls Tryz.prog 35 #[gv, .int .i64 v, .int .i64 u] w fun e w' => e = .returned (.int .i64 (portTo ls u)) ∧ Below w.heap.size w w' := by
  obtain ⟨i, p, rfl, _, A, c, rfl, hc1, hc2, hp⟩ := hg
  have hvlt : v < g.ports.length := (List.getElem?_eq_some_iff.1 hv).1
  obtain ⟨b, off, rfl, hb, hP⟩ := hp (by omega)
  obtain ⟨lv, hcell, A2, c2, rfl, hl1, hl2, hL⟩ := hP v ls hv
  simp only [Nat.mul_one] at hcell
  have HL := Lib.hid hL
  have HP := Lib.hid hP
  have Hv := Lib.hid hv
  clear hL hP hv hp
  go_enter Tryz.func35, Tryz.ntmps35
  go_wp2
  go_loop [7] (fun t => ∃ k : Nat, k ≤ ls.length ∧ t = .int .i64 k ∧ Hid ((ls.take k).findIdx? (fun l => l.1 == u) = none)) (fun t => ls.length - (intOf t).toNat)
  case atStart => exact ⟨0, by omega, rfl, Lib.hid (by simp)⟩
  case round =>
    obtain ⟨k, hk, rfl, hnone⟩ := hrel
    by_cases hlt : k < ls.length
    · obtain ⟨b2, off2, rfl, hb2, hE⟩ := HL.out (by omega)
      obtain ⟨e1, e2, hw1, hw2⟩ := hE k ls[k] (List.getElem?_eq_getElem hlt)
      have HE := Lib.hid hE
      clear hE
      by_cases heq : ls[k].1 = u
      · have heq' : (ls[k].1 == u) = true := by simp [heq]
        have Hr := Lib.hid (portTo_hit ls u k hlt heq hnone.out)
        clear heq
        go_wp2
        go_ret
        exact ⟨ret_int Hr.out.symm, (Below.refl _ _).alloc (Nat.le_refl _) _⟩
      · have heq' : (ls[k].1 == u) = false := by simp [heq]
        have Hr := Lib.hid (findIdx_snoc ls u k hlt heq hnone.out)
        clear heq
        go_wp2
        go_round
        case rel => exact ⟨k + 1, by omega, by go_num, Hr⟩
        case measure => simp [intOf]; omega
    · have hkl : k = ls.length := by omega
      subst hkl
      have Hr := Lib.hid (portTo_none ls u hnone.out)
      go_wp2
      go_ret
      exact ⟨ret_int Hr.out.symm, (Below.refl _ _).alloc (Nat.le_refl _) _⟩


theorem linksValid_any (lv : Value) (ls : List (Int × Int)) (v n : Int) (w : World) (hl : LinksAt w lv ls) (hn : 0 ≤ n ∧ n ≤ 1000) :
    Calls Tryz.prog 34 #[lv, .int .i64 v, .int .i64 n] w fun e w' => e = .returned (.bool (linksB ls v n)) ∧ ∃ m, w' = w.drewN m := by
  obtain ⟨hn1, hn2⟩ := hn
  obtain ⟨A, c, rfl, hc1, hc2, hL⟩ := hl
  have HL := Lib.hid hL
  clear hL
  go_enter Tryz.func34, Tryz.ntmps34
  go_wp2
  go_loopw [7] (fun t wr => ∃ k m : Nat, k ≤ ls.length ∧ t = .int .i64 k ∧ wr = w.drewN m ∧ Hid (linksOk (ls.take k) v n)) (fun t _ => ls.length - (intOf t).toNat)
  case atStart => exact ⟨0, 0, by omega, rfl, rfl, Lib.hid ⟨by simp, by simp⟩⟩
  case round =>
    obtain ⟨k, m, hk, rfl, rfl, hok⟩ := hrel
    by_cases hlt : k < ls.length
    · obtain ⟨b2, off2, rfl, hb2, hE⟩ := HL.out (by omega)
      obtain ⟨e1, e2, ⟨hw1, hw1'⟩, ⟨hw2, hw2'⟩⟩ := hE k ls[k] (List.getElem?_eq_getElem hlt)
      have HE := Lib.hid hE
      clear hE
      have Hsn := Lib.hid (linksOk_snoc ls v n k hlt)
      have Hbad := Lib.hid (fun h => linksB_false_of ls v n (k + 1) h)
      by_cases c1 : 0 ≤ ls[k].1 ∧ ls[k].1 ≤ n - 1
      · obtain ⟨c1a, c1b⟩ := c1
        by_cases c2 : ls[k].1 = v
        · have c2' : (ls[k].1 == v) = true := by simp [c2]
          have Hf := Lib.hid (Hbad.out (fun h => ((Hsn.out.1 h).2.1).2.2.1 c2))
          clear c2
          go_wp2_with (first | (go_at_call 33; refine (In_t _ _ _ _ (by omega) (by omega)).mono ?_; rintro e w' ⟨rfl, rfl⟩))
          go_ret
          exact ⟨ret_bool Hf.out.symm, m, rfl⟩
        · have c2' : (ls[k].1 == v) = false := by simp [c2]
          by_cases c3 : 1 ≤ ls[k].2 ∧ ls[k].2 ≤ 15
          · obtain ⟨c3a, c3b⟩ := c3
            have Hlk := Lib.hid (show linkOk v n ls[k] from ⟨c1a, c1b, c2, c3a, c3b⟩)
            clear c2
            go_wp2_with (first | (go_at_call 33; refine (In_t _ _ _ _ (by omega) (by omega)).mono ?_; rintro e w' ⟨rfl, rfl⟩))
            go_loopw [8] (fun t wr => ∃ j m2 : Nat, j ≤ k ∧ t = .int .i64 j ∧ wr = w.drewN m2 ∧ Hid (∀ i (hi : i < j) (hj : j ≤ k), ls[i].1 ≠ ls[k].1)) (fun t _ => k - (intOf t).toNat)
            case atStart => exact ⟨0, m, by omega, rfl, rfl, Lib.hid (fun i hi => absurd hi (by omega))⟩
            case round =>
              obtain ⟨j, m2, hj, rfl, rfl, hne⟩ := hrel
              by_cases hjk : j < k
              · obtain ⟨f1, f2, _, _⟩ := HE.out j ls[j] (List.getElem?_eq_getElem (by omega))
                by_cases c4 : ls[j].1 = ls[k].1
                · have c4' : (ls[j].1 == ls[k].1) = true := by simp [c4]
                  have Hf := Lib.hid (Hbad.out (fun h => (Hsn.out.1 h).2.2 j hjk c4))
                  clear c4
                  go_wp2
                  go_quiet (fail)
                  go_wp2
                  go_ret
                  exact ⟨ret_bool Hf.out.symm, _, World.drewN_drewN _ _ _⟩
                · have c4' : (ls[j].1 == ls[k].1) = false := by simp [c4]
                  have Hc4 := Lib.hid c4
                  clear c4
                  go_wp2
                  go_quiet (fail)
                  go_wp2
                  go_roundw
                  case rel =>
                    refine ⟨j + 1, _, by omega, by go_num, rfl, Lib.hid (fun i hi hj' => ?_)⟩
                    by_cases hij : i < j
                    · exact hne.out i hij hj
                    · obtain rfl : i = j := by omega
                      exact Hc4.out
                  case measure => simp [intOf]; omega
              · obtain rfl : j = k := by omega
                go_wp2
                go_roundw
                case rel => exact ⟨j + 1, _, by omega, by go_num, rfl, Lib.hid (Hsn.out.2 ⟨hok.out, Hlk.out, fun i hi => hne.out i hi (Nat.le_refl _)⟩)⟩
                case measure => simp [intOf]; omega
          · have Hf := Lib.hid (Hbad.out (fun h => c3 ⟨((Hsn.out.1 h).2.1).2.2.2.1, ((Hsn.out.1 h).2.1).2.2.2.2⟩))
            clear c2
            have c3' : ls[k].2 < 1 ∨ 15 < ls[k].2 := by omega
            clear c3
            go_wp2_with (first | (go_at_call 33; refine (In_t _ _ _ _ (by omega) (by omega)).mono ?_; rintro e w' ⟨rfl, rfl⟩) | (go_at_call 33; refine (In_f _ _ _ _ (by omega)).mono ?_; rintro e w' ⟨rfl, rfl⟩))
            go_ret
            exact ⟨ret_bool Hf.out.symm, m, rfl⟩
      · have Hf := Lib.hid (Hbad.out (fun h => c1 ⟨((Hsn.out.1 h).2.1).1, ((Hsn.out.1 h).2.1).2.1⟩))
        have c1' : ls[k].1 < 0 ∨ n - 1 < ls[k].1 := by omega
        clear c1
        go_wp2_with (first | (go_at_call 33; refine (In_f _ _ _ _ (by omega)).mono ?_; rintro e w' ⟨rfl, rfl⟩))
        go_ret
        exact ⟨ret_bool Hf.out.symm, m, rfl⟩
    · obtain rfl : k = ls.length := by omega
      have Ht := Lib.hid (linksB_true_of ls v n hok.out)
      go_wp2
      go_ret
      exact ⟨ret_bool Ht.out.symm, m, rfl⟩

end Go.Proofs.YtegpikhfnhcjaaaGreat
