/- Walk of the reference's Valid. -/
import Derived.Test.YtegpikhfnhcjaaaGreatRefA
import Derived.Test.YtegpikhfnhcjaaaGreatSlB
namespace Go.Proofs.YtegpikhfnhcjaaaGreat
open Go.RowKit

set_option maxHeartbeats 2000000 in
theorem refValid_any (gv : Value) (g : Gr) (w : World) (hg : GrAt w gv g) :
    Calls Tryz.prog 19 #[gv] w fun e w' => e = .returned (.bool (validB g)) ∧ Below w.heap.size w w' := by
  have hg0 := Lib.hid hg
  obtain ⟨i, p, rfl, hi, hp⟩ := hg
  obtain ⟨A, c, rfl, hA1, hA2⟩ := slAt_form hi
  obtain ⟨A2, c2, rfl, hB1, hB2⟩ := slAt_form hp
  have Hi := Lib.hid hi
  have Hp := Lib.hid hp
  clear hi hp
  by_cases n1 : 1 ≤ g.ports.length ∧ g.ports.length ≤ 24
  · obtain ⟨n1a, n1b⟩ := n1
    by_cases n2 : g.ids.length = g.ports.length
    · have n2' : ((g.ids.length : Int) != (g.ports.length : Int)) = false := by simp [n2]
      have Hn2 := Lib.hid n2
      have n2a : g.ids.length ≤ g.ports.length := by omega
      have n2b : g.ports.length ≤ g.ids.length := by omega
      clear n2
      go_enter Tryz.func19, Tryz.ntmps19
      go_wp2_with (first | (go_at_call 33; refine (In_t _ _ _ _ (by omega) (by omega)).mono ?_; rintro e w' ⟨rfl, rfl⟩))
      go_loopw [4] (fun t wr => ∃ k : Nat, k ≤ g.ports.length ∧ t = .int .i64 k ∧ Hid (Below (w.heap.size + 1) (w.alloc (.cells #[.slice A g.ids.length c, .slice A2 g.ports.length c2] 25)) wr) ∧ Hid (∀ v, v < k → V2 g v)) (fun t _ => g.ports.length - (intOf t).toNat)
      case atStart => exact ⟨0, by omega, rfl, Lib.hid (Below.refl _ _), Lib.hid (fun v hv => absurd hv (by omega))⟩
      case round =>
        obtain ⟨k, hk, rfl, hbel, hv2⟩ := hrel
        obtain ⟨q0, q1, hbw, hsz⟩ := box2 hbel.out
        have Hbw := Lib.hid hbw
        clear hbw
        by_cases hlt : k < g.ports.length
        · obtain ⟨b, off, rfl, hb, hcid, hr⟩ := intsAt_at (Hi.out.below Stable.int Hbw.out) (show k < g.ids.length by omega)
          obtain ⟨b2, off2, lv, rfl, hb2, hcl, hls⟩ := rowsAt_at (Hp.out.below (Stable.sl Stable.link) Hbw.out) (List.getElem?_eq_getElem hlt)
          obtain ⟨A3, c3, rfl, hl1, hl2⟩ := slAt_form hls
          have Hls := Lib.hid hls
          clear hls
          obtain ⟨x, hx⟩ : ∃ x, g.ids[k]? = some x := ⟨_, List.getElem?_eq_getElem (by omega)⟩
          have hxe : g.ids[k] = x := by have := List.getElem?_eq_getElem (l := g.ids) (i := k) (by omega); rw [hx] at this; exact (Option.some.inj this).symm
          simp only [hxe] at hcid hr
          obtain ⟨ls, hle⟩ : ∃ ls, g.ports[k] = ls := ⟨_, rfl⟩
          have hlp : g.ports[k]? = some ls := by rw [List.getElem?_eq_getElem hlt, hle]
          simp only [hle] at hcl hl1 Hls
          have Hx := Lib.hid hx
          have Hlp := Lib.hid hlp
          clear hx hxe hle hlp
          obtain ⟨hr1, hr2⟩ := hr
          have Hbad := Lib.hid (fun h => validB_false_v2 (g := g) (v := k) hlt h)
          by_cases c1 : 0 ≤ x ∧ x ≤ 255
          · obtain ⟨c1a, c1b⟩ := c1
            by_cases c2 : ls.length < g.ports.length
            · have c2d : decide (g.ports.length ≤ ls.length) = false := by simp; omega
              by_cases c3 : linksB ls (k : Int) (g.ports.length : Int) = true
              · go_wp2_with (first | (go_at_call 33; refine (In_t _ _ _ _ (by omega) (by omega)).mono ?_; rintro e w' ⟨rfl, rfl⟩) | (go_at_call 34; refine (linksValid_any _ ls _ _ _ Hls.out ⟨by omega, by omega⟩).mono ?_; rintro e w' ⟨rfl, m, rfl⟩))
                obtain ⟨w2, hw2⟩ : ∃ w2, w2 = wr.drewN m := ⟨_, rfl⟩
                rw [← hw2]
                have Hb2 := Lib.hid (below_of_drewN hbel.out hw2)
                clear hw2
                go_loopw [5] (fun t wq => ∃ j m2 : Nat, j ≤ k ∧ t = .int .i64 j ∧ wq = w2.drewN m2 ∧ Hid (∀ u y, u < j → g.ids[u]? = some y → y ≠ x)) (fun t _ => k - (intOf t).toNat)
                case atStart => exact ⟨0, 0, by omega, rfl, rfl, Lib.hid (fun u y hu => absurd hu (by omega))⟩
                case round =>
                  obtain ⟨j, m2, hj, rfl, rfl, hne⟩ := hrel
                  obtain ⟨q0, q1, hbw, hsz⟩ := box2 Hb2.out
                  have Hbw2 := Lib.hid hbw
                  obtain ⟨b', off', e', hb', hcid, _⟩ := intsAt_at (Hi.out.below Stable.int Hbw2.out) (show k < g.ids.length by omega)
                  cases e'
                  clear hbw
                  have hkx : g.ids[k] = x := by have := List.getElem?_eq_getElem (l := g.ids) (i := k) (by omega); rw [Hx.out] at this; exact (Option.some.inj this).symm
                  rw [hkx] at hcid
                  clear hkx
                  by_cases hjk : j < k
                  · obtain ⟨b', off', e', hb', hcj, _⟩ := intsAt_at (Hi.out.below Stable.int Hbw2.out) (show j < g.ids.length by omega)
                    cases e'
                    by_cases c4 : g.ids[j] = x
                    · have c4' : (g.ids[j] == x) = true := by simp [c4]
                      have Hf := Lib.hid (Hbad.out (fun h => (h x ls Hx.out Hlp.out).2.2.2 j _ hjk (List.getElem?_eq_getElem (by omega)) c4))
                      clear c4
                      go_wp2
                      go_quiet (fail)
                      go_wp2
                      go_ret
                      exact ⟨ret_bool Hf.out.symm, below_drewN (below_drewN (box2 Hb2.out).2.2.1 _) _⟩
                    · have c4' : (g.ids[j] == x) = false := by simp [c4]
                      have Hc4 := Lib.hid c4
                      clear c4
                      go_wp2
                      go_quiet (fail)
                      go_wp2
                      go_roundw
                      case rel =>
                        refine ⟨j + 1, _, by omega, by go_num, rfl, Lib.hid (fun u y hu hy => ?_)⟩
                        by_cases huj : u < j
                        · exact hne.out u y huj hy
                        · obtain rfl : u = j := by omega
                          rw [List.getElem?_eq_getElem (by omega)] at hy
                          cases hy
                          exact Hc4.out
                      case measure => simp [intOf]; omega
                  · obtain rfl : j = k := by omega
                    go_wp2
                    go_roundw
                    case rel =>
                      refine ⟨j + 1, by omega, by go_num, Lib.hid (below_drewN Hb2.out _), Lib.hid (fun v hv => ?_)⟩
                      by_cases hvj : v < j
                      · exact hv2.out v hvj
                      · obtain rfl : v = j := by omega
                        intro x' ls' hx' hls'
                        rw [Hx.out] at hx'
                        rw [Hlp.out] at hls'
                        cases hx'
                        cases hls'
                        exact ⟨⟨c1a, c1b⟩, c2, c3, hne.out⟩
                    case measure => simp [intOf]; omega
              · have c3' : linksB ls (k : Int) (g.ports.length : Int) = false := by simpa using c3
                have Hf := Lib.hid (Hbad.out (fun h => c3 (h x ls Hx.out Hlp.out).2.2.1))
                clear c3
                go_wp2_with (first | (go_at_call 33; refine (In_t _ _ _ _ (by omega) (by omega)).mono ?_; rintro e w' ⟨rfl, rfl⟩) | (go_at_call 34; refine (linksValid_any _ ls _ _ _ Hls.out ⟨by omega, by omega⟩).mono ?_; rintro e w' ⟨rfl, m, rfl⟩))
                go_ret
                exact ⟨ret_bool Hf.out.symm, below_drewN Hbw.out _⟩
            · have c2d : decide (g.ports.length ≤ ls.length) = true := by simp; omega
              have Hf := Lib.hid (Hbad.out (fun h => c2 (h x ls Hx.out Hlp.out).2.1))
              go_wp2_with (first | (go_at_call 33; refine (In_t _ _ _ _ (by omega) (by omega)).mono ?_; rintro e w' ⟨rfl, rfl⟩) | (go_at_call 34; refine (linksValid_any _ ls _ _ _ Hls.out ⟨by omega, by omega⟩).mono ?_; rintro e w' ⟨rfl, m, rfl⟩))
              go_ret
              exact ⟨ret_bool Hf.out.symm, Hbw.out⟩
          · have Hf := Lib.hid (Hbad.out (fun h => c1 (h x ls Hx.out Hlp.out).1))
            have c1' : x < 0 ∨ 255 < x := by omega
            clear c1
            go_wp2_with (first | (go_at_call 33; refine (In_f _ _ _ _ (by omega)).mono ?_; rintro e w' ⟨rfl, rfl⟩))
            go_ret
            exact ⟨ret_bool Hf.out.symm, Hbw.out⟩
        · obtain rfl : k = g.ports.length := by omega
          go_wp2
          go_loopw [6] (fun t wr => ∃ k : Nat, k ≤ g.ports.length ∧ t = .int .i64 k ∧ Hid (Below (w.heap.size + 1) (w.alloc (.cells #[.slice A g.ids.length c, .slice A2 g.ports.length c2] 25)) wr) ∧ Hid (∀ v i, v < k → V3 g v i)) (fun t _ => g.ports.length - (intOf t).toNat)
          case atStart => exact ⟨0, by omega, rfl, hbel, Lib.hid (fun v i hv => absurd hv (by omega))⟩
          case round =>
            clear hbel Hbw q0 q1 hsz
            obtain ⟨k, hk, rfl, hbel, hv3⟩ := hrel
            obtain ⟨q0, q1, hbw, hsz⟩ := box2 hbel.out
            have Hbw := Lib.hid hbw
            clear hbw
            by_cases hlt : k < g.ports.length
            · obtain ⟨ls, hle⟩ : ∃ ls, g.ports[k] = ls := ⟨_, rfl⟩
              have hlp : g.ports[k]? = some ls := by rw [List.getElem?_eq_getElem hlt, hle]
              have Hlp := Lib.hid hlp
              clear hle hlp
              have Hlk := Lib.hid (show ∀ l ∈ ls, linkOk k g.ports.length l by
                have := (hv2.out k hlt _ ls (List.getElem?_eq_getElem (by omega)) Hlp.out).2.2.1
                exact fun l hl => (of_decide_eq_true this).1 l hl)
              have Hbad := Lib.hid (fun i h => validB_false_v3 (g := g) (v := k) (i := i) hlt h)
              go_wp2
              go_loopw [7] (fun t wr => ∃ i : Nat, i ≤ ls.length ∧ t = .int .i64 i ∧ Hid (Below (w.heap.size + 1) (w.alloc (.cells #[.slice A g.ids.length c, .slice A2 g.ports.length c2] 25)) wr) ∧ Hid (∀ j, j < i → V3 g k j)) (fun t _ => ls.length - (intOf t).toNat)
              case atStart => exact ⟨0, by omega, rfl, hbel, Lib.hid (fun j hj => absurd hj (by omega))⟩
              case round =>
                clear hbel Hbw q0 q1 hsz
                obtain ⟨i, hi, rfl, hbel, hv3'⟩ := hrel
                obtain ⟨q0, q1, hbw, hsz⟩ := box2 hbel.out
                have Hbw := Lib.hid hbw
                obtain ⟨b2, off2, lv, rfl, hb2, hcl, hls⟩ := rowsAt_at (Hp.out.below (Stable.sl Stable.link) Hbw.out) Hlp.out
                obtain ⟨A3, c3, rfl, hl1, hl2⟩ := slAt_form hls
                by_cases hil : i < ls.length
                · obtain ⟨A4, c4, e4, _, _, hE⟩ := hls
                  cases e4
                  obtain ⟨b3, off3, rfl, hb3, hE⟩ := hE (by omega)
                  obtain ⟨⟨l1, wt⟩, hle⟩ : ∃ l, ls[i] = l := ⟨_, rfl⟩
                  have hl? : ls[i]? = some (l1, wt) := by rw [List.getElem?_eq_getElem hil, hle]
                  obtain ⟨hx1, hx2, ⟨hr1, hr2⟩, ⟨hr3, hr4⟩⟩ := hE i _ hl?
                  have hlk := Hlk.out (l1, wt) (List.mem_of_getElem? hl?)
                  unfold linkOk at hlk
                  obtain ⟨k1, k2, k3, k4, k5⟩ := hlk
                  simp only at k1 k2 k3 k4 k5 hx1 hx2 hr1 hr2 hr3 hr4
                  obtain ⟨t, rfl⟩ := Int.eq_ofNat_of_zero_le k1
                  have htl : t < g.ports.length := by omega
                  obtain ⟨b', off', lv', e', hb', hcl', hls'⟩ := rowsAt_at (Hp.out.below (Stable.sl Stable.link) Hbw.out) (List.getElem?_eq_getElem htl)
                  cases e'
                  obtain ⟨A5, c5, rfl, hm1, hm2⟩ := slAt_form hls'
                  obtain ⟨ls', hle'⟩ : ∃ ls', g.ports[t] = ls' := ⟨_, rfl⟩
                  have Hlp' := Lib.hid (show g.ports[t]? = some ls' by rw [List.getElem?_eq_getElem htl, hle'])
                  rw [hle'] at hls' hcl' hm1
                  have Hl? := Lib.hid hl?
                  have HE := Lib.hid hE
                  have Hls' := Lib.hid hls'
                  have Hbb := Lib.hid (Hbad.out i)
                  clear hle hle' hl? hE hls' k1 k3 hbw
                  have Hgr := Lib.hid (hg0.out.below Hbw.out)
                  rcases portTo_neg_or (ls := ls') (u := (k : Int)) with hpt | ⟨q, hpt, hq⟩
                  · have Hpt := Lib.hid hpt
                    clear hpt
                    have Hf := Lib.hid (Hbb.out (fun h => by
                      obtain ⟨ls2, q2, l2, f1, f2, _⟩ := h ls _ Hlp.out Hl?.out
                      rw [Int.toNat_natCast, Hlp'.out] at f1
                      cases f1
                      rw [Hpt.out] at f2
                      omega))
                    go_wp2_with fail
                    refine (Port_any _ g t ls' k _ (Hgr.out.below ((Below.refl _ _).alloc (Nat.le_refl _) _)) Hlp'.out).mono ?_
                    rintro e w3 ⟨rfl, hb3w⟩
                    rw [Hpt.out]
                    have d0 := keepA hb3w _ _ q0
                    have d1 := keepA hb3w _ _ q1
                    have d2 := keepA hb3w _ _ hcl'
                    obtain ⟨d3, d4⟩ := newA2 hb3w
                    have Hb3 := Lib.hid (belowA hb3w)
                    have hz3 : wr.heap.size < w3.heap.size := by have := hb3w.size; simp at this; omega
                    clear hb3w
                    go_wp2
                    go_quiet (fail)
                    go_wp2
                    go_ret
                    exact ⟨ret_bool Hf.out.symm, below_drewN (Hbw.out.trans (Hb3.out.mono Hbw.out.size)) _⟩
                  · have Hpt := Lib.hid hpt
                    clear hpt
                    obtain ⟨A6, c6, e6, _, _, hE6⟩ := Hls'.out
                    cases e6
                    obtain ⟨b6, off6, rfl, hb6, hE6⟩ := hE6 (by omega)
                    obtain ⟨⟨y1, y2⟩, hqe⟩ : ∃ l, ls'[q] = l := ⟨_, rfl⟩
                    have hq? : ls'[q]? = some (y1, y2) := by rw [List.getElem?_eq_getElem hq, hqe]
                    obtain ⟨_, hx4, _, _⟩ := hE6 q _ hq?
                    simp only at hx4
                    have Hq? := Lib.hid hq?
                    clear hqe hq? hE6
                    by_cases c7 : y2 = wt
                    · have c7' : (y2 != wt) = false := by simp [c7]
                      have Hv := Lib.hid (show V3 g k i from fun ls2 l2 f1 f2 => by
                        rw [Hlp.out] at f1
                        cases f1
                        rw [Hl?.out] at f2
                        cases f2
                        exact ⟨ls', q, (y1, y2), by rw [Int.toNat_natCast]; exact Hlp'.out, Hpt.out, Hq?.out, c7⟩)
                      clear c7
                      go_wp2_with fail
                      refine (Port_any _ g t ls' k _ (Hgr.out.below ((Below.refl _ _).alloc (Nat.le_refl _) _)) Hlp'.out).mono ?_
                      rintro e w3 ⟨rfl, hb3w⟩
                      rw [Hpt.out]
                      have d0 := keepA hb3w _ _ q0
                      have d1 := keepA hb3w _ _ q1
                      have d2 := keepA hb3w _ _ hcl'
                      obtain ⟨d3, d4⟩ := newA2 hb3w
                      have Hb3 := Lib.hid (belowA hb3w)
                      have hz3 : wr.heap.size < w3.heap.size := by have := hb3w.size; simp at this; omega
                      clear hb3w
                      have d5 := (Hb3.out.cell hb6).trans hx4
                      go_wp2
                      go_quiet (fail)
                      go_wp2
                      go_roundw
                      case rel =>
                        refine ⟨i + 1, by omega, by go_num, Lib.hid (below_drewN (hbel.out.trans (Hb3.out.mono (by have := hbel.out.size; simp at this; omega))) _), Lib.hid (fun j hj => ?_)⟩
                        by_cases hji : j < i
                        · exact hv3'.out j hji
                        · obtain rfl : j = i := by omega
                          exact Hv.out
                      case measure => simp [intOf]; omega
                    · have c7' : (y2 != wt) = true := by simp [c7]
                      have Hf := Lib.hid (Hbb.out (fun h => by
                        obtain ⟨ls2, q2, l2, f1, f2, f3, f4⟩ := h ls _ Hlp.out Hl?.out
                        rw [Int.toNat_natCast, Hlp'.out] at f1
                        cases f1
                        rw [Hpt.out] at f2
                        obtain rfl : q = q2 := by omega
                        rw [Hq?.out] at f3
                        cases f3
                        exact c7 f4))
                      clear c7
                      go_wp2_with fail
                      refine (Port_any _ g t ls' k _ (Hgr.out.below ((Below.refl _ _).alloc (Nat.le_refl _) _)) Hlp'.out).mono ?_
                      rintro e w3 ⟨rfl, hb3w⟩
                      rw [Hpt.out]
                      have d0 := keepA hb3w _ _ q0
                      have d1 := keepA hb3w _ _ q1
                      have d2 := keepA hb3w _ _ hcl'
                      obtain ⟨d3, d4⟩ := newA2 hb3w
                      have Hb3 := Lib.hid (belowA hb3w)
                      have hz3 : wr.heap.size < w3.heap.size := by have := hb3w.size; simp at this; omega
                      clear hb3w
                      have d5 := (Hb3.out.cell hb6).trans hx4
                      go_wp2
                      go_quiet (fail)
                      go_wp2
                      go_ret
                      exact ⟨ret_bool Hf.out.symm, below_drewN (Hbw.out.trans (Hb3.out.mono Hbw.out.size)) _⟩
                · obtain rfl : i = ls.length := by omega
                  have HE := Lib.hid hls
                  clear hls hbw
                  go_wp2
                  go_roundw
                  case rel =>
                    refine ⟨k + 1, by omega, by go_num, hbel, Lib.hid (fun v j hv => ?_)⟩
                    by_cases hvk : v < k
                    · exact hv3.out v j hvk
                    · obtain rfl : v = k := by omega
                      by_cases hj : j < ls.length
                      · exact hv3'.out j hj
                      · intro ls2 l2 f1 f2
                        rw [Hlp.out] at f1
                        cases f1
                        rw [List.getElem?_eq_none (by omega)] at f2
                        cases f2
                  case measure => simp [intOf]; omega
            · obtain rfl : k = g.ports.length := by omega
              have Ht := Lib.hid (show validB g = true from decide_eq_true (GoodG.of n1a n1b Hn2.out hv2.out (fun v i hv => hv3.out v i hv)))
              go_wp2
              go_ret
              exact ⟨ret_bool Ht.out.symm, Hbw.out⟩
    · have n2' : ((g.ids.length : Int) != (g.ports.length : Int)) = true := by simp; omega
      have Hf := Lib.hid (validB_false_1 (g := g) (fun h => n2 h.2.2))
      clear n2
      go_enter Tryz.func19, Tryz.ntmps19
      go_wp2_with (first | (go_at_call 33; refine (In_t _ _ _ _ (by omega) (by omega)).mono ?_; rintro e w' ⟨rfl, rfl⟩))
      go_ret
      exact ⟨ret_bool Hf.out.symm, (Below.refl _ _).alloc (Nat.le_refl _) _⟩
  · have Hf := Lib.hid (validB_false_1 (g := g) (fun h => n1 ⟨h.1, h.2.1⟩))
    have n1' : g.ports.length < 1 ∨ 24 < g.ports.length := by omega
    clear n1
    go_enter Tryz.func19, Tryz.ntmps19
    go_wp2_with (first | (go_at_call 33; refine (In_f _ _ _ _ (by omega)).mono ?_; rintro e w' ⟨rfl, rfl⟩))
    go_ret
    exact ⟨ret_bool Hf.out.symm, (Below.refl _ _).alloc (Nat.le_refl _) _⟩
end Go.Proofs.YtegpikhfnhcjaaaGreat
