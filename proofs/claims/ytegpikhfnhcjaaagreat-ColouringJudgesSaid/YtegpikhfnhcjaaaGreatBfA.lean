/- Walks of package bfs: Configuration, Towards, the closure of Right, Right. -/
import Derived.Test.YtegpikhfnhcjaaaGreatGrC
import Derived.Test.YtegpikhfnhcjaaaGreatOwn
import Derived.Test.YtegpikhfnhcjaaaGreatPlainG
namespace Go.Proofs.YtegpikhfnhcjaaaGreat
open Go.RowKit

theorem boundsG_length (g : Gr) (G : List Int) (v : Nat) : (boundsG g G v).length = G.length := by simp [boundsG]

set_option maxHeartbeats 2000000 in
theorem Configuration_any (gv cv Gv : Value) (g : Gr) (c : Conf) (G : List Int) (w : World) (hg : GrAt w gv g) (hc : RowsAt w cv c) (hG : IntsAt w Gv G) (hgood : GoodG g) :
    Calls Tryz.prog 36 #[gv, cv, Gv] w fun e w' => e = .returned (.bool (confB g.ports.length (boundsG g G) c)) ∧ Below w.heap.size w w' := by
  have hn24 := hgood.2.1
  have hid := hgood.2.2.1
  have Hid' := Lib.hid hid
  clear hgood
  obtain ⟨i, p, rfl, hi, hp⟩ := hg
  obtain ⟨A, c0, rfl, hA1, hA2⟩ := slAt_form hi
  obtain ⟨A2, c2, rfl, hB1, hB2⟩ := slAt_form hp
  obtain ⟨A3, c3, rfl, hC1, hC2⟩ := slAt_form hc
  obtain ⟨A4, c4, rfl, hD1, hD2⟩ := slAt_form hG
  have Hp := Lib.hid hp
  have Hc := Lib.hid hc
  have HG := Lib.hid hG
  clear hi hp hc hG
  by_cases n1 : c.length = g.ids.length
  · have n1' : ((c.length : Int) != (g.ids.length : Int)) = false := by simp [n1]
    have Hn := Lib.hid (n1.trans hid)
    have hcn : c.length ≤ 24 := by omega
    clear n1 hid
    go_enter Tryz.func36, Tryz.ntmps36
    go_wp2
    obtain ⟨W1, hW1⟩ : ∃ W, W = w.alloc (.cells #[.slice A g.ids.length c0, .slice A2 g.ports.length c2] 25) := ⟨_, rfl⟩
    have hbox : W1.cell? ⟨w.heap.size, 1, none⟩ = some (.slice A2 g.ports.length c2) := by subst hW1; simp
    have HbW := Lib.hid (show Below w.heap.size w W1 by subst hW1; exact (Below.refl _ _).alloc (Nat.le_refl _) _)
    rw [← hW1]
    clear hW1
    go_loopg [21] c.length (fun q t wr => ∃ v n : Nat, q + v = c.length ∧ t = .int .i64 v ∧ wr = W1.drewN n ∧ Hid (∀ (u : Nat) s, u < v → c[u]? = some s → StateOk (boundsG g G u) s))
    case atStart => exact ⟨0, 0, by omega, rfl, rfl, Lib.hid (fun u s hu => absurd hu (by omega))⟩
    case round =>
      obtain ⟨v, n, hq, rfl, rfl, hok⟩ := hrel
      by_cases hlt : v < c.length
      · obtain ⟨b3, off3, sv, rfl, hb3, hcs, hs⟩ := rowsAt_at (Hc.out.below (Stable.sl Stable.int) HbW.out) (List.getElem?_eq_getElem hlt)
        obtain ⟨A5, c5, rfl, hE1, hE2⟩ := slAt_form hs
        obtain ⟨s, hse⟩ : ∃ s, c[v] = s := ⟨_, rfl⟩
        have Hs? := Lib.hid (show c[v]? = some s by rw [List.getElem?_eq_getElem hlt, hse])
        rw [hse] at hs hcs hE1
        have Hbad := Lib.hid (show ¬ StateOk (boundsG g G v) s → confB g.ports.length (boundsG g G) c = false from fun h => confB_false (fun hc => h (hc.2 v s Hs?.out)))
        have Hs := Lib.hid hs
        clear hs hse
        by_cases c1 : s.length = G.length
        · have c1' : ((s.length : Int) != (G.length : Int)) = false := by simp [c1]
          have Hsl := Lib.hid c1
          clear c1
          have hvp : v < g.ports.length := by rw [← Hn.out]; exact hlt
          go_wp2
          obtain ⟨go, rfl⟩ : ∃ go, go = gk := ⟨_, rfl⟩
          go_loopg [33] s.length (fun q t wr => ∃ x n : Nat, q + x = s.length ∧ t = .int .i64 x ∧ wr = W1.drewN n ∧ Hid (∀ (j : Nat) b z, j < x → (boundsG g G v)[j]? = some b → s[j]? = some z → b.1 ≤ z ∧ z ≤ b.2))
          case atStart => exact ⟨0, n, by omega, rfl, rfl, Lib.hid (fun j b z hj => absurd hj (by omega))⟩
          case round =>
            obtain ⟨x, n, hqx, rfl, rfl, hst⟩ := hrel
            by_cases hxl : x < s.length
            · have hxG : x < G.length := by rw [← Hsl.out]; exact hxl
              obtain ⟨b5, o5, rfl, hb5, hc5, hr5⟩ := intsAt_at (Hs.out) hxl
              obtain ⟨b6, o6, rfl, hb6, hc6, hr6⟩ := intsAt_at (HG.out.below Stable.int HbW.out) hxG
              obtain ⟨b7, o7, lv, rfl, hb7, hc7, hl7⟩ := rowsAt_at (Hp.out.below (Stable.sl Stable.link) HbW.out) (List.getElem?_eq_getElem hvp)
              obtain ⟨A8, c8, rfl, hF1, hF2⟩ := slAt_form hl7
              obtain ⟨ds, hds⟩ : ∃ ds, g.ports[v] = ds := ⟨_, rfl⟩
              have hdeg : degOf g v = ds.length := by simp [degOf, List.getD, List.getElem?_eq_getElem hvp, hds]
              rw [hds] at hc7 hF1
              obtain ⟨y, hy⟩ : ∃ y, s[x] = y := ⟨_, rfl⟩
              obtain ⟨h, hh⟩ : ∃ h, G[x] = h := ⟨_, rfl⟩
              have Hy? := Lib.hid (show s[x]? = some y by rw [List.getElem?_eq_getElem hxl, hy])
              have hb? : (boundsG g G v)[x]? = some (if h = -1 then (-1, (ds.length : Int) - 1) else (0, h)) := by
                simp [boundsG, hxG, hh, hdeg]
              rw [hy] at hc5 hr5
              rw [hh] at hc6 hr6
              obtain ⟨hr5a, hr5b⟩ := hr5
              obtain ⟨hr6a, hr6b⟩ := hr6
              clear hl7 hds hdeg hy hh
              by_cases c2 : h = -1
              · have c2' : (h == -1) = true := by simp [c2]
                rw [if_pos c2] at hb?
                have Hb? := Lib.hid hb?
                clear hb? c2
                by_cases c3 : y < -1
                · have Hf := Lib.hid (Hbad.out (fun h => by have := h.2 x _ y Hb?.out Hy?.out; simp only at this; omega))
                  go_wp2
                  go_quiet (fail)
                  go_wp2
                  go_quiet (fail)
                  go_wp2
                  go_ret
                  exact ⟨ret_bool Hf.out.symm, below_drewN HbW.out _⟩
                · by_cases c4 : (ds.length : Int) - 1 < y
                  · have Hf := Lib.hid (Hbad.out (fun h => by have := h.2 x _ y Hb?.out Hy?.out; simp only at this; omega))
                    go_wp2
                    go_quiet (fail)
                    go_wp2
                    go_quiet (fail)
                    go_wp2
                    go_ret
                    exact ⟨ret_bool Hf.out.symm, below_drewN HbW.out _⟩
                  · have c4d : decide ((ds.length : Int) - 1 < y) = false := by simp; omega
                    go_wp2
                    go_quiet (fail)
                    go_wp2
                    go_quiet (fail)
                    go_wp2
                    go_roundg (gk - 1)
                    case measure => omega
                    case rel =>
                      refine ⟨x + 1, _, by omega, by go_num, rfl, Lib.hid (fun j b z hj hb hz => ?_)⟩
                      by_cases hjx : j < x
                      · exact hst.out j b z hjx hb hz
                      · obtain rfl : j = x := by omega
                        rw [Hb?.out] at hb
                        rw [Hy?.out] at hz
                        cases hb
                        cases hz
                        simp only
                        omega
              · have c2' : (h == -1) = false := by simp [c2]
                rw [if_neg c2] at hb?
                have Hb? := Lib.hid hb?
                clear hb? c2
                by_cases c3 : y < 0
                · have Hf := Lib.hid (Hbad.out (fun h => by have := h.2 x _ y Hb?.out Hy?.out; simp only at this; omega))
                  go_wp2
                  go_quiet (fail)
                  go_wp2
                  go_ret
                  exact ⟨ret_bool Hf.out.symm, below_drewN HbW.out _⟩
                · by_cases c4 : h < y
                  · have Hf := Lib.hid (Hbad.out (fun h => by have := h.2 x _ y Hb?.out Hy?.out; simp only at this; omega))
                    go_wp2
                    go_quiet (fail)
                    go_wp2
                    go_ret
                    exact ⟨ret_bool Hf.out.symm, below_drewN HbW.out _⟩
                  · have c4d : decide (h < y) = false := by simp; omega
                    go_wp2
                    go_quiet (fail)
                    go_wp2
                    go_roundg (gk - 1)
                    case measure => omega
                    case rel =>
                      refine ⟨x + 1, _, by omega, by go_num, rfl, Lib.hid (fun j b z hj hb hz => ?_)⟩
                      by_cases hjx : j < x
                      · exact hst.out j b z hjx hb hz
                      · obtain rfl : j = x := by omega
                        rw [Hb?.out] at hb
                        rw [Hy?.out] at hz
                        cases hb
                        cases hz
                        simp only
                        omega
            · obtain rfl : x = s.length := by omega
              go_wp2
              go_roundg (go - 1)
              case measure => omega
              case rel =>
                refine ⟨v + 1, _, by omega, by go_num, rfl, Lib.hid (fun u s' hu hs' => ?_)⟩
                by_cases huv : u < v
                · exact hok.out u s' huv hs'
                · obtain rfl : u = v := by omega
                  rw [Hs?.out] at hs'
                  cases hs'
                  refine ⟨by rw [boundsG_length, Hsl.out], fun j b z hb hz => hst.out j b z (List.getElem?_eq_some_iff.1 hz).1 hb hz⟩
        · have c1' : ((s.length : Int) != (G.length : Int)) = true := by simp; omega
          have Hf := Lib.hid (Hbad.out (fun h => c1 (by rw [h.1, boundsG_length])))
          clear c1
          go_wp2
          go_ret
          exact ⟨ret_bool Hf.out.symm, below_drewN HbW.out _⟩
      · obtain rfl : v = c.length := by omega
        have Ht := Lib.hid (confB_true (n := g.ports.length) (bs := boundsG g G) (c := c) ⟨Hn.out, fun v s hs => hok.out v s (List.getElem?_eq_some_iff.1 hs).1 hs⟩)
        go_wp2
        go_ret
        exact ⟨ret_bool Ht.out.symm, below_drewN HbW.out _⟩
  · have n1' : ((c.length : Int) != (g.ids.length : Int)) = true := by simp; omega
    have Hf := Lib.hid (confB_false (n := g.ports.length) (bs := boundsG g G) (c := c) (fun h => n1 (h.1.trans hid.symm)))
    clear n1 hid
    go_enter Tryz.func36, Tryz.ntmps36
    go_wp2
    go_ret
    exact ⟨ret_bool Hf.out.symm, (Below.refl _ _).alloc (Nat.le_refl _) _⟩
end Go.Proofs.YtegpikhfnhcjaaaGreat
