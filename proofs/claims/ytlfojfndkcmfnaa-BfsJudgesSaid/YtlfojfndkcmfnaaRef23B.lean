/- Walk of selfstabref23.Tree. -/
import Derived.Test.YtlfojfndkcmfnaaRef23A
namespace Go.Proofs.Ytlfojfndkcmfnaa
open Go.RowKit

/-- The first place from k on that is accepted, -1 if there is none. -/
def firstFrom (acc : Int × Int → Bool) (ls : List (Int × Int)) (k : Nat) : Int := match (ls.drop k).findIdx? acc with | some j => (k : Int) + j | none => -1
theorem firstFrom_zero (acc : Int × Int → Bool) (ls : List (Int × Int)) : firstFrom acc ls 0 = firstP acc ls := by
  unfold firstFrom firstP
  rw [List.drop_zero]
  cases ls.findIdx? acc with
  | none => rfl
  | some j => simp
theorem firstFrom_len (acc : Int × Int → Bool) (ls : List (Int × Int)) : firstFrom acc ls ls.length = -1 := by simp [firstFrom]
theorem firstFrom_step (acc : Int × Int → Bool) (ls : List (Int × Int)) (k : Nat) (hk : k < ls.length) : firstFrom acc ls k = if acc ls[k] = true then (k : Int) else firstFrom acc ls (k + 1) := by
  unfold firstFrom
  rw [List.drop_eq_getElem_cons hk, List.findIdx?_cons]
  by_cases h : acc ls[k] = true
  · rw [if_pos h, if_pos h]
    simp
  · rw [if_neg h, if_neg h]
    cases (ls.drop (k + 1)).findIdx? acc with
    | none => rfl
    | some j => simp; omega

def treeOk (g : Gr) (D : List Int) (c : Conf) (d p v : Nat) : Prop := (c.getD v []).getD d 0 = D.getD v 0 ∧ (c.getD v []).getD p 0 = wayP g D v
instance (g : Gr) (D : List Int) (c : Conf) (d p v : Nat) : Decidable (treeOk g D c d p v) := by unfold treeOk; infer_instance
def treeB (g : Gr) (D : List Int) (c : Conf) (d p : Nat) : Bool := (List.range g.ports.length).all (fun v => decide (treeOk g D c d p v))

theorem treeB_false {g : Gr} {D : List Int} {c : Conf} {d p v : Nat} (hv : v < g.ports.length) (h : ¬ treeOk g D c d p v) : treeB g D c d p = false := by
  unfold treeB
  rw [List.all_eq_false]
  exact ⟨v, by simpa using hv, by simpa using h⟩
theorem treeB_true {g : Gr} {D : List Int} {c : Conf} {d p : Nat} (h : ∀ v, v < g.ports.length → treeOk g D c d p v) : treeB g D c d p = true := by
  unfold treeB
  rw [List.all_eq_true]
  exact fun v hv => decide_eq_true (h v (by simpa using hv))

set_option maxRecDepth 100000 in
set_option maxHeartbeats 4000000 in
theorem refTree_any (gv cv : Value) (g : Gr) (c : Conf) (a d p : Nat) (w : World) (hg : GrAt w gv g) (hc : RowsAt w cv c) (hgood : GoodG g) (ha : a < g.ports.length) (hn : c.length = g.ports.length) (hl : ∀ (v : Nat) s, c[v]? = some s → d < s.length ∧ p < s.length) :
    Calls Try.prog 45 #[gv, cv, .int .i64 a, .int .i64 d, .int .i64 p] w fun e w' => e = .returned (.bool (treeB g (distL g a) c d p)) ∧ Below w.heap.size w w' := by
  have hg0 := Lib.hid hg
  obtain ⟨i, q, rfl, hi, hp⟩ := hg
  obtain ⟨A2, c2, rfl, hB1, hB2⟩ := slAt_form hp
  obtain ⟨A3, c3, rfl, hC1, hC2⟩ := slAt_form hc
  have Hp := Lib.hid hp
  have Hc := Lib.hid hc
  have Hn := Lib.hid hn
  have Hl := Lib.hid hl
  have hn24 := hgood.2.1
  have Hgood := Lib.hid hgood
  have Hds := Lib.hid (show distsP g (a : Int) = distL g a from distsP_in ((validB_iff g).2 hgood) (by omega) (by omega))
  have Hdl := Lib.hid (distL_length hgood ha)
  have Hdb := Lib.hid (show ∀ x ∈ distL g a, -1 ≤ x ∧ x ≤ 1000 from fun x hx => by have := (distL_isDist hgood ha).bound hgood ha x hx; omega)
  clear hi hp hc hn hl hgood
  obtain ⟨D, hD⟩ : ∃ D, distL g a = D := ⟨_, rfl⟩
  rw [hD] at Hds Hdl Hdb ⊢
  clear hD
  go_enter Try.func45, Try.ntmps45
  go_wp2_with fail
  refine (refDistances_any _ g a _ (hg0.out.below ((Below.refl _ _).alloc (Nat.le_refl _) _)) ⟨by omega, by omega⟩).mono ?_
  rintro e w1 ⟨dv, rfl, hdv, hb1⟩
  rw [Hds.out] at hdv
  obtain ⟨q0, q1⟩ := newA2 hb1
  have Hb1 := Lib.hid (belowA hb1)
  obtain ⟨A4, c4, rfl, hD1, hD2⟩ := slAt_form hdv
  have Hdv := Lib.hid hdv
  clear hb1 hdv
  go_wp2
  go_loopg [12] g.ports.length (fun q t wr => ∃ v n : Nat, q + v = g.ports.length ∧ t = .int .i64 v ∧ wr = w1.drewN n ∧ Hid (∀ u, u < v → treeOk g D c d p u))
  case atStart => exact ⟨0, 0, by omega, rfl, rfl, Lib.hid (fun u hu => absurd hu (by omega))⟩
  case round =>
    obtain ⟨v, n, hq, rfl, rfl, hok⟩ := hrel
    by_cases hlt : v < g.ports.length
    · have hvc : v < c.length := by rw [Hn.out]; exact hlt
      have hvD : v < D.length := by rw [Hdl.out]; exact hlt
      obtain ⟨b3, off3, sv, rfl, hb3, hcs0, hs⟩ := rowsAt_at Hc.out (List.getElem?_eq_getElem hvc)
      have hcs := keepCells Hb1.out _ _ hcs0
      obtain ⟨s, hse⟩ : ∃ s, c[v] = s := ⟨_, rfl⟩
      have hs? : c[v]? = some s := by rw [List.getElem?_eq_getElem hvc, hse]
      rw [hse] at hs
      obtain ⟨hdl, hpl⟩ := Hl.out v s hs?
      obtain ⟨b5, o5, c5, rfl, hb5, hE1, hE2, hc50, _⟩ := IntsAt.at_ hs hdl
      obtain ⟨b5', o5', c5', e5, _, _, _, hc51, _⟩ := IntsAt.at_ hs hpl
      cases e5
      have hcd := keepCells Hb1.out _ _ hc50
      have hcp := keepCells Hb1.out _ _ hc51
      obtain ⟨b6, o6, c6, e6, hb6, _, _, hc6, _⟩ := IntsAt.at_ Hdv.out hvD
      cases e6
      obtain ⟨b7, o7, lv, rfl, hb7, hc70, hl7⟩ := rowsAt_at Hp.out (List.getElem?_eq_getElem hlt)
      have hc7 := keepCells Hb1.out _ _ hc70
      obtain ⟨A8, c8, rfl, hF1, hF2⟩ := slAt_form hl7
      obtain ⟨ls, hls⟩ : ∃ ls, g.ports[v] = ls := ⟨_, rfl⟩
      have Hlp := Lib.hid (show g.ports[v]? = some ls by rw [List.getElem?_eq_getElem hlt, hls])
      rw [hls] at hc7 hF1 hl7
      have Hl7 := Lib.hid (hl7.below Stable.link Hb1.out)
      have Hway := Lib.hid (show wayP g D v = firstFrom (towardP D v) ls 0 by rw [firstFrom_zero]; unfold wayP; rw [show g.ports.getD v [] = ls by simp [List.getD, Hlp.out]])
      have hDv := Hdb.out _ (List.getElem_mem hvD)
      obtain ⟨hDv1, hDv2⟩ := hDv
      have Hgd := Lib.hid (show D.getD v 0 = D[v] by simp [List.getD, hvD])
      have Hok := Lib.hid (show treeOk g D c d p v ↔ s[d] = D[v] ∧ s[p] = wayP g D v by
        unfold treeOk
        rw [show c.getD v [] = s by simp [List.getD, hs?], Hgd.out]
        simp [List.getD, hdl, hpl])
      obtain ⟨xd, hxd⟩ : ∃ xd, s[d] = xd := ⟨_, rfl⟩
      obtain ⟨xp, hxp⟩ : ∃ xp, s[p] = xp := ⟨_, rfl⟩
      obtain ⟨y, hy⟩ : ∃ y, D[v] = y := ⟨_, rfl⟩
      rw [hxd] at hcd Hok
      rw [hxp] at hcp Hok
      have hDgd : D.getD v 0 = y := Hgd.out.trans hy
      rw [hy] at hc6 hDv1 hDv2 Hok
      have HDgd := Lib.hid hDgd
      clear hcs0 hs hse hc50 hc51 hc70 hl7 hls hxd hxp hy hs? Hgd hDgd
      go_wp2
      obtain ⟨go, rfl⟩ : ∃ go, go = gk := ⟨_, rfl⟩
      go_loopg [13, 14] ls.length (fun q f t wr => ∃ k n : Nat, q = k ∧ k ≤ ls.length ∧ t = .int .i64 ((k : Int) - 1) ∧ wr = w1.drewN n ∧ f = .int .i64 (firstFrom (towardP D v) ls k))
      case atStart => exact ⟨ls.length, n, rfl, Nat.le_refl _, rfl, rfl, by rw [firstFrom_len]⟩
      case round =>
        obtain ⟨k, n, hgk0, hk, rfl, rfl, rfl⟩ := hrel
        have hgk : k ≤ gk := by omega
        clear hgk0
        by_cases hk0 : k = 0
        · subst hk0
          rw [show (((0 : Nat) : Int) - 1) = -1 by omega]
          obtain ⟨ff, hff⟩ : ∃ ff, firstFrom (towardP D v) ls 0 = ff := ⟨_, rfl⟩
          rw [hff] at Hway ⊢
          clear hff
          by_cases t1 : xd = y
          · have t1' : (xd != y) = false := by simp [t1]
            by_cases t2 : xp = ff
            · have t2' : (xp != ff) = false := by simp [t2]
              have Hg := Lib.hid (Hok.out.2 ⟨t1, by rw [Hway.out]; exact t2⟩)
              clear t1 t2
              go_wp2
              go_quiet (fail)
              go_wp2
              go_roundg (go - 1)
              case measure => omega
              case rel =>
                refine ⟨v + 1, _, by omega, by go_num, rfl, Lib.hid (fun u hu => ?_)⟩
                by_cases huv : u < v
                · exact hok.out u huv
                · obtain rfl : u = v := by omega
                  exact Hg.out
            · have t2' : (xp != ff) = true := by simp [t2]
              have Hf := Lib.hid (treeB_false (D := D) (c := c) (d := d) (p := p) hlt (fun h => t2 (by rw [← Hway.out]; exact (Hok.out.1 h).2)))
              clear t1 t2
              go_wp2
              go_quiet (fail)
              go_wp2
              go_ret
              exact ⟨ret_bool Hf.out.symm, below_drewN (below_drewN Hb1.out _) _⟩
          · have t1' : (xd != y) = true := by simp [t1]
            have Hf := Lib.hid (treeB_false (D := D) (c := c) (d := d) (p := p) hlt (fun h => t1 (Hok.out.1 h).1))
            clear t1
            go_wp2
            go_quiet (fail)
            go_wp2
            go_ret
            exact ⟨ret_bool Hf.out.symm, below_drewN (below_drewN Hb1.out _) _⟩
        · obtain ⟨m, rfl⟩ : ∃ m, k = m + 1 := ⟨k - 1, by omega⟩
          rw [show (((m + 1 : Nat) : Int) - 1) = (m : Int) by omega]
          have hml : m < ls.length := by omega
          obtain ⟨A9, c9, e9, _, _, hE⟩ := Hl7.out
          cases e9
          obtain ⟨b9, o9, rfl, hb9, hE⟩ := hE (by omega)
          obtain ⟨⟨l1, wt⟩, hle⟩ : ∃ l, ls[m] = l := ⟨_, rfl⟩
          have hl? : ls[m]? = some (l1, wt) := by rw [List.getElem?_eq_getElem hml, hle]
          obtain ⟨hx1, _, _, _⟩ := hE m _ hl?
          obtain ⟨k1, k2, k3, k4, k5⟩ := Hgood.out.link Hlp.out (List.mem_of_getElem? hl?)
          simp only at k1 k2 k3 k4 k5 hx1
          obtain ⟨u, rfl⟩ := Int.eq_ofNat_of_zero_le k1
          have huD : u < D.length := by rw [Hdl.out]; omega
          obtain ⟨b6', o6', c6', e6, _, _, _, hcu, _⟩ := IntsAt.at_ Hdv.out huD
          cases e6
          obtain ⟨x, hx⟩ : ∃ x, D[u] = x := ⟨_, rfl⟩
          have Hst := Lib.hid (firstFrom_step (towardP D v) ls m hml)
          rw [hle, show towardP D v ((u : Int), wt) = (x == y - 1) by unfold towardP; rw [HDgd.out]; simp [List.getD, huD, hx]] at Hst
          rw [hx] at hcu
          clear hE hle hl? hx k1 k3
          by_cases t1 : x = y - 1
          · have t1' : (x == y - 1) = true := by simp [t1]
            rw [t1', if_pos rfl] at Hst
            clear t1
            go_wp2
            go_quiet (fail)
            go_wp2
            go_roundg m
            case measure => omega
            case rel => exact ⟨m, _, rfl, by omega, rfl, rfl, by rw [Hst.out]⟩
          · have t1' : (x == y - 1) = false := by simp [t1]
            rw [t1', if_neg (by simp)] at Hst
            clear t1
            go_wp2
            go_quiet (fail)
            go_wp2
            go_roundg m
            case measure => omega
            case rel => exact ⟨m, _, rfl, by omega, rfl, rfl, by rw [Hst.out]⟩
    · obtain rfl : v = g.ports.length := by omega
      have Ht := Lib.hid (treeB_true (d := d) (p := p) (D := D) (c := c) hok.out)
      go_wp2
      go_ret
      exact ⟨ret_bool Ht.out.symm, below_drewN Hb1.out _⟩
end Go.Proofs.Ytlfojfndkcmfnaa
