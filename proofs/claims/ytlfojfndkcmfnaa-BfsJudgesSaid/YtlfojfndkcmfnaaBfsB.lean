/- Walks of package bfs: Towards, the closure of Right, Right. -/
import Derived.Test.YtlfojfndkcmfnaaBfsA
import Derived.Test.YtlfojfndkcmfnaaPlainH
namespace Go.Proofs.Ytlfojfndkcmfnaa
open Go.RowKit

theorem set_snoc {L : List Int} {v : Nat} {x : Int} (T : List Int) (hv : v < L.length) (h : ∀ u, u < v → L[u]? = T[u]?) (hx : T[v]? = some x) : ∀ u, u < v + 1 → (L.set v x)[u]? = T[u]? := by
  intro u hu
  rw [List.getElem?_set]
  by_cases e : v = u
  · subst e
    rw [if_pos rfl, if_pos hv, hx]
  · rw [if_neg e]
    exact h u (by omega)

set_option maxHeartbeats 2000000 in
theorem Towards_any (gv cv : Value) (g : Gr) (c : Conf) (x : Nat) (w : World) (hg : GrAt w gv g) (hc : RowsAt w cv c) (hn : c.length = g.ports.length) (hn24 : g.ports.length ≤ 1000) (hpv : PortVar g c x) :
    Calls Try.prog 48 #[gv, cv, .int .i64 x] w (RetInts (towardsP g c x) w) := by
  obtain ⟨i, p, rfl, hi, hp⟩ := hg
  obtain ⟨A2, c2, rfl, hB1, hB2⟩ := slAt_form hp
  obtain ⟨A3, c3, rfl, hC1, hC2⟩ := slAt_form hc
  have Hp := Lib.hid hp
  have Hc := Lib.hid hc
  have Hn := Lib.hid hn
  have Hpv := Lib.hid hpv
  have hcn : c.length ≤ 1000 := by omega
  clear hi hp hc hn hpv
  have Hrg := Lib.hid (show ∀ y ∈ towardsP g c x, I64 y by
    intro y hy
    obtain ⟨v, hv, rfl⟩ := List.mem_iff_getElem.1 hy
    have hvc : v < c.length := by simpa [towardsP] using hv
    have h1 := towardsP_get g c x v c[v] (List.getElem?_eq_getElem hvc)
    rw [List.getElem?_eq_getElem hv] at h1
    rw [Option.some.inj h1]
    unfold portOf
    split
    · rename_i h0
      obtain ⟨y, hy1, hy2⟩ := Hpv.out v _ (List.getElem?_eq_getElem hvc)
      have e1 : c[v].getD x 0 = y := by simp [List.getD, hy1]
      rw [e1] at h0 ⊢
      have hvp : v < g.ports.length := by rw [← Hn.out]; exact hvc
      have e2 : g.ports.getD v [] = g.ports[v] := by simp [List.getD, List.getElem?_eq_getElem hvp]
      have hd := hy2 h0
      unfold degOf at hd
      rw [e2] at hd ⊢
      have hl : y.toNat < g.ports[v].length := by omega
      obtain ⟨b, off, lv, _, _, _, hls⟩ := rowsAt_at Hp.out (List.getElem?_eq_getElem hvp)
      obtain ⟨_, _, _, _, _, hE⟩ := hls
      obtain ⟨_, _, _, _, hE⟩ := hE (by omega)
      have := (hE y.toNat g.ports[v][y.toNat] (List.getElem?_eq_getElem hl)).2.2.1
      simpa [List.getD, hl] using this
    · unfold I64; omega)
  have hmk := run_makeInts c.length (by omega)
  go_enter Try.func48, Try.ntmps48
  go_wp2
  clear hmk
  obtain ⟨W1, hW1⟩ : ∃ W, W = w.alloc (.cells #[i, .slice A2 g.ports.length c2] 25) := ⟨_, rfl⟩
  have HB := Lib.hid (show ∀ wr, Below (w.heap.size + 1) W1 wr → wr.cell? ⟨w.heap.size, 0, none⟩ = some i ∧ wr.cell? ⟨w.heap.size, 1, none⟩ = some (.slice A2 g.ports.length c2) ∧ Below w.heap.size w wr ∧ w.heap.size < wr.heap.size by subst hW1; exact fun wr h => box2 h)
  have hW1s : W1.heap.size = w.heap.size + 1 := by subst hW1; simp
  have HW1s := Lib.hid hW1s
  clear hW1s
  rw [← hW1]
  clear hW1
  go_loopg [15] c.length (fun q t wr => ∃ v : Nat, q + v = c.length ∧ t = .int .i64 v ∧ Hid (Below (w.heap.size + 1) W1 wr) ∧ ∃ R : List Int, Hid (IBlk wr (w.heap.size + 1) R) ∧ Hid (R.length = c.length ∧ ∀ u, u < v → R[u]? = (towardsP g c x)[u]?))
  case atStart =>
    refine ⟨0, by omega, rfl, Lib.hid ((Below.refl _ _).alloc (by rw [HW1s.out]; exact Nat.le_refl _) _), List.replicate c.length 0, Lib.hid ?_, Lib.hid ⟨by simp, fun u hu => absurd hu (by omega)⟩⟩
    have := IBlk.new W1 (List.replicate c.length (0 : Int))
    rw [HW1s.out] at this
    simpa using this
  case round =>
    obtain ⟨v, hq, rfl, hbel, R, hblk, hR⟩ := hrel
    obtain ⟨q0, q1, hbw, hsz⟩ := HB.out _ hbel.out
    have HR := Lib.hid hR.out.1
    by_cases hlt : v < c.length
    · have hvp : v < g.ports.length := by rw [← Hn.out]; exact hlt
      obtain ⟨b3, off3, sv, rfl, hb3, hcs0, hs⟩ := rowsAt_at Hc.out (List.getElem?_eq_getElem hlt)
      have hcs := keepCells hbw _ _ hcs0
      clear hcs0
      obtain ⟨A5, c5, rfl, hE1, hE2⟩ := slAt_form hs
      obtain ⟨s, hse⟩ : ∃ s, c[v] = s := ⟨_, rfl⟩
      have hs? : c[v]? = some s := by rw [List.getElem?_eq_getElem hlt, hse]
      rw [hse] at hs hcs hE1
      obtain ⟨y, hy, hyd⟩ := Hpv.out v s hs?
      obtain ⟨hxl, hye⟩ := List.getElem?_eq_some_iff.1 hy
      obtain ⟨b5, o5, rfl, hb5, hc50, hr5⟩ := intsAt_at hs hxl
      have hc5 := keepCells hbw _ _ hc50
      rw [hye] at hc5
      have hc5' := farCell (p := ⟨w.heap.size + 1, v, none⟩) hc5 (by simp; omega) (.int .i64 (-1))
      clear hc50
      have Ht := Lib.hid (towardsP_get g c x v s hs?)
      rw [show s.getD x 0 = y by simp [List.getD, hy]] at Ht
      have hvR : v < R.length := by rw [HR.out]; exact hlt
      obtain ⟨r0, hr0⟩ : ∃ r, wr.cell? ⟨w.heap.size + 1, v, none⟩ = some (.int .i64 r) := ⟨_, hblk.out.cell hvR⟩
      have hf0 := hblk.out.frozen v
      have hB1' : w.heap.size + 1 < wr.heap.size := hblk.out.lt
      have Hbw := Lib.hid hbw
      clear hs hse hy hye hs? hbw hr5
      by_cases c1 : 0 ≤ y
      · obtain ⟨z, rfl⟩ := Int.eq_ofNat_of_zero_le c1
        have hzd := hyd c1
        obtain ⟨b7, o7, lv, rfl, hb7, hc70, hl7⟩ := rowsAt_at Hp.out (List.getElem?_eq_getElem hvp)
        have hc7 := farCell (p := ⟨w.heap.size + 1, v, none⟩) (keepCells Hbw.out _ _ hc70) (by simp; omega) (.int .i64 (-1))
        clear hc70
        obtain ⟨A8, c8, e8, hF1, hF2, hE⟩ := hl7
        subst e8
        obtain ⟨ds, hds⟩ : ∃ ds, g.ports[v] = ds := ⟨_, rfl⟩
        have hdeg : degOf g v = ds.length := by simp [degOf, List.getD, List.getElem?_eq_getElem hvp, hds]
        rw [hds] at hc7 hF1 hE
        have hzl : z < ds.length := by omega
        obtain ⟨b9, o9, rfl, hb9, hE⟩ := hE (by omega)
        obtain ⟨hx10, hx2, _, _⟩ := hE z ds[z] (List.getElem?_eq_getElem hzl)
        have hx1 := farCell (p := ⟨w.heap.size + 1, v, none⟩) (keepCells Hbw.out _ _ hx10) (by simp; omega) (.int .i64 (-1))
        have hq1' := farCell (p := ⟨w.heap.size + 1, v, none⟩) q1 (by simp) (.int .i64 (-1))
        have hr1' := (hblk.out.set_ v (-1)).cell (k := v) (by simpa using hvR)
        have hf1' := (hblk.out.set_ v (-1)).frozen v
        clear hx10 hx2
        have Hpo := Lib.hid (show portOf g v (z : Int) = ds[z].1 by
          unfold portOf
          rw [if_pos (by omega), show g.ports.getD v [] = ds by simp [List.getD, List.getElem?_eq_getElem hvp, hds]]
          simp [List.getD, hzl])
        have hd0 : decide ((0 : Int) ≤ (z : Int)) = true := by simp
        clear hE hds hdeg hyd hzd
        go_wp2
        go_region
        go_wp2
        go_roundg (gk - 1)
        case measure => omega
        case rel =>
          refine ⟨v + 1, by omega, by go_num, Lib.hid ?_, R.set v ds[z].1, Lib.hid ?_, Lib.hid ⟨by simp [HR.out], ?_⟩⟩
          · exact ((hbel.out.setCell (Nat.le_refl _) _).setCell (Nat.le_refl _) _).drew
          · have := (hblk.out.set_ v (-1)).set_ v ds[z].1
            rw [List.set_set] at this
            exact this
          · exact set_snoc (towardsP g c x) hvR hR.out.2 (by rw [Ht.out, Hpo.out])
      · have hd0 : decide ((0 : Int) ≤ y) = false := by simp; omega
        have Hpo := Lib.hid (show portOf g v y = -1 by unfold portOf; rw [if_neg c1])
        clear hyd
        go_wp2
        go_roundg (gk - 1)
        case measure => omega
        case rel =>
          refine ⟨v + 1, by omega, by go_num, Lib.hid (hbel.out.setCell (Nat.le_refl _) _), R.set v (-1), Lib.hid (hblk.out.set_ v (-1)), Lib.hid ⟨by simp [HR.out], ?_⟩⟩
          exact set_snoc (towardsP g c x) hvR hR.out.2 (by rw [Ht.out, Hpo.out])
    · obtain rfl : v = c.length := by omega
      have He := Lib.hid (show R = towardsP g c x by
        apply List.ext_getElem?
        intro u
        by_cases hu : u < c.length
        · exact hR.out.2 u hu
        · rw [List.getElem?_eq_none (by rw [HR.out]; omega), List.getElem?_eq_none (by rw [towardsP_length]; omega)])
      go_wp2
      go_ret
      have h := hblk.out.ints (fun y hy => by rw [He.out] at hy; exact Hrg.out y hy) (by rw [HR.out]; omega)
      rw [HR.out, He.out] at h
      exact ⟨_, rfl, h, hbw⟩

/-- The closure that Right hands to FirstPort. -/
theorem RightAcc_any (u wt : Int) (bd bv : Nat) (dv : Value) (D : List Int) (v : Nat) (w : World) (h1 : w.cell? ⟨bd, 0, none⟩ = some dv) (h2 : w.cell? ⟨bv, 0, none⟩ = some (.int .i64 v)) (hD : IntsAt w dv D)
    (hu : 0 ≤ u) (hul : u < D.length) (hv : v < D.length) (hb : -1 ≤ D[v]) (hb2 : D[v] ≤ 1000) :
    Calls Try.prog 77 #[.agg #[.int .i64 u, .int .i64 wt], .pointer (some ⟨bd, 0, none⟩), .pointer (some ⟨bv, 0, none⟩)] w fun e w' => e = .returned (.bool (towardP D v (u, wt))) ∧ Below w.heap.size w w' := by
  obtain ⟨n, rfl⟩ := Int.eq_ofNat_of_zero_le hu
  have hnl : n < D.length := by omega
  obtain ⟨b, off, c, rfl, hbl, hc1, hc2, hcn, _⟩ := hD.at_ hnl
  obtain ⟨b', off', c', e', _, _, _, hcv, _⟩ := hD.at_ hv
  cases e'
  have hbd := World.block_lt_of_cell? w _ h1
  have hbv := World.block_lt_of_cell? w _ h2
  simp only at hbd hbv
  have Ht := Lib.hid (show towardP D v ((n : Int), wt) = (D[n] == D[v] - 1) by simp [towardP, List.getD, hnl, hv])
  clear hD
  go_enter Try.func77, Try.ntmps77
  go_wp2
  go_quiet (fail)
  go_wp2
  go_ret
  exact ⟨ret_bool Ht.out.symm, below_drewN ((Below.refl _ _).alloc (Nat.le_refl _) _) _⟩

end Go.Proofs.Ytlfojfndkcmfnaa
