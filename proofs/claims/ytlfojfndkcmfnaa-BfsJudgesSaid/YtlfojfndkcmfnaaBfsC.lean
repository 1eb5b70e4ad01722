/- Walks of package bfs: Right, Fit, configuration, Legit, Claim, Parents. -/
import Derived.Test.YtlfojfndkcmfnaaBfsB
namespace Go.Proofs.Ytlfojfndkcmfnaa
open Go.RowKit

/-- A slice of two ints that the call has just laid. -/
theorem ints2 (w : World) (x y : Int) (hx : I64 x) (hy : I64 y) : IntsAt (w.alloc (.cells #[.int .i64 x, .int .i64 y] 3)) (.slice (some ⟨w.heap.size, 0, none⟩) 2 2) [x, y] := by
  refine ⟨_, 2, rfl, by simp, by omega, fun _ => ⟨w.heap.size, 0, rfl, by simp, fun j z hj => ?_⟩⟩
  match j, hj with
  | 0, hj => simp at hj; subst hj; exact ⟨by simp, hx⟩
  | 1, hj => simp at hj; subst hj; exact ⟨by simp, hy⟩
  | j + 2, hj => simp at hj

theorem cellNewA {w : World} {x : Value} {t : TypeId} {o : Obj} : ((w.alloc (.cells #[x] t)).alloc o).cell? ⟨w.heap.size, 0, none⟩ = some x := cellA (by simp)

theorem firstP_range (acc : Int × Int → Bool) (ls : List (Int × Int)) : -1 ≤ firstP acc ls ∧ firstP acc ls ≤ ls.length := by
  unfold firstP
  split
  · rename_i i hi
    obtain ⟨hlt, _⟩ := List.findIdx?_eq_some_iff_getElem.1 hi
    omega
  · omega

set_option maxHeartbeats 1000000 in
theorem Right_any (gv dv sv : Value) (g : Gr) (v : Nat) (D s : List Int) (w : World) (hg : GrAt w gv g) (hD : IntsAt w dv D) (hs : IntsAt w sv s) (hgood : GoodG g) (hv : v < g.ports.length) (hDl : D.length = g.ports.length) (hDb : ∀ x ∈ D, -1 ≤ x ∧ x ≤ 1000) :
    Calls Try.prog 42 #[gv, .int .i64 v, dv, sv] w fun e w' => e = .returned (.bool (rightB g D v s)) ∧ Below w.heap.size w w' := by
  have hg0 := Lib.hid hg
  have hn24 := hgood.2.1
  obtain ⟨i, p, rfl, hi, hp⟩ := hg
  obtain ⟨A2, c2, rfl, hB1, hB2⟩ := slAt_form hp
  clear hi hp
  have hvD : v < D.length := by omega
  obtain ⟨ls, hls⟩ : ∃ ls, g.ports[v]? = some ls := ⟨_, List.getElem?_eq_getElem hv⟩
  have hll : ls.length < g.ports.length := by
    have := (hgood.v2 hv _ ls (List.getElem?_eq_getElem (by rw [hgood.2.2.1]; exact hv)) hls).2.1
    exact this
  obtain ⟨x, hx⟩ : ∃ x, D[v] = x := ⟨_, rfl⟩
  have hxb := hDb _ (List.getElem_mem hvD)
  rw [hx] at hxb
  obtain ⟨hxb1, hxb2⟩ := hxb
  have Hway := Lib.hid (show wayP g D v = firstP (towardP D v) ls by unfold wayP; rw [show g.ports.getD v [] = ls by simp [List.getD, hls]])
  have Hgd := Lib.hid (show D.getD v 0 = x by simp [List.getD, hvD, hx])
  obtain ⟨bd, od, cd, rfl, hbd, hd1, hd2, hdc, _⟩ := hD.at_ hvD
  rw [hx] at hdc
  have HD := Lib.hid hD
  have Hs := Lib.hid hs
  have Hlk := Lib.hid (fun l (hl : l ∈ ls) => hgood.link hls hl)
  have Hls := Lib.hid hls
  have HDl := Lib.hid hDl
  have HDb := Lib.hid hDb
  have Hx := Lib.hid hx
  clear hD hs hls hDl hDb hx hgood
  go_enter Try.func42, Try.ntmps42
  go_wp2_with fail
  obtain ⟨W1, hW1⟩ : ∃ W, W = ((w.alloc (.cells #[i, .slice A2 g.ports.length c2] 25)).alloc (.cells #[.int .i64 (v : Int)] 3)).alloc (.cells #[.slice (some ⟨bd, od, none⟩) D.length cd] 22) := ⟨_, rfl⟩
  have Hb1 := Lib.hid (show Below w.heap.size w W1 by subst hW1; exact (((Below.refl _ _).alloc (Nat.le_refl _) _).alloc (by simp) _).alloc (by simp; omega) _)
  have hv1 : W1.cell? ⟨w.heap.size + 1, 0, none⟩ = some (.int .i64 (v : Int)) := by
    subst hW1
    have := cellNewA (w := w.alloc (.cells #[i, .slice A2 g.ports.length c2] 25)) (x := .int .i64 (v : Int)) (t := 3) (o := .cells #[.slice (some ⟨bd, od, none⟩) D.length cd] 22)
    simpa using this
  have hd1' : W1.cell? ⟨w.heap.size + 2, 0, none⟩ = some (.slice (some ⟨bd, od, none⟩) D.length cd) := by
    subst hW1
    have := World.cell?_alloc_new ((w.alloc (.cells #[i, .slice A2 g.ports.length c2] 25)).alloc (.cells #[.int .i64 (v : Int)] 3)) #[.slice (some ⟨bd, od, none⟩) D.length cd] 22 0
    simpa using this
  rw [← hW1]
  clear hW1
  refine (FirstPort_any _ g v ls _ _ (towardP D v) W1 (hg0.out.below Hb1.out) Hls.out ?_).mono ?_
  · intro l hl W hW
    obtain ⟨k1, k2, k3, k4, k5⟩ := Hlk.out l hl
    refine RightAcc_any l.1 l.2 _ _ _ D v W (keepCells hW _ _ hd1') (keepCells hW _ _ hv1) ((HD.out.below Stable.int Hb1.out).below Stable.int hW) k1 (by rw [HDl.out]; exact k2) hvD (by rw [Hx.out]; exact hxb1) (by rw [Hx.out]; exact hxb2)
  · rintro e w2 ⟨rfl, hb2⟩
    have Hb2 := Lib.hid (Hb1.out.trans (hb2.mono Hb1.out.size))
    have hv2 := keepCells hb2 _ _ hv1
    have hd2 := keepCells hb2 _ _ hd1'
    have hdc2 := keepCells Hb2.out _ _ hdc
    have hrg := firstP_range (towardP D v) ls
    have Hrb := Lib.hid (show rightB g D v s = decide (s = [x, firstP (towardP D v) ls]) by unfold rightB; rw [Hgd.out, Hway.out])
    obtain ⟨y, hy⟩ : ∃ y, firstP (towardP D v) ls = y := ⟨_, rfl⟩
    rw [hy] at hrg Hrb ⊢
    obtain ⟨hrg1, hrg2⟩ := hrg
    clear hb2 hv1 hd1' hy
    go_wp2_with fail
    refine (Equal_any _ _ s [x, y] _ (Hs.out.below Stable.int (Hb2.out.alloc Hb2.out.size _)) (ints2 w2 x y ⟨by omega, by omega⟩ ⟨by omega, by omega⟩)).mono ?_
    rintro e w3 ⟨rfl, m, rfl⟩
    go_wp2_with fail
    go_ret
    exact ⟨ret_bool Hrb.out.symm, below_drewN (Hb2.out.alloc Hb2.out.size _) _⟩

theorem Fit_any (gv : Value) (g : Gr) (w : World) (hg : GrAt w gv g) :
    Calls Try.prog 8 #[gv] w fun e w' => e = .returned (.bool (connB g)) ∧ Below w.heap.size w w' := by
  have hg0 := Lib.hid hg
  obtain ⟨i, p, rfl, hi, hp⟩ := hg
  clear hi hp
  go_enter Try.func8, Try.ntmps8
  go_wp2_with fail
  refine (Connected_any _ g _ (hg0.out.below ((Below.refl _ _).alloc (Nat.le_refl _) _))).mono ?_
  rintro e w1 ⟨rfl, hb1⟩
  go_wp2_with fail
  go_ret
  exact ⟨rfl, belowA hb1⟩

/-- bfs.configuration. -/
def bfsConfB (g : Gr) (c : Conf) : Bool := connB g && confB g.ports.length (boundsG g [(g.ports.length : Int), -1]) c

theorem configuration_any (gv cv : Value) (g : Gr) (c : Conf) (w : World) (hg : GrAt w gv g) (hc : RowsAt w cv c) :
    Calls Try.prog 40 #[gv, cv] w fun e w' => e = .returned (.bool (bfsConfB g c)) ∧ Below w.heap.size w w' := by
  have hg0 := Lib.hid hg
  have hc0 := Lib.hid hc
  obtain ⟨i, p, rfl, hi, hp⟩ := hg
  obtain ⟨A, c0, rfl, hA1, hA2⟩ := slAt_form hi
  clear hi hp hc
  cases hcn : connB g with
  | false =>
    have Hf := Lib.hid (show bfsConfB g c = false by unfold bfsConfB; rw [hcn]; rfl)
    go_enter Try.func40, Try.ntmps40
    go_wp2_with fail
    refine (Fit_any _ g _ (hg0.out.below ((Below.refl _ _).alloc (Nat.le_refl _) _))).mono ?_
    rintro e w1 ⟨rfl, hb1⟩
    go_wp2_with fail
    go_ret
    exact ⟨ret_bool Hf.out.symm, belowA hb1⟩
  | true =>
    have hgood := (validB_iff g).1 (connB_valid hcn)
    have Hgood := Lib.hid hgood
    have hidn := hgood.2.2.1
    have hn24 := hgood.2.1
    have Hf := Lib.hid (show bfsConfB g c = confB g.ports.length (boundsG g [(g.ids.length : Int), -1]) c by unfold bfsConfB; rw [hcn, hidn]; rfl)
    have hid24 : g.ids.length ≤ 24 := by omega
    clear hgood hidn
    go_enter Try.func40, Try.ntmps40
    go_wp2_with fail
    refine (Fit_any _ g _ (hg0.out.below ((Below.refl _ _).alloc (Nat.le_refl _) _))).mono ?_
    rintro e w1 ⟨rfl, hb1⟩
    obtain ⟨q0, q1⟩ := newA2 hb1
    have Hb1 := Lib.hid (belowA hb1)
    clear hb1
    go_wp2_with fail
    refine (Configuration_any _ _ _ g c [(g.ids.length : Int), -1] _ (hg0.out.below (Hb1.out.alloc Hb1.out.size _)) (hc0.out.below (Stable.sl Stable.int) (Hb1.out.alloc Hb1.out.size _)) (ints2 w1 _ _ ⟨by omega, by omega⟩ ⟨by omega, by omega⟩) Hgood.out).mono ?_
    rintro e w2 ⟨rfl, hb2⟩
    go_wp2_with fail
    go_ret
    exact ⟨ret_bool Hf.out.symm, Hb1.out.trans ((belowA hb2).mono Hb1.out.size)⟩

/-- bfs.Legit. -/
def bfsLegitB (g : Gr) (c : Conf) : Bool := bfsConfB g c && c.zipIdx.all (fun p => rightB g (distL g 0) p.2 p.1)

theorem allIdx_false {c : Conf} {f : List Int → Nat → Bool} {v : Nat} {s : List Int} (hs : c[v]? = some s) (h : f s v = false) : c.zipIdx.all (fun p => f p.1 p.2) = false := by
  rw [List.all_eq_false]
  exact ⟨(s, v), List.mem_zipIdx_iff_getElem?.2 hs, by simp [h]⟩
theorem allIdx_true {c : Conf} {f : List Int → Nat → Bool} (h : ∀ (v : Nat) s, c[v]? = some s → f s v = true) : c.zipIdx.all (fun p => f p.1 p.2) = true := by
  rw [List.all_eq_true]
  rintro ⟨s, v⟩ hp
  exact h v s (List.mem_zipIdx_iff_getElem?.1 hp)

set_option maxHeartbeats 1000000 in
theorem Legit_any (gv cv : Value) (g : Gr) (c : Conf) (w : World) (hg : GrAt w gv g) (hc : RowsAt w cv c) :
    Calls Try.prog 10 #[gv, cv] w fun e w' => e = .returned (.bool (bfsLegitB g c)) ∧ Below w.heap.size w w' := by
  have hg0 := Lib.hid hg
  have hc0 := Lib.hid hc
  obtain ⟨i, p, rfl, hi, hp⟩ := hg
  obtain ⟨A3, c3, rfl, hC1, hC2⟩ := slAt_form hc
  clear hi hp hc
  cases hcn : bfsConfB g c with
  | false =>
    have Hf := Lib.hid (show bfsLegitB g c = false by unfold bfsLegitB; rw [hcn]; rfl)
    go_enter Try.func10, Try.ntmps10
    go_wp2_with fail
    refine (configuration_any _ _ g c _ (hg0.out.below ((Below.refl _ _).alloc (Nat.le_refl _) _)) (hc0.out.below (Stable.sl Stable.int) ((Below.refl _ _).alloc (Nat.le_refl _) _))).mono ?_
    rintro e w1 ⟨rfl, hb1⟩
    go_wp2_with fail
    go_ret
    exact ⟨ret_bool Hf.out.symm, belowA hb1⟩
  | true =>
    have hconn : connB g = true := (Bool.and_eq_true _ _ ▸ hcn).1
    have hconf := (confB_iff _ _ _).1 (Bool.and_eq_true _ _ ▸ hcn).2
    have hgood := (validB_iff g).1 (connB_valid hconn)
    have hn1 := hgood.1
    have hn24 := hgood.2.1
    have Hcl := Lib.hid hconf.1
    have hcl24 : c.length ≤ 24 := by have := hconf.1; omega
    have Hds := Lib.hid (show distsP g 0 = distL g 0 from distsP_in (connB_valid hconn) (by omega) (by omega))
    have Hdl := Lib.hid (distL_length hgood (a := 0) (by omega))
    have Hdb := Lib.hid (show ∀ x ∈ distL g 0, -1 ≤ x ∧ x ≤ 1000 from fun x hx => by have := (distL_isDist hgood (a := 0) (by omega)).bound hgood (by omega) x hx; omega)
    have Hl := Lib.hid (show bfsLegitB g c = c.zipIdx.all (fun p => rightB g (distL g 0) p.2 p.1) by unfold bfsLegitB; rw [hcn]; rfl)
    have Hgood := Lib.hid hgood
    clear hgood hconf hconn
    go_enter Try.func10, Try.ntmps10
    go_wp2_with fail
    refine (configuration_any _ _ g c _ (hg0.out.below ((Below.refl _ _).alloc (Nat.le_refl _) _)) (hc0.out.below (Stable.sl Stable.int) ((Below.refl _ _).alloc (Nat.le_refl _) _))).mono ?_
    rintro e w1 ⟨rfl, hb1⟩
    obtain ⟨q0, q1⟩ := newA2 hb1
    have Hb1 := Lib.hid (belowA hb1)
    clear hb1
    go_wp2_with fail
    refine (Distances_any _ g 0 _ (hg0.out.below Hb1.out)).mono ?_
    rintro e w2 ⟨dv, rfl, hdv, hb2⟩
    rw [Hds.out] at hdv
    have q0' := keepCells hb2 _ _ q0
    have q1' := keepCells hb2 _ _ q1
    have Hb2 := Lib.hid (Hb1.out.trans (hb2.mono Hb1.out.size))
    have hsz2 : w.heap.size < w2.heap.size := World.block_lt_of_cell? _ _ q0'
    have Hdv := Lib.hid hdv
    obtain ⟨D, hD⟩ : ∃ D, distL g 0 = D := ⟨_, rfl⟩
    rw [hD] at Hdv Hdl Hdb Hl
    clear hb2 hdv hD q0 q1 Hb1 Hds
    go_wp2
    go_loopg [16] c.length (fun q t wr => ∃ v : Nat, q + v = c.length ∧ t = .int .i64 v ∧ Hid (Below w2.heap.size w2 wr) ∧ Hid (∀ (u : Nat) s, u < v → c[u]? = some s → rightB g D u s = true))
    case atStart => exact ⟨0, by omega, rfl, Lib.hid (Below.refl _ _), Lib.hid (fun u s hu => absurd hu (by omega))⟩
    case round =>
      obtain ⟨v, hq, rfl, hbel, hok⟩ := hrel
      have p0 := keepCells hbel.out _ _ q0'
      have p1 := keepCells hbel.out _ _ q1'
      have Hbw := Lib.hid (Hb2.out.trans (hbel.out.mono Hb2.out.size))
      by_cases hlt : v < c.length
      · have hvp : v < g.ports.length := by rw [← Hcl.out]; exact hlt
        obtain ⟨b3, off3, sv, rfl, hb3, hcs, hs⟩ := rowsAt_at (hc0.out.below (Stable.sl Stable.int) Hbw.out) (List.getElem?_eq_getElem hlt)
        obtain ⟨s, hse⟩ : ∃ s, c[v] = s := ⟨_, rfl⟩
        have Hs? := Lib.hid (show c[v]? = some s by rw [List.getElem?_eq_getElem hlt, hse])
        rw [hse] at hs
        have Hs := Lib.hid hs
        clear hs hse
        obtain ⟨A9, c9, rfl, _, _⟩ := slAt_form Hs.out
        go_wp2_with fail
        refine (Right_any _ _ _ g v D s _ (hg0.out.below Hbw.out) (Hdv.out.below Stable.int hbel.out) Hs.out Hgood.out hvp Hdl.out Hdb.out).mono ?_
        rintro e w3 ⟨rfl, hb3w⟩
        have Hb3 := Lib.hid (hbel.out.trans (hb3w.mono hbel.out.size))
        clear hb3w
        cases hr : rightB g D v s with
        | true =>
          have Hr := Lib.hid hr
          clear hr
          go_wp2_with fail
          go_roundg (gk - 1)
          case measure => omega
          case rel =>
            refine ⟨v + 1, by omega, by go_num, Hb3, Lib.hid (fun u s' hu hs' => ?_)⟩
            by_cases huv : u < v
            · exact hok.out u s' huv hs'
            · obtain rfl : u = v := by omega
              rw [Hs?.out] at hs'
              cases hs'
              exact Hr.out
        | false =>
          have Hf := Lib.hid (show bfsLegitB g c = false by rw [Hl.out]; exact allIdx_false (f := fun s v => rightB g D v s) Hs?.out hr)
          clear hr
          go_wp2_with fail
          go_ret
          exact ⟨ret_bool Hf.out.symm, Hb2.out.trans (Hb3.out.mono Hb2.out.size)⟩
      · obtain rfl : v = c.length := by omega
        have Ht := Lib.hid (show bfsLegitB g c = true by rw [Hl.out]; exact allIdx_true (f := fun s v => rightB g D v s) (fun v s hs => hok.out v s (List.getElem?_eq_some_iff.1 hs).1 hs))
        go_wp2
        go_ret
        exact ⟨ret_bool Ht.out.symm, Hbw.out⟩

/-- bfs.Claim, as a value. -/
def claimZero : Value := .agg #[.int .i64 0, .bool false, .bool false, .int .i64 0, .int .i64 0]
def bfsClaimV (g : Gr) : Value := if connB g = true then .agg #[.int .i64 3, .bool false, .bool true, .int .i64 (eccP g 0 + 1), .int .i64 (-1)] else claimZero

theorem ecc_range (g : Gr) (v : Int) : -1 ≤ eccP g v ∧ eccP g v ≤ 1000 := by
  unfold eccP
  split
  · rename_i h
    have hgood := (validB_iff g).1 (connB_valid h.1)
    refine ⟨greatestP_min _, greatestP_le _ _ (by omega) (fun x hx => ?_)⟩
    have := (distL_isDist hgood (a := v.toNat) (by omega)).bound hgood (by omega) x hx
    omega
  · omega

theorem Claim_any (gv : Value) (g : Gr) (w : World) (hg : GrAt w gv g) :
    Calls Try.prog 12 #[gv] w fun e w' => e = .returned (bfsClaimV g) ∧ Below w.heap.size w w' := by
  have hg0 := Lib.hid hg
  obtain ⟨i, p, rfl, hi, hp⟩ := hg
  clear hi hp
  cases hcn : connB g with
  | false =>
    have Hf := Lib.hid (show bfsClaimV g = claimZero by unfold bfsClaimV; rw [hcn]; rfl)
    go_enter Try.func12, Try.ntmps12
    go_wp2_with fail
    refine (Fit_any _ g _ (hg0.out.below (((Below.refl _ _).alloc (Nat.le_refl _) _).alloc (by simp) _))).mono ?_
    rintro e w1 ⟨rfl, hb1⟩
    obtain ⟨q0, q1, hcc, hff, hbw, hsz⟩ := twoNew hb1
    have Hbw := Lib.hid hbw
    have HF := Lib.hid (bcell hb1)
    clear hb1 hbw
    go_wp2_with fail
    refine bodyPost_ret (v := claimZero) (by simp [results, Try.results12, go_sem, hcc, claimZero]) rfl ⟨by rw [Hf.out], ?_⟩
    exact (((((Hbw.out.setCell (by simp) _).setCell (by simp) _).setCell (by simp) _).setCell (by simp) _).setCell (by simp) _)
  | true =>
    have Hf := Lib.hid (show bfsClaimV g = .agg #[.int .i64 3, .bool false, .bool true, .int .i64 (eccP g 0 + 1), .int .i64 (-1)] by unfold bfsClaimV; rw [hcn]; rfl)
    have her := ecc_range g 0
    obtain ⟨he1, he2⟩ := her
    go_enter Try.func12, Try.ntmps12
    go_wp2_with fail
    refine (Fit_any _ g _ (hg0.out.below (((Below.refl _ _).alloc (Nat.le_refl _) _).alloc (by simp) _))).mono ?_
    rintro e w1 ⟨rfl, hb1⟩
    obtain ⟨q0, q1, hcc, hff, hbw, hsz⟩ := twoNew hb1
    have Hbw := Lib.hid hbw
    have HF := Lib.hid (bcell hb1)
    clear hb1 hbw
    go_wp2_with fail
    refine (Eccentricity_any _ g 0 _ (hg0.out.below Hbw.out)).mono ?_
    rintro e w2 ⟨rfl, hb2⟩
    have hcc2 : ∀ o, w2.cell? ⟨w.heap.size + 1, o, none⟩ = (#[.int .i64 0, .bool false, .bool false, .int .i64 0, .int .i64 0] : Array Value)[o]? := fun o => (hb2.cell hsz).trans (hcc o)
    have hff2 : ∀ o, w2.frozen? ⟨w.heap.size + 1, o, none⟩ = false := fun o => (hb2.frozen hsz).trans (hff o)
    have Hbw2 := Lib.hid (Hbw.out.trans (hb2.mono Hbw.out.size))
    clear hb2 hcc hff q0 q1
    obtain ⟨y, hy⟩ : ∃ y, eccP g 0 = y := ⟨_, rfl⟩
    rw [hy] at Hf he1 he2 ⊢
    clear hy
    go_wp2_with fail
    refine bodyPost_ret (v := .agg #[.int .i64 3, .bool false, .bool true, .int .i64 (y + 1), .int .i64 (-1)]) (by simp [results, Try.results12, go_sem, hcc2]) rfl ⟨by rw [Hf.out], ?_⟩
    exact (((((Hbw2.out.setCell (by simp) _).setCell (by simp) _).setCell (by simp) _).setCell (by simp) _).setCell (by simp) _)

/-- bfs.Parents. -/
def bfsParents (g : Gr) (c : Conf) : List Int := if bfsConfB g c = true then towardsP g c 1 else []
theorem bfsConf_ports {g : Gr} {c : Conf} (h : bfsConfB g c = true) : PortVar g c 1 := by
  have hconf := (confB_iff _ _ _).1 (Bool.and_eq_true _ _ ▸ h).2
  intro v s hs
  have h2 := hconf.2 v s hs
  have hl : s.length = 2 := by simpa [boundsG] using h2.1
  refine ⟨s[1], List.getElem?_eq_getElem (by omega), fun _ => ?_⟩
  have := h2.2 1 _ s[1] (by simp [boundsG]; rfl) (List.getElem?_eq_getElem (by omega))
  simp at this
  omega
theorem Parents_any (gv cv : Value) (g : Gr) (c : Conf) (w : World) (hg : GrAt w gv g) (hc : RowsAt w cv c) :
    Calls Try.prog 15 #[gv, cv] w (RetInts (bfsParents g c) w) := by
  have hg0 := Lib.hid hg
  have hc0 := Lib.hid hc
  obtain ⟨i, p, rfl, hi, hp⟩ := hg
  clear hi hp hc
  cases hcn : bfsConfB g c with
  | false =>
    have Hf := Lib.hid (show bfsParents g c = [] by unfold bfsParents; rw [hcn]; rfl)
    go_enter Try.func15, Try.ntmps15
    go_wp2_with fail
    refine (configuration_any _ _ g c _ (hg0.out.below ((Below.refl _ _).alloc (Nat.le_refl _) _)) (hc0.out.below (Stable.sl Stable.int) ((Below.refl _ _).alloc (Nat.le_refl _) _))).mono ?_
    rintro e w1 ⟨rfl, hb1⟩
    go_wp2_with fail
    go_ret
    exact ⟨_, rfl, by rw [Hf.out]; exact SlAt.nil _, belowA hb1⟩
  | true =>
    have hconn : connB g = true := (Bool.and_eq_true _ _ ▸ hcn).1
    have Hconf := Lib.hid ((confB_iff _ _ _).1 (Bool.and_eq_true _ _ ▸ hcn).2)
    have Hgood := Lib.hid ((validB_iff g).1 (connB_valid hconn))
    have Hpv := Lib.hid (bfsConf_ports hcn)
    have Hf := Lib.hid (show bfsParents g c = towardsP g c 1 by unfold bfsParents; rw [hcn]; rfl)
    clear hconn
    go_enter Try.func15, Try.ntmps15
    go_wp2_with fail
    refine (configuration_any _ _ g c _ (hg0.out.below ((Below.refl _ _).alloc (Nat.le_refl _) _)) (hc0.out.below (Stable.sl Stable.int) ((Below.refl _ _).alloc (Nat.le_refl _) _))).mono ?_
    rintro e w1 ⟨rfl, hb1⟩
    obtain ⟨q0, q1⟩ := newA2 hb1
    have Hb1 := Lib.hid (belowA hb1)
    clear hb1
    go_wp2_with fail
    refine (Towards_any _ _ g c 1 _ (hg0.out.below Hb1.out) (hc0.out.below (Stable.sl Stable.int) Hb1.out) Hconf.out.1 (by have := Hgood.out.2.1; omega) Hpv.out).mono ?_
    rintro e w2 ⟨v, rfl, hv, hb2⟩
    have Hv := Lib.hid hv
    have Hb2 := Lib.hid (Hb1.out.trans (hb2.mono Hb1.out.size))
    clear hv hb2
    go_wp2_with fail
    go_ret
    exact ⟨_, rfl, by rw [Hf.out]; exact Hv.out, Hb2.out⟩
end Go.Proofs.Ytlfojfndkcmfnaa
