/- Walks of selfstabref23: Named, Vars, Fit, Legit, Claim, Parents. -/
import Derived.Test.YtlfojfndkcmfnaaRef23B
import Derived.Test.YtlfojfndkcmfnaaBfsC
import Derived.Test.YtlfojfndkcmfnaaRegionG
namespace Go.Proofs.Ytlfojfndkcmfnaa
open Go.RowKit

def bfsVars : List VarR := [⟨⟨#[100]⟩, 1, 0, 0, 1, 0⟩, ⟨⟨#[112]⟩, 3, 0, 0, 0, 0⟩]
def RetVars (V : List VarR) (w : World) (e : Ending) (w' : World) : Prop := ∃ v, e = .returned v ∧ VarsAt w' v V ∧ Below w.heap.size w w'

theorem Vars_any (w : World) : Calls Try.prog 44 #[] w (RetVars bfsVars w) := by
  go_enter Try.func44, Try.ntmps44
  go_wp2_with fail
  refine (Number_any _ _ _ _ _).mono ?_
  rintro e w1 ⟨rfl, hb1⟩
  have Hb1 := Lib.hid hb1
  clear hb1
  go_wp2_with fail
  refine (Pointer_any _ _).mono ?_
  rintro e w2 ⟨rfl, hb2⟩
  have Hb2 := Lib.hid (Hb1.out.trans (hb2.mono Hb1.out.size))
  clear hb2
  go_wp2_with fail
  go_ret
  refine ⟨_, rfl, ?_, Hb2.out.alloc Hb2.out.size _⟩
  refine ⟨_, 2, rfl, by simp [bfsVars], by omega, fun _ => ⟨w2.heap.size, 0, rfl, by simp, fun j x hj => ?_⟩⟩
  match j, hj with
  | 0, hj => simp [bfsVars] at hj; subst hj; simp [varE]
  | 1, hj => simp [bfsVars] at hj; subst hj; simp [varE]
  | j + 2, hj => simp [bfsVars] at hj

theorem refFit_any (gv : Value) (g : Gr) (w : World) (hg : GrAt w gv g) :
    Calls Try.prog 9 #[gv] w fun e w' => e = .returned (.bool (connB g)) ∧ Below w.heap.size w w' := by
  have hg0 := Lib.hid hg
  obtain ⟨i, p, rfl, hi, hp⟩ := hg
  clear hi hp
  go_enter Try.func9, Try.ntmps9
  go_wp2_with fail
  refine (refConnected_any _ g _ (hg0.out.below ((Below.refl _ _).alloc (Nat.le_refl _) _))).mono ?_
  rintro e w1 ⟨rfl, hb1⟩
  go_wp2_with fail
  go_ret
  exact ⟨rfl, belowA hb1⟩

theorem refClaim_any (gv : Value) (g : Gr) (w : World) (hg : GrAt w gv g) :
    Calls Try.prog 13 #[gv] w fun e w' => e = .returned (bfsClaimV g) ∧ Below w.heap.size w w' := by
  have hg0 := Lib.hid hg
  obtain ⟨i, p, rfl, hi, hp⟩ := hg
  clear hi hp
  cases hcn : connB g with
  | false =>
    have Hf := Lib.hid (show bfsClaimV g = claimZero by unfold bfsClaimV; rw [hcn]; rfl)
    go_enter Try.func13, Try.ntmps13
    go_wp2_with fail
    refine (refFit_any _ g _ (hg0.out.below (((Below.refl _ _).alloc (Nat.le_refl _) _).alloc (by simp) _))).mono ?_
    rintro e w1 ⟨rfl, hb1⟩
    obtain ⟨q0, q1, hcc, hff, hbw, hsz⟩ := twoNew hb1
    have Hbw := Lib.hid hbw
    clear hb1 hbw
    go_wp2_with fail
    refine bodyPost_ret (v := claimZero) (by simp [results, Try.results13, go_sem, hcc, claimZero]) rfl ⟨by rw [Hf.out], ?_⟩
    exact (((((Hbw.out.setCell (by simp) _).setCell (by simp) _).setCell (by simp) _).setCell (by simp) _).setCell (by simp) _)
  | true =>
    have Hf := Lib.hid (show bfsClaimV g = .agg #[.int .i64 3, .bool false, .bool true, .int .i64 (eccP g 0 + 1), .int .i64 (-1)] by unfold bfsClaimV; rw [hcn]; rfl)
    have her := ecc_range g 0
    obtain ⟨he1, he2⟩ := her
    go_enter Try.func13, Try.ntmps13
    go_wp2_with fail
    refine (refFit_any _ g _ (hg0.out.below (((Below.refl _ _).alloc (Nat.le_refl _) _).alloc (by simp) _))).mono ?_
    rintro e w1 ⟨rfl, hb1⟩
    obtain ⟨q0, q1, hcc, hff, hbw, hsz⟩ := twoNew hb1
    have Hbw := Lib.hid hbw
    clear hb1 hbw
    go_wp2_with fail
    refine (refEccentricity_any _ g 0 _ (hg0.out.below Hbw.out) ⟨by omega, by omega⟩).mono ?_
    rintro e w2 ⟨rfl, hb2⟩
    have hcc2 : ∀ o, w2.cell? ⟨w.heap.size + 1, o, none⟩ = (#[.int .i64 0, .bool false, .bool false, .int .i64 0, .int .i64 0] : Array Value)[o]? := fun o => (hb2.cell hsz).trans (hcc o)
    have hff2 : ∀ o, w2.frozen? ⟨w.heap.size + 1, o, none⟩ = false := fun o => (hb2.frozen hsz).trans (hff o)
    have Hbw2 := Lib.hid (Hbw.out.trans (hb2.mono Hbw.out.size))
    clear hb2 hcc hff q0 q1
    obtain ⟨y, hy⟩ : ∃ y, eccP g 0 = y := ⟨_, rfl⟩
    rw [hy] at Hf he1 he2 ⊢
    clear hy
    go_wp2_with fail
    refine bodyPost_ret (v := .agg #[.int .i64 3, .bool false, .bool true, .int .i64 (y + 1), .int .i64 (-1)]) (by simp [results, Try.results13, go_sem, hcc2]) rfl ⟨by rw [Hf.out], ?_⟩
    exact (((((Hbw2.out.setCell (by simp) _).setCell (by simp) _).setCell (by simp) _).setCell (by simp) _).setCell (by simp) _)

def refLegitB (g : Gr) (c : Conf) : Bool := connB g && (refConfB g c bfsVars && treeB g (distL g 0) c 0 1)

theorem bfsVars_fit : ∀ x ∈ bfsVars, VarFit x := by
  intro x hx
  simp [bfsVars] at hx
  rcases hx with rfl | rfl <;> simp [VarFit]

theorem refConf_states {g : Gr} {c : Conf} (h : refConfB g c bfsVars = true) : c.length = g.ports.length ∧ ∀ (v : Nat) s, c[v]? = some s → s.length = 2 := by
  have hc := (confB_iff _ _ _).1 (Bool.and_eq_true _ _ ▸ h).2
  refine ⟨hc.1, fun v s hs => ?_⟩
  have := (hc.2 v s hs).1
  simpa [boundsV, bfsVars] using this

theorem hb_refFit : HasBody Try.prog 9 := ⟨_, Try.func9, by kernel_rfl, by kernel_rfl⟩
theorem hb_Vars : HasBody Try.prog 44 := ⟨_, Try.func44, by kernel_rfl, by kernel_rfl⟩
theorem hb_Config : HasBody Try.prog 43 := ⟨_, Try.func43, by kernel_rfl, by kernel_rfl⟩
theorem hb_Tree : HasBody Try.prog 45 := ⟨_, Try.func45, by kernel_rfl, by kernel_rfl⟩

set_option maxHeartbeats 4000000 in
theorem refLegit_any (gv cv : Value) (g : Gr) (c : Conf) (w : World) (hg : GrAt w gv g) (hc : RowsAt w cv c) :
    Calls Try.prog 11 #[gv, cv] w fun e w' => e = .returned (.bool (refLegitB g c)) ∧ Below w.heap.size w w' := by
  have hg0 := Lib.hid hg
  have hc0 := Lib.hid hc
  obtain ⟨i, p, rfl, hi, hp⟩ := hg
  clear hi hp hc
  have hS := BoxS.start w i p 25
  cases hcn : connB g with
  | false =>
    have Hf := Lib.hid (show refLegitB g c = false by unfold refLegitB; rw [hcn]; rfl)
    have HS := Lib.hid hS
    clear hS
    go_enter Try.func11, Try.ntmps11
    go_wp2
    have hS := HS.out
    refine wp_region_plan mixed [(0, true), (1, false), (2, true), (3, true), (4, true), (5, true), (6, true), (7, true), (8, true), (9, true), (10, true), (11, true), (12, true), (13, true)] (BoxS w i p) (by kernel_rfl) (fun _ d _ _ _ h => by cases d <;> exact h) rfl (by kernel_rfl) ?_
    refine Seq.loadG rfl rfl rfl rfl rfl hS ?_
    refine Seq.call #[.agg #[i, p]] rfl rfl rfl rfl hb_refFit rfl ?_
    refine (boolv (refFit_any _ g _ (hg0.out.below hS.2.2)) hcn).mono ?_
    rintro e w1 ⟨rfl, hb1⟩
    refine ⟨_, rfl, hS.calls hb1, ?_⟩
    replace hS := hS.calls hb1
    refine Seq.move rfl rfl rfl rfl rfl hS ?_
    refine Seq.skip rfl rfl rfl hS ?_
    refine Seq.skip rfl rfl rfl hS ?_
    refine Seq.skip rfl rfl rfl hS ?_
    refine Seq.skip rfl rfl rfl hS ?_
    refine Seq.pick rfl rfl rfl rfl rfl rfl hS ?_
    refine Seq.move rfl rfl rfl rfl rfl hS ?_
    refine Seq.skip rfl rfl rfl hS ?_
    refine Seq.skip rfl rfl rfl hS ?_
    refine Seq.skip rfl rfl rfl hS ?_
    refine Seq.pick rfl rfl rfl rfl rfl rfl hS ?_
    refine Seq.assign rfl rfl rfl rfl rfl hS ?_
    refine Seq.done ?_
    simp only [List.set_cons_zero, List.set_cons_succ]
    go_wp2
    go_ret
    exact ⟨ret_bool Hf.out.symm, hS.2.2⟩
  | true =>
    have hgood := (validB_iff g).1 (connB_valid hcn)
    have hn1 : 0 < g.ports.length := hgood.1
    have Hgood := Lib.hid hgood
    have HS := Lib.hid hS
    clear hS hgood
    cases hrc : refConfB g c bfsVars with
    | false =>
      have Hf := Lib.hid (show refLegitB g c = false by unfold refLegitB; rw [hrc]; simp)
      go_enter Try.func11, Try.ntmps11
      go_wp2
      have hS := HS.out
      refine wp_region_plan mixed [(0, true), (1, false), (2, true), (3, true), (4, true), (5, false), (6, false), (7, true), (8, true), (9, true), (10, true), (11, true), (12, true), (13, true)] (BoxS w i p) (by kernel_rfl) (fun _ d _ _ _ h => by cases d <;> exact h) rfl (by kernel_rfl) ?_
      refine Seq.loadG rfl rfl rfl rfl rfl hS ?_
      refine Seq.call #[.agg #[i, p]] rfl rfl rfl rfl hb_refFit rfl ?_
      refine (boolv (refFit_any _ g _ (hg0.out.below hS.2.2)) hcn).mono ?_
      rintro e w1 ⟨rfl, hb1⟩
      refine ⟨_, rfl, hS.calls hb1, ?_⟩
      replace hS := hS.calls hb1
      refine Seq.move rfl rfl rfl rfl rfl hS ?_
      refine Seq.loadG rfl rfl rfl rfl rfl hS ?_
      refine Seq.move rfl rfl rfl rfl rfl hS ?_
      refine Seq.call #[] rfl rfl rfl rfl hb_Vars rfl ?_
      refine (Vars_any _).mono ?_
      rintro e w2 ⟨vv, rfl, hvv, hb2⟩
      refine ⟨_, rfl, hS.calls hb2, ?_⟩
      replace hS := hS.calls hb2
      refine Seq.call #[.agg #[i, p], cv, vv] rfl rfl rfl rfl hb_Config rfl ?_
      refine (boolv (Config_any _ _ _ g c bfsVars _ (hg0.out.below hS.2.2) (hc0.out.below (Stable.sl Stable.int) hS.2.2) hvv bfsVars_fit) hrc).mono ?_
      rintro e w3 ⟨rfl, hb3⟩
      refine ⟨_, rfl, hS.calls hb3, ?_⟩
      replace hS := hS.calls hb3
      refine Seq.pick rfl rfl rfl rfl rfl rfl hS ?_
      refine Seq.move rfl rfl rfl rfl rfl hS ?_
      refine Seq.skip rfl rfl rfl hS ?_
      refine Seq.skip rfl rfl rfl hS ?_
      refine Seq.skip rfl rfl rfl hS ?_
      refine Seq.pick rfl rfl rfl rfl rfl rfl hS ?_
      refine Seq.assign rfl rfl rfl rfl rfl hS ?_
      refine Seq.done ?_
      simp only [List.set_cons_zero, List.set_cons_succ]
      go_wp2
      go_ret
      exact ⟨ret_bool Hf.out.symm, hS.2.2⟩
    | true =>
      have Hf := Lib.hid (show refLegitB g c = treeB g (distL g 0) c 0 1 by unfold refLegitB; rw [hcn, hrc]; simp)
      have Hst := Lib.hid (refConf_states hrc)
      go_enter Try.func11, Try.ntmps11
      go_wp2
      have hS := HS.out
      refine wp_region_plan mixed [(0, true), (1, false), (2, true), (3, true), (4, true), (5, false), (6, false), (7, true), (8, true), (9, true), (10, true), (11, false), (12, true), (13, true)] (BoxS w i p) (by kernel_rfl) (fun _ d _ _ _ h => by cases d <;> exact h) rfl (by kernel_rfl) ?_
      refine Seq.loadG rfl rfl rfl rfl rfl hS ?_
      refine Seq.call #[.agg #[i, p]] rfl rfl rfl rfl hb_refFit rfl ?_
      refine (boolv (refFit_any _ g _ (hg0.out.below hS.2.2)) hcn).mono ?_
      rintro e w1 ⟨rfl, hb1⟩
      refine ⟨_, rfl, hS.calls hb1, ?_⟩
      replace hS := hS.calls hb1
      refine Seq.move rfl rfl rfl rfl rfl hS ?_
      refine Seq.loadG rfl rfl rfl rfl rfl hS ?_
      refine Seq.move rfl rfl rfl rfl rfl hS ?_
      refine Seq.call #[] rfl rfl rfl rfl hb_Vars rfl ?_
      refine (Vars_any _).mono ?_
      rintro e w2 ⟨vv, rfl, hvv, hb2⟩
      refine ⟨_, rfl, hS.calls hb2, ?_⟩
      replace hS := hS.calls hb2
      refine Seq.call #[.agg #[i, p], cv, vv] rfl rfl rfl rfl hb_Config rfl ?_
      refine (boolv (Config_any _ _ _ g c bfsVars _ (hg0.out.below hS.2.2) (hc0.out.below (Stable.sl Stable.int) hS.2.2) hvv bfsVars_fit) hrc).mono ?_
      rintro e w3 ⟨rfl, hb3⟩
      refine ⟨_, rfl, hS.calls hb3, ?_⟩
      replace hS := hS.calls hb3
      refine Seq.pick rfl rfl rfl rfl rfl rfl hS ?_
      refine Seq.move rfl rfl rfl rfl rfl hS ?_
      refine Seq.loadG rfl rfl rfl rfl rfl hS ?_
      refine Seq.move rfl rfl rfl rfl rfl hS ?_
      refine Seq.call #[.agg #[i, p], cv, .int .i64 0, .int .i64 0, .int .i64 1] rfl rfl rfl rfl hb_Tree rfl ?_
      refine (refTree_any _ _ g c 0 0 1 _ (hg0.out.below hS.2.2) (hc0.out.below (Stable.sl Stable.int) hS.2.2) Hgood.out hn1 Hst.out.1 (fun v s hs => by rw [Hst.out.2 v s hs]; omega)).mono ?_
      rintro e w4 ⟨rfl, hb4⟩
      refine ⟨_, rfl, hS.calls hb4, ?_⟩
      replace hS := hS.calls hb4
      refine Seq.pick rfl rfl rfl rfl rfl rfl hS ?_
      refine Seq.assign rfl rfl rfl rfl rfl hS ?_
      refine Seq.done ?_
      simp only [List.set_cons_zero, List.set_cons_succ]
      go_wp2
      go_ret
      exact ⟨ret_bool Hf.out.symm, hS.2.2⟩

def refParents (g : Gr) (c : Conf) : List Int := if (connB g && refConfB g c bfsVars) = true then towardsP g c 1 else []

set_option maxHeartbeats 2000000 in
theorem Named_any (gv cv : Value) (g : Gr) (c : Conf) (x : Nat) (w : World) (hg : GrAt w gv g) (hc : RowsAt w cv c) (hn : c.length = g.ports.length) (hn24 : g.ports.length ≤ 1000) (hpv : PortVar g c x) (hrg : ∀ y ∈ towardsP g c x, I64 y) :
    Calls Try.prog 49 #[gv, cv, .int .i64 x] w (RetInts (towardsP g c x) w) := by
  obtain ⟨i, p, rfl, hi, hp⟩ := hg
  obtain ⟨A2, c2, rfl, hB1, hB2⟩ := slAt_form hp
  obtain ⟨A3, c3, rfl, hC1, hC2⟩ := slAt_form hc
  have Hp := Lib.hid hp
  have Hc := Lib.hid hc
  have Hn := Lib.hid hn
  have Hpv := Lib.hid hpv
  have Hrg := Lib.hid hrg
  have hcn : c.length ≤ 1000 := by omega
  clear hi hp hc hn hpv hrg
  obtain ⟨i0, hi0, hz0, hz1, hz2⟩ := info_parts int_info
  have Hi0 := Lib.hid (show _ ∧ _ ∧ _ ∧ _ from ⟨hi0, hz0, hz1, hz2⟩)
  clear hi0 hz0 hz1 hz2
  go_enter Try.func49, Try.ntmps49
  go_wp2
  obtain ⟨W1, hW1⟩ : ∃ W, W = w.alloc (.cells #[i, .slice A2 g.ports.length c2] 25) := ⟨_, rfl⟩
  have HB := Lib.hid (show ∀ wr, Below (w.heap.size + 1) W1 wr → wr.cell? ⟨w.heap.size, 0, none⟩ = some i ∧ wr.cell? ⟨w.heap.size, 1, none⟩ = some (.slice A2 g.ports.length c2) ∧ Below w.heap.size w wr ∧ w.heap.size < wr.heap.size by subst hW1; exact fun wr h => box2 h)
  rw [← hW1]
  clear hW1
  go_loopg [7, 8] c.length (fun q tv t wr => ∃ v : Nat, q + v = c.length ∧ t = .int .i64 v ∧ Hid (Below (w.heap.size + 1) W1 wr) ∧ Hid (Owns wr (w.heap.size + 1) 3 1 tv v (((towardsP g c x).take v).map (Value.int .i64))))
  case atStart => exact ⟨0, by omega, rfl, Lib.hid (Below.refl _ _), Lib.hid (by rw [List.take_zero]; exact Owns.nil _ _ _ _)⟩
  case round =>
    obtain ⟨v, hq, rfl, hbel, hown⟩ := hrel
    obtain ⟨q0, q1, hbw, hsz⟩ := HB.out _ hbel.out
    by_cases hlt : v < c.length
    · have hvp : v < g.ports.length := by rw [← Hn.out]; exact hlt
      obtain ⟨b3, off3, sv, rfl, hb3, hcs0, hs⟩ := rowsAt_at Hc.out (List.getElem?_eq_getElem hlt)
      have hcs := keepCells hbw _ _ hcs0
      obtain ⟨s, hse⟩ : ∃ s, c[v] = s := ⟨_, rfl⟩
      have hs? : c[v]? = some s := by rw [List.getElem?_eq_getElem hlt, hse]
      rw [hse] at hs
      obtain ⟨y, hy, hyd⟩ := Hpv.out v s hs?
      obtain ⟨hxl, hye⟩ := List.getElem?_eq_some_iff.1 hy
      obtain ⟨b5, o5, c5, rfl, hb5, hE1, hE2, hc50, _⟩ := IntsAt.at_ hs hxl
      have hc5 := keepCells hbw _ _ hc50
      rw [hye] at hc5
      have hT := towardsP_get g c x v s hs?
      rw [show s.getD x 0 = y by simp [List.getD, hy]] at hT
      have hTl : v < (towardsP g c x).length := by rw [towardsP_length]; exact hlt
      have Hsn := Lib.hid (take_snoc (towardsP g c x) v hTl)
      rw [show (towardsP g c x)[v] = portOf g v y by rw [List.getElem?_eq_getElem hTl] at hT; exact Option.some.inj hT] at Hsn
      have hpr : I64 (portOf g v y) := Hrg.out _ (List.mem_of_getElem? hT)
      have Hbw := Lib.hid hbw
      clear hs hse hy hye hs? hbw hcs0 hc50 hT
      by_cases c1 : 0 ≤ y
      · obtain ⟨z, rfl⟩ := Int.eq_ofNat_of_zero_le c1
        have hzd := hyd c1
        obtain ⟨b7, o7, lv, rfl, hb7, hc70, hl7⟩ := rowsAt_at Hp.out (List.getElem?_eq_getElem hvp)
        have hc7 := keepCells Hbw.out _ _ hc70
        obtain ⟨A8, c8, e8, hF1, hF2, hE⟩ := hl7
        subst e8
        obtain ⟨ls, hds⟩ : ∃ ls, g.ports[v] = ls := ⟨_, rfl⟩
        have hdeg : degOf g v = ls.length := by simp [degOf, List.getD, List.getElem?_eq_getElem hvp, hds]
        rw [hds] at hc7 hF1 hE
        have hzl : z < ls.length := by omega
        obtain ⟨b9, o9, rfl, hb9, hE⟩ := hE (by omega)
        obtain ⟨hx10, _, _, _⟩ := hE z ls[z] (List.getElem?_eq_getElem hzl)
        have hx1 := keepCells Hbw.out _ _ hx10
        have Hpo := Lib.hid (show portOf g v (z : Int) = ls[z].1 by
          unfold portOf
          rw [if_pos (by omega), show g.ports.getD v [] = ls by simp [List.getD, List.getElem?_eq_getElem hvp, hds]]
          simp [List.getD, hzl])
        rw [Hpo.out] at Hsn
        have hd0 : decide ((0 : Int) ≤ (z : Int)) = true := by simp
        clear hE hds hdeg hyd hzd hx10 hc70
        go_wp2
        go_quiet (fail)
        go_wp2_with (at_builtin; refine wpList_append_owns _ rfl _ _ 22 rfl (w.heap.size + 1) 3 i0 (.int .i64 0) 1 8 Try.underlying22 Hi0.out.1 Hi0.out.2.1 Hi0.out.2.2.1 Hi0.out.2.2.2 rfl (by decide) u7 v (((towardsP g c x).take v).map (Value.int .i64)) (by rfl) ?hown _ 1 1 [.int .i64 ls[z].1] (by rfl) rfl ?c1 ?c2 ?c3 ?c4 ?c5 ?_)
        case hown => exact (hown.out.alloc _).drewN _
        case c1 => exact cell_one rfl
        case c2 => simp [Value.oneCell']
        case c3 => simp only [maxLen]; omega
        case c4 => omega
        case c5 => simp; omega
        intro v' w' hown' hgr hob
        have Hown := Lib.hid hown'
        have Hgr := Lib.hid hgr
        clear hown' hgr hob
        go_wp2
        go_roundg (gk - 1)
        case measure => omega
        case rel =>
          refine ⟨v + 1, by omega, by go_num, Lib.hid ((below_drewN (hbel.out.alloc (by omega) _) _).grown Hgr.out (by simp; omega) (fun x hx => (hown.out.lt hx).1)), Lib.hid ?_⟩
          rw [Hsn.out, List.map_append]
          have h := Hown.out
          rw [← List.map_take] at h
          exact h
      · have hd0 : decide ((0 : Int) ≤ y) = false := by simp; omega
        have Hpo := Lib.hid (show portOf g v y = -1 by unfold portOf; rw [if_neg c1])
        rw [Hpo.out] at Hsn
        clear hyd
        go_wp2_with (at_builtin; refine wpList_append_owns _ rfl _ _ 22 rfl (w.heap.size + 1) 3 i0 (.int .i64 0) 1 8 Try.underlying22 Hi0.out.1 Hi0.out.2.1 Hi0.out.2.2.1 Hi0.out.2.2.2 rfl (by decide) u7 v (((towardsP g c x).take v).map (Value.int .i64)) (by rfl) (hown.out.alloc _) _ 1 1 [.int .i64 (-1)] (by rfl) rfl (cell_one rfl) (by simp [Value.oneCell']) (by simp only [maxLen]; omega) (by omega) (by simp; omega) ?_; intro v' w' hown' hgr hob)
        have Hown := Lib.hid hown'
        have Hgr := Lib.hid hgr
        clear hown' hgr hob
        go_wp2
        go_roundg (gk - 1)
        case measure => omega
        case rel =>
          refine ⟨v + 1, by omega, by go_num, Lib.hid ((hbel.out.alloc (by omega) _).grown Hgr.out (by simp; omega) (fun x hx => (hown.out.lt hx).1)), Lib.hid ?_⟩
          rw [Hsn.out, List.map_append]
          exact Hown.out
    · obtain rfl : v = c.length := by omega
      go_wp2
      go_ret
      refine ⟨_, rfl, ?_, hbw⟩
      have h := hown.out
      rw [List.take_of_length_le (by rw [towardsP_length]; exact Nat.le_refl _)] at h
      exact h.ints Hrg.out
end Go.Proofs.Ytlfojfndkcmfnaa
