/- Walk of selfstabref23.Parents; the plain law that package bfs and its reference agree. -/
import Derived.Test.YtlfojfndkcmfnaaRef23C
namespace Go.Proofs.Ytlfojfndkcmfnaa
open Go.RowKit

theorem boundsV_bfs (g : Gr) : boundsV g bfsVars = boundsG g [(g.ports.length : Int), -1] := by
  funext v
  have h : ¬ ((g.ports.length : Int) = -1) := by omega
  simp [boundsV, bfsVars, boundV, boundsG, h]
theorem conf_eq (g : Gr) (c : Conf) : (connB g && refConfB g c bfsVars) = bfsConfB g c := by
  unfold bfsConfB refConfB
  rw [boundsV_bfs]
  cases hc : connB g with
  | false => rfl
  | true => rw [connB_valid hc]; rfl
theorem towards_range {g : Gr} {c : Conf} {x : Nat} (hg : GoodG g) (hn : c.length = g.ports.length) (hpv : PortVar g c x) : ∀ y ∈ towardsP g c x, I64 y := by
  intro y hy
  obtain ⟨v, hv, rfl⟩ := List.mem_iff_getElem.1 hy
  have hvc : v < c.length := by simpa [towardsP] using hv
  have h1 := towardsP_get g c x v c[v] (List.getElem?_eq_getElem hvc)
  rw [List.getElem?_eq_getElem hv] at h1
  rw [Option.some.inj h1]
  unfold portOf
  split
  · rename_i h0
    obtain ⟨y, hy1, hy2⟩ := hpv v _ (List.getElem?_eq_getElem hvc)
    have e1 : c[v].getD x 0 = y := by simp [List.getD, hy1]
    rw [e1] at h0 ⊢
    have hvp : v < g.ports.length := by rw [← hn]; exact hvc
    have e2 : g.ports.getD v [] = g.ports[v] := by simp [List.getD, List.getElem?_eq_getElem hvp]
    have hd := hy2 h0
    unfold degOf at hd
    rw [e2] at hd ⊢
    have hl : y.toNat < g.ports[v].length := by omega
    have := hg.link (List.getElem?_eq_getElem hvp) (List.getElem_mem hl)
    have hn24 := hg.2.1
    simp only [List.getD, List.getElem?_eq_getElem hl, Option.getD_some]
    unfold I64
    omega
  · unfold I64; omega

set_option maxHeartbeats 4000000 in
theorem refParents_any (gv cv : Value) (g : Gr) (c : Conf) (w : World) (hg : GrAt w gv g) (hc : RowsAt w cv c) :
    Calls Try.prog 16 #[gv, cv] w (RetInts (refParents g c) w) := by
  have hg0 := Lib.hid hg
  have hc0 := Lib.hid hc
  obtain ⟨i, p, rfl, hi, hp⟩ := hg
  clear hi hp hc
  have HS := Lib.hid (BoxS.start w i p 25)
  cases hcn : connB g with
  | false =>
    have Hf := Lib.hid (show refParents g c = [] by unfold refParents; rw [hcn]; rfl)
    go_enter Try.func16, Try.ntmps16
    go_wp2
    have hS := HS.out
    refine wp_region_plan mixed [(0, true), (1, false), (2, true), (3, true), (4, true), (5, true), (6, true), (7, true), (8, true), (9, true)] (BoxS w i p) (by kernel_rfl) (fun _ d _ _ _ h => by cases d <;> exact h) rfl (by kernel_rfl) ?_
    refine Seq.loadG rfl rfl rfl rfl rfl hS ?_
    refine Seq.call #[.agg #[i, p]] rfl rfl rfl rfl hb_refFit rfl ?_
    refine (boolv (refFit_any _ g _ (hg0.out.below hS.2.2)) hcn).mono ?_
    rintro e w1 ⟨rfl, hb1⟩
    refine ⟨_, rfl, hS.calls hb1, ?_⟩
    replace hS := hS.calls hb1
    refine Seq.not_ rfl rfl rfl rfl rfl hS ?_
    refine Seq.move rfl rfl rfl rfl rfl hS ?_
    refine Seq.skip rfl rfl rfl hS ?_
    refine Seq.skip rfl rfl rfl hS ?_
    refine Seq.skip rfl rfl rfl hS ?_
    refine Seq.skip rfl rfl rfl hS ?_
    refine Seq.skip rfl rfl rfl hS ?_
    refine Seq.pick rfl rfl rfl rfl rfl rfl hS ?_
    refine Seq.done ?_
    simp only [List.set_cons_zero, List.set_cons_succ]
    have HSS := Lib.hid hS
    clear hS
    go_wp2
    go_ret
    exact ⟨_, rfl, by rw [Hf.out]; exact SlAt.nil _, HSS.out.2.2⟩
  | true =>
    have Hgood := Lib.hid ((validB_iff g).1 (connB_valid hcn))
    cases hrc : refConfB g c bfsVars with
    | false =>
      have Hf := Lib.hid (show refParents g c = [] by unfold refParents; rw [hrc]; simp)
      go_enter Try.func16, Try.ntmps16
      go_wp2
      have hS := HS.out
      refine wp_region_plan mixed [(0, true), (1, false), (2, true), (3, true), (4, true), (5, true), (6, false), (7, false), (8, true), (9, true)] (BoxS w i p) (by kernel_rfl) (fun _ d _ _ _ h => by cases d <;> exact h) rfl (by kernel_rfl) ?_
      refine Seq.loadG rfl rfl rfl rfl rfl hS ?_
      refine Seq.call #[.agg #[i, p]] rfl rfl rfl rfl hb_refFit rfl ?_
      refine (boolv (refFit_any _ g _ (hg0.out.below hS.2.2)) hcn).mono ?_
      rintro e w1 ⟨rfl, hb1⟩
      refine ⟨_, rfl, hS.calls hb1, ?_⟩
      replace hS := hS.calls hb1
      refine Seq.not_ rfl rfl rfl rfl rfl hS ?_
      refine Seq.move rfl rfl rfl rfl rfl hS ?_
      refine Seq.loadG rfl rfl rfl rfl rfl hS ?_
      refine Seq.move rfl rfl rfl rfl rfl hS ?_
      refine Seq.call #[] rfl rfl rfl rfl hb_Vars rfl ?_
      refine (Vars_any _).mono ?_
      rintro e w2 ⟨vv, rfl, hvv, hb2⟩
      refine ⟨_, rfl, hS.calls hb2, ?_⟩
      replace hS := hS.calls hb2
      refine Seq.call #[.agg #[i, p], cv, vv] rfl rfl rfl rfl hb_Config rfl ?_
      refine (boolv (Config_any _ _ _ g c bfsVars _ (hg0.out.below hS.2.2) (hc0.out.below (Stable.sl Stable.int) hS.2.2) hvv bfsVars_fit) hrc).mono ?_
      rintro e w3 ⟨rfl, hb3⟩
      refine ⟨_, rfl, hS.calls hb3, ?_⟩
      replace hS := hS.calls hb3
      refine Seq.not_ rfl rfl rfl rfl rfl hS ?_
      refine Seq.pick rfl rfl rfl rfl rfl rfl hS ?_
      refine Seq.done ?_
      simp only [List.set_cons_zero, List.set_cons_succ]
      have HSS := Lib.hid hS
      clear hS
      go_wp2
      go_ret
      exact ⟨_, rfl, by rw [Hf.out]; exact SlAt.nil _, HSS.out.2.2⟩
    | true =>
      have Hf := Lib.hid (show refParents g c = towardsP g c 1 by unfold refParents; rw [hcn, hrc]; rfl)
      have Hst := Lib.hid (refConf_states hrc)
      have Hpv := Lib.hid (bfsConf_ports (show bfsConfB g c = true by rw [← conf_eq, hcn, hrc]; rfl))
      have Hrg := Lib.hid (towards_range Hgood.out Hst.out.1 Hpv.out)
      go_enter Try.func16, Try.ntmps16
      go_wp2
      have hS := HS.out
      refine wp_region_plan mixed [(0, true), (1, false), (2, true), (3, true), (4, true), (5, true), (6, false), (7, false), (8, true), (9, true)] (BoxS w i p) (by kernel_rfl) (fun _ d _ _ _ h => by cases d <;> exact h) rfl (by kernel_rfl) ?_
      refine Seq.loadG rfl rfl rfl rfl rfl hS ?_
      refine Seq.call #[.agg #[i, p]] rfl rfl rfl rfl hb_refFit rfl ?_
      refine (boolv (refFit_any _ g _ (hg0.out.below hS.2.2)) hcn).mono ?_
      rintro e w1 ⟨rfl, hb1⟩
      refine ⟨_, rfl, hS.calls hb1, ?_⟩
      replace hS := hS.calls hb1
      refine Seq.not_ rfl rfl rfl rfl rfl hS ?_
      refine Seq.move rfl rfl rfl rfl rfl hS ?_
      refine Seq.loadG rfl rfl rfl rfl rfl hS ?_
      refine Seq.move rfl rfl rfl rfl rfl hS ?_
      refine Seq.call #[] rfl rfl rfl rfl hb_Vars rfl ?_
      refine (Vars_any _).mono ?_
      rintro e w2 ⟨vv, rfl, hvv, hb2⟩
      refine ⟨_, rfl, hS.calls hb2, ?_⟩
      replace hS := hS.calls hb2
      refine Seq.call #[.agg #[i, p], cv, vv] rfl rfl rfl rfl hb_Config rfl ?_
      refine (boolv (Config_any _ _ _ g c bfsVars _ (hg0.out.below hS.2.2) (hc0.out.below (Stable.sl Stable.int) hS.2.2) hvv bfsVars_fit) hrc).mono ?_
      rintro e w3 ⟨rfl, hb3⟩
      refine ⟨_, rfl, hS.calls hb3, ?_⟩
      replace hS := hS.calls hb3
      refine Seq.not_ rfl rfl rfl rfl rfl hS ?_
      refine Seq.pick rfl rfl rfl rfl rfl rfl hS ?_
      refine Seq.done ?_
      simp only [List.set_cons_zero, List.set_cons_succ]
      have q0 := hS.1
      have q1 := hS.2.1
      have Hb := Lib.hid hS.2.2
      clear hS hb1 hb2 hb3 hvv
      go_wp2_with fail
      refine (Named_any _ _ g c 1 _ (hg0.out.below Hb.out) (hc0.out.below (Stable.sl Stable.int) Hb.out) Hst.out.1 (by have := Hgood.out.2.1; omega) Hpv.out Hrg.out).mono ?_
      rintro e w4 ⟨v, rfl, hv, hb4⟩
      have Hv := Lib.hid hv
      have Hb4 := Lib.hid (Hb.out.trans (hb4.mono Hb.out.size))
      clear hv hb4
      go_wp2_with fail
      go_ret
      exact ⟨_, rfl, by rw [Hf.out]; exact Hv.out, Hb4.out⟩

theorem parents_eq (g : Gr) (c : Conf) : refParents g c = bfsParents g c := by
  unfold refParents bfsParents
  rw [conf_eq]

theorem legit_eq (g : Gr) (c : Conf) : refLegitB g c = bfsLegitB g c := by
  unfold refLegitB bfsLegitB
  rw [← Bool.and_assoc, conf_eq]
  cases hc : bfsConfB g c with
  | false => rfl
  | true =>
    have hconf := (confB_iff _ _ _).1 (Bool.and_eq_true _ _ ▸ hc).2
    have hst : ∀ (v : Nat) s, c[v]? = some s → s.length = 2 := fun v s hs => by simpa [boundsG] using (hconf.2 v s hs).1
    simp only [Bool.true_and]
    rw [Bool.eq_iff_iff]
    unfold treeB
    rw [List.all_eq_true, List.all_eq_true]
    constructor
    · rintro h ⟨s, v⟩ hp
      have hs := List.mem_zipIdx_iff_getElem?.1 hp
      simp only at hs ⊢
      have hv : v < g.ports.length := by rw [← hconf.1]; exact (List.getElem?_eq_some_iff.1 hs).1
      have := of_decide_eq_true (h v (by simpa using hv))
      unfold treeOk at this
      rw [show c.getD v [] = s by simp [List.getD, hs]] at this
      have hl := hst v s hs
      match s, hl with
      | [a, b], _ =>
        simp [List.getD] at this
        unfold rightB
        simp [this, List.getD]
    · intro h v hv
      simp only [List.mem_range] at hv
      have hvc : v < c.length := by rw [hconf.1]; exact hv
      have := h (c[v], v) (List.mem_zipIdx_iff_getElem?.2 (List.getElem?_eq_getElem hvc))
      simp only at this
      unfold rightB at this
      have := of_decide_eq_true this
      refine decide_eq_true ?_
      unfold treeOk
      rw [show c.getD v [] = c[v] by simp [List.getD, hvc], this]
      simp [List.getD]
end Go.Proofs.Ytlfojfndkcmfnaa
