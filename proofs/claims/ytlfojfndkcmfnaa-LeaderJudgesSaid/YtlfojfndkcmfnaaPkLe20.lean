/- Lemmas, joined: Ref23A Ref23B. -/
import Derived.Test.YtlfojfndkcmfnaaPkLe19
import Derived.Test.YtlfojfndkcmfnaaPkLe17
import Derived.Deep.RegionHeld3
set_option linter.unusedSimpArgs false
set_option linter.unusedVariables false
namespace Go.Proofs.Ytlfojfndkcmfnaa
open Go.RowKit

theorem top_any (gv : Value) (g : Gr) (w : World) (hg : GrAt w gv g) :
    Calls Try.prog 79 #[gv] w fun e w' => e = .returned (.int .i64 (topID g)) ∧ Below w.heap.size w w' := by
  obtain ⟨i, p, rfl, hi, hp⟩ := hg
  obtain ⟨A, c, rfl, hA1, hA2⟩ := slAt_form hi
  have Hi := Lib.hid hi
  clear hi hp
  go_enter Try.func79, Try.ntmps79
  go_wp2
  obtain ⟨W1, hW1⟩ : ∃ W, W = w.alloc (.cells #[.slice A g.ids.length c, p] 25) := ⟨_, rfl⟩
  have hbox : W1.cell? ⟨w.heap.size, 0, none⟩ = some (.slice A g.ids.length c) := by subst hW1; simp
  have HbW := Lib.hid (show Below w.heap.size w W1 by subst hW1; exact (Below.refl _ _).alloc (Nat.le_refl _) _)
  rw [← hW1]
  clear hW1
  go_loopg [3, 4] g.ids.length (fun q m t wr => ∃ k : Nat, q + k = g.ids.length ∧ t = .int .i64 k ∧ wr = W1 ∧ m = .int .i64 ((g.ids.take k).foldl max 0))
  case atStart => exact ⟨0, by omega, rfl, rfl, by simp⟩
  case round =>
    obtain ⟨k, hq, rfl, rfl, rfl⟩ := hrel
    by_cases hlt : k < g.ids.length
    · obtain ⟨b, off, rfl, hb, hc, hr⟩ := intsAt_at (Hi.out.below Stable.int HbW.out) hlt
      have Hs := Lib.hid (topID_snoc g.ids k hlt)
      go_wp2
      all_goals
        go_roundg (gk - 1)
        case measure => omega
        case rel => exact ⟨k + 1, by omega, by go_num, rfl, by rw [Hs.out]; try (congr 1; omega)⟩
    · obtain rfl : k = g.ids.length := by omega
      go_wp2
      go_ret
      exact ⟨ret_int (by rw [List.take_length]; rfl), HbW.out⟩

theorem Number_any (name : ByteArray) (hi pn pid : Int) (w : World) :
    Calls Try.prog 81 #[.string name, .int .i64 hi, .int .i64 pn, .int .i64 pid] w fun e w' => e = .returned (.agg #[.string name, .int .i64 1, .int .i64 0, .int .i64 hi, .int .i64 pn, .int .i64 pid]) ∧ Below w.heap.size w w' := by
  go_enter Try.func81, Try.ntmps81
  go_wp2
  refine bodyPost_ret (v := .agg #[.string name, .int .i64 1, .int .i64 0, .int .i64 hi, .int .i64 pn, .int .i64 pid]) (by simp [results, Try.results81, go_sem]) rfl ⟨rfl, ?_⟩
  exact (Below.refl _ _).alloc (Nat.le_refl _) _
theorem Pointer_any (name : ByteArray) (w : World) :
    Calls Try.prog 82 #[.string name] w fun e w' => e = .returned (.agg #[.string name, .int .i64 3, .int .i64 0, .int .i64 0, .int .i64 0, .int .i64 0]) ∧ Below w.heap.size w w' := by
  go_enter Try.func82, Try.ntmps82
  go_wp2
  refine bodyPost_ret (v := .agg #[.string name, .int .i64 3, .int .i64 0, .int .i64 0, .int .i64 0, .int .i64 0]) (by simp [results, Try.results82, go_sem]) rfl ⟨rfl, ?_⟩
  exact (Below.refl _ _).alloc (Nat.le_refl _) _

theorem boundsV_length (g : Gr) (vars : List VarR) (v : Nat) : (boundsV g vars v).length = vars.length := by simp [boundsV]

set_option maxHeartbeats 4000000 in
set_option maxRecDepth 100000 in
theorem Config_any (gv cv vv : Value) (g : Gr) (c : Conf) (vars : List VarR) (w : World) (hg : GrAt w gv g) (hc : RowsAt w cv c) (hv : VarsAt w vv vars) (hfit : ∀ x ∈ vars, VarFit x) :
    Calls Try.prog 43 #[gv, cv, vv] w fun e w' => e = .returned (.bool (refConfB g c vars)) ∧ Below w.heap.size w w' := by
  have hg0 := Lib.hid hg
  obtain ⟨i, p, rfl, hi, hp⟩ := hg
  obtain ⟨A2, c2, rfl, hB1, hB2⟩ := slAt_form hp
  obtain ⟨A3, c3, rfl, hC1, hC2⟩ := slAt_form hc
  obtain ⟨A4, c4, rfl, hD1, hD2⟩ := slAt_form hv
  have Hp := Lib.hid hp
  have Hc := Lib.hid hc
  have Hv := Lib.hid hv
  have Hfit := Lib.hid hfit
  clear hi hp hc hv hfit
  cases hvd : validB g with
  | false =>
    have Hf := Lib.hid (show refConfB g c vars = false by unfold refConfB; rw [hvd]; rfl)
    go_enter Try.func43, Try.ntmps43
    go_wp2_with fail
    refine (refValid_any _ g _ (hg0.out.below ((Below.refl _ _).alloc (Nat.le_refl _) _))).mono ?_
    rintro e w1 ⟨rfl, hb1⟩
    go_wp2_with fail
    go_ret
    exact ⟨ret_bool Hf.out.symm, belowA hb1⟩
  | true =>
    have hgood := (validB_iff g).1 hvd
    have hn24 := hgood.2.1
    have htop := topID_range hgood
    obtain ⟨htop1, htop2⟩ := htop
    have Hrc := Lib.hid (show refConfB g c vars = confB g.ports.length (boundsV g vars) c by unfold refConfB; rw [hvd]; rfl)
    clear hgood
    by_cases n1 : c.length = g.ports.length
    · have n1' : ((c.length : Int) != (g.ports.length : Int)) = false := by simp [n1]
      have Hn := Lib.hid n1
      have hcn : c.length ≤ 24 := by omega
      clear n1
      go_enter Try.func43, Try.ntmps43
      go_wp2_with fail
      refine (refValid_any _ g _ (hg0.out.below ((Below.refl _ _).alloc (Nat.le_refl _) _))).mono ?_
      rintro e w1 ⟨rfl, hb1⟩
      obtain ⟨q0, q1⟩ := newA2 hb1
      have Hb1 := Lib.hid (belowA hb1)
      have hsz1 : w.heap.size < w1.heap.size := World.block_lt_of_cell? _ _ q0
      clear hb1
      go_wp2
      go_loopg [8] g.ports.length (fun q t wr => ∃ v : Nat, q + v = g.ports.length ∧ t = .int .i64 v ∧ Hid (Below w1.heap.size w1 wr) ∧ Hid (∀ (u : Nat) s, u < v → c[u]? = some s → StateOk (boundsV g vars u) s))
      case atStart => exact ⟨0, by omega, rfl, Lib.hid (Below.refl _ _), Lib.hid (fun u s hu => absurd hu (by omega))⟩
      case round =>
        obtain ⟨v, hq, rfl, hbel, hok⟩ := hrel
        have Hbw := Lib.hid (Hb1.out.trans (hbel.out.mono Hb1.out.size))
        by_cases hlt : v < g.ports.length
        · have hvc : v < c.length := by rw [Hn.out]; exact hlt
          obtain ⟨b3, off3, sv, rfl, hb3, hcs0, hs⟩ := rowsAt_at Hc.out (List.getElem?_eq_getElem hvc)
          obtain ⟨A5, c5, rfl, hE1, hE2⟩ := slAt_form hs
          have hcs := keepCells Hbw.out _ _ hcs0
          obtain ⟨s, hse⟩ : ∃ s, c[v] = s := ⟨_, rfl⟩
          have Hs? := Lib.hid (show c[v]? = some s by rw [List.getElem?_eq_getElem hvc, hse])
          rw [hse] at hs hcs hcs0 hE1
          have Hbad := Lib.hid (show ¬ StateOk (boundsV g vars v) s → refConfB g c vars = false from fun h => by rw [Hrc.out]; exact confB_false (fun hc => h (hc.2 v s Hs?.out)))
          have Hs := Lib.hid hs
          clear hs hse
          by_cases k1 : s.length = vars.length
          · have k1' : ((s.length : Int) != (vars.length : Int)) = false := by simp [k1]
            have Hsl := Lib.hid k1
            clear k1
            go_wp2
            obtain ⟨go, rfl⟩ : ∃ go, go = gk := ⟨_, rfl⟩
            go_loopg [9] vars.length (fun q t wr => ∃ x : Nat, q + x = vars.length ∧ t = .int .i64 x ∧ Hid (Below w1.heap.size w1 wr) ∧ Hid (∀ (j : Nat) b z, j < x → (boundsV g vars v)[j]? = some b → s[j]? = some z → b.1 ≤ z ∧ z ≤ b.2))
            case atStart => exact ⟨0, by omega, rfl, hbel, Lib.hid (fun j b z hj => absurd hj (by omega))⟩
            case round =>
              clear hbel Hbw hcs
              obtain ⟨x, hqx, rfl, hbel, hst⟩ := hrel
              have Hbw := Lib.hid (Hb1.out.trans (hbel.out.mono Hb1.out.size))
              have p0 := keepCells hbel.out _ _ q0
              have p1 := keepCells hbel.out _ _ q1
              have hszr : w.heap.size < wr.heap.size := World.block_lt_of_cell? _ _ p0
              by_cases hxl : x < vars.length
              · obtain ⟨b4, o4, rfl, hb4, hE⟩ := (show ∃ b off, A4 = some ⟨b, off, none⟩ ∧ b < w.heap.size ∧ ∀ j y, vars[j]? = some y → varE w b (off + j * 6) y by
                  obtain ⟨_, _, e, _, _, hh⟩ := Hv.out
                  cases e
                  exact hh (by omega))
                obtain ⟨⟨nm, kd, lo, hi', pn, pid⟩, hy⟩ : ∃ y, vars[x] = y := ⟨_, rfl⟩
                have hy? : vars[x]? = some ⟨nm, kd, lo, hi', pn, pid⟩ := by rw [List.getElem?_eq_getElem hxl, hy]
                obtain ⟨_, e1, e2, e3, e4, e5⟩ := hE x _ hy?
                simp only at e1 e2 e3 e4 e5
                obtain ⟨f1, f2, f3, f4⟩ := Hfit.out _ (List.mem_of_getElem? hy?)
                simp only at f1 f2 f3 f4
                have g1 := keepCells Hbw.out _ _ e1
                have g2 := keepCells Hbw.out _ _ e2
                have g3 := keepCells Hbw.out _ _ e3
                have g4 := keepCells Hbw.out _ _ e4
                have g5 := keepCells Hbw.out _ _ e5
                clear hE hy e1 e2 e3 e4 e5
                obtain ⟨f1a, f1b⟩ := f1
                obtain ⟨f2a, f2b⟩ := f2
                obtain ⟨f3a, f3b⟩ := f3
                obtain ⟨f4a, f4b⟩ := f4
                have m1 : 0 ≤ pn * (g.ports.length : Int) := Int.mul_nonneg f3a (by omega)
                have m2 : pn * (g.ports.length : Int) ≤ 1000 * 24 := Int.mul_le_mul f3b (by omega) (by omega) (by omega)
                have m3 : 0 ≤ pid * topID g := Int.mul_nonneg f4a htop1
                have m4 : pid * topID g ≤ 1000 * 255 := Int.mul_le_mul f4b htop2 htop1 (by omega)
                have hbb? : (boundsV g vars v)[x]? = some (boundV g v ⟨nm, kd, lo, hi', pn, pid⟩) := by simp [boundsV, hy?]
                obtain ⟨b7, o7, lv, rfl, hb7, hc70, hl7⟩ := rowsAt_at Hp.out (List.getElem?_eq_getElem hlt)
                obtain ⟨A8, c8, rfl, hF1, hF2⟩ := slAt_form hl7
                obtain ⟨ds, hds⟩ : ∃ ds, g.ports[v] = ds := ⟨_, rfl⟩
                have hdeg : degOf g v = ds.length := by simp [degOf, List.getD, List.getElem?_eq_getElem hlt, hds]
                rw [hds] at hc70 hF1
                have hxs : x < s.length := by rw [Hsl.out]; exact hxl
                obtain ⟨b5, o5, rfl, hb5, hc50, hr5⟩ := intsAt_at Hs.out hxs
                obtain ⟨z, hz⟩ : ∃ z, s[x] = z := ⟨_, rfl⟩
                have Hz? := Lib.hid (show s[x]? = some z by rw [List.getElem?_eq_getElem hxs, hz])
                rw [hz] at hc50 hr5
                obtain ⟨hr5a, hr5b⟩ := hr5
                have Hbv := Lib.hid (show boundV g v ⟨nm, kd, lo, hi', pn, pid⟩ = if kd = 2 then (0, 1) else if kd = 3 then (-1, (ds.length : Int) - 1) else (lo, hi' + pn * (g.ports.length : Int) + pid * topID g) by unfold boundV; rw [hdeg])
                have Hb? := Lib.hid hbb?
                have HX := Lib.hid (show _ ∧ _ ∧ _ from ⟨hc70, hc50, hcs0⟩)
                clear hbb? hl7 hds hdeg hz hy? hc70 hc50
                have s1 : IntKind.i64.wrap (pn * (g.ports.length : Int)) = pn * (g.ports.length : Int) := IntWalk.i64_in _ (by omega)
                have s2 : IntKind.i64.wrap (pid * topID g) = pid * topID g := IntWalk.i64_in _ (by omega)
                have s3 : IntKind.i64.wrap (hi' + pn * (g.ports.length : Int)) = hi' + pn * (g.ports.length : Int) := IntWalk.i64_in _ (by omega)
                have s4 : IntKind.i64.wrap (hi' + pn * (g.ports.length : Int) + pid * topID g) = hi' + pn * (g.ports.length : Int) + pid * topID g := IntWalk.i64_in _ (by omega)
                go_wp2
                go_region_held3 (fun w' => w'.cell? ⟨b4, o4 + x * 6 + 2, none⟩ = some (.int .i64 lo) ∧ w'.cell? ⟨b4, o4 + x * 6 + 3, none⟩ = some (.int .i64 hi') ∧ w'.cell? ⟨b4, o4 + x * 6 + 4, none⟩ = some (.int .i64 pn) ∧ w'.cell? ⟨b4, o4 + x * 6 + 5, none⟩ = some (.int .i64 pid) ∧ w'.cell? ⟨w.heap.size, 0, none⟩ = some i ∧ w'.cell? ⟨w.heap.size, 1, none⟩ = some (.slice (some ⟨b7, o7, none⟩) g.ports.length c2)) (first | go_keep | (refine ⟨?_, ?_, ?_, ?_, ?_, ?_⟩ <;> exact keepCells hbt _ _ (by assumption)))
                  (first | (go_at_call 79; refine (top_any _ g _ (hg0.out.below (by exact Hbw.out.drew))).mono ?_; rintro e wt ⟨rfl, hbt⟩))
                clear s1 s2 s3 s4 g2 g3 g4 g5 p0
                have HbT := Lib.hid (show Below w1.heap.size w1 wt from hbel.out.drew.trans (hbt.mono hbel.out.size))
                have HbU := Lib.hid (Hb1.out.trans (HbT.out.mono Hb1.out.size))
                have u1 := keepCells hbt _ _ g1
                have u2 := keepCells HbT.out _ _ q1
                have u3 := keepCells HbU.out _ _ HX.out.1
                have u4 := keepCells HbU.out _ _ HX.out.2.1
                have u5 := keepCells HbU.out _ _ HX.out.2.2
                have hH1 : -100000 ≤ hi' + pn * (g.ports.length : Int) + pid * topID g := by omega
                have hH2 : hi' + pn * (g.ports.length : Int) + pid * topID g ≤ 1000000 := by omega
                clear hbt g1 p1 m1 m2 m3 m4
                obtain ⟨H, hH⟩ : ∃ H, hi' + pn * (g.ports.length : Int) + pid * topID g = H := ⟨_, rfl⟩
                rw [hH] at Hbv hH1 hH2 ⊢
                clear hH
                by_cases d1 : kd = 2
                · have d1' : (kd == 2) = true := by simp [d1]
                  rw [if_pos d1] at Hbv
                  clear d1
                  by_cases t1 : 0 ≤ z ∧ z ≤ 1
                  · obtain ⟨t1a, t1b⟩ := t1
                    go_wp2_with fail
                    refine (In_t _ _ _ _ (by omega) (by omega)).mono ?_
                    rintro e w' ⟨rfl, rfl⟩
                    go_wp2
                    go_roundg (gk - 1)
                    case measure => omega
                    case rel =>
                      refine ⟨x + 1, by omega, by go_num, Lib.hid (by first | exact HbT.out | exact HbT.out.drew | exact below_drewN HbT.out _ | exact below_drewN HbT.out.drew _), Lib.hid (fun j b z' hj hb hz' => ?_)⟩
                      by_cases hjx : j < x
                      · exact hst.out j b z' hjx hb hz'
                      · obtain rfl : j = x := by omega
                        rw [Hb?.out, Hbv.out] at hb
                        rw [Hz?.out] at hz'
                        cases hb
                        cases hz'
                        exact ⟨t1a, t1b⟩
                  · have Hf := Lib.hid (Hbad.out (fun h => t1 (by have := h.2 x _ z Hb?.out Hz?.out; rw [Hbv.out] at this; exact this)))
                    have t2 : z < 0 ∨ 1 < z := by omega
                    clear t1
                    go_wp2_with fail
                    refine (In_f _ _ _ _ (by omega)).mono ?_
                    rintro e w' ⟨rfl, rfl⟩
                    go_wp2
                    go_ret
                    exact ⟨ret_bool Hf.out.symm, by first | exact HbU.out | exact HbU.out.drew | exact below_drewN HbU.out _ | exact below_drewN HbU.out.drew _⟩
                · have d1' : (kd == 2) = false := by simp [d1]
                  rw [if_neg d1] at Hbv
                  clear d1
                  by_cases d2 : kd = 3
                  · have d2' : (kd == 3) = true := by simp [d2]
                    rw [if_pos d2] at Hbv
                    clear d2
                    by_cases t1 : -1 ≤ z ∧ z ≤ (ds.length : Int) - 1
                    · obtain ⟨t1a, t1b⟩ := t1
                      go_wp2
                      go_quiet (fail)
                      go_wp2_with fail
                      refine (In_t _ _ _ _ (by omega) (by omega)).mono ?_
                      rintro e w' ⟨rfl, rfl⟩
                      go_wp2
                      go_roundg (gk - 1)
                      case measure => omega
                      case rel =>
                        refine ⟨x + 1, by omega, by go_num, Lib.hid (by first | exact HbT.out | exact HbT.out.drew | exact below_drewN HbT.out _ | exact below_drewN HbT.out.drew _), Lib.hid (fun j b z' hj hb hz' => ?_)⟩
                        by_cases hjx : j < x
                        · exact hst.out j b z' hjx hb hz'
                        · obtain rfl : j = x := by omega
                          rw [Hb?.out, Hbv.out] at hb
                          rw [Hz?.out] at hz'
                          cases hb
                          cases hz'
                          exact ⟨t1a, t1b⟩
                    · have Hf := Lib.hid (Hbad.out (fun h => t1 (by have := h.2 x _ z Hb?.out Hz?.out; rw [Hbv.out] at this; exact this)))
                      have t2 : z < -1 ∨ (ds.length : Int) - 1 < z := by omega
                      clear t1
                      go_wp2
                      go_quiet (fail)
                      go_wp2_with fail
                      refine (In_f _ _ _ _ (by omega)).mono ?_
                      rintro e w' ⟨rfl, rfl⟩
                      go_wp2
                      go_ret
                      exact ⟨ret_bool Hf.out.symm, by first | exact HbU.out | exact HbU.out.drew | exact below_drewN HbU.out _ | exact below_drewN HbU.out.drew _⟩
                  · have d2' : (kd == 3) = false := by simp [d2]
                    rw [if_neg d2] at Hbv
                    clear d2
                    by_cases t1 : lo ≤ z ∧ z ≤ H
                    · obtain ⟨t1a, t1b⟩ := t1
                      go_wp2_with fail
                      refine (In_t _ _ _ _ (by omega) (by omega)).mono ?_
                      rintro e w' ⟨rfl, rfl⟩
                      go_wp2
                      go_roundg (gk - 1)
                      case measure => omega
                      case rel =>
                        refine ⟨x + 1, by omega, by go_num, Lib.hid (by first | exact HbT.out | exact HbT.out.drew | exact below_drewN HbT.out _ | exact below_drewN HbT.out.drew _), Lib.hid (fun j b z' hj hb hz' => ?_)⟩
                        by_cases hjx : j < x
                        · exact hst.out j b z' hjx hb hz'
                        · obtain rfl : j = x := by omega
                          rw [Hb?.out, Hbv.out] at hb
                          rw [Hz?.out] at hz'
                          cases hb
                          cases hz'
                          exact ⟨t1a, t1b⟩
                    · have Hf := Lib.hid (Hbad.out (fun h => t1 (by have := h.2 x _ z Hb?.out Hz?.out; rw [Hbv.out] at this; exact this)))
                      have t2 : z < lo ∨ H < z := by omega
                      clear t1
                      go_wp2_with fail
                      refine (In_f _ _ _ _ (by omega)).mono ?_
                      rintro e w' ⟨rfl, rfl⟩
                      go_wp2
                      go_ret
                      exact ⟨ret_bool Hf.out.symm, by first | exact HbU.out | exact HbU.out.drew | exact below_drewN HbU.out _ | exact below_drewN HbU.out.drew _⟩
              · obtain rfl : x = vars.length := by omega
                go_wp2
                go_roundg (go - 1)
                case measure => omega
                case rel =>
                  refine ⟨v + 1, by omega, by go_num, hbel, Lib.hid (fun u s' hu hs' => ?_)⟩
                  by_cases huv : u < v
                  · exact hok.out u s' huv hs'
                  · obtain rfl : u = v := by omega
                    rw [Hs?.out] at hs'
                    cases hs'
                    refine ⟨by rw [boundsV_length, Hsl.out], fun j b z hb hz => hst.out j b z ?_ hb hz⟩
                    rw [← Hsl.out]
                    exact (List.getElem?_eq_some_iff.1 hz).1
          · have k1' : ((s.length : Int) != (vars.length : Int)) = true := by simp; omega
            have Hf := Lib.hid (Hbad.out (fun h => k1 (by rw [h.1, boundsV_length])))
            clear k1
            go_wp2
            go_ret
            exact ⟨ret_bool Hf.out.symm, Hbw.out⟩
        · obtain rfl : v = g.ports.length := by omega
          have Ht := Lib.hid (show refConfB g c vars = true by rw [Hrc.out]; exact confB_true ⟨Hn.out, fun v s hs => hok.out v s (by rw [← Hn.out]; exact (List.getElem?_eq_some_iff.1 hs).1) hs⟩)
          go_wp2
          go_ret
          exact ⟨ret_bool Ht.out.symm, Hbw.out⟩
    · have n1' : ((c.length : Int) != (g.ports.length : Int)) = true := by simp; omega
      have Hf := Lib.hid (show refConfB g c vars = false by rw [Hrc.out]; exact confB_false (fun h => n1 h.1))
      clear n1
      go_enter Try.func43, Try.ntmps43
      go_wp2_with fail
      refine (refValid_any _ g _ (hg0.out.below ((Below.refl _ _).alloc (Nat.le_refl _) _))).mono ?_
      rintro e w1 ⟨rfl, hb1⟩
      go_wp2_with fail
      go_ret
      exact ⟨ret_bool Hf.out.symm, belowA hb1⟩
end Go.Proofs.Ytlfojfndkcmfnaa
namespace Go.Proofs.Ytlfojfndkcmfnaa
open Go.RowKit

/-- The first place from k on that is accepted, -1 if there is none. -/
def firstFrom (acc : Int × Int → Bool) (ls : List (Int × Int)) (k : Nat) : Int := match (ls.drop k).findIdx? acc with | some j => (k : Int) + j | none => -1
theorem firstFrom_zero (acc : Int × Int → Bool) (ls : List (Int × Int)) : firstFrom acc ls 0 = firstP acc ls := by
  unfold firstFrom firstP
  rw [List.drop_zero]
  cases ls.findIdx? acc with
  | none => rfl
  | some j => simp
theorem firstFrom_len (acc : Int × Int → Bool) (ls : List (Int × Int)) : firstFrom acc ls ls.length = -1 := by simp [firstFrom]
theorem firstFrom_step (acc : Int × Int → Bool) (ls : List (Int × Int)) (k : Nat) (hk : k < ls.length) : firstFrom acc ls k = if acc ls[k] = true then (k : Int) else firstFrom acc ls (k + 1) := by
  unfold firstFrom
  rw [List.drop_eq_getElem_cons hk, List.findIdx?_cons]
  by_cases h : acc ls[k] = true
  · rw [if_pos h, if_pos h]
    simp
  · rw [if_neg h, if_neg h]
    cases (ls.drop (k + 1)).findIdx? acc with
    | none => rfl
    | some j => simp; omega

def treeOk (g : Gr) (D : List Int) (c : Conf) (d p v : Nat) : Prop := (c.getD v []).getD d 0 = D.getD v 0 ∧ (c.getD v []).getD p 0 = wayP g D v
instance (g : Gr) (D : List Int) (c : Conf) (d p v : Nat) : Decidable (treeOk g D c d p v) := by unfold treeOk; infer_instance
def treeB (g : Gr) (D : List Int) (c : Conf) (d p : Nat) : Bool := (List.range g.ports.length).all (fun v => decide (treeOk g D c d p v))

theorem treeB_false {g : Gr} {D : List Int} {c : Conf} {d p v : Nat} (hv : v < g.ports.length) (h : ¬ treeOk g D c d p v) : treeB g D c d p = false := by
  unfold treeB
  rw [List.all_eq_false]
  exact ⟨v, by simpa using hv, by simpa using h⟩
theorem treeB_true {g : Gr} {D : List Int} {c : Conf} {d p : Nat} (h : ∀ v, v < g.ports.length → treeOk g D c d p v) : treeB g D c d p = true := by
  unfold treeB
  rw [List.all_eq_true]
  exact fun v hv => decide_eq_true (h v (by simpa using hv))

set_option maxRecDepth 100000 in
set_option maxHeartbeats 4000000 in
theorem refTree_any (gv cv : Value) (g : Gr) (c : Conf) (a d p : Nat) (w : World) (hg : GrAt w gv g) (hc : RowsAt w cv c) (hgood : GoodG g) (ha : a < g.ports.length) (hn : c.length = g.ports.length) (hl : ∀ (v : Nat) s, c[v]? = some s → d < s.length ∧ p < s.length) :
    Calls Try.prog 45 #[gv, cv, .int .i64 a, .int .i64 d, .int .i64 p] w fun e w' => e = .returned (.bool (treeB g (distL g a) c d p)) ∧ Below w.heap.size w w' := by
  have hg0 := Lib.hid hg
  obtain ⟨i, q, rfl, hi, hp⟩ := hg
  obtain ⟨A2, c2, rfl, hB1, hB2⟩ := slAt_form hp
  obtain ⟨A3, c3, rfl, hC1, hC2⟩ := slAt_form hc
  have Hp := Lib.hid hp
  have Hc := Lib.hid hc
  have Hn := Lib.hid hn
  have Hl := Lib.hid hl
  have hn24 := hgood.2.1
  have Hgood := Lib.hid hgood
  have Hds := Lib.hid (show distsP g (a : Int) = distL g a from distsP_in ((validB_iff g).2 hgood) (by omega) (by omega))
  have Hdl := Lib.hid (distL_length hgood ha)
  have Hdb := Lib.hid (show ∀ x ∈ distL g a, -1 ≤ x ∧ x ≤ 1000 from fun x hx => by have := (distL_isDist hgood ha).bound hgood ha x hx; omega)
  clear hi hp hc hn hl hgood
  obtain ⟨D, hD⟩ : ∃ D, distL g a = D := ⟨_, rfl⟩
  rw [hD] at Hds Hdl Hdb ⊢
  clear hD
  go_enter Try.func45, Try.ntmps45
  go_wp2_with fail
  refine (refDistances_any _ g a _ (hg0.out.below ((Below.refl _ _).alloc (Nat.le_refl _) _)) ⟨by omega, by omega⟩).mono ?_
  rintro e w1 ⟨dv, rfl, hdv, hb1⟩
  rw [Hds.out] at hdv
  obtain ⟨q0, q1⟩ := newA2 hb1
  have Hb1 := Lib.hid (belowA hb1)
  obtain ⟨A4, c4, rfl, hD1, hD2⟩ := slAt_form hdv
  have Hdv := Lib.hid hdv
  clear hb1 hdv
  go_wp2
  go_loopg [12] g.ports.length (fun q t wr => ∃ v n : Nat, q + v = g.ports.length ∧ t = .int .i64 v ∧ wr = w1.drewN n ∧ Hid (∀ u, u < v → treeOk g D c d p u))
  case atStart => exact ⟨0, 0, by omega, rfl, rfl, Lib.hid (fun u hu => absurd hu (by omega))⟩
  case round =>
    obtain ⟨v, n, hq, rfl, rfl, hok⟩ := hrel
    by_cases hlt : v < g.ports.length
    · have hvc : v < c.length := by rw [Hn.out]; exact hlt
      have hvD : v < D.length := by rw [Hdl.out]; exact hlt
      obtain ⟨b3, off3, sv, rfl, hb3, hcs0, hs⟩ := rowsAt_at Hc.out (List.getElem?_eq_getElem hvc)
      have hcs := keepCells Hb1.out _ _ hcs0
      obtain ⟨s, hse⟩ : ∃ s, c[v] = s := ⟨_, rfl⟩
      have hs? : c[v]? = some s := by rw [List.getElem?_eq_getElem hvc, hse]
      rw [hse] at hs
      obtain ⟨hdl, hpl⟩ := Hl.out v s hs?
      obtain ⟨b5, o5, c5, rfl, hb5, hE1, hE2, hc50, _⟩ := IntsAt.at_ hs hdl
      obtain ⟨b5', o5', c5', e5, _, _, _, hc51, _⟩ := IntsAt.at_ hs hpl
      cases e5
      have hcd := keepCells Hb1.out _ _ hc50
      have hcp := keepCells Hb1.out _ _ hc51
      obtain ⟨b6, o6, c6, e6, hb6, _, _, hc6, _⟩ := IntsAt.at_ Hdv.out hvD
      cases e6
      obtain ⟨b7, o7, lv, rfl, hb7, hc70, hl7⟩ := rowsAt_at Hp.out (List.getElem?_eq_getElem hlt)
      have hc7 := keepCells Hb1.out _ _ hc70
      obtain ⟨A8, c8, rfl, hF1, hF2⟩ := slAt_form hl7
      obtain ⟨ls, hls⟩ : ∃ ls, g.ports[v] = ls := ⟨_, rfl⟩
      have Hlp := Lib.hid (show g.ports[v]? = some ls by rw [List.getElem?_eq_getElem hlt, hls])
      rw [hls] at hc7 hF1 hl7
      have Hl7 := Lib.hid (hl7.below Stable.link Hb1.out)
      have Hway := Lib.hid (show wayP g D v = firstFrom (towardP D v) ls 0 by rw [firstFrom_zero]; unfold wayP; rw [show g.ports.getD v [] = ls by simp [List.getD, Hlp.out]])
      have hDv := Hdb.out _ (List.getElem_mem hvD)
      obtain ⟨hDv1, hDv2⟩ := hDv
      have Hgd := Lib.hid (show D.getD v 0 = D[v] by simp [List.getD, hvD])
      have Hok := Lib.hid (show treeOk g D c d p v ↔ s[d] = D[v] ∧ s[p] = wayP g D v by
        unfold treeOk
        rw [show c.getD v [] = s by simp [List.getD, hs?], Hgd.out]
        simp [List.getD, hdl, hpl])
      obtain ⟨xd, hxd⟩ : ∃ xd, s[d] = xd := ⟨_, rfl⟩
      obtain ⟨xp, hxp⟩ : ∃ xp, s[p] = xp := ⟨_, rfl⟩
      obtain ⟨y, hy⟩ : ∃ y, D[v] = y := ⟨_, rfl⟩
      rw [hxd] at hcd Hok
      rw [hxp] at hcp Hok
      have hDgd : D.getD v 0 = y := Hgd.out.trans hy
      rw [hy] at hc6 hDv1 hDv2 Hok
      have HDgd := Lib.hid hDgd
      clear hcs0 hs hse hc50 hc51 hc70 hl7 hls hxd hxp hy hs? Hgd hDgd
      go_wp2
      obtain ⟨go, rfl⟩ : ∃ go, go = gk := ⟨_, rfl⟩
      go_loopg [13, 14] ls.length (fun q f t wr => ∃ k n : Nat, q = k ∧ k ≤ ls.length ∧ t = .int .i64 ((k : Int) - 1) ∧ wr = w1.drewN n ∧ f = .int .i64 (firstFrom (towardP D v) ls k))
      case atStart => exact ⟨ls.length, n, rfl, Nat.le_refl _, rfl, rfl, by rw [firstFrom_len]⟩
      case round =>
        obtain ⟨k, n, hgk0, hk, rfl, rfl, rfl⟩ := hrel
        have hgk : k ≤ gk := by omega
        clear hgk0
        by_cases hk0 : k = 0
        · subst hk0
          rw [show (((0 : Nat) : Int) - 1) = -1 by omega]
          obtain ⟨ff, hff⟩ : ∃ ff, firstFrom (towardP D v) ls 0 = ff := ⟨_, rfl⟩
          rw [hff] at Hway ⊢
          clear hff
          by_cases t1 : xd = y
          · have t1' : (xd != y) = false := by simp [t1]
            by_cases t2 : xp = ff
            · have t2' : (xp != ff) = false := by simp [t2]
              have Hg := Lib.hid (Hok.out.2 ⟨t1, by rw [Hway.out]; exact t2⟩)
              clear t1 t2
              go_wp2
              go_quiet (fail)
              go_wp2
              go_roundg (go - 1)
              case measure => omega
              case rel =>
                refine ⟨v + 1, _, by omega, by go_num, rfl, Lib.hid (fun u hu => ?_)⟩
                by_cases huv : u < v
                · exact hok.out u huv
                · obtain rfl : u = v := by omega
                  exact Hg.out
            · have t2' : (xp != ff) = true := by simp [t2]
              have Hf := Lib.hid (treeB_false (D := D) (c := c) (d := d) (p := p) hlt (fun h => t2 (by rw [← Hway.out]; exact (Hok.out.1 h).2)))
              clear t1 t2
              go_wp2
              go_quiet (fail)
              go_wp2
              go_ret
              exact ⟨ret_bool Hf.out.symm, below_drewN (below_drewN Hb1.out _) _⟩
          · have t1' : (xd != y) = true := by simp [t1]
            have Hf := Lib.hid (treeB_false (D := D) (c := c) (d := d) (p := p) hlt (fun h => t1 (Hok.out.1 h).1))
            clear t1
            go_wp2
            go_quiet (fail)
            go_wp2
            go_ret
            exact ⟨ret_bool Hf.out.symm, below_drewN (below_drewN Hb1.out _) _⟩
        · obtain ⟨m, rfl⟩ : ∃ m, k = m + 1 := ⟨k - 1, by omega⟩
          rw [show (((m + 1 : Nat) : Int) - 1) = (m : Int) by omega]
          have hml : m < ls.length := by omega
          obtain ⟨A9, c9, e9, _, _, hE⟩ := Hl7.out
          cases e9
          obtain ⟨b9, o9, rfl, hb9, hE⟩ := hE (by omega)
          obtain ⟨⟨l1, wt⟩, hle⟩ : ∃ l, ls[m] = l := ⟨_, rfl⟩
          have hl? : ls[m]? = some (l1, wt) := by rw [List.getElem?_eq_getElem hml, hle]
          obtain ⟨hx1, _, _, _⟩ := hE m _ hl?
          obtain ⟨k1, k2, k3, k4, k5⟩ := Hgood.out.link Hlp.out (List.mem_of_getElem? hl?)
          simp only at k1 k2 k3 k4 k5 hx1
          obtain ⟨u, rfl⟩ := Int.eq_ofNat_of_zero_le k1
          have huD : u < D.length := by rw [Hdl.out]; omega
          obtain ⟨b6', o6', c6', e6, _, _, _, hcu, _⟩ := IntsAt.at_ Hdv.out huD
          cases e6
          obtain ⟨x, hx⟩ : ∃ x, D[u] = x := ⟨_, rfl⟩
          have Hst := Lib.hid (firstFrom_step (towardP D v) ls m hml)
          rw [hle, show towardP D v ((u : Int), wt) = (x == y - 1) by unfold towardP; rw [HDgd.out]; simp [List.getD, huD, hx]] at Hst
          rw [hx] at hcu
          clear hE hle hl? hx k1 k3
          by_cases t1 : x = y - 1
          · have t1' : (x == y - 1) = true := by simp [t1]
            rw [t1', if_pos rfl] at Hst
            clear t1
            go_wp2
            go_quiet (fail)
            go_wp2
            go_roundg m
            case measure => omega
            case rel => exact ⟨m, _, rfl, by omega, rfl, rfl, by rw [Hst.out]⟩
          · have t1' : (x == y - 1) = false := by simp [t1]
            rw [t1', if_neg (by simp)] at Hst
            clear t1
            go_wp2
            go_quiet (fail)
            go_wp2
            go_roundg m
            case measure => omega
            case rel => exact ⟨m, _, rfl, by omega, rfl, rfl, by rw [Hst.out]⟩
    · obtain rfl : v = g.ports.length := by omega
      have Ht := Lib.hid (treeB_true (d := d) (p := p) (D := D) (c := c) hok.out)
      go_wp2
      go_ret
      exact ⟨ret_bool Ht.out.symm, below_drewN Hb1.out _⟩
end Go.Proofs.Ytlfojfndkcmfnaa
