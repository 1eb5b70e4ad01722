/- Walk of the reference's Distances. -/
import Derived.Test.YtlfojfndkcmfnaaRefB
import Derived.Test.YtlfojfndkcmfnaaOwn
import Derived.Test.YtlfojfndkcmfnaaPlainF
namespace Go.Proofs.Ytlfojfndkcmfnaa
open Go.RowKit

theorem hasAt_snoc (R : List Int) (x : Int) (ls : List (Int × Int)) (i : Nat) (hi : i < ls.length) : hasAt R x (ls.take (i + 1)) = (hasAt R x (ls.take i) || decide (R[ls[i].1.toNat]? = some x)) := by
  unfold hasAt
  rw [take_snoc ls i hi, List.any_append]
  simp

/-- After D - 1 layers. -/
def layers (g : Gr) (a D : Nat) : List Int := (List.range (D - 1)).foldl (fun R d => stepD g R (d + 1)) (start g a)
theorem layers_step (g : Gr) (a : Nat) {D : Nat} (hD : 1 ≤ D) : layers g a (D + 1) = stepD g (layers g a D) D := by
  obtain ⟨k, rfl⟩ : ∃ k, D = k + 1 := ⟨D - 1, by omega⟩
  unfold layers
  rw [Nat.add_sub_cancel, List.range_succ, List.foldl_append]
  rfl
def nodesTo (g : Gr) (R : List Int) (D v : Nat) : List Int := (List.range v).foldl (stepV g D) R
theorem nodesTo_step (g : Gr) (R : List Int) (D v : Nat) : nodesTo g R D (v + 1) = stepV g D (nodesTo g R D v) v := by
  unfold nodesTo
  rw [List.range_succ, List.foldl_append]
  rfl
theorem map_set_int (R : List Int) (k : Nat) (x : Int) : (R.map (Value.int .i64)).set k (.int .i64 x) = (R.set k x).map (Value.int .i64) := by rw [List.map_set]
theorem start_cells (g : Gr) (a : Nat) : ((List.replicate g.ports.length (-1 : Int)).map (Value.int .i64)).set a (.int .i64 0) = (start g a).map (Value.int .i64) := by rw [map_set_int]; rfl

set_option maxHeartbeats 4000000 in
theorem refDistances_any (gv : Value) (g : Gr) (v : Int) (w : World) (hg : GrAt w gv g) (hv64 : I64 v) :
    Calls Try.prog 76 #[gv, .int .i64 v] w (RetInts (distsP g v) w) := by
  have hg0 := Lib.hid hg
  obtain ⟨i, p, rfl, hi, hp⟩ := hg
  obtain ⟨A2, c2, rfl, hB1, hB2⟩ := slAt_form hp
  have Hp := Lib.hid hp
  clear hi hp
  cases hc : validB g with
  | false =>
    have Hf := Lib.hid (show distsP g v = [] from distsP_out (by simp [hc]))
    go_enter Try.func76, Try.ntmps76
    go_wp2_with fail
    refine (refValid_any _ g _ (hg0.out.below ((Below.refl _ _).alloc (Nat.le_refl _) _))).mono ?_
    rintro e w1 ⟨rfl, hb1⟩
    go_wp2_with fail
    go_ret
    exact ⟨_, rfl, by rw [Hf.out]; exact SlAt.nil _, belowA hb1⟩
  | true =>
    have hgood := (validB_iff g).1 hc
    have hn1 := hgood.1
    have hn24 := hgood.2.1
    have Hgood := Lib.hid hgood
    clear hgood
    obtain ⟨hv1, hv2⟩ := hv64
    by_cases c2 : 0 ≤ v ∧ v < g.ports.length
    · obtain ⟨c2a, c2b⟩ := c2
      obtain ⟨a, rfl⟩ := Int.eq_ofNat_of_zero_le c2a
      have Hf := Lib.hid (show distsP g a = distL g a from distsP_in hc (by omega) c2b)
      have ha : a < g.ports.length := by omega
      go_enter Try.func76, Try.ntmps76
      go_wp2_with fail
      refine (refValid_any _ g _ (hg0.out.below ((Below.refl _ _).alloc (Nat.le_refl _) _))).mono ?_
      rintro e w1 ⟨rfl, hb1⟩
      obtain ⟨q0, q1⟩ := newA2 hb1
      have Hb1 := Lib.hid hb1
      clear hb1
      go_wp2_with fail
      refine (In_t _ _ _ _ (by omega) (by omega)).mono ?_
      rintro e w1' ⟨rfl, rfl⟩
      go_wp2_with fail
      obtain ⟨i0, hi0, hz0, hz1, hz2⟩ := info_parts int_info
      have Hi0 := Lib.hid (show _ ∧ _ ∧ _ ∧ _ from ⟨hi0, hz0, hz1, hz2⟩)
      clear hi0 hz0 hz1 hz2
      obtain ⟨W1, hW1⟩ : ∃ W, W = w.alloc (.cells #[i, .slice A2 g.ports.length c2] 25) := ⟨_, rfl⟩
      have HB := Lib.hid (show ∀ wr, Below (w.heap.size + 1) W1 wr → wr.cell? ⟨w.heap.size, 0, none⟩ = some i ∧ wr.cell? ⟨w.heap.size, 1, none⟩ = some (.slice A2 g.ports.length c2) ∧ Below w.heap.size w wr ∧ w.heap.size < wr.heap.size by subst hW1; exact fun wr h => box2 h)
      have Hb1' := Lib.hid (show Below (w.heap.size + 1) W1 w1 by subst hW1; simpa using Hb1.out)
      clear hW1 Hb1
      go_loopg [6, 7] g.ports.length (fun q t6 t wr => ∃ k : Nat, q + k = g.ports.length ∧ t = .int .i64 k ∧ Hid (Below (w.heap.size + 1) W1 wr) ∧ Hid (Owns wr (w.heap.size + 1) 3 1 t6 k ((List.replicate k (-1 : Int)).map (Value.int .i64))))
      case atStart => exact ⟨0, by omega, rfl, Hb1', Lib.hid (Owns.nil _ _ _ _)⟩
      case round =>
        clear q0 q1 Hb1'
        obtain ⟨k, hq, rfl, hbel, hown⟩ := hrel
        have hsz := (HB.out _ hbel.out).2.2.2
        by_cases hlt : k < g.ports.length
        · go_wp2_with (at_builtin; refine wpList_append_owns _ rfl _ _ 22 rfl (w.heap.size + 1) 3 i0 (.int .i64 0) 1 8 Try.underlying22 Hi0.out.1 Hi0.out.2.1 Hi0.out.2.2.1 Hi0.out.2.2.2 rfl (by decide) u6 k ((List.replicate k (-1 : Int)).map (Value.int .i64)) (by rfl) (hown.out.alloc _) _ 1 1 [.int .i64 (-1)] (by rfl) rfl (cell_one rfl) (by simp [Value.oneCell']) (by simp only [maxLen]; omega) (by omega) (by simp; omega) ?_; intro v' w' hown' hgr hob)
          have Hown := Lib.hid hown'
          have Hgr := Lib.hid hgr
          clear hown' hgr hob
          go_wp2
          go_roundg (gk - 1)
          case measure => omega
          case rel =>
            refine ⟨k + 1, by omega, by go_num, Lib.hid ((hbel.out.alloc (by omega) _).grown Hgr.out (by simp; omega) (fun x hx => (hown.out.lt hx).1)), Lib.hid ?_⟩
            have := Hown.out
            rwa [← List.map_singleton (f := Value.int .i64), ← List.map_append, ← List.replicate_succ'] at this
        · obtain rfl : k = g.ports.length := by omega
          obtain ⟨gO, oO, cO, rfl, hO1, hO2, hO3, hO4, hO5⟩ := hown.out.form (by omega)
          unfold maxLen at hO4
          have hca := hO5 a (.int .i64 (-1)) (by simp [ha])
          have hfa := hown.out.frozen (oO + a)
          clear hO5
          go_wp2
          go_loopg [8] (g.ports.length - 1) (fun q t wr => ∃ D : Nat, 1 ≤ D ∧ q + D = g.ports.length ∧ t = .int .i64 D ∧ Hid (Below (w.heap.size + 1) W1 wr) ∧ Hid (Owns wr (w.heap.size + 1) 3 1 (.slice (some ⟨gO, oO, none⟩) g.ports.length cO) g.ports.length ((layers g a D).map (Value.int .i64))))
          case atStart =>
            refine ⟨1, Nat.le_refl _, by omega, rfl, Lib.hid (hbel.out.setCell (by simp; omega) _), Lib.hid ?_⟩
            have := hown.out.store1 ha (.int .i64 0)
            rw [start_cells] at this
            exact this
          case round =>
            clear hbel hown hca hfa hsz hO2
            obtain ⟨D, hD1, hq, rfl, hbel, hown⟩ := hrel
            by_cases hlt : D < g.ports.length
            · go_wp2
              obtain ⟨go, rfl⟩ : ∃ go, go = gk := ⟨_, rfl⟩
              go_loopg [9] g.ports.length (fun q t wr => ∃ v : Nat, q + v = g.ports.length ∧ t = .int .i64 v ∧ Hid (Below (w.heap.size + 1) W1 wr) ∧ Hid (Owns wr (w.heap.size + 1) 3 1 (.slice (some ⟨gO, oO, none⟩) g.ports.length cO) g.ports.length ((nodesTo g (layers g a D) D v).map (Value.int .i64))))
              case atStart => exact ⟨0, by omega, rfl, hbel, hown⟩
              case round =>
                clear hbel hown
                obtain ⟨v, hqv, rfl, hbel, hown⟩ := hrel
                by_cases hvlt : v < g.ports.length
                · obtain ⟨R, hR⟩ : ∃ R, nodesTo g (layers g a D) D v = R := ⟨_, rfl⟩
                  have Hst := Lib.hid (nodesTo_step g (layers g a D) D v)
                  rw [hR] at hown Hst
                  clear hR
                  have Hlen := Lib.hid (show R.length = g.ports.length by have := hown.out.1; simpa using this)
                  obtain ⟨b2, off2, lv, rfl, hb2, hclw, hls⟩ := rowsAt_at Hp.out (List.getElem?_eq_getElem hvlt)
                  obtain ⟨A3, c3, rfl, hl1, hl2⟩ := slAt_form hls
                  obtain ⟨ls, hle⟩ : ∃ ls, g.ports[v] = ls := ⟨_, rfl⟩
                  have Hlp := Lib.hid (show g.ports[v]? = some ls by rw [List.getElem?_eq_getElem hvlt, hle])
                  rw [hle] at hls hclw hl1
                  have Hls := Lib.hid hls
                  have Hst2 := Lib.hid (show stepV g D R v = if decide (R.getD v 0 < 0) && hasAt R ((D : Int) - 1) ls then R.set v D else R by
                    unfold stepV; rw [show g.ports.getD v [] = ls by simp [List.getD, Hlp.out]])
                  clear hle hls
                  have hRv : v < R.length := by rw [Hlen.out]; exact hvlt
                  obtain ⟨xv, hxv⟩ : ∃ x, R[v] = x := ⟨_, rfl⟩
                  have Hgd := Lib.hid (show R.getD v 0 = xv by simp [List.getD, hRv, hxv])
                  clear hxv
                  go_wp2
                  obtain ⟨gv, rfl⟩ : ∃ gv, gv = gk := ⟨_, rfl⟩
                  go_loopg [10] ls.length (fun q t wr => ∃ i : Nat, q + i = ls.length ∧ t = .int .i64 i ∧ Hid (Below (w.heap.size + 1) W1 wr) ∧ ∃ R' x, R'[v]? = some x ∧ Hid (Owns wr (w.heap.size + 1) 3 1 (.slice (some ⟨gO, oO, none⟩) g.ports.length cO) g.ports.length (R'.map (Value.int .i64))) ∧ Hid ((R' = R ∧ x = xv ∧ hasAt R ((D : Int) - 1) (ls.take i) = false) ∨ (R' = stepV g D R v ∧ 0 ≤ x)))
                  case atStart => exact ⟨0, by omega, rfl, hbel, R, xv, by rw [List.getElem?_eq_getElem hRv]; have := Hgd.out; simp [List.getD, hRv] at this; rw [this], hown, Lib.hid (.inl ⟨rfl, rfl, by simp [hasAt]⟩)⟩
                  case round =>
                    clear hbel hown
                    obtain ⟨i, hqi, rfl, hbel, R', x, hx, hown, hdis⟩ := hrel
                    obtain ⟨p0, p1, hbw, hsz⟩ := HB.out _ hbel.out
                    have hcl := keepCells hbw _ _ hclw
                    have Hlen' := Lib.hid (show R'.length = g.ports.length by have := hown.out.1; simpa using this)
                    obtain ⟨_, _, _, e5, _, _, _, _, hO5⟩ := hown.out.form (by omega)
                    cases e5
                    have hcv := hO5 v (.int .i64 x) (by simp [hx])
                    have hfv := hown.out.frozen (oO + v)
                    have Hx := Lib.hid hx
                    have HO5 := Lib.hid hO5
                    have Hbw := Lib.hid hbw
                    clear hx hO5 hbw
                    by_cases hil : i < ls.length
                    · obtain ⟨A4, c4, e4, _, _, hE⟩ := Hls.out.below Stable.link Hbw.out
                      cases e4
                      obtain ⟨b3, off3, rfl, hb3, hE⟩ := hE (by omega)
                      obtain ⟨⟨l1, wt⟩, hle⟩ : ∃ l, ls[i] = l := ⟨_, rfl⟩
                      have hl? : ls[i]? = some (l1, wt) := by rw [List.getElem?_eq_getElem hil, hle]
                      obtain ⟨hx1, hx2, ⟨hr1, hr2⟩, ⟨hr3, hr4⟩⟩ := hE i _ hl?
                      obtain ⟨k1, k2, k3, k4, k5⟩ := Hgood.out.link Hlp.out (List.mem_of_getElem? hl?)
                      simp only at k1 k2 k3 k4 k5 hx1 hx2 hr1 hr2 hr3 hr4
                      obtain ⟨u, rfl⟩ := Int.eq_ofNat_of_zero_le k1
                      have Hl? := Lib.hid hl?
                      have Hsn := Lib.hid (hasAt_snoc R ((D : Int) - 1) ls i hil)
                      rw [hle] at Hsn
                      have HE := Lib.hid hE
                      clear hE hl? hle k1 k3
                      by_cases c2 : x < 0
                      · have Hin := Lib.hid (show R' = R ∧ x = xv ∧ hasAt R ((D : Int) - 1) (ls.take i) = false by
                          rcases hdis.out with h | h
                          · exact h
                          · omega)
                        have hul : u < R'.length := by rw [Hlen'.out]; omega
                        obtain ⟨y, hy⟩ : ∃ y, R'[u]? = some y := ⟨_, List.getElem?_eq_getElem hul⟩
                        have hcu := HO5.out u (.int .i64 y) (by simp [hy])
                        have Hy := Lib.hid hy
                        clear hy
                        by_cases c3 : y = (D : Int) - 1
                        · have c3' : (y == (D : Int) - 1) = true := by simp [c3]
                          have Hset := Lib.hid (show stepV g D R v = R'.set v D by
                            obtain ⟨e1, e2, _⟩ := Hin.out
                            rw [Hst2.out, Hgd.out, if_pos, e1]
                            rw [Bool.and_eq_true]
                            refine ⟨decide_eq_true (by omega), ?_⟩
                            unfold hasAt
                            rw [List.any_eq_true]
                            refine ⟨_, List.mem_of_getElem? Hl?.out, decide_eq_true ?_⟩
                            simp only [Int.toNat_natCast]
                            rw [← e1, Hy.out, c3])
                          clear c3
                          go_wp2
                          go_roundg (gk - 1)
                          case measure => omega
                          case rel =>
                            refine ⟨i + 1, by omega, by go_num, Lib.hid (hbel.out.setCell (by simp; omega) _), R'.set v D, D, by rw [List.getElem?_set, if_pos rfl, if_pos (by rw [Hlen'.out]; exact hvlt)], Lib.hid ?_, Lib.hid (.inr ⟨Hset.out.symm, by omega⟩)⟩
                            rw [← map_set_int]
                            exact hown.out.store1 hvlt _
                        · have c3' : (y == (D : Int) - 1) = false := by simp [c3]
                          have Hno := Lib.hid (show hasAt R ((D : Int) - 1) (ls.take (i + 1)) = false by
                            obtain ⟨e1, e2, e3⟩ := Hin.out
                            rw [Hsn.out, e3, Bool.false_or, decide_eq_false_iff_not]
                            simp only [Int.toNat_natCast]
                            rw [← e1, Hy.out]
                            simpa using c3)
                          clear c3
                          go_wp2
                          go_roundg (gk - 1)
                          case measure => omega
                          case rel => exact ⟨i + 1, by omega, by go_num, hbel, R', x, Hx.out, hown, Lib.hid (.inl ⟨Hin.out.1, Hin.out.2.1, Hno.out⟩)⟩
                      · have Hend := Lib.hid (show R' = stepV g D R v by
                          rcases hdis.out with ⟨e1, e2, _⟩ | ⟨e1, _⟩
                          · rw [Hst2.out, Hgd.out, if_neg, e1]
                            rw [Bool.and_eq_true]
                            intro h
                            have := of_decide_eq_true h.1
                            omega
                          · exact e1)
                        go_wp2
                        go_roundg (gv - 1)
                        case measure => omega
                        case rel => exact ⟨v + 1, by omega, by go_num, hbel, Lib.hid (by rw [Hst.out, ← Hend.out]; exact hown.out)⟩
                    · obtain rfl : i = ls.length := by omega
                      have Hend := Lib.hid (show R' = stepV g D R v by
                        rcases hdis.out with ⟨e1, e2, e3⟩ | ⟨e1, _⟩
                        · rw [List.take_length] at e3
                          rw [Hst2.out, e3, Bool.and_false, if_neg (by simp), e1]
                        · exact e1)
                      go_wp2
                      go_roundg (gv - 1)
                      case measure => omega
                      case rel => exact ⟨v + 1, by omega, by go_num, hbel, Lib.hid (by rw [Hst.out, ← Hend.out]; exact hown.out)⟩
                · obtain rfl : v = g.ports.length := by omega
                  go_wp2
                  go_roundg (go - 1)
                  case measure => omega
                  case rel => exact ⟨D + 1, by omega, by omega, by go_num, hbel, Lib.hid (by rw [layers_step g a hD1]; exact hown.out)⟩
            · obtain rfl : D = g.ports.length := by omega
              go_wp2
              go_ret
              refine ⟨_, rfl, ?_, (HB.out _ hbel.out).2.2.1⟩
              rw [Hf.out]
              exact hown.out.ints (fun x hx => by have := (distL_isDist Hgood.out ha).bound Hgood.out ha x hx; unfold I64; omega)
    · have Hf := Lib.hid (show distsP g v = [] from distsP_out (by omega))
      have c3 : v < 0 ∨ (g.ports.length : Int) - 1 < v := by omega
      clear c2
      go_enter Try.func76, Try.ntmps76
      go_wp2_with fail
      refine (refValid_any _ g _ (hg0.out.below ((Below.refl _ _).alloc (Nat.le_refl _) _))).mono ?_
      rintro e w1 ⟨rfl, hb1⟩
      obtain ⟨q0, q1⟩ := newA2 hb1
      have Hb1 := Lib.hid (belowA hb1)
      clear hb1
      go_wp2_with fail
      refine (In_f _ _ _ _ (by omega)).mono ?_
      rintro e w1' ⟨rfl, rfl⟩
      go_wp2_with fail
      go_ret
      exact ⟨_, rfl, by rw [Hf.out]; exact SlAt.nil _, Hb1.out⟩
end Go.Proofs.Ytlfojfndkcmfnaa
