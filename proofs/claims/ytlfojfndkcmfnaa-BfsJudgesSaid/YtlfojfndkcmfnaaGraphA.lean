/- Walk of graph.search. -/
import Derived.Test.YtlfojfndkcmfnaaRefB
import Derived.Test.YtlfojfndkcmfnaaOwn
import Derived.Test.YtlfojfndkcmfnaaPlainD
namespace Go.Proofs.Ytlfojfndkcmfnaa
open Go.RowKit

theorem fill_step (n k : Nat) (hk : k < n) : (List.replicate k (-1 : Int) ++ List.replicate (n - k) 0).set k (-1) = List.replicate (k + 1) (-1) ++ List.replicate (n - (k + 1)) 0 := by
  apply List.ext_getElem
  · simp; omega
  · intro i h1 h2
    rw [List.getElem_set]
    split
    · subst_vars
      rw [List.getElem_append_left (by simp)]
      simp
    · by_cases hi : i < k
      · rw [List.getElem_append_left (by simpa using hi), List.getElem_append_left (by simp; omega)]; simp
      · rw [List.getElem_append_right (by simp; omega), List.getElem_append_right (by simp; omega)]; simp

theorem unfound_start (g : Gr) (a : Nat) (h : g.ports.length ≤ 24) : 1 + unfound (start g a) ≤ 30 := by
  have h1 := List.countP_le_length (p := fun x : Int => decide (x < 0)) (l := start g a)
  have h2 : (start g a).length = g.ports.length := by simp [start]
  unfold unfound
  omega

set_option maxHeartbeats 2000000 in
theorem search_any (gv : Value) (g : Gr) (a : Nat) (w : World) (hg : GrAt w gv g) (hgood : GoodG g) (ha : a < g.ports.length) :
    Calls Try.prog 74 #[gv, .int .i64 a] w (RetInts (distL g a) w) := by
  have hn24 := hgood.2.1
  have Hgood := Lib.hid hgood
  clear hgood
  obtain ⟨i, p, rfl, hi, hp⟩ := hg
  obtain ⟨A2, c2, rfl, hB1, hB2⟩ := slAt_form hp
  have Hp := Lib.hid hp
  clear hi hp
  have hmk := run_makeInts g.ports.length (by omega)
  go_enter Try.func74, Try.ntmps74
  go_wp2
  go_loopg [17] g.ports.length (fun q t wr => ∃ k : Nat, q + k = g.ports.length ∧ t = .int .i64 k ∧ Hid (Below (w.heap.size + 1) (w.alloc (.cells #[i, .slice A2 g.ports.length c2] 25)) wr) ∧ Hid (IBlk wr (w.heap.size + 1) (List.replicate k (-1) ++ List.replicate (g.ports.length - k) 0)))
  case atStart =>
    refine ⟨0, by omega, rfl, Lib.hid ((Below.refl _ _).alloc (by simp) _), Lib.hid ?_⟩
    have := IBlk.new (w.alloc (.cells #[i, .slice A2 g.ports.length c2] 25)) (List.replicate g.ports.length (0 : Int))
    simpa using this
  case round =>
    obtain ⟨k, hq, rfl, hbel, hblk⟩ := hrel
    by_cases hlt : k < g.ports.length
    · obtain ⟨x, hx⟩ : ∃ x, wr.cell? ⟨w.heap.size + 1, k, none⟩ = some (.int .i64 x) := ⟨_, hblk.out.cell (by simp; omega)⟩
      have hf := hblk.out.frozen k
      go_wp2
      go_roundg (gk - 1)
      case measure => omega
      case rel =>
        refine ⟨k + 1, by omega, by go_num, Lib.hid (hbel.out.setCell (by simp) _), Lib.hid ?_⟩
        have := hblk.out.set_ k (-1)
        rwa [fill_step _ _ hlt] at this
    · obtain rfl : k = g.ports.length := by omega
      have hblk0 : IBlk wr (w.heap.size + 1) (List.replicate g.ports.length (-1)) := by simpa using hblk.out
      obtain ⟨x, hx⟩ : ∃ x, wr.cell? ⟨w.heap.size + 1, a, none⟩ = some (.int .i64 x) := ⟨_, hblk0.cell (by simpa using ha)⟩
      have hf := hblk0.frozen a
      have Hb0 := Lib.hid hblk0
      clear hblk0 hblk hmk
      go_wp2
      go_loopg [7] (1 + unfound (start g a)) (fun q t wr => ∃ R Q, q = Q.length + unfound R ∧ q ≤ 30 ∧ Hid (Below (w.heap.size + 1) (w.alloc (.cells #[i, .slice A2 g.ports.length c2] 25)) wr) ∧ Hid (IBlk wr (w.heap.size + 1) R) ∧ Hid (BfsInv g a R Q) ∧ Hid (Owns wr (w.heap.size + 2) 3 1 t Q.length (Q.map (fun q : Nat => Value.int .i64 (q : Int)))))
      case atStart =>
        refine ⟨start g a, [a], rfl, unfound_start g a hn24, Lib.hid ((hbel.out.setCell (by simp) _).alloc (by have := hbel.out.size; simp at this ⊢; omega) _), Lib.hid ((Hb0.out.set_ a 0).alloc _), Lib.hid (BfsInv.start ha), Lib.hid ?_⟩
        refine ⟨rfl, .inr ⟨_, 0, 1, #[.int .i64 (a : Int)], rfl, ?_, ?_, Nat.le_refl _, by simp [maxLen], by simp, ?_⟩⟩
        · have := Hb0.out.lt; simp; omega
        · have := heap_alloc_new (wr.setCell ⟨w.heap.size + 1, a, none⟩ (.int .i64 0)) (.cells #[.int .i64 (a : Int)] 3); simpa using this
        · intro j u hu
          simpa using hu
      case round =>
        clear hbel Hb0 hx hf
        obtain ⟨R, Q, hq, hq30, hbel, hblk, hinv, hown⟩ := hrel
        obtain ⟨AQ, cQ, rfl⟩ := hown.out.val
        cases Q with
        | nil =>
          have Hd := Lib.hid (hinv.out.isDist.unique (distL_isDist Hgood.out ha))
          go_wp2
          go_ret
          have h := hblk.out.ints (fun x hx => by have := hinv.out.isDist.bound Hgood.out ha x hx; unfold I64; omega) (by rw [hinv.out.len]; omega)
          rw [hinv.out.len, Hd.out] at h
          exact ⟨_, rfl, h, (box2 hbel.out).2.2.1⟩
        | cons v Q =>
          obtain ⟨gQ, oQ, cap, hv, hg1, hg2, hg3, hg4, hcell⟩ := hown.out.form (by simp)
          cases hv
          have hc0 := hcell 0 (.int .i64 (v : Int)) rfl
          simp only [Nat.add_zero] at hc0
          have Hcell := Lib.hid hcell
          obtain ⟨d, hd⟩ := hinv.out.qin v (by simp)
          have hvl : v < g.ports.length := by rw [← hinv.out.len]; exact (List.getElem?_eq_some_iff.1 hd).1
          obtain ⟨q0, q1, hbw, hsz⟩ := box2 hbel.out
          obtain ⟨b2, off2, lv, rfl, hb2, hclw, hls⟩ := rowsAt_at Hp.out (List.getElem?_eq_getElem hvl)
          have hcl := keepCells hbw _ _ hclw
          clear hclw
          obtain ⟨A3, c3, rfl, hl1, hl2⟩ := slAt_form hls
          obtain ⟨ls, hle⟩ : ∃ ls, g.ports[v] = ls := ⟨_, rfl⟩
          have Hlp := Lib.hid (show g.ports[v]? = some ls by rw [List.getElem?_eq_getElem hvl, hle])
          rw [hle] at hls hcl hl1
          have Hls := Lib.hid hls
          have Hin := Lib.hid (hinv.out.pop hd ls)
          have Hbw := Lib.hid hbw
          clear hle hls hbw hcell hinv hd
          simp only [List.length_cons] at hq hg3 hown hc0
          obtain ⟨i0, hi0, hz0, hz1, hz2⟩ := info_parts int_info
          obtain ⟨vQ, hsl, hoQ, hobQ⟩ := run_cut1 (P := Try.prog) Try.underlying22 hi0 hz1 hown.out (k := 1) (by simp) (by simp)
          simp only [Nat.add_sub_cancel, Nat.mul_one, List.map_cons, List.drop_succ_cons, List.drop_zero] at hoQ
          have hsl' : ∀ W, (Instr.slice 22 (.slice (some ⟨gQ, oQ, none⟩) (Q.length + 1) cQ) (some (.int .i64 1)) none none).run Try.prog W = .ok vQ W := fun W => by simpa using hsl W
          have HoQ := Lib.hid hoQ
          have Hi0 := Lib.hid (show _ ∧ _ ∧ _ ∧ _ from ⟨hi0, hz0, hz1, hz2⟩)
          clear hoQ hown hsl hobQ hi0 hz0 hz1 hz2
          unfold maxLen at hg4
          go_wp2
          clear hsl'
          obtain ⟨go, rfl⟩ : ∃ go, go = gk := ⟨_, rfl⟩
          go_loopg [43, 7] ls.length (fun q t tq wr => ∃ (k : Nat) (R : List Int) (Q : List Nat), q + k = ls.length ∧ t = .int .i64 k ∧ Hid (go = Q.length + 1 + unfound R) ∧ Hid (Below (w.heap.size + 1) (w.alloc (.cells #[i, .slice (some ⟨b2, off2, none⟩) g.ports.length c2] 25)) wr) ∧ Hid (IBlk wr (w.heap.size + 1) R) ∧ Hid (BfsIn g a v d ls k R Q) ∧ Hid (Owns wr (w.heap.size + 2) 3 1 tq Q.length (Q.map (fun q : Nat => Value.int .i64 (q : Int)))))
          case atStart => exact ⟨0, R, Q, by omega, rfl, Lib.hid (by omega), hbel, hblk, Hin, HoQ⟩
          case round =>
            clear hbel hblk Hin HoQ hq hcl q0 q1 Hbw hsz
            obtain ⟨k, R, Q, hq, rfl, Hgk, hbel, hblk, Hin, HoQ⟩ := hrel
            by_cases hlt : k < ls.length
            · obtain ⟨q0, q1, hbw, hsz⟩ := box2 hbel.out
              have Hbw := Lib.hid hbw
              obtain ⟨A4, c4, e4, _, _, hE⟩ := Hls.out.below Stable.link hbw
              cases e4
              obtain ⟨b3, off3, rfl, hb3, hE⟩ := hE (by omega)
              obtain ⟨⟨l1, wt⟩, hle⟩ : ∃ l, ls[k] = l := ⟨_, rfl⟩
              have hl? : ls[k]? = some (l1, wt) := by rw [List.getElem?_eq_getElem hlt, hle]
              obtain ⟨hx1, hx2, ⟨hr1, hr2⟩, ⟨hr3, hr4⟩⟩ := hE k _ hl?
              obtain ⟨k1, k2, k3, k4, k5⟩ := Hgood.out.link Hlp.out (List.mem_of_getElem? hl?)
              simp only at k1 k2 k3 k4 k5 hx1 hx2 hr1 hr2 hr3 hr4
              obtain ⟨u, rfl⟩ := Int.eq_ofNat_of_zero_le k1
              have hul : u < R.length := by rw [Hin.out.len]; omega
              have hvR : v < R.length := by rw [Hin.out.len]; omega
              have hRv : R[v]? = some (d : Int) := Hin.out.rv
              have hcv := hblk.out.cell hvR
              rw [show R[v] = (d : Int) by have := List.getElem?_eq_getElem hvR; rw [hRv] at this; exact (Option.some.inj this).symm] at hcv
              have hcu := hblk.out.cell hul
              have hfu := hblk.out.frozen u
              have hd24 : d < g.ports.length := by
                rcases Hin.out.val v _ hRv with e | ⟨k', e, h1, h2⟩
                · omega
                · obtain rfl : d = k' := by omega
                  exact dist_lt Hgood.out ha h1 h2
              have hle1 : ls[k].1 = (u : Int) := by rw [hle]
              have hRu : R[u]? = some R[u] := List.getElem?_eq_getElem hul
              have hB : w.heap.size + 1 < wr.heap.size := hblk.out.lt
              clear hE hl? hle hbw k1 k3 hRv
              by_cases hneg : R[u] < 0
              · have hRm : R[u]? = some (-1) := by
                  rcases Hin.out.val u _ hRu with e | ⟨k', e, _⟩
                  · exact hRu.trans (congrArg some e)
                  · exact absurd e (by omega)
                have Hd := Lib.hid (Hin.out.discover Hlp.out hlt hle1 hRm)
                have Hun := Lib.hid (unfound_set (R := R) (u := u) (x := (d : Int) + 1) hRm (by omega))
                clear hRu hRm hle1
                go_wp2
                go_region
                go_wp2_with (at_builtin; refine wpList_append_owns _ rfl _ _ 22 rfl (w.heap.size + 2) 3 i0 (.int .i64 0) 1 8 Try.underlying22 Hi0.out.1 Hi0.out.2.1 Hi0.out.2.2.1 Hi0.out.2.2.2 rfl (by decide) u7 Q.length (Q.map (fun q : Nat => Value.int .i64 (q : Int))) (by rfl) ?hown _ 1 1 [.int .i64 (u : Int)] (by rfl) rfl ?c1 ?c2 ?c3 ?c4 ?c5 ?_)
                case hown => exact (((HoQ.out.low (p := ⟨w.heap.size + 1, u, none⟩) (by simp) _).alloc _).alloc _).drew
                case c1 => exact cell_one (by simp)
                case c2 => simp [Value.oneCell']
                case c3 => have := Hgk.out; simp only [maxLen]; omega
                case c4 => have := Hgk.out; omega
                case c5 => simp; omega
                intro vQ' w' hown' hgr hob
                have hgo := Hgk.out
                have Hown := Lib.hid hown'
                have Hgr := Lib.hid hgr
                clear hown' hgr hob
                go_wp2
                go_roundg (gk - 1)
                case measure => omega
                case rel =>
                  have hb1 := (((hbel.out.setCell (p := ⟨w.heap.size + 1, u, none⟩) (by simp) (.int .i64 ((d : Int) + 1))).alloc (by simp; omega) (.cells #[.int .i64 (u : Int), .int .i64 wt] 54)).alloc (by simp; omega) (.cells #[.int .i64 (u : Int)] 3)).drew
                  have hk1 := ((((hblk.out.set_ u ((d : Int) + 1)).alloc (.cells #[.int .i64 (u : Int), .int .i64 wt] 54)).alloc (.cells #[.int .i64 (u : Int)] 3)).drew)
                  refine ⟨k + 1, R.set u ((d : Int) + 1), Q ++ [u], by omega, by go_num, Lib.hid ?_, Lib.hid (hb1.grown Hgr.out (by simp; omega) (fun x hx => ?_)), Lib.hid (hk1.grown Hgr.out (fun e => ?_)), Hd, Lib.hid ?_⟩
                  · have := Hun.out; simp; omega
                  · have := (HoQ.out.lt hx).1; omega
                  · have := (HoQ.out.lt e.symm).1; omega
                  · have := Hown.out
                    simpa using this
              · have hpos : 0 ≤ R[u] := by omega
                obtain ⟨j, hj⟩ := Int.eq_ofNat_of_zero_le hpos
                have Hsk := Lib.hid (Hin.out.skip hlt (j := j) (by rw [hle1, Int.toNat_natCast, hRu, hj]))
                clear hRu hle1 hj
                go_wp2
                have hgo := Hgk.out
                go_roundg (gk - 1)
                case measure => omega
                case rel => exact ⟨k + 1, R, Q, by omega, by go_num, Hgk, Lib.hid (hbel.out.alloc (by omega) _), Lib.hid (hblk.out.alloc _), Hsk, Lib.hid (HoQ.out.alloc _)⟩
            · obtain rfl : k = ls.length := by omega
              go_wp2
              have hgo := Hgk.out
              go_roundg (Q.length + unfound R)
              case measure => omega
              case rel => exact ⟨R, Q, rfl, by omega, hbel, hblk, Lib.hid (Hin.out.finish Hlp.out), HoQ⟩
end Go.Proofs.Ytlfojfndkcmfnaa
