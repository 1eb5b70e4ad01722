/- Walk of graph.symmetric. -/
import Derived.Test.YtegpikhfnhcjaaaGreatSlB
import Derived.Test.YtegpikhfnhcjaaaGreatMapB
import Derived.Test.YtegpikhfnhcjaaaGreatPlainE
namespace Go.Proofs.YtegpikhfnhcjaaaGreat
open Go.RowKit

theorem linksOk_full {ls : List (Int × Int)} {v n : Int} (h : linksOk (ls.take ls.length) v n) : linksOk ls v n := by rwa [List.take_length] at h

set_option maxHeartbeats 2000000 in
theorem symmetric_any (pv : Value) (ports : Ports) (w : World) (hp : PortsAt w pv ports) (hn : ports.length ≤ 1000) :
    Calls Tryz.prog 32 #[pv] w fun e w' => e = .returned (.bool (symB ports)) ∧ Below w.heap.size w w' := by
  obtain ⟨A2, c2, rfl, hB1, hB2⟩ := slAt_form hp
  have Hp := Lib.hid hp
  clear hp
  have hmm := @run_makeMap Tryz.prog
  go_enter Tryz.func32, Tryz.ntmps32
  go_wp2
  clear hmm
  go_loopg [16] ports.length (fun q t wr => ∃ v : Nat, q + v = ports.length ∧ t = .int .i64 v ∧ Hid (Below w.heap.size w wr) ∧ Hid (PMap wr w.heap.size (trisTo ports v)) ∧ Hid (∀ (u : Nat) ls, u < v → ports[u]? = some ls → linksOk ls u ports.length))
  case atStart => exact ⟨0, by omega, rfl, Lib.hid ((Below.refl _ _).alloc (Nat.le_refl _) _), Lib.hid (heap_alloc_new w _), Lib.hid (fun u ls hu => absurd hu (by omega))⟩
  case round =>
    obtain ⟨v, hq, rfl, hbel, hmap, hlk⟩ := hrel
    by_cases hlt : v < ports.length
    · obtain ⟨b2, off2, lv, rfl, hb2, hcl, hls⟩ := rowsAt_at Hp.out (List.getElem?_eq_getElem hlt)
      obtain ⟨A3, c3, rfl, hl1, hl2⟩ := slAt_form hls
      have hcl' := keepCells hbel.out _ _ hcl
      clear hcl
      obtain ⟨ls, hle⟩ : ∃ ls, ports[v] = ls := ⟨_, rfl⟩
      have Hlp := Lib.hid (show ports[v]? = some ls by rw [List.getElem?_eq_getElem hlt, hle])
      rw [hle] at hls hcl' hl1
      have Hls := Lib.hid hls
      clear hls hle
      go_wp2
      obtain ⟨go, rfl⟩ : ∃ go, go = gk := ⟨_, rfl⟩
      go_loopg [23] ls.length (fun q t wr => ∃ i : Nat, q + i = ls.length ∧ t = .int .i64 i ∧ Hid (Below w.heap.size w wr) ∧ Hid (PMap wr w.heap.size (trisAt ports v i)) ∧ Hid (linksOk (ls.take i) v ports.length))
      case atStart => exact ⟨0, by omega, rfl, hbel, Lib.hid (by rw [trisAt_zero]; exact hmap.out), Lib.hid ⟨by simp, by simp⟩⟩
      case round =>
        clear hbel hmap hcl'
        obtain ⟨i, hqi, rfl, hbel, hmap, hok⟩ := hrel
        have hmlt : w.heap.size < wr.heap.size := hmap.out.lt
        by_cases hil : i < ls.length
        · obtain ⟨A4, c4, e4, _, _, hE⟩ := Hls.out.below Stable.link hbel.out
          cases e4
          obtain ⟨b3, off3, rfl, hb3, hE⟩ := hE (by omega)
          obtain ⟨⟨l1, wt⟩, hle⟩ : ∃ l, ls[i] = l := ⟨_, rfl⟩
          have hl? : ls[i]? = some (l1, wt) := by rw [List.getElem?_eq_getElem hil, hle]
          obtain ⟨hx1, hx2, ⟨hr1, hr2⟩, ⟨hr3, hr4⟩⟩ := hE i _ hl?
          simp only at hx1 hx2 hr1 hr2 hr3 hr4
          have hsn := linksOk_snoc ls v ports.length i hil
          rw [hle] at hsn
          have Hsn := Lib.hid hsn
          have Hbad := Lib.hid (fun h => symB_false_links (ports := ports) (v := v) (k := i + 1) Hlp.out h)
          have Hsc := Lib.hid (trisAt_snoc ports v i ls Hlp.out hil)
          rw [hle] at Hsc
          have HE := Lib.hid hE
          have Hle := Lib.hid hle
          clear hE hl? hle hsn
          by_cases c1 : 0 ≤ l1 ∧ l1 ≤ ports.length - 1
          · obtain ⟨c1a, c1b⟩ := c1
            by_cases c2 : l1 = v
            · have c2' : (l1 == (v : Int)) = true := by simp [c2]
              have Hf := Lib.hid (Hbad.out (fun h => ((Hsn.out.1 h).2.1).2.2.1 c2))
              clear c2
              go_wp2
              go_ret
              exact ⟨ret_bool Hf.out.symm, (hbel.out.alloc (by omega) _)⟩
            · have c2' : (l1 == (v : Int)) = false := by simp [c2]
              have Hc2 := Lib.hid c2
              clear c2
              by_cases c3 : 1 ≤ wt ∧ wt ≤ 15
              · obtain ⟨c3a, c3b⟩ := c3
                by_cases c4 : hasPair (trisAt ports v i) v l1 = true
                · have Hf := Lib.hid (Hbad.out (fun h => by
                    obtain ⟨l, hl, e⟩ := (hasPair_trisAt Hlp.out).1 c4
                    obtain ⟨j, hj, rfl⟩ := List.mem_take_iff_getElem.1 hl
                    exact (Hsn.out.1 h).2.2 j (by omega) e))
                  go_wp2_with (at_lookup; refine wpList_lookup2 rfl _ _ _ rfl w.heap.size (v : Int) l1 rfl (by rfl) (trisAt ports v i) ((hmap.out.alloc _).alloc _) ?_)
                  go_ret
                  exact ⟨ret_bool Hf.out.symm, ((hbel.out.alloc (by omega) _).alloc (by simp; omega) _)⟩
                · have c4' : hasPair (trisAt ports v i) v l1 = false := by simpa using c4
                  have Hnew := Lib.hid (show linksOk (ls.take (i + 1)) v ports.length from Hsn.out.2 ⟨hok.out, ⟨c1a, by simpa using c1b, Hc2.out, c3a, c3b⟩, fun j hj e => c4 ((hasPair_trisAt Hlp.out).2 ⟨ls[j], List.mem_take_iff_getElem.2 ⟨j, by omega, rfl⟩, e⟩)⟩)
                  clear c4
                  go_wp2_with (first
                    | (at_lookup; refine wpList_lookup2 rfl _ _ _ rfl w.heap.size (v : Int) l1 rfl (by rfl) (trisAt ports v i) ((hmap.out.alloc _).alloc _) ?_)
                    | (at_mapUpdate; refine wpList_mapUpdate2 rfl _ _ _ rfl rfl w.heap.size (v : Int) l1 wt rfl (by rfl) (by rfl) (trisAt ports v i) ((hmap.out.alloc _).alloc _) c4' ?_))
                  go_roundg (gk - 1)
                  case measure => omega
                  case rel =>
                    refine ⟨i + 1, by omega, by go_num, Lib.hid ?_, Lib.hid ?_, Hnew⟩
                    · exact Below.setMap ((hbel.out.alloc (by omega) _).alloc (by simp; omega) _) (Nat.le_refl _) _
                    · rw [Hsc.out]
                      exact PMap.set ((hmap.out.alloc _).alloc _) _
              · have Hf := Lib.hid (Hbad.out (fun h => c3 ⟨((Hsn.out.1 h).2.1).2.2.2.1, ((Hsn.out.1 h).2.1).2.2.2.2⟩))
                by_cases c5 : wt < 1
                · clear c3
                  go_wp2
                  go_ret
                  exact ⟨ret_bool Hf.out.symm, (hbel.out.alloc (by omega) _)⟩
                · have c6 : 15 < wt := by omega
                  clear c3
                  go_wp2
                  go_ret
                  exact ⟨ret_bool Hf.out.symm, (hbel.out.alloc (by omega) _)⟩
          · have Hf := Lib.hid (Hbad.out (fun h => c1 ⟨((Hsn.out.1 h).2.1).1, ((Hsn.out.1 h).2.1).2.1⟩))
            by_cases c5 : l1 < 0
            · clear c1
              go_wp2
              go_ret
              exact ⟨ret_bool Hf.out.symm, (hbel.out.alloc (by omega) _)⟩
            · have c6 : (ports.length : Int) ≤ l1 := by omega
              clear c1
              go_wp2
              go_ret
              exact ⟨ret_bool Hf.out.symm, (hbel.out.alloc (by omega) _)⟩
        · obtain rfl : i = ls.length := by omega
          go_wp2
          go_roundg (go - 1)
          case measure => omega
          case rel =>
            refine ⟨v + 1, by omega, by go_num, hbel, Lib.hid (by rw [← trisAt_full ports v ls Hlp.out]; exact hmap.out), Lib.hid (fun u ls' hu hls' => ?_)⟩
            by_cases huv : u < v
            · exact hlk.out u ls' huv hls'
            · obtain rfl : u = v := by omega
              rw [Hlp.out] at hls'
              cases hls'
              exact linksOk_full hok.out
    · obtain rfl : v = ports.length := by omega
      have Hal := Lib.hid (show AllLinks ports from fun v ls hls => hlk.out v ls (List.getElem?_eq_some_iff.1 hls).1 hls)
      have hmlt : w.heap.size < wr.heap.size := hmap.out.lt
      go_wp2_with (at_range; refine wpList_range2 rfl _ rfl w.heap.size rfl (trisTo ports ports.length) hmap.out ?_)
      go_frame
      obtain ⟨L, hL⟩ : ∃ L, L = trisTo ports ports.length := ⟨_, rfl⟩
      rw [← hL] at hmap ⊢
      have HL := Lib.hid hL
      clear hL
      obtain ⟨r, hr⟩ : ∃ r, r = wr.heap.size := ⟨_, rfl⟩
      rw [← hr] at hmlt ⊢
      go_loopg [70] (L.length + 1) (fun q t wr => ∃ seen : List Nat, q + seen.length = L.length + 1 ∧ Hid (Below w.heap.size w wr) ∧ Hid (PMap wr w.heap.size L) ∧ Hid (PIter wr r w.heap.size L seen) ∧ Hid (seen.Nodup ∧ ∀ i ∈ seen, ∃ p, L[i]? = some p ∧ valAt L p.2.1 p.1 = p.2.2))
      case atStart =>
        refine ⟨[], by simp, Lib.hid (hbel.out.alloc (by omega) _), Lib.hid (hmap.out.alloc _), Lib.hid ?_, Lib.hid ⟨by simp, by simp⟩⟩
        rw [hr]
        exact heap_alloc_new wr _
      case round =>
        clear hbel hmap hr
        obtain ⟨seen, hq, hbel, hmap, hit, hseen⟩ := hrel
        go_wp2_with (at_next; refine wpList_next2 rfl _ rfl r w.heap.size rfl L seen hmap.out hit.out ?hend ?hgo)
        case hend =>
          intro m hall
          have Ht := Lib.hid (show symB ports = true from symB_true Hal.out (fun p hp => by
            rw [← HL.out] at hp ⊢
            obtain ⟨i, hi, rfl⟩ := List.mem_iff_getElem.1 hp
            obtain ⟨p, hp', hv⟩ := hseen.out.2 i (hall i hi)
            rw [List.getElem?_eq_getElem hi] at hp'
            cases hp'
            exact hv))
          clear hall
          go_wp2
          go_ret
          exact ⟨ret_bool Ht.out.symm, below_drewN hbel.out _⟩
        case hgo =>
          intro m i x y z hp hns
          have hil : i < L.length := (List.getElem?_eq_some_iff.1 hp).1
          have Hb1 := Lib.hid (Below.stepIter (L := L) (b := w.heap.size) (seen' := seen ++ [i]) hbel.out (r := r) (by omega) m)
          have Hm1 := Lib.hid (PMap.step (b := w.heap.size) (L := L) (seen' := seen ++ [i]) hmap.out (r := r) (by omega) m)
          have Hi1 := Lib.hid (PIter.step (seen' := seen ++ [i]) hit.out m)
          have Hp := Lib.hid hp
          have Hn := Lib.hid hns
          obtain ⟨w1, hw1⟩ : ∃ w1, w1 = World.stepIter wr m r w.heap.size L (seen ++ [i]) := ⟨_, rfl⟩
          rw [← hw1] at Hb1 Hm1 Hi1 ⊢
          clear hw1 hbel hmap hit hp hns
          have hz1 : r < w1.heap.size := Hi1.out.lt
          by_cases hv : valAt L y x = z
          · have hv' : (valAt L y x != z) = false := by simp [hv]
            have Hv := Lib.hid hv
            clear hv
            go_wp2_with (first
              | (at_lookup; refine wpList_lookup2 rfl _ _ _ rfl w.heap.size y x rfl (by rfl) L (Hm1.out.alloc _) ?_)
              | (with_reducible refine wpList_entry2 rfl _ rfl r w.heap.size rfl L seen i (x, y, z) Hm1.out Hi1.out Hp.out ?_))
            have hsz := Lib.hid (show (seen ++ [i]).length ≤ L.length by
              have hnd : (seen ++ [i]).Nodup := by
                rw [List.nodup_append]
                exact ⟨hseen.out.1, by simp, fun a ha b hb e => by simp at hb; subst hb e; exact Hn.out ha⟩
              have hsub : (seen ++ [i]) ⊆ List.range L.length := by
                intro j hj
                rcases List.mem_append.1 hj with hj | hj
                · obtain ⟨p, hp, _⟩ := hseen.out.2 j hj
                  simp [(List.getElem?_eq_some_iff.1 hp).1]
                · simp at hj; subst hj; simpa using hil
              simpa using List.Nodup.length_le_of_subset hnd hsub)
            go_roundg (gk - 1)
            case measure => have := hsz.out; simp at this; omega
            case rel =>
              have h0 := hsz.out
              simp only [List.length_append, List.length_cons, List.length_nil] at h0
              refine ⟨seen ++ [i], by simp; omega, Lib.hid (Hb1.out.alloc (by omega) _), Lib.hid (Hm1.out.alloc _), Lib.hid (Hi1.out.alloc _), Lib.hid ⟨?_, fun j hj => ?_⟩⟩
              · rw [List.nodup_append]
                exact ⟨hseen.out.1, by simp, fun a ha b hb e => by simp at hb; subst hb e; exact Hn.out ha⟩
              · rcases List.mem_append.1 hj with hj | hj
                · exact hseen.out.2 j hj
                · simp at hj
                  subst hj
                  exact ⟨_, Hp.out, Hv.out⟩
          · have hv' : (valAt L y x != z) = true := by simp [hv]
            have Hf := Lib.hid (show symB ports = false from symB_false_val Hal.out (p := (x, y, z)) (by rw [← HL.out]; exact List.mem_of_getElem? Hp.out) (by rw [← HL.out]; exact hv))
            clear hv
            go_wp2_with (first
              | (at_lookup; refine wpList_lookup2 rfl _ _ _ rfl w.heap.size y x rfl (by rfl) L (Hm1.out.alloc _) ?_)
              | (with_reducible refine wpList_entry2 rfl _ rfl r w.heap.size rfl L seen i (x, y, z) Hm1.out Hi1.out Hp.out ?_))
            go_ret
            exact ⟨ret_bool Hf.out.symm, Hb1.out.alloc (by omega) _⟩
end Go.Proofs.YtegpikhfnhcjaaaGreat
