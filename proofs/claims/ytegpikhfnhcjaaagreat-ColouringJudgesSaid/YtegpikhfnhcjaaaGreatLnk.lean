/- The function that graph.Links returns, over a graph that lies below: it yields the links, one after another. -/
import Derived.Test.YtegpikhfnhcjaaaGreatRvL
namespace Go.Proofs.YtegpikhfnhcjaaaGreat
namespace Ev
open Go Go.RowKit

set_option maxRecDepth 100000 in
set_option maxHeartbeats 1000000 in
theorem links1_any (w0 : World) (s : Value) (ps : List (List (Int × Int))) (hP : PortsAt w0 s ps) (l b o : Nat) (J : List El → World → Prop) (Stop : World → Prop)
    (hJ : ∀ pre W, J pre W → Below w0.heap.size w0 W) (hgrow : ∀ pre W W', J pre W → Below W.heap.size W W' → J pre W')
    (hyield : ∀ pre x post W, J pre W → flatAt 0 ps = pre ++ x :: post → YieldAt Fence.wide 0 Tryz.prog l x.enc W fun e W' => (e = .returned (.bool true) ∧ J (pre ++ [x]) W') ∨ (e = .returned (.bool false) ∧ Stop W'))
    (w : World) (hbox : w.cell? ⟨b, o + 1, none⟩ = some s) (h0 : J [] w) :
    CallsIn Fence.wide 0 Tryz.prog 57 #[.func (.yield l) #[] #[], .pointer (some ⟨b, o, none⟩)] w fun e w' => (∃ v, e = .returned v) ∧ (J (flatAt 0 ps) w' ∨ Stop w') := by
  obtain ⟨As, cs, rfl, hs1, hs2, hP4⟩ := hP
  have HP4 := Lib.hid hP4
  have HJ := Lib.hid hJ
  have Hgrow := Lib.hid hgrow
  have Hyield := Lib.hid hyield
  have H0 := Lib.hid h0
  clear hP4 hJ hgrow hyield h0
  refine callsIn_of_wp Tryz.func57 rfl trivial ?_
  simp only [Tryz.ntmps57, List.size_toArray, List.length_cons, List.length_nil, Nat.reduceAdd, Nat.reduceSub, Array.replicate_succ,
     Array.replicate_zero, List.push_toArray, List.append_toArray, List.nil_append, List.cons_append]
  gi_wp2
  gi_loopg [10] ps.length (fun q t wr => ∃ k : Nat, q + k = ps.length ∧ t = .int .i64 k ∧ Hid (J (flatAt 0 (ps.take k)) wr))
  case atStart => exact ⟨0, by omega, rfl, Lib.hid H0.out⟩
  case round =>
    obtain ⟨k, hq, rfl, hst⟩ := hrel
    obtain ⟨gk', hgk'⟩ : ∃ x, x = gk := ⟨_, rfl⟩
    by_cases hlt : k < ps.length
    · obtain ⟨rb, ro, rfl, hrb, e5⟩ := HP4.out (by omega)
      obtain ⟨ls, hls⟩ : ∃ ls, ps[k]? = some ls := ⟨_, List.getElem?_eq_getElem hlt⟩
      obtain ⟨r, hr1, hr2⟩ := e5 k ls hls
      rw [Nat.mul_one] at hr1
      have hrw := keepCells (HJ.out _ _ hst.out) _ _ hr1
      obtain ⟨Al, cl, rfl, hl1, hl2⟩ := slAt_form hr2
      have Hr2 := Lib.hid hr2
      have Hpk := Lib.hid hls
      have hrbw : rb < wr.heap.size := Nat.lt_of_lt_of_le hrb (HJ.out _ _ hst.out).size
      have hk1 : (decide ((k : Int) < (ps.length : Int))) = true := by simp; omega
      clear hr2 hls hr1 e5
      gi_wp2
      gi_loopg [17] ls.length (fun q t wr => ∃ i : Nat, q + i = ls.length ∧ t = .int .i64 i ∧ Hid (J (doneAt ps k i) wr))
      case atStart => exact ⟨0, by omega, rfl, Lib.hid (by rw [doneAt_zero]; exact hst.out)⟩
      case round =>
        obtain ⟨i, hqi, rfl, hst2⟩ := hrel
        by_cases hlt2 : i < ls.length
        · obtain ⟨Al', cl', e1, e2', e3', e4⟩ := Hr2.out.below Stable.link (HJ.out _ _ hst2.out)
          cases e1
          obtain ⟨lb, lo, rfl, hlb, e5⟩ := e4 (by omega)
          obtain ⟨x, hx⟩ : ∃ x, ls[i]? = some x := ⟨_, List.getElem?_eq_getElem hlt2⟩
          obtain ⟨hc1, hc2, _, _⟩ := e5 i x hx
          obtain ⟨hstep, post, hpost⟩ := doneAt_step Hpk.out hx
          have Hstep := Lib.hid hstep
          have hk2 : (decide ((i : Int) < (ls.length : Int))) = true := by simp; omega
          obtain ⟨fn, tmps, assign, body, hy, hRd⟩ := Hyield.out (doneAt ps k i) ⟨k, x.1, x.2⟩ post (wr.alloc (.cells #[.int .i64 x.1, .int .i64 x.2] 51)) (Hgrow.out _ _ _ hst2.out ((Below.refl _ _).alloc (Nat.le_refl _) _)) hpost
          have hy : (Instr.yield l #[.int .i64 (k : Int), .agg #[.int .i64 x.1, .int .i64 x.2]]).run Tryz.prog (wr.alloc (.cells #[.int .i64 x.1, .int .i64 x.2] 51)) = .ok (.round l fn tmps assign body) (wr.alloc (.cells #[.int .i64 x.1, .int .i64 x.2] 51)) := hy
          clear e5 e4 hstep hpost hx hst2 hst
          gi_wp2
          refine ⟨rfl, hRd.mono ?_⟩
          rintro e W3 (⟨rfl, hst3⟩ | ⟨rfl, hstop⟩)
          · have Hst3 := Lib.hid hst3
            clear hst3 hRd hy
            gi_wp2
            gi_roundg (gk - 1)
            case measure => omega
            case rel => exact ⟨i + 1, by omega, by simp, Lib.hid (by rw [Hstep.out]; exact Hst3.out)⟩
          · have Hstop := Lib.hid hstop
            clear hstop hRd hy
            gi_wp2
            refine bodyPost_ret (results_none rfl _ _ _) rfl ?_
            exact ⟨⟨_, rfl⟩, .inr Hstop.out⟩
        · gi_wp2
          have hi : i = ls.length := by omega
          gi_roundg (gk' - 1)
          case measure => omega
          case rel => exact ⟨k + 1, by omega, by simp, Lib.hid (by rw [← doneAt_full Hpk.out, ← hi]; exact hst2.out)⟩
    · gi_wp2
      go_end0
      have hk : ps.take k = ps := List.take_of_length_le (by omega)
      have h := hst.out
      rw [hk] at h
      exact ⟨⟨_, rfl⟩, .inl h⟩
end Ev
end Go.Proofs.YtegpikhfnhcjaaaGreat
