/- Walks of small functions: sameInts, slices.Equal, FirstPort. -/
import Derived.Test.YtlfojfndkcmfnaaRefB
import Derived.Test.YtlfojfndkcmfnaaOwn
namespace Go.Proofs.Ytlfojfndkcmfnaa
open Go.RowKit

theorem take_eq_snoc {xs ys : List Int} {k : Nat} (h : xs.take k = ys.take k) (hx : k < xs.length) (hy : k < ys.length) (e : xs[k] = ys[k]) : xs.take (k + 1) = ys.take (k + 1) := by
  rw [List.take_succ_eq_append_getElem hx, List.take_succ_eq_append_getElem hy, h, e]

set_option maxHeartbeats 1000000 in
theorem Equal_any (a b : Value) (xs ys : List Int) (w : World) (ha : IntsAt w a xs) (hb : IntsAt w b ys) :
    Calls Try.prog 55 #[a, b] w fun e w' => e = .returned (.bool (decide (xs = ys))) ∧ ∃ n, w' = w.drewN n := by
  obtain ⟨A, c, rfl, hc, hc63⟩ := slAt_form ha
  obtain ⟨B, d, rfl, hd, hd63⟩ := slAt_form hb
  have Ha := Lib.hid ha
  have Hb := Lib.hid hb
  clear ha hb
  by_cases hl : xs.length = ys.length
  · have Hl := Lib.hid hl
    have hne : ((xs.length : Int) != (ys.length : Int)) = false := by simp [hl]
    clear hl
    go_enter Try.func55, Try.ntmps55
    go_wp2
    go_loopg [13] xs.length (fun q i wr => ∃ k n : Nat, q + k = xs.length ∧ i = .int .i64 k ∧ wr = w.drewN n ∧ Hid (xs.take k = ys.take k))
    case atStart => exact ⟨0, 0, by omega, rfl, rfl, Lib.hid (by simp)⟩
    case round =>
      obtain ⟨k, n, hk, rfl, rfl, htk⟩ := hrel
      by_cases hlt : k < xs.length
      · have hlt2 : k < ys.length := by rw [← Hl.out]; exact hlt
        obtain ⟨b1, o1, rfl, hb1, hc1, _⟩ := intsAt_at Ha.out hlt
        obtain ⟨b2, o2, rfl, hb2, hc2, _⟩ := intsAt_at Hb.out hlt2
        by_cases he : xs[k] = ys[k]
        · have he' : (xs[k] != ys[k]) = false := by simp [he]
          have Hn := Lib.hid (take_eq_snoc htk.out hlt hlt2 he)
          clear he
          go_wp2
          go_quiet (fail)
          go_wp2
          go_roundg (gk - 1)
          case measure => omega
          case rel => exact ⟨k + 1, _, by omega, by go_num, rfl, Hn⟩
        · have he' : (xs[k] != ys[k]) = true := by simp [he]
          have Hf := Lib.hid (show decide (xs = ys) = false by simp; intro h; subst h; exact he rfl)
          clear he
          go_wp2
          go_quiet (fail)
          go_wp2
          go_ret
          exact ⟨ret_bool Hf.out.symm, _, World.drewN_drewN _ _ _⟩
      · obtain rfl : k = xs.length := by omega
        have Ht := Lib.hid (show decide (xs = ys) = true by
          have := htk.out
          rw [List.take_length, Hl.out, List.take_length] at this
          simp [this])
        go_wp2
        go_ret
        exact ⟨ret_bool Ht.out.symm, n, rfl⟩
  · have hne : ((xs.length : Int) != (ys.length : Int)) = true := by simp; omega
    have Hf := Lib.hid (show decide (xs = ys) = false by simp; intro h; exact hl (by rw [h]))
    clear hl
    go_enter Try.func55, Try.ntmps55
    go_wp2
    go_ret
    exact ⟨ret_bool Hf.out.symm, 0, rfl⟩

/-- The first port whose link is accepted, or -1. -/
def firstP (acc : Int × Int → Bool) (ls : List (Int × Int)) : Int := match ls.findIdx? acc with | some i => i | none => -1
theorem firstP_hit (acc : Int × Int → Bool) (ls : List (Int × Int)) (k : Nat) (hk : k < ls.length) (h : acc ls[k] = true) (hn : (ls.take k).findIdx? acc = none) : firstP acc ls = k := by
  unfold firstP
  have : ls.findIdx? acc = some k := by
    rw [List.findIdx?_eq_some_iff_getElem]
    refine ⟨hk, h, fun j hj => ?_⟩
    rw [List.findIdx?_eq_none_iff] at hn
    simp [hn ls[j] (List.mem_take_iff_getElem.2 ⟨j, by omega, rfl⟩)]
  rw [this]
theorem firstP_none (acc : Int × Int → Bool) (ls : List (Int × Int)) (hn : (ls.take ls.length).findIdx? acc = none) : firstP acc ls = -1 := by
  rw [List.take_length] at hn
  unfold firstP
  rw [hn]
theorem first_snoc (acc : Int × Int → Bool) (ls : List (Int × Int)) (k : Nat) (hk : k < ls.length) (h : acc ls[k] = false) (hn : (ls.take k).findIdx? acc = none) : (ls.take (k + 1)).findIdx? acc = none := by
  rw [take_snoc ls k hk, List.findIdx?_append, hn]
  simp [h]

set_option maxHeartbeats 1000000 in
theorem FirstPort_any (gv : Value) (g : Gr) (v : Nat) (ls : List (Int × Int)) (x1 x2 : Value) (acc : Int × Int → Bool) (w : World) (hg : GrAt w gv g) (hv : g.ports[v]? = some ls)
    (hacc : ∀ l ∈ ls, ∀ W, Below w.heap.size w W → Calls Try.prog 77 #[.agg #[.int .i64 l.1, .int .i64 l.2], x1, x2] W fun e w' => e = .returned (.bool (acc l)) ∧ Below W.heap.size W w') :
    Calls Try.prog 53 #[gv, .int .i64 v, .func (.func 77) #[] #[x1, x2]] w fun e w' => e = .returned (.int .i64 (firstP acc ls)) ∧ Below w.heap.size w w' := by
  obtain ⟨i, p, rfl, _, A, c, rfl, hc1, hc2, hp⟩ := hg
  have hvlt : v < g.ports.length := (List.getElem?_eq_some_iff.1 hv).1
  obtain ⟨b, off, rfl, hb, hP⟩ := hp (by omega)
  obtain ⟨lv, hcell, hL0⟩ := hP v ls hv
  obtain ⟨A2, c2, rfl, hl1, hl2⟩ := slAt_form hL0
  simp only [Nat.mul_one] at hcell
  have HL := Lib.hid hL0
  have Hacc := Lib.hid hacc
  clear hL0 hP hv hp hacc
  go_enter Try.func53, Try.ntmps53
  go_wp2
  go_loopg [15] ls.length (fun q t wr => ∃ k : Nat, q + k = ls.length ∧ t = .int .i64 k ∧ Hid (Below w.heap.size w wr) ∧ Hid ((ls.take k).findIdx? acc = none))
  case atStart => exact ⟨0, by omega, rfl, Lib.hid ((Below.refl _ _).alloc (Nat.le_refl _) _), Lib.hid (by simp)⟩
  case round =>
    obtain ⟨k, hq, rfl, hbel, hnone⟩ := hrel
    by_cases hlt : k < ls.length
    · obtain ⟨A4, c4, e4, _, _, hE⟩ := HL.out.below Stable.link hbel.out
      cases e4
      obtain ⟨b3, off3, rfl, hb3, hE⟩ := hE (by omega)
      obtain ⟨⟨l1, wt⟩, hle⟩ : ∃ l, ls[k] = l := ⟨_, rfl⟩
      have hl? : ls[k]? = some (l1, wt) := by rw [List.getElem?_eq_getElem hlt, hle]
      obtain ⟨hx1, hx2, ⟨hr1, hr2⟩, ⟨hr3, hr4⟩⟩ := hE k _ hl?
      simp only at hx1 hx2 hr1 hr2 hr3 hr4
      have Hm := Lib.hid (List.mem_of_getElem? hl?)
      have Hle := Lib.hid hle
      clear hE hl? hle
      go_wp2_with fail
      refine (Hacc.out (l1, wt) Hm.out _ (hbel.out.alloc (hbel.out.size) _)).mono ?_
      rintro e w1 ⟨rfl, hb1⟩
      have Hb1 := Lib.hid (hbel.out.trans ((belowA hb1).mono hbel.out.size))
      clear hb1
      cases ha : acc (l1, wt) with
      | true =>
        have Hr := Lib.hid (firstP_hit acc ls k hlt (by rw [Hle.out, ha]) hnone.out)
        clear ha
        go_wp2_with fail
        go_ret
        exact ⟨ret_int Hr.out.symm, Hb1.out⟩
      | false =>
        have Hr := Lib.hid (first_snoc acc ls k hlt (by rw [Hle.out, ha]) hnone.out)
        clear ha
        go_wp2_with fail
        go_roundg (gk - 1)
        case measure => omega
        case rel => exact ⟨k + 1, by omega, by go_num, Hb1, Hr⟩
    · obtain rfl : k = ls.length := by omega
      have Hr := Lib.hid (firstP_none acc ls hnone.out)
      go_wp2
      go_ret
      exact ⟨ret_int Hr.out.symm, hbel.out⟩
end Go.Proofs.Ytlfojfndkcmfnaa
