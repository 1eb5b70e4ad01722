/- Walks of the small functions of law 23. -/
import Derived.Test.YtlfojfndkcmfnaaSmall
import Derived.Test.YtlfojfndkcmfnaaRef23D
namespace Go.Proofs.Ytlfojfndkcmfnaa
open Go.RowKit

set_option maxHeartbeats 1000000 in
theorem sameInts_any (a b : Value) (xs ys : List Int) (w : World) (ha : IntsAt w a xs) (hb : IntsAt w b ys) :
    Calls Try.prog 14 #[a, b] w fun e w' => e = .returned (.bool (decide (xs = ys))) ∧ ∃ n, w' = w.drewN n := by
  obtain ⟨A, c, rfl, hc, hc63⟩ := slAt_form ha
  obtain ⟨B, d, rfl, hd, hd63⟩ := slAt_form hb
  have Ha := Lib.hid ha
  have Hb := Lib.hid hb
  clear ha hb
  by_cases hl : xs.length = ys.length
  · have Hl := Lib.hid hl
    have hne : ((xs.length : Int) != (ys.length : Int)) = false := by simp [hl]
    clear hl
    go_enter Try.func14, Try.ntmps14
    go_wp2
    go_loopg [5] xs.length (fun q i wr => ∃ k n : Nat, q + k = xs.length ∧ i = .int .i64 k ∧ wr = w.drewN n ∧ Hid (xs.take k = ys.take k))
    case atStart => exact ⟨0, 0, by omega, rfl, rfl, Lib.hid (by simp)⟩
    case round =>
      obtain ⟨k, n, hk, rfl, rfl, htk⟩ := hrel
      by_cases hlt : k < xs.length
      · have hlt2 : k < ys.length := by rw [← Hl.out]; exact hlt
        obtain ⟨b1, o1, rfl, hb1, hc1, _⟩ := intsAt_at Ha.out hlt
        obtain ⟨b2, o2, rfl, hb2, hc2, _⟩ := intsAt_at Hb.out hlt2
        by_cases he : xs[k] = ys[k]
        · have he' : (xs[k] != ys[k]) = false := by simp [he]
          have Hn := Lib.hid (take_eq_snoc htk.out hlt hlt2 he)
          clear he
          go_wp2
          go_quiet (fail)
          go_wp2
          go_roundg (gk - 1)
          case measure => omega
          case rel => exact ⟨k + 1, _, by omega, by go_num, rfl, Hn⟩
        · have he' : (xs[k] != ys[k]) = true := by simp [he]
          have Hf := Lib.hid (show decide (xs = ys) = false by simp; intro h; subst h; exact he rfl)
          clear he
          go_wp2
          go_quiet (fail)
          go_wp2
          go_ret
          exact ⟨ret_bool Hf.out.symm, _, World.drewN_drewN _ _ _⟩
      · obtain rfl : k = xs.length := by omega
        have Ht := Lib.hid (show decide (xs = ys) = true by
          have := htk.out
          rw [List.take_length, Hl.out, List.take_length] at this
          simp [this])
        go_wp2
        go_ret
        exact ⟨ret_bool Ht.out.symm, n, rfl⟩
  · have hne : ((xs.length : Int) != (ys.length : Int)) = true := by simp; omega
    have Hf := Lib.hid (show decide (xs = ys) = false by simp; intro h; exact hl (by rw [h]))
    clear hl
    go_enter Try.func14, Try.ntmps14
    go_wp2
    go_ret
    exact ⟨ret_bool Hf.out.symm, 0, rfl⟩


def largeB (g : Gr) (c : Conf) : Bool := decide (g.ports.length > 60) || decide (g.ids.length > 60) || decide (c.length > 60)

set_option maxHeartbeats 1000000 in
theorem large_any (gv cv : Value) (g : Gr) (c : Conf) (w : World) (hg : GrAt w gv g) (hc : RowsAt w cv c) :
    Calls Try.prog 6 #[gv, cv] w fun e w' => e = .returned (.bool (largeB g c)) ∧ Below w.heap.size w w' := by
  obtain ⟨i, p, rfl, hi, hp⟩ := hg
  obtain ⟨A, ci, rfl, hi1, hi2⟩ := slAt_form hi
  obtain ⟨B, cp, rfl, hp1, hp2⟩ := slAt_form hp
  obtain ⟨C, cc, rfl, hc1, hc2⟩ := slAt_form hc
  clear hi hp hc
  by_cases h1 : g.ports.length > 60
  · have Hr := Lib.hid (show largeB g c = true by simp [largeB, h1])
    have h1' : decide ((g.ports.length : Int) > 60) = true := by simp; omega
    go_enter Try.func6, Try.ntmps6
    go_wp2
    go_ret
    exact ⟨ret_bool Hr.out.symm, (Below.refl _ _).alloc (Nat.le_refl _) _⟩
  · by_cases h2 : g.ids.length > 60
    · have Hr := Lib.hid (show largeB g c = true by simp [largeB, h2])
      have h1' : decide ((g.ports.length : Int) > 60) = false := by simp; omega
      have h2' : decide ((g.ids.length : Int) > 60) = true := by simp; omega
      go_enter Try.func6, Try.ntmps6
      go_wp2
      go_ret
      exact ⟨ret_bool Hr.out.symm, (Below.refl _ _).alloc (Nat.le_refl _) _⟩
    · by_cases h3 : c.length > 60
      · have Hr := Lib.hid (show largeB g c = true by simp [largeB, h3])
        have h1' : decide ((g.ports.length : Int) > 60) = false := by simp; omega
        have h2' : decide ((g.ids.length : Int) > 60) = false := by simp; omega
        have h3' : decide ((c.length : Int) > 60) = true := by simp; omega
        go_enter Try.func6, Try.ntmps6
        go_wp2
        go_ret
        exact ⟨ret_bool Hr.out.symm, (Below.refl _ _).alloc (Nat.le_refl _) _⟩
      · have Hr := Lib.hid (show largeB g c = false by simp [largeB]; omega)
        have h1' : decide ((g.ports.length : Int) > 60) = false := by simp; omega
        have h2' : decide ((g.ids.length : Int) > 60) = false := by simp; omega
        have h3' : decide ((c.length : Int) > 60) = false := by simp; omega
        go_enter Try.func6, Try.ntmps6
        go_wp2
        go_ret
        exact ⟨ret_bool Hr.out.symm, (Below.refl _ _).alloc (Nat.le_refl _) _⟩
end Go.Proofs.Ytlfojfndkcmfnaa
