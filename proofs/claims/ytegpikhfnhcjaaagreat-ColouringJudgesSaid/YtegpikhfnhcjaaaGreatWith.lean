/- Walk of selfstabworld.Within. -/
import Derived.Test.YtegpikhfnhcjaaaGreatHead
namespace Go.Proofs.YtegpikhfnhcjaaaGreat
open Go.RowKit

def withinZ (v m : Int) : Int := if m < 1 then 0 else v % m
theorem within_range (v m : Int) (h : 1 ≤ m) : 0 ≤ withinZ v m ∧ withinZ v m < m := by
  unfold withinZ
  rw [if_neg (by omega)]
  exact ⟨Int.emod_nonneg _ (by omega), Int.emod_lt_of_pos _ (by omega)⟩
theorem within_nonneg (v m : Int) : 0 ≤ withinZ v m := by
  by_cases h : 1 ≤ m
  · exact (within_range v m h).1
  · simp [withinZ]; omega
theorem tmod_abs {v m : Int} (hm : 0 < m) : -m < v.tmod m ∧ v.tmod m < m := ⟨Int.lt_tmod_of_pos v hm, Int.tmod_lt_of_pos v hm⟩
theorem tmod_pos {v m : Int} (hm : 0 < m) (h : 0 ≤ v.tmod m) : v.tmod m = v % m := by
  have e := Int.mul_tdiv_add_tmod v m
  have hb := tmod_abs (v := v) hm
  conv => rhs; rw [← e]
  rw [Int.mul_add_emod_self_left, Int.emod_eq_of_lt h hb.2]
theorem tmod_neg {v m : Int} (hm : 0 < m) (h : v.tmod m < 0) : v.tmod m + m = v % m := by
  have e := Int.mul_tdiv_add_tmod v m
  have hb := tmod_abs (v := v) hm
  conv => rhs; rw [← e]
  rw [Int.mul_add_emod_self_left, ← Int.add_emod_right, Int.emod_eq_of_lt (by omega) (by omega)]
set_option maxHeartbeats 1000000 in
theorem Within_any (v m : Int) (w : World) (hv : I64 v) (hm : I64 m) :
    Calls Tryz.prog 41 #[.int .i64 v, .int .i64 m] w fun e w' => e = .returned (.int .i64 (withinZ v m)) ∧ w' = w := by
  obtain ⟨hv1, hv2⟩ := hv
  obtain ⟨hm1, hm2⟩ := hm
  by_cases h : m < 1
  · have Hr := Lib.hid (show withinZ v m = 0 by simp [withinZ, h])
    have h' : decide (m < 1) = true := by simp [h]
    go_enter Tryz.func41, Tryz.ntmps41
    go_wp2
    go_ret
    exact ⟨ret_int Hr.out.symm, rfl⟩
  · have h' : decide (m < 1) = false := by simp [h]
    have h0 : (m == 0) = false := by simp; omega
    go_enter Tryz.func41, Tryz.ntmps41
    go_wp2
    · rename_i hp
      go_ret
      have hb := tmod_abs (v := v) (m := m) (by omega)
      refine ⟨ret_int ?_, rfl⟩
      rw [withinZ, if_neg (by omega), ← tmod_neg (by omega) hp]
      exact IntWalk.wrap64_in (v.tmod m + m) (by omega)
    · rename_i hp
      go_ret
      exact ⟨ret_int (by rw [withinZ, if_neg (by omega)]; exact tmod_pos (by omega) hp), rfl⟩
end Go.Proofs.YtegpikhfnhcjaaaGreat
