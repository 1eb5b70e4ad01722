/- LeaderText at any number: the call. Printed by wip/facts3.py. -/
import Derived.Test.YtbhjopjonoldmaaGreatLtM
namespace Go.Proofs.YtbhjopjonoldmaaGreat
namespace Ev
open Go Go.RowKit
theorem ltBody_eq : ∃ o1 o2 o3 o4 o5 : Oper, ltBody = ltPre.foldr .seq (.seq (.region 5 #[o1, o2, o3, o4, o5] false) ltRest) ∧
    (o1.op = .move (.tmp 0) ∧ o1.dst = some 28 ∧ o1.guard = none) ∧
    (o2.op = .move (.tmp 6) ∧ o2.dst = some 29 ∧ o2.guard = none) ∧
    (o3.op = .call { callee := .builtin .len, args := #[.tmp 29], argTypes := #[22] } ∧ o3.dst = some 30 ∧ o3.guard = none) ∧
    (o4.op = .call { callee := .value (.func 13), args := #[.tmp 28, .tmp 30], argTypes := #[3, 3] } ∧ o4.dst = some 31 ∧ o4.guard = none) ∧
    (o5.op = .assign (.tmp 31) ∧ o5.dst = some 0 ∧ o5.guard = none) :=
  ⟨_, _, _, _, _, rfl, ⟨rfl, rfl, rfl⟩, ⟨rfl, rfl, rfl⟩, ⟨rfl, rfl, rfl⟩, ⟨rfl, rfl, rfl⟩, ⟨rfl, rfl, rfl⟩⟩

theorem leaderText_sound (n k : Int) (hn : I64 n) (hk : withinZ n 3 = k) (hb : ltB n k = some (some (.int .i64 n), 3, .bool true)) :
    ∃ m', SoundT Tryz.prog (.call 5 [.int .i64 n] mem0) (.call (.bool true) m') := by
  have hself := ev_sound mix noNum (hk_ok ltH_ok) 3000
  unfold ltB at hb
  split at hb
  · rename_i f m h1
    split at hb
    · rename_i A len c h6
      split at hb
      · rename_i f' hput
        split at hb
        · rename_i f2 m2 h2
          split at hb
          · rename_i v m3 h3
            simp only [Option.some.injEq, Prod.mk.injEq] at hb
            obtain ⟨h0, rfl, rfl⟩ := hb
            obtain ⟨o1, o2, o3, o4, o5, hbody, e1, e2, e3, e4, e5⟩ := ltBody_eq
            refine ⟨m3, body_call noNum Tryz.func5 (c := ltBody) rfl (fun hw => ?_) (.inr rfl) h3⟩
            rw [hbody]
            refine evSeqs_sound hself (fun hw1 => ?_) h1 hw
            have hr := within_region (id := 5) e1 e2 e3 e4 e5 (by decide) h0 h6 hn (by decide) hk hput hw1
            obtain ⟨e', f3, m4, he, hs⟩ := self_code hself h2 hw1
            cases he
            exact hr.seq hs
          · cases hb
        · cases hb
      · cases hb
    · cases hb
  · cases hb
end Ev
open Ev Go.RowKit in
theorem leaderText_any (n : Int) (hn : I64 n) (w : World) : Calls Tryz.prog 5 #[.int .i64 n] w fun e w' => e = .returned (.bool true) ∧ Below w.heap.size w w' := by
  have h := within_range n 3 (by decide)
  have : withinZ n 3 = 0 ∨ withinZ n 3 = 1 ∨ withinZ n 3 = 2 := by omega
  rcases this with hk | hk | hk
  · obtain ⟨m', hs⟩ := leaderText_sound n 0 hn hk (ltB_0 n)
    exact sound_calls noNum hs rfl rfl ⟨_, _, Tryz.func5, rfl⟩ w
  · obtain ⟨m', hs⟩ := leaderText_sound n 1 hn hk (ltB_1 n)
    exact sound_calls noNum hs rfl rfl ⟨_, _, Tryz.func5, rfl⟩ w
  · obtain ⟨m', hs⟩ := leaderText_sound n 2 hn hk (ltB_2 n)
    exact sound_calls noNum hs rfl rfl ⟨_, _, Tryz.func5, rfl⟩ w
#print axioms leaderText_any
end Go.Proofs.YtbhjopjonoldmaaGreat
