/- ElectionEither at any number: the call. Printed by wip/either.py. -/
import Derived.Test.YtdenophkdliinaaGreatEeM
namespace Go.Proofs.YtdenophkdliinaaGreat
namespace Ev
open Go Go.RowKit
theorem eeBody_eq : ∃ (o1 o2 : Oper) (l2 : List Oper) (ats : Array TypeId), eeBody = eePre.foldr .seq (.seq (.region 1 (o1 :: o2 :: l2).toArray false) eeRest) ∧ eeOps = o1 :: o2 :: l2 ∧
    (o1.op = .move (.tmp 0) ∧ o1.dst = some 13 ∧ o1.guard = none) ∧
    (o2.op = .call { callee := .value (.func 4), args := #[.tmp 13, .const (.int .i64 (4 : Nat))], argTypes := ats } ∧ o2.dst = some 14 ∧ o2.guard = none) :=
  ⟨_, _, _, _, rfl, rfl, ⟨rfl, rfl, rfl⟩, ⟨rfl, rfl, rfl⟩⟩

theorem electionEither_sound (fs : List Fact) (hfs : AllOk fs) (n k : Int) (b : Bool) (hn : I64 n) (hk : withinZ n 4 = k) (hb : eeB fs n k b = some (some (.int .i64 n), .bool true)) :
    ∃ m', SoundT Tryz.prog (.call 3 [.int .i64 n, .bool b] mem0) (.call (.bool true) m') := by
  have hself := ev_sound mix noNum (hk_ok hfs) 3000
  unfold eeB at hb
  split at hb
  · rename_i f m h1
    split at hb
    · rename_i f' hput
      split at hb
      · rename_i x hx
        split at hb
        · rename_i f2 m2 h2
          split at hb
          · rename_i v m3 h3
            simp only [Option.some.injEq, Prod.mk.injEq] at hb
            obtain ⟨h0, rfl⟩ := hb
            obtain ⟨o1, o2, l2, ats, hbody, hops, e1, e2⟩ := eeBody_eq
            refine ⟨m3, body_call noNum Tryz.func3 (c := eeBody) rfl (fun hw => ?_) (.inr rfl) h3⟩
            rw [hbody]
            refine evSeqs_sound hself (fun hw1 => ?_) h1 hw
            rw [hops] at hx
            have hr := within2 hself (id := 1) e1 e2 h0 hn (by decide) hk hput hx hw1
            obtain ⟨e', f3, m4, he, hs⟩ := self_code hself h2 hr.1.ext.wf
            cases he
            exact hr.seq hs
          · cases hb
        · cases hb
      · cases hb
    · cases hb
  · cases hb
end Ev
open Ev Go.RowKit in
theorem electionEither_any (n : Int) (b : Bool) (hn : I64 n) (w : World) : Calls Tryz.prog 3 #[.int .i64 n, .bool b] w fun e w' => e = .returned (.bool true) ∧ Below w.heap.size w w' := by
  have h := within_range n 4 (by decide)
  have : withinZ n 4 = 0 ∨ withinZ n 4 = 1 ∨ withinZ n 4 = 2 ∨ withinZ n 4 = 3 := by omega
  rcases this with hk | hk | hk | hk
  · cases b
    · obtain ⟨m', hs⟩ := electionEither_sound eeF0 eeF0_ok n 0 _ hn hk (eeB_0 n)
      exact sound_calls noNum hs rfl rfl ⟨_, _, Tryz.func3, rfl⟩ w
    · obtain ⟨m', hs⟩ := electionEither_sound eeF1 eeF1_ok n 0 _ hn hk (eeB_1 n)
      exact sound_calls noNum hs rfl rfl ⟨_, _, Tryz.func3, rfl⟩ w
  · cases b
    · obtain ⟨m', hs⟩ := electionEither_sound eeF2 eeF2_ok n 1 _ hn hk (eeB_2 n)
      exact sound_calls noNum hs rfl rfl ⟨_, _, Tryz.func3, rfl⟩ w
    · obtain ⟨m', hs⟩ := electionEither_sound eeF3 eeF3_ok n 1 _ hn hk (eeB_3 n)
      exact sound_calls noNum hs rfl rfl ⟨_, _, Tryz.func3, rfl⟩ w
  · cases b
    · obtain ⟨m', hs⟩ := electionEither_sound eeF4 eeF4_ok n 2 _ hn hk (eeB_4 n)
      exact sound_calls noNum hs rfl rfl ⟨_, _, Tryz.func3, rfl⟩ w
    · obtain ⟨m', hs⟩ := electionEither_sound eeF5 eeF5_ok n 2 _ hn hk (eeB_5 n)
      exact sound_calls noNum hs rfl rfl ⟨_, _, Tryz.func3, rfl⟩ w
  · cases b
    · obtain ⟨m', hs⟩ := electionEither_sound eeF6 eeF6_ok n 3 _ hn hk (eeB_6 n)
      exact sound_calls noNum hs rfl rfl ⟨_, _, Tryz.func3, rfl⟩ w
    · obtain ⟨m', hs⟩ := electionEither_sound eeF7 eeF7_ok n 3 _ hn hk (eeB_7 n)
      exact sound_calls noNum hs rfl rfl ⟨_, _, Tryz.func3, rfl⟩ w
#print axioms electionEither_any
end Go.Proofs.YtdenophkdliinaaGreat
