/- BfsText at any number: the call. -/
import Derived.Test.YtbhjopjonoldmaaGreatBtM
namespace Go.Proofs.YtbhjopjonoldmaaGreat
namespace Ev
open Go Go.RowKit
theorem btBody_eq : ∃ o1 o2 o3 o4 o5 : Oper, btBody = btPre.foldr .seq (.seq (.region 5 #[o1, o2, o3, o4, o5] false) btRest) ∧
    (o1.op = .move (.tmp 0) ∧ o1.dst = some 28 ∧ o1.guard = none) ∧
    (o2.op = .move (.tmp 6) ∧ o2.dst = some 29 ∧ o2.guard = none) ∧
    (o3.op = .call { callee := .builtin .len, args := #[.tmp 29], argTypes := #[22] } ∧ o3.dst = some 30 ∧ o3.guard = none) ∧
    (o4.op = .call { callee := .value (.func 13), args := #[.tmp 28, .tmp 30], argTypes := #[3, 3] } ∧ o4.dst = some 31 ∧ o4.guard = none) ∧
    (o5.op = .assign (.tmp 31) ∧ o5.dst = some 0 ∧ o5.guard = none) :=
  ⟨_, _, _, _, _, rfl, ⟨rfl, rfl, rfl⟩, ⟨rfl, rfl, rfl⟩, ⟨rfl, rfl, rfl⟩, ⟨rfl, rfl, rfl⟩, ⟨rfl, rfl, rfl⟩⟩

theorem bfsText_sound (n k : Int) (hn : I64 n) (hk : withinZ n 2 = k) (hb : btB n k = some (some (.int .i64 n), 2, .bool true)) :
    ∃ m', SoundT Tryz.prog (.call 4 [.int .i64 n] mem0) (.call (.bool true) m') := by
  have hself := ev_sound mix noNum (hk_ok btH_ok) 3000
  unfold btB at hb
  split at hb
  · rename_i f m h1
    split at hb
    · rename_i A len c h6
      split at hb
      · rename_i f' hput
        split at hb
        · rename_i f2 m2 h2
          split at hb
          · rename_i v m3 h3
            simp only [Option.some.injEq, Prod.mk.injEq] at hb
            obtain ⟨h0, rfl, rfl⟩ := hb
            obtain ⟨o1, o2, o3, o4, o5, hbody, e1, e2, e3, e4, e5⟩ := btBody_eq
            refine ⟨m3, body_call noNum Tryz.func4 (c := btBody) rfl (fun hw => ?_) (.inr rfl) h3⟩
            rw [hbody]
            refine evSeqs_sound hself (fun hw1 => ?_) h1 hw
            have hr := within_region (id := 5) e1 e2 e3 e4 e5 (by decide) h0 h6 hn (by decide) hk hput hw1
            obtain ⟨e', f3, m4, he, hs⟩ := self_code hself h2 hw1
            cases he
            exact hr.seq hs
          · cases hb
        · cases hb
      · cases hb
    · cases hb
  · cases hb
theorem sound_calls {P : Program} (hn : NoNum P) {g : FuncId} {args : List Value} {v : Value} {m' : Mem} (h : SoundT P (.call g args mem0) (.call v m')) (ha : args.all atomA = true) (hva : atomA v = true) (hg : ∃ fn c, P.funcs[g]? = some fn ∧ fn.body = some c) (w : World) :
    Calls P g args.toArray w fun e w' => e = .returned v ∧ Below w.heap.size w w' := by
  have hs := (h wf0).2 (fun _ => none) (fun _ => none) w args ⟨fun i b hb => (by cases hb), fun i j x y li lj _ hx => (by cases hx)⟩ (fun i b hb => by cases hb) (VRL.atomA ha) (fun _ _ _ => rfl)
  obtain ⟨fn, c, h1, h2⟩ := hg
  rcases hs with ⟨_, hc⟩ | ⟨v', w', hrun, _⟩
  · refine hc.mono ?_
    rintro e w' ⟨v', rfl, φ', M', hgd, hv⟩
    rw [hv.eq_atomA hva]
    refine ⟨rfl, hgd.wg.os, hgd.wg.tape, hgd.wg.output, hgd.wg.size, fun k hk => hgd.wg.keep k hk ?_⟩
    rintro ⟨i, b, l, hb, _⟩
    cases hb
  · rw [callFunc_enter hn h1 h2] at hrun
    cases hrun
end Ev
open Ev Go.RowKit in
theorem bfsText_any (n : Int) (hn : I64 n) (w : World) : Calls Tryz.prog 4 #[.int .i64 n] w fun e w' => e = .returned (.bool true) ∧ Below w.heap.size w w' := by
  have h := within_range n 2 (by decide)
  have : withinZ n 2 = 0 ∨ withinZ n 2 = 1 := by omega
  rcases this with hk | hk
  · obtain ⟨m', hs⟩ := bfsText_sound n 0 hn hk (btB_0 n)
    exact sound_calls noNum hs rfl rfl ⟨_, _, Tryz.func4, rfl⟩ w
  · obtain ⟨m', hs⟩ := bfsText_sound n 1 hn hk (btB_1 n)
    exact sound_calls noNum hs rfl rfl ⟨_, _, Tryz.func4, rfl⟩ w
#print axioms bfsText_any
end Go.Proofs.YtbhjopjonoldmaaGreat
