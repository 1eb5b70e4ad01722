/- A body that is cut: pieces run by the evaluator, pieces by hand. -/
import Derived.Test.YtegpikhfnhcjaaaGreatRvZ
namespace Go.Proofs.YtegpikhfnhcjaaaGreat
namespace Ev
open Go Go.RowKit

/-- Pieces that are run one after another, each to its end. -/
noncomputable def evSeqs (P : Program) (H : Hooks) (l : List Code) : Fr → Mem → Option FM :=
  List.rec (fun f m => some ⟨f, m⟩) (fun c _ ih f m => match ev P H 3000 (.code c f m) with
    | some (.code .normal f' m') => ih f' m'
    | _ => none) l
theorem evSeqs_sound {P : Program} {H : Hooks} (hs : SelfOk P (ev P H 3000)) {rest : Code} {e : Exit} {f1 f2 : Fr} {m1 m2 : Mem} (hrest : Wf m1 → SoundC P rest f1 m1 e f2 m2) :
    ∀ {l : List Code} {f : Fr} {m : Mem}, evSeqs P H l f m = some ⟨f1, m1⟩ → Wf m → SoundC P (l.foldr .seq rest) f m e f2 m2
  | [], f, m, h, hw => by
    have h : some (⟨f, m⟩ : FM) = some ⟨f1, m1⟩ := h
    cases h
    exact hrest hw
  | c :: l, f, m, h, hw => by
    have h : (match ev P H 3000 (.code c f m) with
      | some (.code .normal f' m') => evSeqs P H l f' m'
      | _ => none) = some ⟨f1, m1⟩ := h
    split at h
    · rename_i f' m' hc
      obtain ⟨e1, f3, m3, he, hs1⟩ := self_code hs hc hw
      cases he
      exact hs1.seq (evSeqs_sound hs hrest h hs1.1.ext.wf)
    · cases h
/-- A run of a body, made into a run of the call. -/
theorem body_call {P : Program} (hn : NoNum P) {g : FuncId} {fn : Func} {c : Code} {args : List Value} {m : Mem} {e : Exit} {f1 : Fr} {m1 : Mem} {out : Out} (hg : P.funcs[g]? = some fn) (hc : fn.body = some c)
    (hs : Wf m → SoundC P c ⟨Nat.max args.length fn.ntmps, tOf args⟩ (enterM m) e f1 m1) (he : e = .normal ∨ e = .ret) (ho : leaveFn P m fn.results.toList f1 m1 = some out) : SoundT P (.call g args m) out := by
  classical
  let self : Task → Option Out := fun t => if t = .code c ⟨Nat.max args.length fn.ntmps, tOf args⟩ (enterM m) then some (.code e f1 m1) else none
  have hself : SelfOk P self := by
    intro t o h
    have h : (if t = .code c ⟨Nat.max args.length fn.ntmps, tOf args⟩ (enterM m) then some (.code e f1 m1) else none) = some o := h
    split at h
    · rename_i ht
      cases h
      subst ht
      exact SoundC.task fun hw => hs hw
    · cases h
  refine enterFn_sound hn hself hg ?_
  have h0 : self (.code c ⟨Nat.max args.length fn.ntmps, tOf args⟩ (enterM m)) = some (.code e f1 m1) := if_pos rfl
  unfold enterFn
  rw [hc]
  show enterBody P self fn.results.toList args m fn.ntmps c = some out
  unfold enterBody
  rw [forceN_eq, T.strict_eq, h0]
  rcases he with rfl | rfl
  · exact ho
  · exact ho
end Ev
end Go.Proofs.YtegpikhfnhcjaaaGreat
