/- The evaluator is sound. -/
import Derived.Test.YtegpikhfnhcjaaaGreatRvC
namespace Go.Proofs.YtegpikhfnhcjaaaGreat
namespace Ev
open Go Go.RowKit

structure HooksOk (P : Program) (H : Hooks) : Prop where
  catch_ : ∀ g, H.catch_ = some g → ∀ self, SelfOk P self → ∀ args m out, evCatch self m args = some out → SoundT P (.call g args m) out
  indexByte : ∀ g, H.indexByte = some g → ∀ args m out, evIndexByte m args = some out → SoundT P (.call g args m) out
  symm : ∀ g, H.symm = some g → ∀ args m out, evSymm H.symB m args = some out → SoundT P (.call g args m) out
  facts : ∀ c ∈ H.facts, ∀ f ∈ c.l, FactOk P f
  links : ∀ g, H.links = some g → IterOk P g

section
variable {P : Program} {self : Task → Option Out} {H : Hooks} {f f' : Fr} {m m' : Mem}


theorem now_sound {c : Code} {e : Exit} (hc : ∀ r Q a w, Q e a w → c.wpIn (wr r) 0 P Q a w) : SoundT P (.code c f m) (.code e f m) :=
  SoundC.task fun hw => ⟨Grow.refl hw, fun φ M w a r _ hR hs hf _ => hc r _ a w ⟨rfl, φ, M, Good.refl hR hs, hf, Df.same rfl⟩⟩

theorem codeStep_sound (hmix : P.follows .mixedOrders = true) {lk : Option Nat} (hlk : ∀ g, lk = some g → IterOk P g) (hself : SelfOk P self) {c : Code} {out : Out} (h : codeStep P self lk f m c = some out) : SoundT P (.code c f m) out := by
  unfold codeStep at h
  split at h
  · cases h; exact now_sound fun r Q a w hq => wpIn_skip hq
  · rename_i x y
    obtain ⟨o1, h1, h2⟩ := ob_some h
    unfold thenCode at h2
    split at h2
    · rename_i f1 m1
      have : ∃ e f' m', out = .code e f' m' := by
        have := hself _ _ h2
        cases out with
        | code e f' m' => exact ⟨e, f', m', rfl⟩
        | call v m' => exact this.elim
      obtain ⟨e, f', m', rfl⟩ := this
      refine SoundC.task fun hw => ?_
      obtain ⟨e1, f2, m2, he, hs1⟩ := self_code hself h1 hw
      cases he
      obtain ⟨e2, f3, m3, he, hs2⟩ := self_code hself h2 hs1.1.ext.wf
      cases he
      exact hs1.seq hs2
    · rename_i hne
      cases h2
      have : ∃ e f' m', out = Out.code e f' m' := by
        have := hself _ _ h1
        cases out with
        | code e f' m' => exact ⟨e, f', m', rfl⟩
        | call v m' => exact this.elim
      obtain ⟨e, f', m', rfl⟩ := this
      refine SoundC.task fun hw => ?_
      obtain ⟨e1, f2, m2, he, hs1⟩ := self_code hself h1 hw
      cases he
      refine ⟨hs1.1, fun φ M w a r hn hR hs hf hfr => wpIn_seq (wpIn_mono (hs1.2 φ M w a r (fun q => (noRF_seq (hn q)).1) hR hs hf hfr) ?_)⟩
      intro e' a' w' hp
      exact then_other (by rw [hp.1]; intro q; subst q; exact hne _ _ rfl) hp
  · rename_i c x y
    obtain ⟨v, hv, h2⟩ := ob_some h
    unfold condStep at h2
    split at h2
    · rename_i t
      have key : ∀ z : Code, self (.code z f m) = some out → (if t then x else y) = z → SoundT P (.code (.cond c x y) f m) out := by
        intro z hz he
        have : ∃ e f' m', out = .code e f' m' := by
          have := hself _ _ hz
          cases out with
          | code e f' m' => exact ⟨e, f', m', rfl⟩
          | call v m' => exact this.elim
        obtain ⟨e, f', m', rfl⟩ := this
        refine SoundC.task fun hw => ?_
        obtain ⟨e1, f2, m2, heq, hs1⟩ := self_code hself hz hw
        cases heq
        refine ⟨hs1.1, fun φ M w a r hn hR hs hf hfr => wpIn_cond (t := t) ?_ (by rw [he]; exact hs1.2 φ M w a r (fun q => by have := noRF_cond (hn q); rw [← he]; cases t <;> first | exact this.2 | exact this.1) hR hs hf hfr)⟩
        exact ((get_sound (fun t v _ ht => hf.get t v ht) hv).bool_iff t).2 rfl
      cases t with
      | true => exact key x h2 rfl
      | false => exact key y h2 rfl
    · cases h2
  · rename_i id b
    obtain ⟨o1, h1, h2⟩ := ob_some h
    unfold endBlock at h2
    split at h2
    · rename_i i f1 m1
      rw [iteB_eq] at h2
      split at h2
      · rename_i hi
        have hi := Nat.eq_of_beq_eq_true hi
        subst hi
        cases h2
        refine SoundC.task fun hw => ?_
        obtain ⟨e1, f2, m2, heq, hs1⟩ := self_code hself h1 hw
        cases heq
        refine ⟨hs1.1, fun φ M w a r hn hR hs hf hfr => wpIn_block (wpIn_mono (hs1.2 φ M w a r hn hR hs hf hfr) ?_)⟩
        rintro e' a' w' ⟨rfl, hp⟩
        simp only [Exit.inBlock, if_true]
        exact ⟨rfl, hp⟩
      · rename_i hi
        cases h2
        refine SoundC.task fun hw => ?_
        obtain ⟨e1, f2, m2, heq, hs1⟩ := self_code hself h1 hw
        cases heq
        refine ⟨hs1.1, fun φ M w a r hn hR hs hf hfr => wpIn_block (wpIn_mono (hs1.2 φ M w a r hn hR hs hf hfr) ?_)⟩
        rintro e' a' w' ⟨rfl, hp⟩
        have hne : i ≠ id := fun q => hi (by rw [q]; exact Nat.beq_refl _)
        simp only [Exit.inBlock, if_neg hne]
        exact ⟨rfl, hp⟩
    · rename_i hne
      cases h2
      have : ∃ e f' m', out = Out.code e f' m' := by
        have := hself _ _ h1
        cases out with
        | code e f' m' => exact ⟨e, f', m', rfl⟩
        | call v m' => exact this.elim
      obtain ⟨e, f', m', rfl⟩ := this
      refine SoundC.task fun hw => ?_
      obtain ⟨e1, f2, m2, heq, hs1⟩ := self_code hself h1 hw
      cases heq
      refine ⟨hs1.1, fun φ M w a r hn hR hs hf hfr => wpIn_block (wpIn_mono (hs1.2 φ M w a r hn hR hs hf hfr) ?_)⟩
      intro e' a' w' hp
      have he := hp.1
      subst he
      cases e' with
      | exit i => exact absurd rfl (hne i f' m')
      | _ => exact hp
  · rename_i b
    by_cases hw : Wf m
    · have hall := fun rr hrr => evLoop_sound (rr := rr) hself hrr _ f m out h hw
      obtain ⟨e, f', m', rfl, hg, _⟩ := hall none (fun q => by cases q)
      refine SoundC.task fun _ => ⟨hg, fun φ M w a r hn hR hs hf hfr => ?_⟩
      obtain ⟨e2, f2, m2, he, _, hr⟩ := hall r hn
      cases he
      exact wpIn_loop_rounds _ (hr φ M w a _ hR hs hf hfr fun a' w' φ' M' hgd hf' hd => ⟨rfl, φ', M', hgd, hf', hd⟩)
    · cases out with
      | code e f' m' => exact fun q => absurd q hw
      | call v m' =>
        exfalso
        have : ∀ n f m v m', evLoop self b n f m ≠ some (.call v m') := by
          intro n
          induction n with
          | zero => intro f m v m' q; cases q
          | succ n ih =>
            intro f m v m' q
            rcases evLoop_succ q with ⟨f1, m1, _, q2⟩ | ⟨q1, _⟩
            · exact ih _ _ _ _ q2
            · exact hself _ _ q1
        exact this _ _ _ _ _ h
  · rename_i id; cases h; exact now_sound fun r Q a w hq => wpIn_exit hq
  · cases h; exact now_sound fun r Q a w hq => wpIn_ret hq
  · rename_i id ops d
    unfold regionStep at h
    cases d with
    | false =>
      change ob (evOps P self ops.toList ops.toList f m) endRegion = some out at h
      obtain ⟨x, h1, h2⟩ := ob_some h
      cases h2
      refine SoundC.task fun hw => ?_
      have hall := fun rr => evOps_sound (rr := rr) hself (ops := ops) ops.toList f m x h1 hw
      exact ⟨(hall none).1, fun φ M w a r _ hR hs hf hfr => wpIn_region_list ((hall r).2 φ M w a _ hR hs hf hfr fun a' w' φ' M' hgd hf' hd => ⟨rfl, φ', M', hgd, hf', Df.same hd⟩)⟩
    | true =>
      change drawStep P self ops.toList (ancs ops.toList []).reverse f m = some out at h
      unfold drawStep at h
      obtain ⟨hsl, h1⟩ := iteB_some h
      obtain ⟨x, h2, h3⟩ := ob_some h1
      cases h3
      refine SoundC.task fun hw => ?_
      have hall := fun rr => draw_sound (rr := rr) hself hmix hsl h2 hw
      exact ⟨(hall none).1, fun φ M w a r _ hR hs hf hfr => (hall r).2 id φ M w a _ hR hs hf hfr fun a' w' φ' M' hgd hf' hd => ⟨rfl, φ', M', hgd, hf', Df.same hd⟩⟩
  · rename_i g ps assign body
    obtain ⟨v, hv, h2⟩ := ob_some h
    exact range_sound hlk hself hv h2
  · cases h

theorem evStep_sound (hmix : P.follows .mixedOrders = true) (hn : NoNum P) (hH : HooksOk P H) (hself : SelfOk P self) : SelfOk P (evStep P self H) := by
  intro t out h
  cases t with
  | code c f m => exact codeStep_sound hmix hH.links hself h
  | call g args m =>
    change callStep P self H g args m = some out at h
    unfold callStep at h
    cases hff : findFact g args m H.facts with
    | some o1 =>
      rw [hff] at h
      cases h
      exact findFact_use hH.facts hff
    | none =>
    rw [hff] at h
    change callStep1 P self H g args m = some out at h
    unfold callStep1 at h
    rw [iteB_eq] at h
    split at h
    · rename_i hc; exact hH.catch_ g (hit_some hc) self hself args m out h
    · rw [iteB_eq] at h
      split at h
      · rename_i hc; exact hH.indexByte g (hit_some hc) args m out h
      · rw [iteB_eq] at h
        split at h
        · rename_i hc; exact hH.symm g (hit_some hc) args m out h
        · obtain ⟨fn, hg, h2⟩ := ob_some h
          exact enterFn_sound hn hself hg h2
theorem ev_sound (hmix : P.follows .mixedOrders = true) (hn : NoNum P) (hH : HooksOk P H) : ∀ n, SelfOk P (ev P H n)
  | 0 => fun t out h => by cases h
  | n + 1 => evStep_sound hmix hn hH (ev_sound hmix hn hH n)

theorem wf0 : Wf mem0 := fun i b h => by cases h
/-- A call without arguments that hold addresses, in whatever world. -/
theorem ev_calls (hmix : P.follows .mixedOrders = true) (hn : NoNum P) (hH : HooksOk P H) {n : Nat} {g : FuncId} {args : List Value} {v : Value} {m' : Mem} (h : ev P H n (.call g args mem0) = some (.call v m')) (ha : args.all atomA = true) (hg : ∃ fn c, P.funcs[g]? = some fn ∧ fn.body = some c) (w : World) :
    Calls P g args.toArray w fun e w' => ∃ v' φ M, e = .returned v' ∧ VR φ v v' ∧ Rel φ M w' ∧ Sub m' M ∧ Below w.heap.size w w' := by
  have hs := (ev_sound hmix hn hH n _ _ h wf0).2 (fun _ => none) (fun _ => none) w args ⟨fun i b hb => (by cases hb), fun i j x y li lj _ hx => (by cases hx)⟩ (fun i b hb => by cases hb) (VRL.atomA ha) (fun _ _ _ => rfl)
  obtain ⟨fn, c, h1, h2⟩ := hg
  rcases hs with ⟨_, hc⟩ | ⟨v', w', hrun, _⟩
  · refine hc.mono ?_
    rintro e w' ⟨v', rfl, φ', M', hgd, hv⟩
    refine ⟨v', φ', M', rfl, hv, hgd.rel, hgd.sub, hgd.wg.os, hgd.wg.tape, hgd.wg.output, hgd.wg.size, fun k hk => hgd.wg.keep k hk ?_⟩
    rintro ⟨i, b, l, hb, _⟩
    cases hb
  · rw [callFunc_enter hn h1 h2] at hrun
    cases hrun
/-- The value of a call. -/
def outV : Option Out → Option Value
  | some (.call v _) => some v
  | _ => none
theorem ev_calls_atom (hmix : P.follows .mixedOrders = true) (hn : NoNum P) (hH : HooksOk P H) {n : Nat} {g : FuncId} {args : List Value} {v : Value} (h : outV (ev P H n (.call g args mem0)) = some v) (ha : args.all atomA = true) (hva : atomA v = true) (hg : ∃ fn c, P.funcs[g]? = some fn ∧ fn.body = some c) (w : World) :
    Calls P g args.toArray w fun e w' => e = .returned v ∧ Below w.heap.size w w' := by
  unfold outV at h
  split at h
  · rename_i v' m' he
    cases h
    refine (ev_calls hmix hn hH he ha hg w).mono ?_
    rintro e w' ⟨v', φ, M, rfl, hv, _, _, hb⟩
    rw [hv.eq_atomA hva]
    exact ⟨rfl, hb⟩
  · cases h
end
end Ev
end Go.Proofs.YtegpikhfnhcjaaaGreat
