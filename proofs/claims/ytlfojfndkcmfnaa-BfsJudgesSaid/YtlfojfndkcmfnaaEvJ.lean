/- What the evaluator says of code and of calls, and that it holds: steps in order. -/
import Derived.Test.YtlfojfndkcmfnaaEvI
import Derived.Tactics
namespace Go.Proofs.Ytlfojfndkcmfnaa
namespace Ev
open Go

structure FrR (φ : Phi) (f : Fr) (a : Act) : Prop where
  size : a.tmps.size = f.n
  defers : a.defers = []
  get : ∀ t v, f.t.get t = some v → VR φ v (a.tmps.getD t undef)
def Sub (m : Mem) (M : AM) : Prop := ∀ i b, m.b.get i = some b → M i = some b
def Fresh (φ : Phi) (lo hi : Nat) : Prop := ∀ i, lo ≤ i → i < hi → φ i = none
def Wf (m : Mem) : Prop := ∀ i b, m.b.get i = some b → i < m.next

/-- How the evaluator's memory may change. -/
structure Ext (m m' : Mem) : Prop where
  next : m.next ≤ m'.next
  dom : ∀ i b, m'.b.get i = some b → (∃ b₀, m.b.get i = some b₀) ∨ (m.next ≤ i ∧ i < m'.next)
  old : ∀ i b, i < m'.low → ¬ (m.next ≤ i ∧ i < m'.next) → m'.b.get i = some b → m.b.get i = some b
  wf : Wf m'
structure Good (φ : Phi) (M : AM) (w : World) (m m' : Mem) (φ' : Phi) (M' : AM) (w' : World) : Prop where
  le : φ.le φ'
  out : ∀ i, ¬ (m.next ≤ i ∧ i < m'.next) → φ' i = φ i
  rel : Rel φ' M' w'
  sub : Sub m' M'
  frame : ∀ i, ¬ (m.next ≤ i ∧ i < m'.next) → (m.b.get i = none ∨ i < m'.low) → M' i = M i
  wg : WG φ M w φ' M' w'

def CPost (φ : Phi) (M : AM) (w : World) (m : Mem) (e : Exit) (f' : Fr) (m' : Mem) : Exit → Act → World → Prop :=
  fun e' a' w' => e' = e ∧ ∃ φ' M', Good φ M w m m' φ' M' w' ∧ FrR φ' f' a'
def KPost (φ : Phi) (M : AM) (w : World) (m : Mem) (v : Value) (m' : Mem) : Ending → World → Prop :=
  fun e w' => ∃ v', e = .returned v' ∧ ∃ φ' M', Good φ M w m m' φ' M' w' ∧ VR φ' v v'

/-- A call of a function that is written in Go, or of one that the model supplies. -/
def CallOk (P : Program) (g : FuncId) (args : Array Value) (w : World) (R : Ending → World → Prop) : Prop :=
  ((callFunc g args).run P w = .ok (.enter g args) w ∧ Calls P g args w R) ∨ (∃ v w', (callFunc g args).run P w = .ok (.value v) w' ∧ R (.returned v) w')

def SoundT (P : Program) : Task → Out → Prop
  | .code c f m, .code e f' m' => Wf m → Ext m m' ∧ m'.low ≤ m.low ∧ ∀ φ M w a, Rel φ M w → Sub m M → FrR φ f a → Fresh φ m.next m'.next → c.wp P (CPost φ M w m e f' m') a w
  | .call g args m, .call v m' => Wf m → Ext m m' ∧ ∀ φ M w args', Rel φ M w → Sub m M → VRL φ args args' → Fresh φ m.next m'.next → CallOk P g args'.toArray w (KPost φ M w m v m')
  | _, _ => False
def SelfOk (P : Program) (self : Task → Option Out) : Prop := ∀ t o, self t = some o → SoundT P t o

section
variable {P : Program} {self : Task → Option Out} {φ φ' : Phi} {M M' : AM} {w w' : World} {f f' : Fr} {m m' m'' : Mem} {a : Act}

theorem Ext.refl (h : Wf m) : Ext m m := ⟨Nat.le_refl _, fun _ b h => .inl ⟨b, h⟩, fun _ _ _ _ h => h, h⟩
theorem Ext.trans (hl : m''.low ≤ m'.low) (a : Ext m m') (b : Ext m' m'') : Ext m m'' := by
  refine ⟨Nat.le_trans a.next b.next, fun i x hx => ?_, fun i x h1 h2 h3 => a.old i x (Nat.lt_of_lt_of_le h1 hl) (fun q => h2 ⟨q.1, Nat.lt_of_lt_of_le q.2 b.next⟩) (b.old i x h1 (fun q => h2 ⟨Nat.le_trans a.next q.1, q.2⟩) h3), b.wf⟩
  rcases b.dom i x hx with ⟨y, hy⟩ | ⟨h1, h2⟩
  · rcases a.dom i y hy with h | ⟨h1, h2⟩
    · exact .inl h
    · exact .inr ⟨h1, Nat.lt_of_lt_of_le h2 b.next⟩
  · exact .inr ⟨Nat.le_trans a.next h1, h2⟩
theorem Good.refl (hR : Rel φ M w) (hs : Sub m M) : Good φ M w m m φ M w := ⟨φ.le_refl, fun _ _ => rfl, hR, hs, fun _ _ _ => rfl, WG.refl _ _ _⟩
theorem Good.trans {φ'' : Phi} {M'' : AM} {w'' : World} (e : Ext m m') (e' : Ext m' m'') (hl : m''.low ≤ m'.low) (a : Good φ M w m m' φ' M' w') (b : Good φ' M' w' m' m'' φ'' M'' w'') : Good φ M w m m'' φ'' M'' w'' := by
  refine ⟨Phi.le_trans a.le b.le, fun i hi => ?_, b.rel, b.sub, fun i hi hn => ?_, a.wg.trans b.wg⟩
  · rw [b.out i (fun h => hi ⟨Nat.le_trans e.next h.1, h.2⟩), a.out i (fun h => hi ⟨h.1, Nat.lt_of_lt_of_le h.2 e'.next⟩)]
  · have h1 : ¬ (m.next ≤ i ∧ i < m'.next) := fun h => hi ⟨h.1, Nat.lt_of_lt_of_le h.2 e'.next⟩
    have h2 : ¬ (m'.next ≤ i ∧ i < m''.next) := fun h => hi ⟨Nat.le_trans e.next h.1, h.2⟩
    have h3 : m'.b.get i = none ∨ i < m''.low := by
      rcases hn with hn | hn
      · left
        cases hg : m'.b.get i with
        | none => rfl
        | some x =>
          rcases e.dom i x hg with ⟨y, hy⟩ | h
          · rw [hn] at hy; cases hy
          · exact absurd h h1
      · exact .inr hn
    rw [b.frame i h2 h3]
    exact a.frame i h1 (hn.imp id fun q => Nat.lt_of_lt_of_le q hl)
theorem Fresh.left {lo mid hi : Nat} (h : Fresh φ lo hi) (hm : mid ≤ hi) : Fresh φ lo mid := fun i h1 h2 => h i h1 (Nat.lt_of_lt_of_le h2 hm)
theorem Good.fresh (g : Good φ M w m m' φ' M' w') (e : Ext m m') {hi : Nat} (h : Fresh φ m.next hi) : Fresh φ' m'.next hi := fun i h1 h2 => by
  rw [g.out i (fun q => absurd q.2 (Nat.not_lt.2 h1))]
  exact h i (Nat.le_trans e.next h1) h2

/-- What is read behind a step. -/
theorem appE_eq (next : Nat) (b : T ABlk) (low : Nat) (e : Eff) : Mem.appE next b low e = match e with
    | .none => ⟨next, b, low⟩
    | .new x => ⟨next + 1, T.set LV b next (some x), low⟩
    | .upd i x => ⟨next, T.set LV b i (some x), Nat.min low i⟩
    | .move i x => ⟨next + 1, T.set LV (T.set LV b i none) next (some x), Nat.min low i⟩ := by
  cases e <;> simp only [Mem.appE, Mem.mk1, forceN_eq, T.strict_eq]
theorem app_next (m : Mem) (e : Eff) : (m.app e).next = if e.adds then m.next + 1 else m.next := by
  obtain ⟨next, b, low⟩ := m
  show (Mem.appE next b low e).next = _
  rw [appE_eq]
  cases e <;> rfl
theorem app_get {e : Eff} {i : Nat} {x : ABlk} (h : (m.app e).b.get i = some x) : appM m.b.get m.next e i = some x := by
  obtain ⟨next, b, low⟩ := m
  change (Mem.appE next b low e).b.get i = some x at h
  rw [appE_eq] at h
  cases e with
  | none => exact h
  | new y =>
    dsimp only at h
    have := T.get_set _ _ _ _ _ _ h
    simp only [appM, upd]
    split at this
    · rename_i e; rw [if_pos e]; exact this
    · rename_i e; rw [if_neg e]; exact this
  | upd j y =>
    dsimp only at h
    have := T.get_set _ _ _ _ _ _ h
    simp only [appM, upd]
    split at this
    · rename_i e; rw [if_pos e]; exact this
    · rename_i e; rw [if_neg e]; exact this
  | move j y =>
    dsimp only at h
    have := T.get_set _ _ _ _ _ _ h
    simp only [appM, upd]
    split at this
    · rename_i e; rw [if_pos e]; exact this
    · rename_i e
      rw [if_neg e]
      have := T.get_set _ _ _ _ _ _ this
      split at this
      · cases this
      · rename_i e; rw [if_neg e]; exact this
theorem app_low (m : Mem) (e : Eff) : (m.app e).low ≤ m.low ∧ ∀ i ∈ e.mods, (m.app e).low ≤ i := by
  obtain ⟨next, b, low⟩ := m
  show (Mem.appE next b low e).low ≤ low ∧ ∀ i ∈ e.mods, (Mem.appE next b low e).low ≤ i
  rw [appE_eq]
  cases e with
  | none => exact ⟨Nat.le_refl _, fun i hi => by simp [Eff.mods] at hi⟩
  | new x => exact ⟨Nat.le_refl _, fun i hi => by simp [Eff.mods] at hi⟩
  | upd j x => exact ⟨Nat.min_le_left _ _, fun i hi => by simp [Eff.mods] at hi; subst hi; exact Nat.min_le_right _ _⟩
  | move j x => exact ⟨Nat.min_le_left _ _, fun i hi => by simp [Eff.mods] at hi; subst hi; exact Nat.min_le_right _ _⟩
theorem appM_mono {N : AM} {next : Nat} {e : Eff} (h : ∀ i b, M i = some b → N i = some b) : ∀ i b, appM M next e i = some b → appM N next e i = some b := by
  intro i b hb
  cases e <;> simp only [appM, upd] at hb ⊢
  · exact h i b hb
  all_goals
    split at hb
    · rename_i q; rw [if_pos q]; exact hb
    · rename_i q
      rw [if_neg q]
      first
        | exact h i b hb
        | (split at hb
           · cases hb
           · rename_i q; rw [if_neg q]; exact h i b hb)
/-- Which numbers an effect touches. -/
theorem appM_other {next i : Nat} {e : Eff} (h1 : e.adds = true → i ≠ next) (h2 : i ∉ e.mods) : appM M next e i = M i := by
  cases e with
  | none => rfl
  | new x => simp [appM, upd, h1 rfl]
  | upd j x => simp [Eff.mods] at h2; simp [appM, upd, h2]
  | move j x => simp [Eff.mods] at h2; simp [appM, upd, h1 rfl, h2]

theorem app_ext (hw : Wf m) {e : Eff} (hmods : ∀ i ∈ e.mods, ∃ b, m.b.get i = some b) : Ext m (m.app e) := by
  have hn := app_next m e
  refine ⟨by rw [hn]; split <;> omega, fun i b hb => ?_, fun i b h1 h2 h3 => ?_, fun i b hb => ?_⟩
  rotate_left
  · have := app_get h3
    rw [appM_other (fun q e => h2 ⟨by omega, by rw [hn, if_pos q]; omega⟩) (fun q => by have := (app_low m e).2 i q; omega)] at this
    exact this
  rotate_left
  · have := app_get hb
    by_cases h2 : i ∈ e.mods
    · exact .inl (hmods i h2)
    · by_cases h1 : e.adds = true ∧ i = m.next
      · right; rw [hn, if_pos h1.1]; omega
      · rw [appM_other (fun q r => h1 ⟨q, r⟩) h2] at this
        exact .inl ⟨b, this⟩
  · have := app_get hb
    by_cases h2 : i ∈ e.mods
    · obtain ⟨y, hy⟩ := hmods i h2
      have := hw i y hy
      rw [hn]; split <;> omega
    · by_cases h1 : e.adds = true ∧ i = m.next
      · rw [hn, if_pos h1.1]; omega
      · rw [appM_other (fun q r => h1 ⟨q, r⟩) h2] at this
        have := hw i b this
        rw [hn]; split <;> omega

/-- What an operation changes, it has looked at. -/
theorem appSome_eff {i : TypeInfo} {elem : TypeId} {ad : Addr} {sLen k sCap : Nat} {new : List Value} {fx : List Nat} {b : ABlk} {r : R} (hb : m.b.get ad.block = some b) (h : appSome m i elem ad sLen k sCap new fx b = some r) :
    ∀ j ∈ r.e.mods, j ∈ r.foot ∧ ∃ b, m.b.get j = some b := by
  unfold appSome at h
  split at h
  · obtain ⟨_, h9⟩ := iteB_some h
    rw [iteB_eq] at h9
    split at h9
    · unfold appIn at h9
      obtain ⟨_, h10⟩ := iteB_some h9
      rw [forceN_eq] at h10
      cases h10
      intro j hj
      simp [Eff.mods] at hj
      subst hj
      exact ⟨by simp, _, hb⟩
    · unfold appOut at h9
      obtain ⟨old, _, h10⟩ := ob_some h9
      rw [appRes_some h10]
      intro j hj
      have : j = ad.block := by
        rw [iteB_eq] at hj
        split at hj
        · rw [iteB_eq] at hj
          split at hj <;> simpa [Eff.mods] using hj
        · simp [Eff.mods] at hj
      subst this
      exact ⟨by simp, _, hb⟩
  · cases h
theorem nomods {r : R} {P : Prop} {j : Nat} (h : r.e = .none ∨ ∃ b, r.e = .new b) (hj : j ∈ r.e.mods) : P := by
  rcases h with h | ⟨b, h⟩ <;> (rw [h] at hj; simp [Eff.mods] at hj)
theorem val_e {v : Value} {r : R} (h : val v = some r) : r.e = .none := by rw [val_some h]
theorem pureA_e {o : Oper} {r : R} (h : pureA P f o = some r) : r.e = .none := by
  unfold pureA at h
  split at h
  · cases h
  · rw [Bool.cond_eq_ite] at h
    split at h
    · split at h
      · rw [Bool.cond_eq_ite] at h
        split at h
        · cases h; rfl
        · cases h
      · cases h
    · cases h
theorem addrAt_e {ad : Addr} {k : Nat} {r : R} (h : addrAt ad k = some r) : r.e = .none := by rw [(addrAt_some h).2]
theorem evOp_eff {o : Oper} {r : R} (h : evOp P f o m = some r) : ∀ i ∈ r.e.mods, i ∈ r.foot ∧ ∃ b, m.b.get i = some b := by
  unfold evOp at h
  split at h
  · obtain ⟨_, _, h⟩ := ob_some h; exact fun i hi => nomods (.inl (val_e h)) hi
  · obtain ⟨_, _, h⟩ := ob_some h; exact fun i hi => nomods (.inl (val_e h)) hi
  · obtain ⟨_, _, h⟩ := ob_some h
    unfold evPick at h
    split at h
    · obtain ⟨_, _, h⟩ := ob_some h; exact fun i hi => nomods (.inl (val_e h)) hi
    · cases h
  · obtain ⟨_, _, h⟩ := ob_some h
    obtain ⟨_, _, h⟩ := ob_some h
    cases h; exact fun i hi => nomods (.inr ⟨_, rfl⟩) hi
  · obtain ⟨_, _, h⟩ := ob_some h
    obtain ⟨_, h⟩ := iteB_some h
    cases h; exact fun i hi => nomods (.inr ⟨_, rfl⟩) hi
  · obtain ⟨_, _, h⟩ := ob_some h
    obtain ⟨_, _, h⟩ := ob_some h
    obtain ⟨_, _, h⟩ := ob_some h
    obtain ⟨_, _, h⟩ := ob_some h
    unfold evBuild1 at h
    split at h
    · obtain ⟨_, _, h⟩ := ob_some h; obtain ⟨_, _, h⟩ := ob_some h; exact fun i hi => nomods (.inl (val_e h)) hi
    · obtain ⟨_, _, h⟩ := ob_some h; obtain ⟨_, _, h⟩ := ob_some h; exact fun i hi => nomods (.inl (val_e h)) hi
    · cases h
  · obtain ⟨_, _, h⟩ := ob_some h
    obtain ⟨_, _, h⟩ := ob_some h
    unfold evBuildSlice at h
    split at h
    · obtain ⟨_, _, h⟩ := ob_some h; obtain ⟨_, _, h⟩ := ob_some h
      obtain ⟨_, h⟩ := iteB_some h; obtain ⟨_, _, h⟩ := ob_some h
      cases h; exact fun i hi => nomods (.inr ⟨_, rfl⟩) hi
    · cases h
  · obtain ⟨_, _, h⟩ := ob_some h
    unfold evLoad at h
    split at h
    · obtain ⟨_, _, h⟩ := ob_some h; cases h; exact fun i hi => nomods (.inl rfl) hi
    · cases h
  · obtain ⟨_, _, h⟩ := ob_some h
    obtain ⟨_, _, h⟩ := ob_some h
    unfold evStore at h
    split at h
    · obtain ⟨e, he, h⟩ := ob_some h
      cases h
      unfold storeA at he
      split at he
      · rename_i hb _
        simp only at he
        rw [Bool.cond_eq_ite] at he
        split at he
        · cases he
          intro i hi
          simp [Eff.mods] at hi
          subst hi
          exact ⟨by simp, _, hb⟩
        · cases he
      · cases he
    · cases h
  · obtain ⟨_, _, h⟩ := ob_some h
    unfold evNilCheck at h
    split at h
    · exact fun i hi => nomods (.inl (val_e h)) hi
    · cases h
  · obtain ⟨_, _, h⟩ := ob_some h
    unfold evFieldAddr at h
    split at h
    · obtain ⟨_, _, h⟩ := ob_some h
      unfold evFieldAddr1 at h
      split at h
      · obtain ⟨_, _, h⟩ := ob_some h; obtain ⟨_, _, h⟩ := ob_some h
        rw [iteB_eq] at h
        split at h
        · cases h
        · exact fun i hi => nomods (.inl (addrAt_e h)) hi
      · cases h
    · cases h
  · obtain ⟨_, _, h⟩ := ob_some h
    unfold evFieldOf at h
    split at h
    · obtain ⟨_, _, h⟩ := ob_some h
      unfold evFieldOf1 at h
      split at h
      · obtain ⟨_, _, h⟩ := ob_some h; obtain ⟨_, _, h⟩ := ob_some h; exact fun i hi => nomods (.inl (val_e h)) hi
      · cases h
    · cases h
  · obtain ⟨_, _, h⟩ := ob_some h
    obtain ⟨_, _, h⟩ := ob_some h
    unfold evIndexAddr at h
    split at h
    · obtain ⟨_, _, h⟩ := ob_some h
      unfold evIndex1 at h
      split at h
      · split at h
        · obtain ⟨_, h⟩ := iteB_some h; obtain ⟨_, _, h⟩ := ob_some h; exact fun i hi => nomods (.inl (addrAt_e h)) hi
        · cases h
      · split at h
        · obtain ⟨_, h⟩ := iteB_some h; obtain ⟨_, _, h⟩ := ob_some h; exact fun i hi => nomods (.inl (addrAt_e h)) hi
        · cases h
      · cases h
    · cases h
  · obtain ⟨_, _, h⟩ := ob_some h
    unfold evExtract at h
    split at h
    · obtain ⟨_, _, h⟩ := ob_some h; exact fun i hi => nomods (.inl (val_e h)) hi
    · cases h
  · obtain ⟨_, _, h⟩ := ob_some h
    obtain ⟨_, _, h⟩ := ob_some h
    unfold evMakeFunc at h
    split at h
    · exact fun i hi => nomods (.inl (val_e h)) hi
    · cases h
  · obtain ⟨_, _, h⟩ := ob_some h
    obtain ⟨_, _, h⟩ := ob_some h
    unfold evMakeSlice at h
    split at h
    · obtain ⟨_, _, h⟩ := ob_some h
      unfold evMakeSlice1 at h
      split at h
      · obtain ⟨_, _, h⟩ := ob_some h; obtain ⟨_, _, h⟩ := ob_some h
        obtain ⟨_, h⟩ := iteB_some h
        cases h; exact fun i hi => nomods (.inr ⟨_, rfl⟩) hi
      · cases h
    · cases h
  · obtain ⟨_, _, h⟩ := ob_some h
    obtain ⟨_, _, h⟩ := ob_some h
    obtain ⟨_, _, h⟩ := ob_some h
    obtain ⟨_, _, h⟩ := ob_some h
    unfold sliceA at h
    split at h
    · obtain ⟨_, _, h⟩ := ob_some h; obtain ⟨_, _, h⟩ := ob_some h; cases h; exact fun i hi => nomods (.inl rfl) hi
    · obtain ⟨_, _, h⟩ := ob_some h; obtain ⟨_, _, h⟩ := ob_some h
      obtain ⟨_, _, _, _, _, rfl⟩ := sliceA1_some h
      exact fun i hi => nomods (.inl rfl) hi
    · obtain ⟨_, _, h⟩ := ob_some h; obtain ⟨_, _, h⟩ := ob_some h; obtain ⟨_, _, h⟩ := ob_some h; cases h; exact fun i hi => nomods (.inl rfl) hi
    · obtain ⟨_, _, h⟩ := ob_some h; obtain ⟨_, _, h⟩ := ob_some h
      obtain ⟨_, h⟩ := iteB_some h
      obtain ⟨_, _, _, _, _, rfl⟩ := sliceA1_some h
      exact fun i hi => nomods (.inl rfl) hi
    · cases h
  · cases h; exact fun i hi => nomods (.inr ⟨_, rfl⟩) hi
  · obtain ⟨_, _, h⟩ := ob_some h
    obtain ⟨_, _, h⟩ := ob_some h
    obtain ⟨_, _, h⟩ := ob_some h
    unfold evLookup at h
    split at h
    · obtain ⟨_, h⟩ := iteB_some h; obtain ⟨_, _, h⟩ := ob_some h
      unfold evLookup1 at h
      split at h
      · obtain ⟨_, _, h⟩ := ob_some h; obtain ⟨_, h⟩ := iteB_some h; cases h; exact fun i hi => nomods (.inl rfl) hi
      · cases h
    · cases h
  · obtain ⟨_, _, h⟩ := ob_some h
    obtain ⟨_, _, h⟩ := ob_some h
    obtain ⟨_, _, h⟩ := ob_some h
    obtain ⟨_, _, h⟩ := ob_some h
    unfold evMapSet at h
    split at h
    · obtain ⟨_, h⟩ := iteB_some h; obtain ⟨_, hb, h⟩ := ob_some h
      unfold evMapSet1 at h
      split at h
      · obtain ⟨_, _, h⟩ := ob_some h; cases h
        intro i hi
        simp [Eff.mods] at hi
        subst hi
        exact ⟨by simp, _, hb⟩
      · cases h
    · cases h
  · rename_i c _
    obtain ⟨callee, args, ats⟩ := c
    unfold evCallB at h
    simp only at h
    split at h
    · obtain ⟨_, _, h⟩ := ob_some h
      unfold evLen at h
      split at h
      · obtain ⟨_, _, h⟩ := ob_some h
        split at h
        · rw [forceN_eq] at h; exact fun i hi => nomods (.inl (val_e h)) hi
        · cases h
      · exact fun i hi => nomods (.inl (pureA_e h)) hi
    · obtain ⟨_, _, h⟩ := ob_some h
      unfold evAppend at h
      split at h
      · obtain ⟨_, h⟩ := iteB_some h; obtain ⟨_, _, h⟩ := ob_some h
        split at h
        · unfold appendA at h
          obtain ⟨_, _, h⟩ := ob_some h; obtain ⟨_, _, h⟩ := ob_some h
          unfold appendA1 at h
          obtain ⟨_, h⟩ := iteB_some h
          rw [iteB_eq] at h
          split at h
          · cases h
          · unfold appendA2 at h
            split at h
            · rw [appRes_some h]; exact fun i hi => nomods (.inr ⟨_, rfl⟩) hi
            · obtain ⟨_, hb, h⟩ := ob_some h
              exact appSome_eff hb h
            · cases h
        · cases h
      · cases h
    · exact fun i hi => nomods (.inl (pureA_e h)) hi
    · exact fun i hi => nomods (.inl (pureA_e h)) hi
    · cases h
  · exact fun i hi => nomods (.inl (pureA_e h)) hi
  · exact fun i hi => nomods (.inl (pureA_e h)) hi
  · exact fun i hi => nomods (.inl (pureA_e h)) hi
  · exact fun i hi => nomods (.inl (pureA_e h)) hi
  · cases h
end
end Ev
end Go.Proofs.Ytlfojfndkcmfnaa
