/- Lemmas, joined: ShN ShO ShP. -/
import Derived.Test.YtlfojfndkcmfnaaPkLe8
set_option linter.unusedSimpArgs false
set_option linter.unusedVariables false
namespace Go.Proofs.Ytlfojfndkcmfnaa
namespace Sh
open Go Ev

section
variable {P : Program} {lo nt : Nat} {F F' : AM} {ω ω' : Om} {s : SS} {f : Fr} {m : Mem} {o : Oper}

theorem undef_rv : RV F ω (.tp []) undef := RV.tp (L := []) .nil
theorem wanted_none {ops : List Oper} (h : o.guard = none) : wantedA ops f o = some true := by unfold wantedA; rw [h]
theorem wanted_some {ops : List Oper} {j d : Nat} {w : Bool} {oj : Oper} (h : o.guard = some (j, w)) (hj : ops[j]? = some oj) (hd : oj.dst = some d) {v : Value} (hv : f.t.get d = some v) : wantedA ops f o = some (boolIs w v) := by
  unfold wantedA
  rw [h]
  show wantedG ops f (j, w) = _
  unfold wantedG
  simp only [hj, hd]
  show ob (f.t.get d) _ = _
  rw [hv]
  rfl
theorem guardOf_some {ops : List Oper} {g : Option (Nat × Bool)} {t : Nat} {w : Bool} (h : guardOf ops g = some (some (t, w))) : ∃ j oj, g = some (j, w) ∧ ops[j]? = some oj ∧ oj.dst = some t := by
  unfold guardOf at h
  split at h
  · cases h
  · rename_i j w'
    split at h
    · rename_i oj hj
      split at h
      · rename_i d hd; cases h; exact ⟨j, oj, rfl, hj, hd⟩
      · cases h
    · cases h
theorem guardOf_none {ops : List Oper} {g : Option (Nat × Bool)} (h : guardOf ops g = some none) : g = none := by
  unfold guardOf at h
  split at h
  · rfl
  · split at h
    · split at h <;> cases h
    · cases h

/-- The test's slot, with its outcome. -/
theorem Conc.lit (hc : Conc lo F ω s f m) {t : Nat} {c : Bool} (h : look s.f t = some (.b c)) : Conc lo F ω (s.put (some t) (.b c)) f m := by
  refine ⟨hc.wf, hc.low, hc.nxt, hc.sub, hc.own, hc.dom, hc.inj, hc.apart, fun k v hv => ?_⟩
  have hv' : (if t = k then some (SV.b c) else look s.f k) = some v := hv
  split at hv'
  · rename_i q; subst q; cases hv'; exact hc.fr _ _ h
  · exact hc.fr k v hv'

/-- The order of entries: each later one against an earlier one. -/
def Later (an : List Nat) (i : Nat) (es : List Ent) (ps : List (Nat × Ent)) : Prop := ∀ k e, es[k]? = some e → ∀ p ∈ ps, Nat.testBit (an.getD (i + k) 0) p.1 = true ∨ Ap (i + k) p.1 e p.2
def Among (an : List Nat) (i : Nat) (es : List Ent) : Prop := ∀ k q e d, q < k → es[k]? = some e → es[q]? = some d → Nat.testBit (an.getD (i + k) 0) (i + q) = true ∨ Ap (i + k) (i + q) e d
theorem later_cons {an : List Nat} {i : Nat} {e : Ent} {es : List Ent} {ps : List (Nat × Ent)} (h : Later an (i + 1) es ((i, e) :: ps)) (h0 : ∀ p ∈ ps, Nat.testBit (an.getD i 0) p.1 = true ∨ Ap i p.1 e p.2) (ha : Among an (i + 1) es) : Later an i (e :: es) ps ∧ Among an i (e :: es) := by
  refine ⟨fun k x hk p hp => ?_, fun k q x d hlt hk hq => ?_⟩
  · cases k with
    | zero => simp at hk; subst hk; simpa using h0 p hp
    | succ k => have := h k x (by simpa using hk) p (List.mem_cons_of_mem _ hp); rw [show i + (k + 1) = i + 1 + k by omega]; exact this
  · cases k with
    | zero => omega
    | succ k =>
      rw [show i + (k + 1) = i + 1 + k by omega]
      cases q with
      | zero => simp at hq; subst hq; exact h k x (by simpa using hk) (i, e) List.mem_cons_self
      | succ q => rw [show i + (q + 1) = i + 1 + q by omega]; exact ha k q x d (by omega) (by simpa using hk) (by simpa using hq)

theorem ops_sound {pr : List Nm} {mu : List FuncId} {d : Bool} {K : SS → Prop} {ops : List Oper} {an : List Nat} : ∀ (l : List Oper) (i : Nat) (sl : List SOper) (rs : List (Nat × SRec)) (ps : List (Nat × Ent)) (F : AM) (ω : Om) (s : SS) (f : Fr) (m : Mem),
    cmpL P nt ops an l i = some sl → vcOps ⟨Ct P, Cm P, pr, mu⟩ d K sl i rs s → Conc lo F ω s f m → nt ≤ f.n → Pasts F ω m.next rs ps →
    ∃ x es s' F' ω', Ev.Trace P ops x l es f m ∧ Conc lo F' ω' s' x.f x.m ∧ K s' ∧ x.f.n = f.n ∧ (d = true → Later an i es ps ∧ Among an i es) ∧ (Le F F' ∧ (∀ y b, F' y = some b → F y = some b ∨ lo ≤ y) ∧ ∀ β ∈ pr, ∀ x, ω β = some x → ω' β = some x)
  | [], i, sl, rs, ps, F, ω, s, f, m, hcmp, h, hc, hnt, hps => by
    cases hcmp
    exact ⟨⟨f, m⟩, [], s, F, ω, .nil, hc, h, rfl, fun _ => ⟨fun k e hk => by simp at hk, fun k q e d _ hk => by simp at hk⟩, Le.refl _, fun y b h => .inl h, fun β _ x hx => hx⟩
  | o :: l, i, sl, rs, ps, F, ω, s, f, m, hcmp, h, hc, hnt, hps => by
    unfold cmpL at hcmp
    obtain ⟨sop, hres, hcmp⟩ := bind_some hcmp
    have hres := Option.some.inj hres
    obtain ⟨g, hg, hcmp⟩ := bind_some hcmp
    obtain ⟨sl', hl, hcmp⟩ := bind_some hcmp
    split at hcmp
    · rename_i hd
      cases hcmp
      -- a wanted operation
      have wanted : ∀ (s : SS), Conc lo F ω s f m → wantedA ops f o = some true → runO ⟨Ct P, Cm P, pr, mu⟩ d rs s i (an.getD i 0) o.dst (vcOps ⟨Ct P, Cm P, pr, mu⟩ d K sl' (i + 1)) sop →
          ∃ x es s' F' ω', Ev.Trace P ops x (o :: l) es f m ∧ Conc lo F' ω' s' x.f x.m ∧ K s' ∧ x.f.n = f.n ∧ (d = true → Later an i es ps ∧ Among an i es) ∧ (Le F F' ∧ (∀ y b, F' y = some b → F y = some b ∨ lo ≤ y) ∧ ∀ β ∈ pr, ∀ x, ω β = some x → ω' β = some x) := by
        intro s hc hw hrun
        obtain ⟨r2, f1, F1, ω1, s1, rc, rs1, t1, t2, t3, t4, t5, t6, t7, t8, t9, t10, t11⟩ := run_sound hc hres hnt hd hps hrun
        obtain ⟨x, es, s', F', ω', u1, u2, u3, u4, u5, u6, u7, u8⟩ := ops_sound l (i + 1) sl' ((i, rc) :: rs1) ((i, ⟨f, m, true, r2⟩) :: ps) F1 ω1 s1 f1 r2.m hl t5 t4 (by rw [t3]; exact hnt)
          (fun p hp => by
            rcases List.mem_cons.1 hp with q | q
            · subst q; exact .inr ⟨rc, List.mem_cons_self, t6⟩
            · exact t7 p q)
        refine ⟨x, ⟨f, m, true, r2⟩ :: es, s', F', ω', .cons (e := ⟨f, m, true, r2⟩) ⟨hw, fun _ => t1, fun q => by cases q⟩ t2 u1, u2, u3, by rw [u4, t3], fun hdd => ?_, t9.trans u6, fun y b h => (u7 y b h).elim (t10 y b) .inr, fun β hβ x hx => u8 β hβ x (t11 β hβ x hx)⟩
        obtain ⟨v1, v2⟩ := u5 hdd
        refine later_cons v1 (fun p hp => ?_) v2
        rcases t8 hdd p hp with q | (q | q) | ⟨rc', a, b, c⟩
        · exact .inl q
        · exact .inr (.inr (.inl q))
        · exact .inr q
        · exact .inr (apart_of t4 t6 a c b)
      -- one that is not wanted
      have idle : ∀ (s : SS), Conc lo F ω s f m → wantedA ops f o = some false → vcOps ⟨Ct P, Cm P, pr, mu⟩ d K sl' (i + 1) rs (s.put o.dst (.tp [])) →
          ∃ x es s' F' ω', Ev.Trace P ops x (o :: l) es f m ∧ Conc lo F' ω' s' x.f x.m ∧ K s' ∧ x.f.n = f.n ∧ (d = true → Later an i es ps ∧ Among an i es) ∧ (Le F F' ∧ (∀ y b, F' y = some b → F y = some b ∨ lo ≤ y) ∧ ∀ β ∈ pr, ∀ x, ω β = some x → ω' β = some x) := by
        intro s hc hw hrun
        obtain ⟨f1, g1, g2, g3⟩ := put_ok hd hnt undef
        have hidle : Ent.idle ⟨f, m, false, ⟨undef, m, some [], some []⟩⟩ = true := idle_unwanted rfl
        obtain ⟨x, es, s', F', ω', u1, u2, u3, u4, u5, u6⟩ := ops_sound l (i + 1) sl' rs ((i, ⟨f, m, false, ⟨undef, m, some [], some []⟩⟩) :: ps) F ω _ f1 m hl hrun (hc.put g3 undef_rv) (by rw [g2]; exact hnt)
          (fun p hp => by
            rcases List.mem_cons.1 hp with q | q
            · subst q; exact .inl hidle
            · exact hps p q)
        refine ⟨x, ⟨f, m, false, ⟨undef, m, some [], some []⟩⟩ :: es, s', F', ω', .cons (e := ⟨f, m, false, ⟨undef, m, some [], some []⟩⟩) ⟨hw, fun q => (by cases q), fun _ => rfl⟩ g1 u1, u2, u3, by rw [u4, g2], fun hdd => ?_, u6⟩
        obtain ⟨v1, v2⟩ := u5 hdd
        exact later_cons v1 (fun p hp => .inr (.inl hidle)) v2
      cases g with
      | none => exact wanted s hc (wanted_none (guardOf_none hg)) h
      | some tw =>
        obtain ⟨t, w⟩ := tw
        obtain ⟨j, oj, e1, e2, e3⟩ := guardOf_some hg
        change guardO ⟨Ct P, Cm P, pr, mu⟩ d rs s i (an.getD i 0) o.dst (vcOps ⟨Ct P, Cm P, pr, mu⟩ d K sl' (i + 1)) sop t w (look s.f t) at h
        unfold guardO at h
        split at h
        · rename_i c hl'
          obtain ⟨u, k1, k2⟩ := hc.fr t _ hl'
          cases k2.bool_inv
          have hw := wanted_some e1 e2 e3 k1
          have hb : boolIs w (.bool c) = (c == w) := rfl
          by_cases hcw : c = w
          · subst hcw
            exact wanted _ (hc.lit hl') (by rw [hw, hb]; simp) (h.1 rfl)
          · have hcn : c = !w := by cases c <;> cases w <;> simp_all
            refine idle _ (by rw [← hcn]; exact hc.lit hl') (by rw [hw, hb]; simp [hcw]) (h.2 hcn)
        · rename_i hl'
          obtain ⟨u, k1, k2⟩ := hc.fr t _ hl'
          obtain ⟨L, rfl, hL⟩ := k2.tp_inv
          exact idle s hc (by rw [wanted_some e1 e2 e3 k1]; rfl) h
        · cases h
    · cases hcmp
end
end Sh
end Go.Proofs.Ytlfojfndkcmfnaa
namespace Go.Proofs.Ytlfojfndkcmfnaa
namespace Sh
open Go Ev

noncomputable def cmp (P : Program) (nt : Nat) : Code → Option SC
  | .skip => some .skip
  | .seq a b => (cmp P nt a).bind fun a => (cmp P nt b).bind fun b => some (.seq a b)
  | .cond c a b => (cmp P nt a).bind fun a => (cmp P nt b).bind fun b => some (.cond c a b)
  | .block id b => (cmp P nt b).bind fun b => some (.block id b)
  | .loop b => (cmp P nt b).bind fun b => some (.loop b)
  | .exit id => some (.exit id)
  | .ret => some .ret
  | .region _ ops d => (cmpL P nt ops.toList (ancs ops.toList []).reverse ops.toList 0).bind fun l => if d = false ∨ slotsOk ops.toList (ancs ops.toList []).reverse = true then some (.reg d l) else none
  | _ => some .no

def thenK (n : SS → Prop) (K : Exit → SS → Prop) : Exit → SS → Prop
  | .normal, s => n s
  | e, s => K e s
def blockK (id : Nat) (K : Exit → SS → Prop) : Exit → SS → Prop
  | .exit i, s => if i = id then K .normal s else K (.exit i) s
  | e, s => K e s
def SS.lit (s : SS) (c : Operand) (x : Bool) : SS := match c with
  | .tmp t => s.put (some t) (.b x)
  | _ => s
def condO (t : Option SV) (c : Operand) (s : SS) (a b : SS → Prop) : Prop := match t with
  | some (.b x) => (x = true → a (s.lit c true)) ∧ (x = false → b (s.lit c false))
  | _ => False
def loopK (pr : List Nm) (I : Nat → SS → Prop) (n : Nat) (K : Exit → SS → Prop) : Exit → SS → Prop
  | .normal, t => ∃ n' u, n' < n ∧ I n' u ∧ Weak pr t u
  | e, t => K e t
def loopO (pr : List Nm) (body : (Exit → SS → Prop) → SS → Prop) (K : Exit → SS → Prop) (s : SS) : Prop :=
  ∃ I : Nat → SS → Prop, (∃ n t, I n t ∧ Weak pr s t) ∧ ∀ n t, I n t → body (loopK pr I n K) t
/-- What a run of code asks for. -/
def vc (C : CC) : SC → (Exit → SS → Prop) → SS → Prop
  | .skip, K, s => K .normal s
  | .seq a b, K, s => vc C a (thenK (vc C b K) K) s
  | .cond c a b, K, s => condO (s.get c) c s (vc C a K) (vc C b K)
  | .block id b, K, s => vc C b (blockK id K) s
  | .loop b, K, s => loopO C.pr (vc C b) K s
  | .exit id, K, s => K (.exit id) s
  | .ret, K, s => K .ret s
  | .reg d ops, K, s => vcOps C d (K .normal) ops 0 [] s
  | .no, _, _ => False

section
variable {P : Program} {lo nt : Nat} {F F' : AM} {ω ω' : Om} {s : SS} {f f' : Fr} {m m' : Mem}

theorem trace_seq {ops : Array Oper} {x : FM} {rr : Option Nat} : ∀ {l : List Oper} {es : List Ent} {f : Fr} {m : Mem}, Ev.Trace P ops.toList x l es f m → Wf m →
    Grow m x.m ∧ ∀ φ M w a Q, Rel φ M w → Sub m M → FrR φ f a → Fresh φ m.next x.m.next → (∀ a' w' φ' M', Ev.Good φ M w m x.m φ' M' w' → FrR φ' x.f a' → a'.defers = a.defers → Q .normal a' w') → wpListIn (wr rr) 0 P ops Q l a w
  | _, _, _, _, .nil, hw => ⟨Grow.refl hw, fun φ M w a Q hR hs hf _ hQ => hQ a w φ M (Ev.Good.refl hR hs) hf rfl⟩
  | _, _, _, _, .cons (o := o) (l := l) (e := e) (es := es) (f1 := f1) he hp h, hw => by
    obtain ⟨h1, h2, h3⟩ := he
    cases hwt : e.w with
    | false =>
      have hr := h3 hwt
      rw [hr] at hp h
      obtain ⟨g1, g2⟩ := trace_seq h hw
      refine ⟨g1, fun φ M w a Q hR hs hf hfr hQ => wpListIn_step fun K hK => ?_⟩
      rw [wantedA_sound (φ := φ) h1 (fun _ _ _ d v _ _ _ hv => hf.get d v hv), hwt]
      exact ⟨fun _ _ => trivial, hK _ _ (g2 φ M w _ Q hR hs (hf.put hp VR.undef) hfr fun a' w' φ' M' q1 q2 q3 => hQ a' w' φ' M' q1 q2 (q3.trans (Ev.Act.put_defers _ _ _)))⟩
    | true =>
      have hone := h2 hwt
      have hpu := hone.pure hw
      obtain ⟨g1, g2⟩ := trace_seq h hpu.ext.wf
      refine ⟨Grow.trans ⟨hpu.ext, hpu.low⟩ g1, fun φ M w a Q hR hs hf hfr hQ => wpListIn_step fun K hK => ?_⟩
      rw [wantedA_sound (φ := φ) h1 (fun _ _ _ d v _ _ _ hv => hf.get d v hv), hwt]
      refine opIn hone.plain (hone.seq hw hR hs hf (hfr.left g1.ext.next) fun v' w' φ' M' hg hv => hK _ _ ?_)
      refine g2 φ' M' w' _ Q hg.rel hg.sub ((hf.mono hg.le).put hp hv) (hg.fresh hpu.ext hfr) fun a' w'' φ'' M'' hg' hf' hd => ?_
      exact hQ a' w'' φ'' M'' (Ev.Good.trans hpu.ext g1.ext g1.low hg hg') hf' (hd.trans (Ev.Act.put_defers _ _ _))

/-- What code comes to. -/
def Grew (pr : List Nm) (lo : Nat) (F : AM) (ω : Om) (F' : AM) (ω' : Om) : Prop := Le F F' ∧ (∀ y b, F' y = some b → F y = some b ∨ lo ≤ y) ∧ ∀ β ∈ pr, ∀ x, ω β = some x → ω' β = some x
theorem Grew.refl (pr : List Nm) (lo : Nat) (F : AM) (ω : Om) : Grew pr lo F ω F ω := ⟨Le.refl _, fun _ _ h => .inl h, fun _ _ _ h => h⟩
theorem Grew.trans {pr : List Nm} {lo : Nat} {F F' F'' : AM} {ω ω' ω'' : Om} (a : Grew pr lo F ω F' ω') (b : Grew pr lo F' ω' F'' ω'') : Grew pr lo F ω F'' ω'' :=
  ⟨a.1.trans b.1, fun y x h => (b.2.1 y x h).elim (a.2.1 y x) .inr, fun β hβ x hx => b.2.2 β hβ x (a.2.2 β hβ x hx)⟩
def CodeR (P : Program) (pr : List Nm) (lo : Nat) (c : Code) (F : AM) (ω : Om) (f : Fr) (m : Mem) (K : Exit → SS → Prop) : Prop :=
  ∃ e f' m' s' F' ω', SoundC P c f m e f' m' ∧ Conc lo F' ω' s' f' m' ∧ K e s' ∧ f'.n = f.n ∧ Grew pr lo F ω F' ω'

theorem region_sound {pr : List Nm} {mu : List FuncId} (hmix : P.follows .mixedOrders = true) {id : Nat} {ops : Array Oper} {d : Bool} {l : List SOper} {K : Exit → SS → Prop} (hcmp : cmpL P nt ops.toList (ancs ops.toList []).reverse ops.toList 0 = some l) (hsl : d = false ∨ slotsOk ops.toList (ancs ops.toList []).reverse = true)
    (h : vcOps ⟨Ct P, Cm P, pr, mu⟩ d (K .normal) l 0 [] s) (hc : Conc lo F ω s f m) (hnt : nt ≤ f.n) : CodeR P pr lo (.region id ops d) F ω f m K := by
  obtain ⟨x, es, s', F', ω', t1, t2, t3, t4, t5, t6⟩ := ops_sound (an := (ancs ops.toList []).reverse) ops.toList 0 l [] [] F ω s f m hcmp h hc hnt (fun p hp => by cases hp)
  refine ⟨.normal, x.f, x.m, s', F', ω', ?_, t2, t3, t4, t6⟩
  cases d with
  | false =>
    have hall := fun rr => trace_seq (rr := rr) t1 hc.wf
    exact ⟨(hall none).1, fun φ M w a r _ hR hs hf hfr => wpIn_region_list ((hall r).2 φ M w a _ hR hs hf hfr fun a' w' φ' M' hgd hf' hd => ⟨rfl, φ', M', hgd, hf', Df.same hd⟩)⟩
  | true =>
    rcases hsl with q | hsl
    · cases q
    · obtain ⟨_, ham⟩ := t5 rfl
      have hall := fun rr => draw_core (rr := rr) hmix hsl t1 (fun k q e d hlt hk hq => by have := ham k q e d hlt hk hq; simpa using this) hc.wf
      exact ⟨(hall none).1, fun φ M w a r _ hR hs hf hfr => (hall r).2 id φ M w a _ hR hs hf hfr fun a' w' φ' M' hgd hf' hd => ⟨rfl, φ', M', hgd, hf', Df.same hd⟩⟩

/-- Rounds of a loop. -/
inductive Rounds (P : Program) (b : Code) : Nat → Fr → Mem → Exit → Fr → Mem → Prop
  | stop {f m e f' m'} (h : SoundC P b f m e f' m') (he : e ≠ .normal) : Rounds P b 1 f m e f' m'
  | next {n f m f1 m1 e f' m'} (h : SoundC P b f m .normal f1 m1) (hr : Rounds P b n f1 m1 e f' m') : Rounds P b (n + 1) f m e f' m'
theorem Rounds.grow {b : Code} {n : Nat} {e : Exit} (h : Rounds P b n f m e f' m') : Grow m m' ∧ e ≠ .normal := by
  induction h with
  | stop h he => exact ⟨h.1, he⟩
  | next h _ ih => exact ⟨h.1.trans ih.1, ih.2⟩
theorem Rounds.run {b : Code} {rr : Option Nat} (hrr : rr.isSome = true → noRF b = true) {n : Nat} {f f' : Fr} {m m' : Mem} {e : Exit} (h : Rounds P b n f m e f' m') : 
    ∀ φ M w a Q, Rel φ M w → Sub m M → FrR φ f a → Fresh φ m.next m'.next → (∀ a' w' φ' M', Ev.Good φ M w m m' φ' M' w' → FrR φ' f' a' → Df w w' a a' → Q e a' w') → Code.roundsIn (wr rr) 0 P b Q n a w := by
  induction h with
  | stop hs1 he =>
    intro φ M w a Q hR hs hf hfr hQ
    rw [roundsIn_succ]
    refine wpIn_mono (hs1.2 φ M w a rr hrr hR hs hf hfr) ?_
    rintro e' a' w' ⟨rfl, φ', M', hg, hf', hd⟩
    exact then_other he (hQ a' w' φ' M' hg hf' hd)
  | next hs1 hr ih =>
    intro φ M w a Q hR hs hf hfr hQ
    have hg2 := hr.grow.1
    rw [roundsIn_succ]
    refine wpIn_mono (hs1.2 φ M w a rr hrr hR hs hf (hfr.left hg2.ext.next)) ?_
    rintro e' a' w' ⟨rfl, φ', M', hg, hf', hd⟩
    exact ih φ' M' w' a' Q hg.rel hg.sub hf' (hg.fresh hs1.1.ext hfr) fun a'' w'' φ'' M'' hg' hf'' hd' => hQ a'' w'' φ'' M'' (Ev.Good.trans hs1.1.ext hg2.ext hg2.low hg hg') hf'' (hd.trans hg.wg.size hg.rel hg'.wg hd')
theorem Rounds.sound {b : Code} {n : Nat} {e : Exit} (h : Rounds P b n f m e f' m') : SoundC P (.loop b) f m e f' m' :=
  ⟨h.grow.1, fun φ M w a _ hn hR hs hf hfr => wpIn_loop_rounds n (Rounds.run (b := b) (fun q => hn q) h φ M w a _ hR hs hf hfr fun _ _ φ' M' hgd hf' hd => ⟨rfl, φ', M', hgd, hf', hd⟩)⟩

theorem lit_conc (hc : Conc lo F ω s f m) {c : Operand} {x : Bool} (h : s.get c = some (.b x)) : Conc lo F ω (s.lit c x) f m := by
  cases c with
  | tmp t => exact hc.lit h
  | _ => exact hc
theorem code_sound {pr : List Nm} {mu : List FuncId} (hmix : P.follows .mixedOrders = true) : ∀ (c : Code) (sc : SC), cmp P nt c = some sc → ∀ (K : Exit → SS → Prop) (s : SS) (lo : Nat) (F : AM) (ω : Om) (f : Fr) (m : Mem), vc ⟨Ct P, Cm P, pr, mu⟩ sc K s → Conc lo F ω s f m → nt ≤ f.n → CodeR P pr lo c F ω f m K := by
  intro c
  induction c with
  | skip =>
    intro sc h K s lo F ω f m hv hc hn
    cases h
    exact ⟨.normal, f, m, s, F, ω, ⟨Grow.refl hc.wf, fun φ M w a r _ hR hs hf _ => wpIn_skip ⟨rfl, φ, M, Ev.Good.refl hR hs, hf, Df.same rfl⟩⟩, hc, hv, rfl, Grew.refl _ _ _ _⟩
  | exit id =>
    intro sc h K s lo F ω f m hv hc hn
    cases h
    exact ⟨.exit id, f, m, s, F, ω, ⟨Grow.refl hc.wf, fun φ M w a r _ hR hs hf _ => wpIn_exit ⟨rfl, φ, M, Ev.Good.refl hR hs, hf, Df.same rfl⟩⟩, hc, hv, rfl, Grew.refl _ _ _ _⟩
  | ret =>
    intro sc h K s lo F ω f m hv hc hn
    cases h
    exact ⟨.ret, f, m, s, F, ω, ⟨Grow.refl hc.wf, fun φ M w a r _ hR hs hf _ => wpIn_ret ⟨rfl, φ, M, Ev.Good.refl hR hs, hf, Df.same rfl⟩⟩, hc, hv, rfl, Grew.refl _ _ _ _⟩
  | region id ops d =>
    intro sc h K s lo F ω f m hv hc hn
    obtain ⟨l, h1, h⟩ := bind_some h
    split at h
    · rename_i hsl
      cases h
      exact region_sound hmix h1 hsl hv hc hn
    · cases h
  | seq a b iha ihb =>
    intro sc h K s lo F ω f m hv hc hn
    obtain ⟨sa, h1, h⟩ := bind_some h
    obtain ⟨sb, h2, h⟩ := bind_some h
    cases h
    obtain ⟨e, f1, m1, s1, F1, ω1, t1, t2, t3, t4, t5⟩ := iha sa h1 _ s lo F ω f m hv hc hn
    by_cases he : e = .normal
    · subst he
      obtain ⟨e2, f2, m2, s2, F2, ω2, u1, u2, u3, u4, u5⟩ := ihb sb h2 K s1 lo F1 ω1 f1 m1 t3 t2 (by rw [t4]; exact hn)
      exact ⟨e2, f2, m2, s2, F2, ω2, t1.seq u1, u2, u3, by rw [u4, t4], t5.trans u5⟩
    · refine ⟨e, f1, m1, s1, F1, ω1, ⟨t1.1, fun φ M w a' r hnr hR hs hf hfr => wpIn_seq (wpIn_mono (t1.2 φ M w a' r (fun q => (noRF_seq (hnr q)).1) hR hs hf hfr) ?_)⟩, t2, by cases e <;> first | exact absurd rfl he | exact t3, t4, t5⟩
      intro e' a'' w' hp
      exact then_other (by rw [hp.1]; exact he) hp
  | cond c a b iha ihb =>
    intro sc h K s lo F ω f m hv hc hn
    obtain ⟨sa, h1, h⟩ := bind_some h
    obtain ⟨sb, h2, h⟩ := bind_some h
    cases h
    change condO (s.get c) c s (vc ⟨Ct P, Cm P, pr, mu⟩ sa K) (vc ⟨Ct P, Cm P, pr, mu⟩ sb K) at hv
    unfold condO at hv
    split at hv
    · rename_i x hx
      obtain ⟨u, k1, k2⟩ := hc.get hx
      cases k2.bool_inv
      have key : ∀ z : Code, CodeR P pr lo z F ω f m K → (if x then a else b) = z → CodeR P pr lo (.cond c a b) F ω f m K := by
        rintro z ⟨e, f1, m1, s1, F1, ω1, t1, t2, t3, t4, t5⟩ he
        refine ⟨e, f1, m1, s1, F1, ω1, ⟨t1.1, fun φ M w a' r hnr hR hs hf hfr => wpIn_cond (t := x) ?_ (by rw [he]; exact t1.2 φ M w a' r (fun q => by have := noRF_cond (hnr q); rw [← he]; cases x <;> first | exact this.2 | exact this.1) hR hs hf hfr)⟩, t2, t3, t4, t5⟩
        exact ((get_sound (fun t v _ ht => hf.get t v ht) k1).bool_iff x).2 rfl
      cases x with
      | true => exact key a (iha sa h1 K _ lo F ω f m (hv.1 rfl) (lit_conc hc hx) hn) rfl
      | false => exact key b (ihb sb h2 K _ lo F ω f m (hv.2 rfl) (lit_conc hc hx) hn) rfl
    · cases hv
  | block id b ih =>
    intro sc h K s lo F ω f m hv hc hn
    obtain ⟨sb, h1, h⟩ := bind_some h
    cases h
    obtain ⟨e, f1, m1, s1, F1, ω1, t1, t2, t3, t4, t5⟩ := ih sb h1 _ s lo F ω f m hv hc hn
    have out : ∀ e', (∀ φ M w a a' w', CPost φ M w m e f1 m1 a e a' w' → Exit.inBlock id (CPost φ M w m e' f1 m1 a) e a' w') → K e' s1 → CodeR P pr lo (.block id b) F ω f m K := by
      intro e' hh hk
      refine ⟨e', f1, m1, s1, F1, ω1, ⟨t1.1, fun φ M w a r hnr hR hs hf hfr => wpIn_block (wpIn_mono (t1.2 φ M w a r hnr hR hs hf hfr) ?_)⟩, t2, hk, t4, t5⟩
      intro e2 a' w' hp
      have he2 := hp.1
      subst he2
      exact hh φ M w a a' w' hp
    cases e with
    | exit i =>
      change (if i = id then K .normal s1 else K (.exit i) s1) at t3
      by_cases hi : i = id
      · subst hi
        rw [if_pos rfl] at t3
        exact out .normal (fun φ M w a a' w' hp => by simp only [Exit.inBlock, if_true]; exact ⟨rfl, hp.2⟩) t3
      · rw [if_neg hi] at t3
        exact out (.exit i) (fun φ M w a a' w' hp => by simp only [Exit.inBlock, if_neg hi]; exact hp) t3
    | normal => exact out .normal (fun φ M w a a' w' hp => hp) t3
    | ret => exact out .ret (fun φ M w a a' w' hp => hp) t3
    | _ => exact out _ (fun φ M w a a' w' hp => hp) t3
  | loop b ih =>
    intro sc h K s lo F ω f m hv hc hn
    obtain ⟨sb, h1, h⟩ := bind_some h
    cases h
    obtain ⟨I, ⟨n0, t0, hI0, hw0⟩, hstep⟩ := hv
    have main : ∀ n t F ω f m, I n t → Conc lo F ω t f m → nt ≤ f.n → ∃ N e f' m' s' F' ω', Rounds P b N f m e f' m' ∧ Conc lo F' ω' s' f' m' ∧ K e s' ∧ f'.n = f.n ∧ Grew pr lo F ω F' ω' := by
      intro n
      induction n using Nat.strongRecOn with
      | _ n ihn =>
        intro t F ω f m hI hc hn
        obtain ⟨e, f1, m1, s1, F1, ω1, t1, t2, t3, t4, t5⟩ := ih sb h1 _ t lo F ω f m (hstep n t hI) hc hn
        by_cases he : e = .normal
        · subst he
          obtain ⟨n', u, hlt, hI', hwk⟩ := t3
          obtain ⟨ω2, F2', w1, w2, hc2, w3⟩ := hwk lo F1 ω1 f1 m1 t2
          obtain ⟨N, e2, f2, m2, s2, F2, ω3, r1, r2, r3, r4, r5⟩ := ihn n' hlt u F2' ω2 f1 m1 hI' hc2 (by rw [t4]; exact hn)
          exact ⟨N + 1, e2, f2, m2, s2, F2, ω3, .next t1 r1, r2, r3, by rw [r4, t4], t5.trans (Grew.trans ⟨w1, w2, w3⟩ r5)⟩
        · exact ⟨1, e, f1, m1, s1, F1, ω1, .stop t1 he, t2, by cases e <;> first | exact absurd rfl he | exact t3, t4, t5⟩
    obtain ⟨ω2, F2', w1, w2, hc2, w3⟩ := hw0 lo F ω f m hc
    obtain ⟨N, e, f', m', s', F', ω', r1, r2, r3, r4, r5⟩ := main n0 t0 F2' ω2 f m hI0 hc2 hn
    exact ⟨e, f', m', s', F', ω', r1.sound, r2, r3, r4, Grew.trans ⟨w1, w2, w3⟩ r5⟩
  | _ => intro sc h K s lo F ω f m hv; cases h; exact hv.elim
end
end Sh
end Go.Proofs.Ytlfojfndkcmfnaa
namespace Go.Proofs.Ytlfojfndkcmfnaa
namespace Sh
open Go Ev

/-- Results. -/
inductive SR where
  | t (n : Nat)
  | c (a : Nat) (ag : Bool) (n : Nat)
noncomputable def cmpR (P : Program) : List ResultVar → Option (List SR)
  | [] => some []
  | .tmp t :: l => (cmpR P l).bind fun r => some (.t t :: r)
  | .cell a t :: l => (P.underlying t).bind fun d => (P.info? t).bind fun i => (cmpR P l).bind fun r => some (.c a (isAggD d) i.size :: r)
def resX (s : SS) : List SR → (List SV → Prop) → Prop
  | [], K => K []
  | .t n :: l, K => match look s.f n with
    | some v => resX s l fun vs => K (v :: vs)
    | none => False
  | .c a ag n :: l, K => match look s.f a with
    | some p => (match loadX s ag n p with
      | some r => r.c ∧ resX s l fun vs => K (r.v :: vs)
      | none => False)
    | none => False
def oneOr : List SV → SV
  | [v] => v
  | vs => .tp vs
def retK (rs : List SR) (Q : SV → Prop) : Exit → SS → Prop
  | .normal, s => resX s rs fun vs => vok s.o 5 (oneOr vs) ∧ Q (view s.o 5 (oneOr vs))
  | .ret, s => resX s rs fun vs => vok s.o 5 (oneOr vs) ∧ Q (view s.o 5 (oneOr vs))
  | _, _ => False
/-- The same, of a function that may change what it is given. -/
def retM1 (pr : List Nm) (s : SS) (Q : SV → Own → Prop) (v : SV) : Prop :=
  ∃ r o', Weak pr ⟨[(0, v)], s.o⟩ ⟨[(0, r)], o'⟩ ∧ (cln (live o') 5 r = true ∧ allQ (fun p => famCln (live o') p.2) o' ∧ allQ (fun β => live o' β = true) pr) ∧ Q r o'
def retM (rs : List SR) (pr : List Nm) (Q : SV → Own → Prop) : Exit → SS → Prop
  | .normal, s => resX s rs fun vs => retM1 pr s Q (oneOr vs)
  | .ret, s => resX s rs fun vs => retM1 pr s Q (oneOr vs)
  | _, _ => False

section
variable {P : Program} {lo nt : Nat} {F F' : AM} {ω ω' : Om} {s : SS} {f f' : Fr} {m m' : Mem}

theorem resX_rv (hc : Conc lo F ω s f m) : ∀ {l : List ResultVar} {rs : List SR} {K : List SV → Prop}, cmpR P l = some rs → resX s rs K → ∃ vs us, resA P m f l = some us ∧ RVL F ω vs us ∧ K vs
  | [], rs, K, h, hk => by cases h; exact ⟨[], [], rfl, .nil, hk⟩
  | .tmp t :: l, rs, K, h, hk => by
    obtain ⟨r, h1, h⟩ := bind_some h
    cases h
    unfold resX at hk
    split at hk
    · rename_i v hv
      obtain ⟨vs, us, g1, g2, g3⟩ := resX_rv hc h1 hk
      obtain ⟨u, e1, e2⟩ := hc.fr t v hv
      refine ⟨v :: vs, u :: us, ?_, .cons e2 g2, g3⟩
      unfold resA
      rw [e1, g1]
    · cases hk
  | .cell a t :: l, rs, K, h, hk => by
    obtain ⟨d, h1, h⟩ := bind_some h
    obtain ⟨i, h2, h⟩ := bind_some h
    obtain ⟨r, h3, h⟩ := bind_some h
    cases h
    unfold resX at hk
    split at hk
    · rename_i p hp
      split at hk
      · rename_i q hq
        obtain ⟨hqc, hk⟩ := hk
        obtain ⟨vs, us, g1, g2, g3⟩ := resX_rv hc h3 hk
        obtain ⟨u, e1, e2⟩ := hc.fr a p hp
        let o : Oper := ⟨none, .load t (.tmp a), 0, "", #[], none⟩
        obtain ⟨r0, ω', k1, k2, k3, k4, _⟩ := s_load (P := P) (o := o) hc rfl h1 h2 (x := .tmp a) hp hq hqc
        have hev : ob (f.get (.tmp a)) (evLoad P t m) = some r0 := k1
        have hfa : f.get (.tmp a) = some u := e1
        rw [hfa] at hev
        have hu : ∃ ad w, u = .pointer (some ad) ∧ loadA P m t ad = some w ∧ r0 = ⟨w, .none, [ad.block]⟩ := by
          change evLoad P t m u = some r0 at hev
          unfold evLoad at hev
          split at hev
          · rename_i ad
            obtain ⟨w, w1, w2⟩ := ob_some hev
            cases w2
            exact ⟨ad, w, rfl, w1, rfl⟩
          · cases hev
        obtain ⟨ad, w, rfl, w1, rfl⟩ := hu
        have hω : RV F ω q.v w := by
          unfold loadX at hq
          split at hq
          · split at hq
            · rename_i v hv
              cases hq
              obtain ⟨bk, y, T, N, e', zz, L, hpp, q1, q2, q3, q4, _⟩ := e2.rf_inv
              cases hpp
              obtain ⟨z1, z2⟩ := part_rv hv q4
              obtain ⟨w', w1', w2'⟩ := loadA_of (F := F) h1 h2 (hc.sub _ _ q1) (q := y) q2 q3 z1 z2
              rw [Nat.add_zero] at w1'
              rw [w1] at w1'
              cases w1'
              exact w2'.mono (Le.refl _) (om0_le _)
            · cases hq
          · rename_i β ai j
            split at hq
            · rename_i b hb
              split at hq
              · split at hq
                · rename_i v hv
                  cases hq
                  obtain ⟨k, z, hk', hpp⟩ := e2.pt_inv
                  cases hpp
                  obtain ⟨rfl, T, L, g1', g2'⟩ := hc.ownAt hb hk'
                  obtain ⟨l1, l2, _, l3⟩ := g2' ai hqc
                  obtain ⟨z1, z2⟩ := part_rv hv l2
                  have hqc' : ai < b.n := hqc
                  obtain ⟨w', w1', w2'⟩ := loadA_of (F := F) h1 h2 g1' (q := ai * b.z) (L := L ai) (by rw [l1]; have := mul_in (z := b.z) hqc'; omega) (fun y hy => l3 y (by omega)) z1 z2
                  rw [w1] at w1'
                  cases w1'
                  exact w2'
                · cases hq
              · cases hq
            · cases hq
          · cases hq
        refine ⟨q.v :: vs, w :: us, ?_, .cons hω g2, g3⟩
        unfold resA
        have e1' : f.t.get a = some (.pointer (some ad)) := e1
        rw [e1', g1]
        simp only
        rw [w1]
      · cases hk
    · cases hk
theorem oneOr_rv {vs : List SV} {us : List Value} (h : RVL F ω vs us) : RV F ω (oneOr vs) (oneOrTuple us) := by
  cases h with
  | nil => exact .tp .nil
  | cons a b =>
    cases b with
    | nil => exact a
    | cons c d => exact .tp (.cons a (.cons c d))
/-- A function's code, and what the evaluator says of a call of it. -/
theorem fn_raw (hnn : NoNum P) {g : FuncId} {fn : Func} {c : Code} (hg : P.funcs[g]? = some fn) (hb : fn.body = some c) {us ws : List Value} {e : Exit} {m1 : Mem} (he : e = .normal ∨ e = .ret) (h : SoundC P c ⟨Nat.max us.length fn.ntmps, tOf us⟩ (enterM m) e f' m1) (hr : resA P m1 f' fn.results.toList = some ws) : SoundT P (.call g us m) (.call (oneOrTuple ws) m1) := by
  intro hw
  refine ⟨⟨h.1.ext.next, h.1.ext.dom, h.1.ext.old, h.1.ext.wf⟩, fun φ M w args' hR hs hv hfr => .inl ⟨callFunc_enter hnn hg hb _ _, ?_⟩⟩
  have key : Calls P g args'.toArray w (fun e w' => ∃ v', e = .returned v' ∧ ∃ φ' M', Ev.Good φ M w (enterM m) m1 φ' M' w' ∧ VR φ' (oneOrTuple ws) v') := by
    refine callsIn_wide.1 (callsIn_of_wp_marks (n := 0) hg hb trivial ?_)
    refine wpIn_mono (h.2 φ M w _ none (fun q => by cases q) hR hs (enter_frame hv fn.ntmps) hfr) ?_
    rintro e' a' w' ⟨rfl, φ', M', hgd, hf', hd⟩
    obtain ⟨ms, hms, hmk⟩ := hd
    have hl := leaves_marks hgd hf' hr hmk
    rw [show ms = a'.defers by rw [hms]; simp] at hl
    rcases he with rfl | rfl
    · exact hl
    · exact hl
  refine key.mono ?_
  rintro e' w' ⟨v', rfl, φ', M', hgd, hvr⟩
  exact ⟨v', rfl, φ', M', ⟨hgd.le, hgd.out, hgd.rel, hgd.sub, hgd.frame, hgd.wg⟩, hvr⟩
/-- A function is what its code asks for. -/
theorem fn_sound (hmix : P.follows .mixedOrders = true) (hnn : NoNum P) {g : FuncId} {fn : Func} {c : Code} {sc : SC} {rs : List SR} (hg : P.funcs[g]? = some fn) (hb : fn.body = some c) (hcmp : cmp P fn.ntmps c = some sc) (hrs : cmpR P fn.results.toList = some rs)
    {mu : List FuncId} {args : List SV} {Q : SV → Prop} (h : vc ⟨Ct P, Cm P, [], mu⟩ sc (retK rs Q) ⟨slots args 0, []⟩) : Ct P g args Q := by
  classical
  intro G m us hw hle hargs
  have hc0 : Conc m.next G om0 ⟨slots args 0, []⟩ ⟨Nat.max us.length fn.ntmps, tOf us⟩ (enterM m) := by
    refine ⟨hw, Nat.le_refl _, Nat.le_refl _, hle, fun β b h => (by cases h), fun β _ => rfl, fun β γ k z k' z' h => (by cases h), fun β k z h => (by cases h), fun t v hv => ?_⟩
    obtain ⟨_, h2⟩ := slots_look hv
    obtain ⟨u, h3, h4⟩ := hargs.get h2
    exact ⟨u, by rw [tOf_get?]; simpa using h3, h4⟩
  obtain ⟨e, f', m1, s', F', ω', t1, t2, t3, t4, t5⟩ := code_sound hmix c sc hcmp _ _ m.next G om0 _ (enterM m) h hc0 (Nat.le_max_right _ _)
  have hres : (e = .normal ∨ e = .ret) ∧ resX s' rs fun vs => vok s'.o 5 (oneOr vs) ∧ Q (view s'.o 5 (oneOr vs)) := by
    cases e with
    | normal => exact ⟨.inl rfl, t3⟩
    | ret => exact ⟨.inr rfl, t3⟩
    | _ => cases t3
  obtain ⟨he, hres⟩ := hres
  obtain ⟨vs, ws, r1, r2, r3, r4⟩ := resX_rv t2 hrs hres
  have hs0 : SoundT P (.call g us m) (.call (oneOrTuple ws) m1) := fn_raw hnn hg hb he t1 r1
  have hm1 : m.next ≤ m1.low := t2.low
  have hold : ∀ {i x}, m.b.get i = some x → i < m.next := fun {i x} q => hw i x q
  have hrv := oneOr_rv r2
  -- what is told of the result
  have hview : ∀ H : AM, Le F' H → (∀ β k z, ω' β = some (some (k, z)) → ∀ b, m1.b.get k = some b → H k = some b) → RV H om0 (view s'.o 5 (oneOr vs)) (oneOrTuple ws) := fun H h1 h2 => view_rv t2 h1 h2 hrv r3
  · have hs1 : SoundT P (.call g us m) (.call (oneOrTuple ws) ⟨m1.next, tmerge m.b m1.b, m1.low⟩) := by
      intro hwm
      obtain ⟨ext, hcall⟩ := hs0 hwm
      have hget : ∀ {i x}, (tmerge m.b m1.b).get i = some x → m.b.get i = some x ∨ m1.b.get i = some x := fun {i x} q => by
        rw [tmerge_get] at q
        split at q
        · rename_i y hy; cases q; exact .inl hy
        · exact .inr q
      refine ⟨⟨ext.next, fun i b hq => ?_, fun i b h1 h2 hq => ?_, fun i b hq => ?_⟩, fun φ M w args' hR hs ha hf => ?_⟩
      · rcases hget hq with q | q
        · exact .inl ⟨b, q⟩
        · exact ext.dom i b q
      · rcases hget hq with q | q
        · exact q
        · exact ext.old i b h1 h2 q
      · rcases hget hq with q | q
        · exact Nat.lt_of_lt_of_le (hold q) ext.next
        · exact ext.wf i b q
      · refine (hcall φ M w args' hR hs ha hf).mono ?_
        rintro e' w' ⟨v', rfl, φ', M', hgd, hv⟩
        refine ⟨v', rfl, φ', M', ⟨hgd.le, hgd.out, hgd.rel, fun i b hq => ?_, hgd.frame, hgd.wg⟩, hv⟩
        rcases hget hq with q | q
        · have hi := hold q
          rw [hgd.frame i (fun z => by omega) (.inr (Nat.lt_of_lt_of_le hi hm1))]
          exact hs i b q
        · exact hgd.sub i b q
    have hnone : ∀ {i}, m.next ≤ i → m.b.get i = none := fun {i} q => by
      cases hh : m.b.get i with
      | none => rfl
      | some x => have := hold hh; omega
    refine ⟨_, _, view s'.o 5 (oneOr vs), hs1, hm1, fun i b hq => ?_, r4, hview _ (fun i b hq => ?_) (fun β k z hk b hq => ?_)⟩
    · show (tmerge m.b m1.b).get i = some b
      rw [tmerge_get, hq]
    · unfold frsh
      rcases t5.2.1 i b hq with q | q
      · rw [if_neg (by have := hold (hle i b q); omega)]; exact q
      · rw [if_pos q]
        show (tmerge m.b m1.b).get i = some b
        rw [tmerge_get, hnone q]
        exact t2.sub i b hq
    · unfold frsh
      have := (t2.apart β k z hk).2.1
      rw [if_pos this]
      show (tmerge m.b m1.b).get k = some b
      rw [tmerge_get, hnone this]
      exact hq
/-- A function that may change what it is given is what its code asks for. -/
theorem fnM_sound (hmix : P.follows .mixedOrders = true) (hnn : NoNum P) {g : FuncId} {fn : Func} {c : Code} {sc : SC} {rs : List SR} (hg : P.funcs[g]? = some fn) (hb : fn.body = some c) (hcmp : cmp P fn.ntmps c = some sc) (hrs : cmpR P fn.results.toList = some rs)
    {pr : List Nm} {mu : List FuncId} {o : Own} {args : List SV} {Q : SV → Own → Prop} (h : vc ⟨Ct P, Cm P, pr, mu⟩ sc (retM rs pr Q) ⟨slots args 0, o⟩) : Cm P g pr o args Q := by
  classical
  intro lo G ω f m us hc hargs
  have hc0 : Conc lo G ω ⟨slots args 0, o⟩ ⟨Nat.max us.length fn.ntmps, tOf us⟩ (enterM m) := by
    refine ⟨hc.wf, hc.nxt, hc.nxt, hc.sub, hc.own, hc.dom, hc.inj, hc.apart, fun t v hv => ?_⟩
    obtain ⟨_, h2⟩ := slots_look hv
    obtain ⟨u, h3, h4⟩ := hargs.get h2
    exact ⟨u, by rw [tOf_get?]; simpa using h3, h4⟩
  obtain ⟨e, f', m1, s', F', ω', t1, t2, t3, t4, t5⟩ := code_sound hmix c sc hcmp _ _ lo G ω _ (enterM m) h hc0 (Nat.le_max_right _ _)
  have hres : (e = .normal ∨ e = .ret) ∧ resX s' rs fun vs => retM1 pr s' Q (oneOr vs) := by
    cases e with
    | normal => exact ⟨.inl rfl, t3⟩
    | ret => exact ⟨.inr rfl, t3⟩
    | _ => cases t3
  obtain ⟨he, hres⟩ := hres
  obtain ⟨vs, ws, r1, r2, r, o', hwk, hcl, hq⟩ := resX_rv t2 hrs hres
  have hrv := oneOr_rv r2
  have hc1 : Conc lo F' ω' ⟨[(0, oneOr vs)], s'.o⟩ ⟨1, tOf [oneOrTuple ws]⟩ m1 := ⟨t2.wf, t2.low, t2.nxt, t2.sub, t2.own, t2.dom, t2.inj, t2.apart, fun t v hv => by
    have hv : (if 0 = t then some (oneOr vs) else none) = some v := hv
    split at hv
    · rename_i q; subst q; cases hv; exact ⟨oneOrTuple ws, by rw [tOf_get?]; rfl, hrv⟩
    · cases hv⟩
  obtain ⟨ω2, F2, w1, w2, hc2, w3⟩ := hwk lo F' ω' _ m1 hc1
  obtain ⟨u, q1, q2⟩ := hc2.fr 0 r (by show (if 0 = 0 then some r else none) = some r; rw [if_pos rfl])
  rw [tOf_get?] at q1
  cases q1
  have hG := t5.trans ⟨w1, w2, w3⟩
  exact ⟨_, m1, r, o', F2, ω2, fn_raw hnn hg hb he t1 r1, ⟨hc2.wf, hc2.low, hc2.nxt, hc2.sub, hc2.own, hc2.dom, hc2.inj, hc2.apart, fun t v hv => by cases hv⟩, q2, hG.1, hG.2.1, hG.2.2, hcl, hq⟩
end
end Sh
end Go.Proofs.Ytlfojfndkcmfnaa
