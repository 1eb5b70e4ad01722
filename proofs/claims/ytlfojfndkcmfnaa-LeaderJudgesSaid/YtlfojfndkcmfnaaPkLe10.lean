/- Lemmas, joined: ShQ. -/
import Derived.Test.YtlfojfndkcmfnaaPkLe9
set_option linter.unusedSimpArgs false
set_option linter.unusedVariables false
namespace Go.Proofs.Ytlfojfndkcmfnaa
namespace Sh
open Go Ev

theorem Sim.refl (v : SV) : Sim v v := fun _ _ _ h => h
theorem sim_self (v : SV) : Sim v v ↔ True := ⟨fun _ => trivial, fun _ => Sim.refl v⟩
theorem sim_i {k k' : IntKind} {a b : Int} : Sim (.i k a) (.i k' b) ↔ k = k' ∧ a = b :=
  ⟨fun h => by have := h (fun _ => none) om0 _ .i; cases this; exact ⟨rfl, rfl⟩, fun h => by rw [h.1, h.2]; exact Sim.refl _⟩
theorem sim_b {a b : Bool} : Sim (.b a) (.b b) ↔ a = b :=
  ⟨fun h => by have := h (fun _ => none) om0 _ .b; cases this; rfl, fun h => by rw [h]; exact Sim.refl _⟩
theorem RVL.sim {F : AM} {ω : Om} : ∀ {l l' : List SV} {L : List Value}, RVL F ω l L → l.length = l'.length → (∀ (j : Nat) v w, l[j]? = some v → l'[j]? = some w → Sim v w) → RVL F ω l' L
  | _, [], _, .nil, _, _ => .nil
  | _, [], _, .cons _ _, h, _ => by simp at h
  | _, _ :: _, _, .nil, h, _ => by simp at h
  | _, w :: l', _, .cons a b, h, k => .cons (k 0 _ _ rfl rfl _ _ _ a) (b.sim (by simpa using h) fun j v w h1 h2 => k (j + 1) v w (by simpa using h1) (by simpa using h2))
theorem sim_sl {z n : Nat} {g g' : Nat → List SV} (h : ∀ k, k < n → g k = g' k) : Sim (.sl z n g) (.sl z n g') := by
  intro F ω u hr
  rcases hr.sl_inv with ⟨rfl, h0⟩ | ⟨bk, p, cp, T, N, e, zz, L, rfl, g1, g2, g3, g4, g5, g6, g7⟩
  · exact .sl0 h0
  · exact .sl g1 g2 g3 g4 g5 (fun k hk => h k hk ▸ g6 k hk) (fun k hk => h k hk ▸ g7 k hk)
theorem Ct.sim {P : Program} {g : FuncId} {as bs : List SV} {Q : SV → Prop} (h : Ct P g bs Q) (hl : as.length = bs.length) (hs : ∀ (j : Nat) v w, as[j]? = some v → bs[j]? = some w → Sim v w) : Ct P g as Q := fun G m us h1 h2 h3 => h G m us h1 h2 (h3.sim hl hs)

/-- One state stands for another: other names ρ, families vir that are not there yet, blocks fr that are not written any more. -/
theorem weak_at {pr : List Nm} (ρ : List (Nat × (Nat → Nm))) (vir : List Nat) (fr : List Nm) {s t : SS} (h1 : frzOK s.o fr) (h2 : injOK (rid ρ) vir t.o) (h3 : allQ (slotOk (rid ρ) vir fr t.o s) t.f) (h4 : allQ (ownFits (rid ρ) vir fr t.o s) t.o)
    (hp : allQ (fun β => live t.o β = true ∧ vir.elem β.1 = false ∧ rid ρ β = β) pr) : Weak pr s t := WeakBy.weak ⟨h1, h2, h3, h4⟩ hp
theorem weak_of (ρ : List (Nat × (Nat → Nm))) (vir : List Nat) (fr : List Nm) {s t : SS} (h1 : frzOK s.o fr) (h2 : injOK (rid ρ) vir t.o) (h3 : allQ (slotOk (rid ρ) vir fr t.o s) t.f) (h4 : allQ (ownFits (rid ρ) vir fr t.o s) t.o) : Weak [] s t := weak_at ρ vir fr h1 h2 h3 h4 trivial
theorem weak_all (ρ : List (Nat × (Nat → Nm))) (vir : List Nat) (fr : List Nm) {s t : SS} (h : frzOK s.o fr ∧ injOK (rid ρ) vir t.o ∧ allQ (slotOk (rid ρ) vir fr t.o s) t.f ∧ allQ (ownFits (rid ρ) vir fr t.o s) t.o) : Weak [] s t := weak_of ρ vir fr h.1 h.2.1 h.2.2.1 h.2.2.2
theorem weak_allP {pr : List Nm} (ρ : List (Nat × (Nat → Nm))) (vir : List Nat) (fr : List Nm) {s t : SS} (h : (frzOK s.o fr ∧ injOK (rid ρ) vir t.o ∧ allQ (slotOk (rid ρ) vir fr t.o s) t.f ∧ allQ (ownFits (rid ρ) vir fr t.o s) t.o) ∧ allQ (fun β => live t.o β = true ∧ vir.elem β.1 = false ∧ rid ρ β = β) pr) : Weak pr s t := weak_at ρ vir fr h.1.1 h.1.2.1 h.1.2.2.1 h.1.2.2.2 h.2
theorem pview_nil (o : Own) : ∀ (n : Nat) (v : SV), pview [] o n v = v
  | 0, _ => rfl
  | n + 1, v => by
    have ml : ∀ l : List SV, l.map (pview [] o n) = l := fun l => by
      induction l with
      | nil => rfl
      | cons x l ih => rw [List.map_cons, pview_nil o n x, ih]
    cases v with
    | ag c => show SV.ag _ = _; rw [ml]
    | tp c => show SV.tp _ = _; rw [ml]
    | fn g a b => show SV.fn g _ _ = _; rw [ml, ml]
    | _ => rfl
theorem pok_nil (o : Own) : ∀ (n : Nat) (v : SV), pok [] o n v ↔ True
  | 0, _ => Iff.rfl
  | n + 1, v => by
    have ml : ∀ l : List SV, allP (pok [] o n) l := fun l => by
      induction l with
      | nil => trivial
      | cons x l ih => exact ⟨(pok_nil o n x).2 trivial, ih⟩
    cases v with
    | ag c => exact ⟨fun _ => trivial, fun _ => ml _⟩
    | tp c => exact ⟨fun _ => trivial, fun _ => ml _⟩
    | fn g a b => exact ⟨fun _ => trivial, fun _ => ⟨ml _, ml _⟩⟩
    | pt β i j => exact ⟨fun _ => trivial, fun _ h => by cases h⟩
    | os β p k c => exact ⟨fun _ => trivial, fun _ h => by cases h⟩
    | _ => exact Iff.rfl
theorem pview_i {n : Nat} (fr : List Nm) (o : Own) (k : IntKind) (x : Int) : pview fr o (n + 1) (.i k x) = (.i k x) := rfl
theorem pok_i {n : Nat} (fr : List Nm) (o : Own) (k : IntKind) (x : Int) : pok fr o (n + 1) (.i k x) = True := rfl
theorem pview_b {n : Nat} (fr : List Nm) (o : Own) (x : Bool) : pview fr o (n + 1) (.b x) = (.b x) := rfl
theorem pok_b {n : Nat} (fr : List Nm) (o : Own) (x : Bool) : pok fr o (n + 1) (.b x) = True := rfl
theorem pview_a {n : Nat} (fr : List Nm) (o : Own) (x : Value) : pview fr o (n + 1) (.a x) = (.a x) := rfl
theorem pok_a {n : Nat} (fr : List Nm) (o : Own) (x : Value) : pok fr o (n + 1) (.a x) = True := rfl
theorem pview_sl {n : Nat} (fr : List Nm) (o : Own) (z k : Nat) (g : Nat → List SV) : pview fr o (n + 1) (.sl z k g) = (.sl z k g) := rfl
theorem pok_sl {n : Nat} (fr : List Nm) (o : Own) (z k : Nat) (g : Nat → List SV) : pok fr o (n + 1) (.sl z k g) = True := rfl
theorem pview_rf {n : Nat} (fr : List Nm) (o : Own) (c : List SV) : pview fr o (n + 1) (.rf c) = (.rf c) := rfl
theorem pok_rf {n : Nat} (fr : List Nm) (o : Own) (c : List SV) : pok fr o (n + 1) (.rf c) = True := rfl
theorem pview_ex {n : Nat} (fr : List Nm) (o : Own) (Q : (Nat → Option ABlk) → Value → Prop) (v : SV) : pview fr o (n + 1) (.ex Q v) = (.ex Q v) := rfl
theorem pok_ex {n : Nat} (fr : List Nm) (o : Own) (Q : (Nat → Option ABlk) → Value → Prop) (v : SV) : pok fr o (n + 1) (.ex Q v) = True := rfl
theorem pview_ag {n : Nat} (fr : List Nm) (o : Own) (c : List SV) : pview fr o (n + 1) (.ag c) = .ag (c.map (pview fr o n)) := rfl
theorem pok_ag {n : Nat} (fr : List Nm) (o : Own) (c : List SV) : pok fr o (n + 1) (.ag c) = allP (pok fr o n) c := rfl
theorem pview_tp {n : Nat} (fr : List Nm) (o : Own) (c : List SV) : pview fr o (n + 1) (.tp c) = .tp (c.map (pview fr o n)) := rfl
theorem pok_tp {n : Nat} (fr : List Nm) (o : Own) (c : List SV) : pok fr o (n + 1) (.tp c) = allP (pok fr o n) c := rfl
theorem pview_fn {n : Nat} (fr : List Nm) (o : Own) (g : FuncId) (a b : List SV) : pview fr o (n + 1) (.fn g a b) = .fn g (a.map (pview fr o n)) (b.map (pview fr o n)) := rfl
theorem pok_fn {n : Nat} (fr : List Nm) (o : Own) (g : FuncId) (a b : List SV) : pok fr o (n + 1) (.fn g a b) = (allP (pok fr o n) a ∧ allP (pok fr o n) b) := rfl
theorem pview_pt {n : Nat} (fr : List Nm) (o : Own) (β : Nm) (i j : Nat) : pview fr o (n + 1) (.pt β i j) = (if nmem fr β = true then (match lookO o β with | some b => .rf ((b.g i).drop j) | none => .bad) else .pt β i j) := rfl
theorem pok_pt {n : Nat} (fr : List Nm) (o : Own) (β : Nm) (i j : Nat) : pok fr o (n + 1) (.pt β i j) = (nmem fr β = true → (match lookO o β with | some b => i < b.n ∧ j ≤ b.z | none => False)) := rfl
theorem pview_os {n : Nat} (fr : List Nm) (o : Own) (β : Nm) (p k : Nat) (ap : Bool) : pview fr o (n + 1) (.os β p k ap) = (if nmem fr β = true then (match lookO o β with | some b => .sl b.z k (fun q => b.g (p + q)) | none => .bad) else .os β p k ap) := rfl
theorem pok_os {n : Nat} (fr : List Nm) (o : Own) (β : Nm) (p k : Nat) (ap : Bool) : pok fr o (n + 1) (.os β p k ap) = (nmem fr β = true → (match lookO o β with | some b => p + k ≤ b.n | none => False)) := rfl
theorem cells_i (k : IntKind) (x : Int) : SV.cells (.i k x) = [(.i k x)] := rfl
theorem cells_b (x : Bool) : SV.cells (.b x) = [(.b x)] := rfl
theorem cells_a (x : Value) : SV.cells (.a x) = [(.a x)] := rfl
theorem cells_sl (z k : Nat) (g : Nat → List SV) : SV.cells (.sl z k g) = [(.sl z k g)] := rfl
theorem cells_rf (c : List SV) : SV.cells (.rf c) = [(.rf c)] := rfl
theorem cells_ex (Q : (Nat → Option ABlk) → Value → Prop) (v : SV) : SV.cells (.ex Q v) = [(.ex Q v)] := rfl
theorem cells_tp (c : List SV) : SV.cells (.tp c) = [(.tp c)] := rfl
theorem cells_fn (g : FuncId) (a b : List SV) : SV.cells (.fn g a b) = [(.fn g a b)] := rfl
theorem cells_pt (β : Nm) (i j : Nat) : SV.cells (.pt β i j) = [(.pt β i j)] := rfl
theorem cells_os (β : Nm) (p k : Nat) (ap : Bool) : SV.cells (.os β p k ap) = [(.os β p k ap)] := rfl
theorem cells_ag (c : List SV) : SV.cells (.ag c) = c := rfl
theorem telL_same {h : Nm → Nm} {vir : List Nat} {o t : Own} : ∀ {l k : List SV}, l = k.map (ren h 5) → k.all (cln (lv vir t) 5) = true → k.all one1 = true → telL h vir [] o t l k
  | _, [], e, _, _ => by subst e; trivial
  | _, w :: k, e, hc, h1 => by
    subst e
    simp only [List.all_cons, Bool.and_eq_true] at hc h1
    exact ⟨.inl ⟨(pok_nil _ _ _).2 trivial, by rw [pview_nil]; exact Sim.refl _, hc.1⟩, h1.1, telL_same rfl hc.2 h1.2⟩

/-- A loop whose states are told of by numbers and the like. -/
theorem loop_on {pr : List Nm} {body : (Exit → SS → Prop) → SS → Prop} {K : Exit → SS → Prop} {s : SS} {σ : Type} (st : σ → SS) (inv : σ → Prop) (μ : σ → Nat) (x0 : σ) (h0 : inv x0) (hs : Weak pr s (st x0))
    (hstep : ∀ x, inv x → body (loopK pr (fun n t => ∃ y, inv y ∧ μ y = n ∧ t = st y) (μ x) K) (st x)) : loopO pr body K s :=
  ⟨fun n t => ∃ y, inv y ∧ μ y = n ∧ t = st y, ⟨μ x0, st x0, ⟨x0, h0, rfl, rfl⟩, hs⟩, fun n t ⟨y, h1, h2, h3⟩ => by subst h2 h3; exact hstep y h1⟩
theorem loop_again {pr : List Nm} {σ : Type} {st : σ → SS} {inv : σ → Prop} {μ : σ → Nat} {n : Nat} {K : Exit → SS → Prop} {t : SS} (y : σ) (h1 : inv y) (h2 : μ y < n) (h3 : Weak pr t (st y)) : loopK pr (fun n t => ∃ y, inv y ∧ μ y = n ∧ t = st y) n K .normal t :=
  ⟨μ y, st y, h2, ⟨y, h1, rfl, rfl⟩, h3⟩
/-- A function comes to one value. -/
def Returns (P : Program) (g : FuncId) (args : List SV) (r : SV) : Prop := Ct P g args (· = r)
theorem Returns.of {P : Program} {g : FuncId} {args : List SV} {r : SV} (h : Ct P g args fun x => Sim x r) : Returns P g args r := fun G m us h1 h2 h3 => by
  obtain ⟨v, m', x, a, b, c, d, e⟩ := h G m us h1 h2 h3
  exact ⟨v, m', r, a, b, c, rfl, d _ _ _ e⟩
theorem sim_nil {z : Nat} {g : Nat → List SV} : Sim (.a (.slice none 0 0)) (.sl z 0 g) := fun F ω u h => by cases h; exact .sl0 (.inl rfl)
theorem Returns.use {P : Program} {g : FuncId} {args : List SV} {r : SV} {Q : SV → Prop} (h : Returns P g args r) (hq : Q r) : Ct P g args Q := h.mono fun _ e => e ▸ hq
def SimL : List SV → List SV → Prop
  | [], [] => True
  | v :: l, w :: k => Sim v w ∧ SimL l k
  | _, _ => False
theorem SimL.rvl {F : AM} {ω : Om} : ∀ {l k : List SV} {L : List Value}, SimL l k → RVL F ω l L → RVL F ω k L
  | [], [], _, _, .nil => .nil
  | _ :: _, _ :: _, _, h, .cons a b => .cons (h.1 _ _ _ a) (h.2.rvl b)
  | [], _ :: _, _, h, _ => h.elim
  | _ :: _, [], _, h, _ => h.elim
theorem sim_rf {a b : List SV} (h : SimL a b) (h1 : b.all one1 = true) : Sim (.rf a) (.rf b) := fun F ω u hr => by
  obtain ⟨bk, p, T, N, e, zz, L, rfl, g1, g2, g3, g4, _⟩ := hr.rf_inv
  exact .rf g1 g2 g3 (h.rvl g4) h1
theorem sim_ag {a b : List SV} (h : SimL a b) : Sim (.ag a) (.ag b) := fun F ω u hr => by
  obtain ⟨L, rfl, hl⟩ := hr.ag_inv
  exact .ag (h.rvl hl)
theorem sim_tp {a b : List SV} (h : SimL a b) : Sim (.tp a) (.tp b) := fun F ω u hr => by
  obtain ⟨L, rfl, hl⟩ := hr.tp_inv
  exact .tp (h.rvl hl)
theorem sim_sl2 {z n : Nat} {g g' : Nat → List SV} (h : ∀ k, k < n → SimL (g k) (g' k) ∧ (g' k).all one1 = true) : Sim (.sl z n g) (.sl z n g') := by
  intro F ω u hr
  rcases hr.sl_inv with ⟨rfl, h0⟩ | ⟨bk, p, cp, T, N, e, zz, L, rfl, g1, g2, g3, g4, g5, g6, g7⟩
  · exact .sl0 h0
  · exact .sl g1 g2 g3 g4 g5 (fun k hk => (h k hk).1.rvl (g6 k hk)) (fun k hk => (h k hk).2)
theorem Ct.simL {P : Program} {g : FuncId} {as bs : List SV} {Q : SV → Prop} (h : Ct P g bs Q) (hs : SimL as bs) : Ct P g as Q := fun G m us h1 h2 h3 => h G m us h1 h2 (hs.rvl h3)
/-- The same, of arguments that are told of in other words. -/
theorem Returns.useS {P : Program} {g : FuncId} {as bs : List SV} {r : SV} {Q : SV → Prop} (h : Returns P g bs r) (hs : SimL as bs) (hq : Q r) : Ct P g as Q := (h.use hq).simL hs
/-- A call that may change what it is given, or that gives own blocks away: ρ families of the contract and their names here, base the first name for what is new, keep the slots and kb the families that are told of afterwards. -/
theorem callM_of {P : Program} {pc : List Nm} {mu : List FuncId} {d : Bool} {rs : List (Nat × SRec)} {s : SS} {i an : Nat} {dst : Option Nat} {nx : List (Nat × SRec) → SS → Prop} {g : FuncId} {xs : List SV} {pr : List Nm} {o : Own} {as : List SV} {Q : SV → Own → Prop}
    (hcm : Cm P g pr o as Q) (ρ : List (Nat × Nat)) (base : Nat) (keep kb : List Nat)
    (h : (xs.length = as.length ∧ injOK (to1 ρ) [] o ∧ allQ (slotOk (to1 ρ) [] [] o ⟨slots xs 0, s.o⟩) (slots as 0) ∧ allQ (ownFits (to1 ρ) [] [] o ⟨slots xs 0, s.o⟩) o ∧ allQ (fun p => (look ρ p.1).isSome = true) o) ∧ fitsM d an o rs = true ∧
      (allQ (fun β => live o β = true) pr ∧ allQ (fun p => kb.elem p.2 = false) ρ ∧ allQ (fun p => cln (okN ρ pr kb) 5 p.2 = true) (keepF s.f keep) ∧ allQ (fun p => famCln (okN ρ pr kb) p.2) (keepO s.o kb) ∧ allQ (fun β => okN ρ pr kb β = true) pc))
    (hq : ∀ r o', Q r o' → thenM rs s i dst nx ρ base keep kb r o') : callM ⟨Ct P, Cm P, pc, mu⟩ d rs s i an dst nx g xs := by
  obtain ⟨⟨h1, h2, h3, h4, h5⟩, h6, k1, k2, k3, k4, k5⟩ := h
  exact ⟨ρ, base, keep, kb, pr, o, as, h1, ⟨trivial, h2, h3, h4⟩, allQ_mem h5, h6, ⟨k1, allQ_mem k2, k3, k4, k5⟩, hcm.mono hq⟩
section
variable (C : CC) (K : Exit → SS → Prop) (s : SS)
/-- What is left to run. -/
def vN (b : SC) : SS → Prop := vc C b K
theorem vN_at (b : SC) : vN C K b s = vc C b K s := rfl
theorem vc_skip : vc C .skip K s = K .normal s := rfl
theorem vc_seq (a b : SC) : vc C (.seq a b) K s = vc C a (thenK (vN C K b) K) s := rfl
theorem vc_cond (c : Operand) (a b : SC) : vc C (.cond c a b) K s = condO (s.get c) c s (vN C K a) (vN C K b) := rfl
theorem vc_block (id : Nat) (b : SC) : vc C (.block id b) K s = vc C b (blockK id K) s := rfl
theorem vc_loop (b : SC) : vc C (.loop b) K s = loopO C.pr (vc C b) K s := rfl
theorem vc_exit (id : Nat) : vc C (.exit id) K s = K (.exit id) s := rfl
theorem vc_no : vc C .no K s = False := rfl
theorem vc_ret : vc C .ret K s = K .ret s := rfl
theorem vc_reg (d : Bool) (ops : List SOper) : vc C (.reg d ops) K s = vcOps C d (K .normal) ops 0 [] s := rfl
theorem thenK_normal (n : SS → Prop) : thenK n K .normal s = n s := rfl
theorem thenK_exit (n : SS → Prop) (i : Nat) : thenK n K (.exit i) s = K (.exit i) s := rfl
theorem thenK_ret (n : SS → Prop) : thenK n K .ret s = K .ret s := rfl
theorem blockK_normal (id : Nat) : blockK id K .normal s = K .normal s := rfl
theorem blockK_exit (id i : Nat) : blockK id K (.exit i) s = if i = id then K .normal s else K (.exit i) s := rfl
theorem blockK_ret (id : Nat) : blockK id K .ret s = K .ret s := rfl
theorem loopK_exit (pr : List Nm) (I : Nat → SS → Prop) (n i : Nat) : loopK pr I n K (.exit i) s = K (.exit i) s := rfl
theorem loopK_ret (pr : List Nm) (I : Nat → SS → Prop) (n : Nat) : loopK pr I n K .ret s = K .ret s := rfl
theorem retK_normal (rs : List SR) (Q : SV → Prop) : retK rs Q .normal s = resX s rs fun vs => vok s.o 5 (oneOr vs) ∧ Q (view s.o 5 (oneOr vs)) := rfl
theorem retM_normal (rs : List SR) (pr : List Nm) (Q : SV → Own → Prop) : retM rs pr Q .normal s = resX s rs fun vs => retM1 pr s Q (oneOr vs) := rfl
theorem retM_ret (rs : List SR) (pr : List Nm) (Q : SV → Own → Prop) : retM rs pr Q .ret s = resX s rs fun vs => retM1 pr s Q (oneOr vs) := rfl
theorem retK_ret (rs : List SR) (Q : SV → Prop) : retK rs Q .ret s = resX s rs fun vs => vok s.o 5 (oneOr vs) ∧ Q (view s.o 5 (oneOr vs)) := rfl
end
section
variable (C : CC) (d : Bool) (K : SS → Prop)
/-- Operations that are left. -/
def vO (l : List SOper) (i : Nat) : List (Nat × SRec) → SS → Prop := vcOps C d K l i
theorem vO_at (l : List SOper) (i : Nat) (rs : List (Nat × SRec)) (s : SS) : vO C d K l i rs s = vcOps C d K l i rs s := rfl
theorem vcO_nil (i : Nat) (rs : List (Nat × SRec)) (s : SS) : vcOps C d K [] i rs s = K s := rfl
theorem vcO_cons (op : SOp) (dst : Option Nat) (an : Nat) (l : List SOper) (i : Nat) (rs : List (Nat × SRec)) (s : SS) : vcOps C d K (⟨op, dst, none, an⟩ :: l) i rs s = runO C d rs s i an dst (vO C d K l (i + 1)) op := rfl
theorem vcO_guard (op : SOp) (dst : Option Nat) (t : Nat) (w : Bool) (an : Nat) (l : List SOper) (i : Nat) (rs : List (Nat × SRec)) (s : SS) : vcOps C d K (⟨op, dst, some (t, w), an⟩ :: l) i rs s = guardO C d rs s i an dst (vO C d K l (i + 1)) op t w (look s.f t) := rfl
/-- Two branches; where it is known which, the other one is not looked at. -/
def gb (c : Bool) (A B : Prop) : Prop := (c = true → A) ∧ (c = false → B)
def gb2 (c : Bool) (A B : Prop) : Prop := (c = false → A) ∧ (c = true → B)
theorem gb_t (A B : Prop) : gb true A B = A := propext ⟨fun h => h.1 rfl, fun h => ⟨fun _ => h, fun q => by cases q⟩⟩
theorem gb_f (A B : Prop) : gb false A B = B := propext ⟨fun h => h.2 rfl, fun h => ⟨fun q => (nomatch q), fun _ => h⟩⟩
theorem gb2_t (A B : Prop) : gb2 true A B = B := propext ⟨fun h => h.2 rfl, fun h => ⟨fun q => (nomatch q), fun _ => h⟩⟩
theorem gb2_f (A B : Prop) : gb2 false A B = A := propext ⟨fun h => h.1 rfl, fun h => ⟨fun _ => h, fun q => by cases q⟩⟩
theorem gb_x (c : Bool) (A B : Prop) : gb c A B = ((c = true → A) ∧ (c = false → B)) := rfl
theorem gb2_x (c : Bool) (A B : Prop) : gb2 c A B = ((c = false → A) ∧ (c = true → B)) := rfl
theorem condO_b (x : Bool) (c : Operand) (s : SS) (a b : SS → Prop) : condO (some (.b x)) c s a b = gb x (a (s.lit c true)) (b (s.lit c false)) := rfl
theorem guardO_t (rs : List (Nat × SRec)) (s : SS) (i an : Nat) (dst : Option Nat) (nx : List (Nat × SRec) → SS → Prop) (op : SOp) (t : Nat) (c : Bool) : guardO C d rs s i an dst nx op t true (some (.b c)) = gb c (runO C d rs (s.put (some t) (.b true)) i an dst nx op) (nx rs ((s.put (some t) (.b false)).put dst (.tp []))) := rfl
theorem guardO_f (rs : List (Nat × SRec)) (s : SS) (i an : Nat) (dst : Option Nat) (nx : List (Nat × SRec) → SS → Prop) (op : SOp) (t : Nat) (c : Bool) : guardO C d rs s i an dst nx op t false (some (.b c)) = gb2 c (runO C d rs (s.put (some t) (.b false)) i an dst nx op) (nx rs ((s.put (some t) (.b true)).put dst (.tp []))) := rfl
theorem guardO_tp (rs : List (Nat × SRec)) (s : SS) (i an : Nat) (dst : Option Nat) (nx : List (Nat × SRec) → SS → Prop) (op : SOp) (t : Nat) (w : Bool) : guardO C d rs s i an dst nx op t w (some (.tp [])) = nx rs (s.put dst (.tp [])) := rfl
end
theorem ex_some {α : Type} {a : α} {p : α → Prop} : (∃ v, some a = some v ∧ p v) ↔ p a := ⟨fun ⟨_, h, q⟩ => by cases h; exact q, fun h => ⟨a, rfl, h⟩⟩
theorem owned_i {n : Nat} (k : IntKind) (x : Int) : owned (n + 1) (.i k x) = false := rfl
theorem scalar_i {n : Nat} (k : IntKind) (x : Int) : scalar (n + 1) (.i k x) = true := rfl
theorem view_i {n : Nat} (o : Own) (k : IntKind) (x : Int) : view o (n + 1) (.i k x) = (.i k x) := rfl
theorem vok_i {n : Nat} (o : Own) (k : IntKind) (x : Int) : vok o (n + 1) (.i k x) = True := rfl
theorem ren_i {n : Nat} (ρ : Nm → Nm) (k : IntKind) (x : Int) : ren ρ (n + 1) (.i k x) = (.i k x) := rfl
theorem cln_i {n : Nat} (D : Nm → Bool) (k : IntKind) (x : Int) : cln D (n + 1) (.i k x) = true := rfl
theorem one1_i (k : IntKind) (x : Int) : one1 (.i k x) = true := rfl
theorem owned_b {n : Nat} (x : Bool) : owned (n + 1) (.b x) = false := rfl
theorem scalar_b {n : Nat} (x : Bool) : scalar (n + 1) (.b x) = true := rfl
theorem view_b {n : Nat} (o : Own) (x : Bool) : view o (n + 1) (.b x) = (.b x) := rfl
theorem vok_b {n : Nat} (o : Own) (x : Bool) : vok o (n + 1) (.b x) = True := rfl
theorem ren_b {n : Nat} (ρ : Nm → Nm) (x : Bool) : ren ρ (n + 1) (.b x) = (.b x) := rfl
theorem cln_b {n : Nat} (D : Nm → Bool) (x : Bool) : cln D (n + 1) (.b x) = true := rfl
theorem one1_b (x : Bool) : one1 (.b x) = true := rfl
theorem owned_a {n : Nat} (x : Value) : owned (n + 1) (.a x) = false := rfl
theorem scalar_a {n : Nat} (x : Value) : scalar (n + 1) (.a x) = true := rfl
theorem view_a {n : Nat} (o : Own) (x : Value) : view o (n + 1) (.a x) = (.a x) := rfl
theorem vok_a {n : Nat} (o : Own) (x : Value) : vok o (n + 1) (.a x) = True := rfl
theorem ren_a {n : Nat} (ρ : Nm → Nm) (x : Value) : ren ρ (n + 1) (.a x) = (.a x) := rfl
theorem cln_a {n : Nat} (D : Nm → Bool) (x : Value) : cln D (n + 1) (.a x) = true := rfl
theorem one1_a (x : Value) : one1 (.a x) = true := rfl
theorem owned_sl {n : Nat} (z k : Nat) (g : Nat → List SV) : owned (n + 1) (.sl z k g) = false := rfl
theorem scalar_sl {n : Nat} (z k : Nat) (g : Nat → List SV) : scalar (n + 1) (.sl z k g) = false := rfl
theorem view_sl {n : Nat} (o : Own) (z k : Nat) (g : Nat → List SV) : view o (n + 1) (.sl z k g) = (.sl z k g) := rfl
theorem vok_sl {n : Nat} (o : Own) (z k : Nat) (g : Nat → List SV) : vok o (n + 1) (.sl z k g) = True := rfl
theorem ren_sl {n : Nat} (ρ : Nm → Nm) (z k : Nat) (g : Nat → List SV) : ren ρ (n + 1) (.sl z k g) = (.sl z k g) := rfl
theorem cln_sl {n : Nat} (D : Nm → Bool) (z k : Nat) (g : Nat → List SV) : cln D (n + 1) (.sl z k g) = true := rfl
theorem one1_sl (z k : Nat) (g : Nat → List SV) : one1 (.sl z k g) = true := rfl
theorem owned_rf {n : Nat} (c : List SV) : owned (n + 1) (.rf c) = false := rfl
theorem scalar_rf {n : Nat} (c : List SV) : scalar (n + 1) (.rf c) = false := rfl
theorem view_rf {n : Nat} (o : Own) (c : List SV) : view o (n + 1) (.rf c) = (.rf c) := rfl
theorem vok_rf {n : Nat} (o : Own) (c : List SV) : vok o (n + 1) (.rf c) = True := rfl
theorem ren_rf {n : Nat} (ρ : Nm → Nm) (c : List SV) : ren ρ (n + 1) (.rf c) = (.rf c) := rfl
theorem cln_rf {n : Nat} (D : Nm → Bool) (c : List SV) : cln D (n + 1) (.rf c) = true := rfl
theorem one1_rf (c : List SV) : one1 (.rf c) = true := rfl
theorem owned_ex {n : Nat} (Q : (Nat → Option ABlk) → Value → Prop) (v : SV) : owned (n + 1) (.ex Q v) = false := rfl
theorem scalar_ex {n : Nat} (Q : (Nat → Option ABlk) → Value → Prop) (v : SV) : scalar (n + 1) (.ex Q v) = false := rfl
theorem view_ex {n : Nat} (o : Own) (Q : (Nat → Option ABlk) → Value → Prop) (v : SV) : view o (n + 1) (.ex Q v) = .ex Q v := rfl
theorem vok_ex {n : Nat} (o : Own) (Q : (Nat → Option ABlk) → Value → Prop) (v : SV) : vok o (n + 1) (.ex Q v) = True := rfl
theorem ren_ex {n : Nat} (ρ : Nm → Nm) (Q : (Nat → Option ABlk) → Value → Prop) (v : SV) : ren ρ (n + 1) (.ex Q v) = .ex Q v := rfl
theorem cln_ex {n : Nat} (D : Nm → Bool) (Q : (Nat → Option ABlk) → Value → Prop) (v : SV) : cln D (n + 1) (.ex Q v) = true := rfl
theorem one1_ex (Q : (Nat → Option ABlk) → Value → Prop) (v : SV) : one1 (.ex Q v) = one1 v := rfl
theorem sim_ex (Q : (Nat → Option ABlk) → Value → Prop) (v : SV) : Sim (.ex Q v) v := fun F ω u h => by
  cases h with
  | ex _ _ h => exact h.mono (Le.refl _) (om0_le _)
theorem owned_bad {n : Nat}  : owned (n + 1) .bad = true := rfl
theorem scalar_bad {n : Nat}  : scalar (n + 1) .bad = false := rfl
theorem view_bad {n : Nat} (o : Own)  : view o (n + 1) .bad = .bad := rfl
theorem vok_bad {n : Nat} (o : Own)  : vok o (n + 1) .bad = False := rfl
theorem ren_bad {n : Nat} (ρ : Nm → Nm)  : ren ρ (n + 1) .bad = .bad := rfl
theorem cln_bad {n : Nat} (D : Nm → Bool)  : cln D (n + 1) .bad = true := rfl
theorem one1_bad  : one1 .bad = false := rfl
theorem owned_ag {n : Nat} (c : List SV) : owned (n + 1) (.ag c) = c.any (owned n) := rfl
theorem scalar_ag {n : Nat} (c : List SV) : scalar (n + 1) (.ag c) = c.all (scalar n) := rfl
theorem view_ag {n : Nat} (o : Own) (c : List SV) : view o (n + 1) (.ag c) = .ag (c.map (view o n)) := rfl
theorem vok_ag {n : Nat} (o : Own) (c : List SV) : vok o (n + 1) (.ag c) = allP (vok o n) c := rfl
theorem ren_ag {n : Nat} (ρ : Nm → Nm) (c : List SV) : ren ρ (n + 1) (.ag c) = .ag (c.map (ren ρ n)) := rfl
theorem cln_ag {n : Nat} (D : Nm → Bool) (c : List SV) : cln D (n + 1) (.ag c) = c.all (cln D n) := rfl
theorem one1_ag (c : List SV) : one1 (.ag c) = false := rfl
theorem owned_tp {n : Nat} (c : List SV) : owned (n + 1) (.tp c) = c.any (owned n) := rfl
theorem scalar_tp {n : Nat} (c : List SV) : scalar (n + 1) (.tp c) = c.all (scalar n) := rfl
theorem view_tp {n : Nat} (o : Own) (c : List SV) : view o (n + 1) (.tp c) = .tp (c.map (view o n)) := rfl
theorem vok_tp {n : Nat} (o : Own) (c : List SV) : vok o (n + 1) (.tp c) = allP (vok o n) c := rfl
theorem ren_tp {n : Nat} (ρ : Nm → Nm) (c : List SV) : ren ρ (n + 1) (.tp c) = .tp (c.map (ren ρ n)) := rfl
theorem cln_tp {n : Nat} (D : Nm → Bool) (c : List SV) : cln D (n + 1) (.tp c) = c.all (cln D n) := rfl
theorem one1_tp (c : List SV) : one1 (.tp c) = false := rfl
theorem owned_fn {n : Nat} (g : FuncId) (a b : List SV) : owned (n + 1) (.fn g a b) = (a.any (owned n) || b.any (owned n)) := rfl
theorem scalar_fn {n : Nat} (g : FuncId) (a b : List SV) : scalar (n + 1) (.fn g a b) = false := rfl
theorem view_fn {n : Nat} (o : Own) (g : FuncId) (a b : List SV) : view o (n + 1) (.fn g a b) = .fn g (a.map (view o n)) (b.map (view o n)) := rfl
theorem vok_fn {n : Nat} (o : Own) (g : FuncId) (a b : List SV) : vok o (n + 1) (.fn g a b) = (allP (vok o n) a ∧ allP (vok o n) b) := rfl
theorem ren_fn {n : Nat} (ρ : Nm → Nm) (g : FuncId) (a b : List SV) : ren ρ (n + 1) (.fn g a b) = .fn g (a.map (ren ρ n)) (b.map (ren ρ n)) := rfl
theorem cln_fn {n : Nat} (D : Nm → Bool) (g : FuncId) (a b : List SV) : cln D (n + 1) (.fn g a b) = (a.all (cln D n) && b.all (cln D n)) := rfl
theorem one1_fn (g : FuncId) (a b : List SV) : one1 (.fn g a b) = true := rfl
theorem owned_pt {n : Nat} (β : Nm) (i j : Nat) : owned (n + 1) (.pt β i j) = true := rfl
theorem scalar_pt {n : Nat} (β : Nm) (i j : Nat) : scalar (n + 1) (.pt β i j) = false := rfl
theorem view_pt {n : Nat} (o : Own) (β : Nm) (i j : Nat) : view o (n + 1) (.pt β i j) = (match lookO o β with | some b => .rf ((((b.g i).drop j)).map (view o n)) | none => .bad) := rfl
theorem vok_pt {n : Nat} (o : Own) (β : Nm) (i j : Nat) : vok o (n + 1) (.pt β i j) = (match lookO o β with | some b => (i < b.n ∧ j ≤ b.z) ∧ allP (vok o n) ((b.g i).drop j) | none => False) := rfl
theorem ren_pt {n : Nat} (ρ : Nm → Nm) (β : Nm) (i j : Nat) : ren ρ (n + 1) (.pt β i j) = .pt (ρ β) i j := rfl
theorem cln_pt {n : Nat} (D : Nm → Bool) (β : Nm) (i j : Nat) : cln D (n + 1) (.pt β i j) = D β := rfl
theorem one1_pt (β : Nm) (i j : Nat) : one1 (.pt β i j) = true := rfl
theorem owned_os {n : Nat} (β : Nm) (p k : Nat) (ap : Bool) : owned (n + 1) (.os β p k ap) = true := rfl
theorem scalar_os {n : Nat} (β : Nm) (p k : Nat) (ap : Bool) : scalar (n + 1) (.os β p k ap) = false := rfl
theorem view_os {n : Nat} (o : Own) (β : Nm) (p k : Nat) (ap : Bool) : view o (n + 1) (.os β p k ap) = (match lookO o β with | some b => .sl b.z k (fun q => (b.g (p + q)).map (view o n)) | none => .bad) := rfl
theorem vok_os {n : Nat} (o : Own) (β : Nm) (p k : Nat) (ap : Bool) : vok o (n + 1) (.os β p k ap) = (match lookO o β with | some b => p + k ≤ b.n ∧ ∀ q, q < k → allP (vok o n) (b.g (p + q)) | none => False) := rfl
theorem ren_os {n : Nat} (ρ : Nm → Nm) (β : Nm) (p k : Nat) (ap : Bool) : ren ρ (n + 1) (.os β p k ap) = .os (ρ β) p k ap := rfl
theorem cln_os {n : Nat} (D : Nm → Bool) (β : Nm) (p k : Nat) (ap : Bool) : cln D (n + 1) (.os β p k ap) = D β := rfl
theorem one1_os (β : Nm) (p k : Nat) (ap : Bool) : one1 (.os β p k ap) = true := rfl
theorem any_false {α : Type} {p : α → Bool} {l : List α} (h : l.any p = false) : ∀ x ∈ l, p x = false := fun x hx => by
  cases hq : p x with
  | false => rfl
  | true => rw [List.any_eq_true.2 ⟨x, hx, hq⟩] at h; cases h
theorem any_false_of {α : Type} {p : α → Bool} {l : List α} (h : ∀ x ∈ l, p x = false) : l.any p = false := by
  cases hq : l.any p with
  | false => rfl
  | true => obtain ⟨x, h1, h2⟩ := List.any_eq_true.1 hq; rw [h x h1] at h2; cases h2
theorem owned_mono : ∀ {n : Nat} {v : SV}, owned n v = false → owned (n + 1) v = false
  | 0, _, h => by cases h
  | n + 1, v, h => by
    cases v with
    | ag c => exact any_false_of fun x hx => owned_mono (any_false h x hx)
    | tp c => exact any_false_of fun x hx => owned_mono (any_false h x hx)
    | fn g a b =>
      have h : (_ || _) = false := h
      rw [Bool.or_eq_false_iff] at h
      show (_ || _) = false
      rw [Bool.or_eq_false_iff]
      exact ⟨any_false_of fun x hx => owned_mono (any_false h.1 x hx), any_false_of fun x hx => owned_mono (any_false h.2 x hx)⟩
    | _ => first | rfl | cases h
theorem owned_mono_any {n : Nat} {l : List SV} (h : l.any (owned n) = false) : l.any (owned (n + 1)) = false := any_false_of fun x hx => owned_mono (any_false h x hx)
theorem ren_owned (ρ : Nm → Nm) : ∀ {n : Nat} {v : SV}, owned n v = false → ren ρ n v = v
  | 0, _, h => by cases h
  | n + 1, v, h => by
    have ml : ∀ {l : List SV}, l.any (owned n) = false → l.map (ren ρ n) = l := fun {l} h => by
      induction l with
      | nil => rfl
      | cons x l ih => rw [List.map_cons, ren_owned ρ (any_false h x List.mem_cons_self), ih (any_false_of fun y hy => any_false h y (List.mem_cons_of_mem _ hy))]
    cases v with
    | ag c => show SV.ag _ = _; rw [ml h]
    | tp c => show SV.tp _ = _; rw [ml h]
    | fn g a b =>
      have h : (_ || _) = false := h
      rw [Bool.or_eq_false_iff] at h
      show SV.fn g _ _ = _
      rw [ml h.1, ml h.2]
    | _ => first | rfl | cases h
theorem ren_owned_all (ρ : Nm → Nm) {n : Nat} {l : List SV} (h : l.any (owned n) = false) : l.map (ren ρ n) = l := by
  induction l with
  | nil => rfl
  | cons x l ih => rw [List.map_cons, ren_owned ρ (any_false h x List.mem_cons_self), ih (any_false_of fun y hy => any_false h y (List.mem_cons_of_mem _ hy))]
theorem cln_owned (D : Nm → Bool) : ∀ {n : Nat} {v : SV}, owned n v = false → cln D n v = true
  | 0, _, h => by cases h
  | n + 1, v, h => by
    have ml : ∀ {l : List SV}, l.any (owned n) = false → l.all (cln D n) = true := fun {l} h => List.all_eq_true.2 fun x hx => cln_owned D (any_false h x hx)
    cases v with
    | ag c => exact ml h
    | tp c => exact ml h
    | fn g a b =>
      have h : (_ || _) = false := h
      rw [Bool.or_eq_false_iff] at h
      show (_ && _) = true
      rw [ml h.1, ml h.2]; rfl
    | _ => first | rfl | cases h
theorem cln_owned_all (D : Nm → Bool) {n : Nat} {l : List SV} (h : l.any (owned n) = false) : l.all (cln D n) = true := List.all_eq_true.2 fun x hx => cln_owned D (any_false h x hx)
end Sh
end Go.Proofs.Ytlfojfndkcmfnaa
