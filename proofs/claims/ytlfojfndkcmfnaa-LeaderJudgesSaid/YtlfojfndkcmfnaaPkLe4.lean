/- Lemmas, joined: ShV ShB ShC ShD. -/
import Derived.Test.YtlfojfndkcmfnaaPkLe3
set_option linter.unusedSimpArgs false
set_option linter.unusedVariables false
namespace Go.Proofs.Ytlfojfndkcmfnaa
namespace Sh
noncomputable section
open Go Ev

def SRec.pure (r : SRec) : Bool := r.rd.isEmpty && r.wr.isEmpty && r.nw.isEmpty && !r.fz && !r.cl && !r.gr && !r.mu
def nmem (l : List Nm) (x : Nm) : Bool := l.any fun y => decide (y.1 = x.1) && decide (y.2 = x.2)
/-- Two operations that may change places. -/
def clash (a b : SRec) : Bool :=
  (a.mu && !b.pure) || (b.mu && !a.pure) ||
  ((a.wr.any fun x => nmem b.rd x || nmem b.wr x || nmem b.nw x) || (b.wr.any fun x => nmem a.rd x || nmem a.wr x || nmem a.nw x) ||
  (a.rd.any fun x => nmem b.nw x) || (b.rd.any fun x => nmem a.nw x) ||
  (a.cl && (!b.wr.isEmpty || !b.nw.isEmpty || b.gr)) || (b.cl && (!a.wr.isEmpty || !a.nw.isEmpty || a.gr)) || (a.gr && b.fz) || (b.gr && a.fz))
def fits (d : Bool) (an : Nat) (r : SRec) (rs : List (Nat × SRec)) : Bool := !d || rs.all fun q => Nat.testBit an q.1 || !(clash r q.2)
/-- An operation that a call without own blocks may change places with. -/
def quietR (r : SRec) : Bool := !r.mu && r.wr.isEmpty && r.nw.isEmpty && !r.cl
def dim (q : Nat × SRec) : Nat × SRec := (q.1, if q.2.pure = true then q.2 else SRec.top)

/-- One value's telling stands for another. -/
def Sim (v w : SV) : Prop := ∀ F ω u, RV F ω v u → RV F ω w u
/-- Other names. -/
def ren (h : Nm → Nm) : Nat → SV → SV
  | 0, v => v
  | n + 1, v => match v with
    | .pt β i j => .pt (h β) i j
    | .os β o k c => .os (h β) o k c
    | .ag c => .ag (c.map (ren h n))
    | .tp c => .tp (c.map (ren h n))
    | .fn g a b => .fn g (a.map (ren h n)) (b.map (ren h n))
    | v => v
/-- Only such names in it. -/
def cln (L : Nm → Bool) : Nat → SV → Bool
  | 0, _ => false
  | n + 1, v => match v with
    | .pt β _ _ => L β
    | .os β _ _ _ => L β
    | .ag c => c.all (cln L n)
    | .tp c => c.all (cln L n)
    | .fn _ a b => a.all (cln L n) && b.all (cln L n)
    | _ => true
/-- Some own blocks are not written any more. -/
def pview (fr : List Nm) (o : Own) : Nat → SV → SV
  | 0, v => v
  | n + 1, v => match v with
    | .pt β i j => if nmem fr β = true then (match lookO o β with
      | some b => .rf ((b.g i).drop j)
      | none => .bad) else .pt β i j
    | .os β p m c => if nmem fr β = true then (match lookO o β with
      | some b => .sl b.z m (fun k => b.g (p + k))
      | none => .bad) else .os β p m c
    | .ag c => .ag (c.map (pview fr o n))
    | .tp c => .tp (c.map (pview fr o n))
    | .fn g a b => .fn g (a.map (pview fr o n)) (b.map (pview fr o n))
    | v => v
def pok (fr : List Nm) (o : Own) : Nat → SV → Prop
  | 0, _ => True
  | n + 1, v => match v with
    | .pt β i j => nmem fr β = true → (match lookO o β with
      | some b => i < b.n ∧ j ≤ b.z
      | none => False)
    | .os β p m _ => nmem fr β = true → (match lookO o β with
      | some b => p + m ≤ b.n
      | none => False)
    | .ag c => allP (pok fr o n) c
    | .tp c => allP (pok fr o n) c
    | .fn _ a b => allP (pok fr o n) a ∧ allP (pok fr o n) b
    | _ => True
def live (o : Own) (β : Nm) : Bool := (lookO o β).isSome
/-- What the old state tells of a thing, and what the new one tells of it. -/
def lv (vir : List Nat) (o : Own) (β : Nm) : Bool := live o β && !(vir.elem β.1)
def Tel (h : Nm → Nm) (vir : List Nat) (fr : List Nm) (o t : Own) (v w : SV) : Prop :=
  (pok fr o 5 v ∧ Sim (pview fr o 5 v) (ren h 5 w) ∧ cln (lv vir t) 5 w = true) ∨ (v = .a (.slice none 0 0) ∧ ∃ β, w = .os β 0 0 true ∧ vir.elem β.1 = true ∧ live t β = true)
def telL (h : Nm → Nm) (vir : List Nat) (fr : List Nm) (o t : Own) : List SV → List SV → Prop
  | [], [] => True
  | v :: l, w :: k => Tel h vir fr o t v w ∧ one1 w = true ∧ telL h vir fr o t l k
  | _, _ => False
def slotOk (h : Nm → Nm) (vir : List Nat) (fr : List Nm) (t : Own) (s : SS) (p : Nat × SV) : Prop := ∃ v, look s.f p.1 = some v ∧ Tel h vir fr s.o t v p.2
def ownMatch (h : Nm → Nm) (vir : List Nat) (fr : List Nm) (t : Own) (s : SS) (β : Nm) (b : OB) : Prop :=
  ∃ c, lookO s.o (h β) = some c ∧ (c.e = b.e ∧ c.bx = b.bx ∧ c.z = b.z ∧ c.n = b.n ∧ nmem fr (h β) = false) ∧ ∀ i, i < b.n → telL h vir fr s.o t (c.g i) (b.g i)
def own1 (h : Nm → Nm) (vir : List Nat) (fr : List Nm) (t : Own) (s : SS) (β : Nm) (b : OB) : Prop :=
  if vir.elem β.1 = true then b.n = 0 ∧ b.bx = false else ownMatch h vir fr t s β b
def ownFits (h : Nm → Nm) (vir : List Nat) (fr : List Nm) (t : Own) (s : SS) : Nat × Fam → Prop
  | (_, .one none) => True
  | (β, .one (some b)) => own1 h vir fr t s (β, 0) b
  | (β, .many g) => ∀ i b, g i = some b → own1 h vir fr t s (β, i) b
def allQ {α : Type} (p : α → Prop) : List α → Prop
  | [] => True
  | x :: l => p x ∧ allQ p l
def idxF (F : Fam) (p : Nat → Prop) : Prop := match F with
  | .one none => True
  | .one (some _) => p 0
  | .many g => ∀ i, (g i).isSome = true → p i
def famNe (h : Nm → Nm) (p q : Nat × Fam) : Prop := idxF p.2 fun i => idxF q.2 fun j => h (p.1, i) = h (q.1, j) → p.1 = q.1 ∧ i = j
def injOK (h : Nm → Nm) (vir : List Nat) (o : Own) : Prop := allQ (fun p => vir.elem p.1 = true ∨ allQ (fun q => vir.elem q.1 = true ∨ famNe h p q) o) o
def frzOK (o : Own) (fr : List Nm) : Prop := allQ (fun β => ∃ b, lookO o β = some b ∧ ∀ k, k < b.n → (b.g k).any (owned 5) = false) fr
/-- One state stands for another, by other names, with some blocks that are not written any more. -/
structure WeakBy (h : Nm → Nm) (vir : List Nat) (fr : List Nm) (s t : SS) : Prop where
  frz : frzOK s.o fr
  inj : injOK h vir t.o
  slot : allQ (slotOk h vir fr t.o s) t.f
  own : allQ (ownFits h vir fr t.o s) t.o

def rid (ρ : List (Nat × (Nat → Nm))) (β : Nm) : Nm := match look ρ β.1 with
  | some h => h β.2
  | none => β
/-- The names of a function's own blocks, where it is called. -/
def nuF (ρ : List (Nat × Nat)) (base b : Nat) : Nat := match look ρ b with
  | some c => c
  | none => base + b
def nu (ρ : List (Nat × Nat)) (base : Nat) (β : Nm) : Nm := (nuF ρ base β.1, β.2)
def to1 (ρ : List (Nat × Nat)) (β : Nm) : Nm := match look ρ β.1 with
  | some c => (c, β.2)
  | none => β
def OB.ren (h : Nm → Nm) (b : OB) : OB := ⟨b.e, b.bx, b.z, b.n, fun k => (b.g k).map (Sh.ren h 5)⟩
def Fam.ren (h : Nm → Nm) : Fam → Fam
  | .one none => .one none
  | .one (some b) => .one (some (b.ren h))
  | .many g => .many fun i => match g i with
    | some b => some (b.ren h)
    | none => none
def keepF (l : List (Nat × SV)) : List Nat → List (Nat × SV)
  | [] => []
  | t :: ts => match look l t with
    | some v => (t, v) :: keepF l ts
    | none => keepF l ts
def keepO (l : Own) : List Nat → Own
  | [] => []
  | t :: ts => match look l t with
    | some v => (t, v) :: keepO l ts
    | none => keepO l ts
/-- Names that mean behind a call what they meant ahead of it. -/
def okN (ρ : List (Nat × Nat)) (pr : List Nm) (kb : List Nat) (β : Nm) : Bool := kb.elem β.1 || pr.any fun q => (match look ρ q.1 with
  | some c => decide (c = β.1)
  | none => false) && decide (q.2 = β.2)
def obCln (L : Nm → Bool) (b : OB) : Prop := ∀ k, k < b.n → (b.g k).all (cln L 5) = true
def famCln (L : Nm → Bool) (F : Fam) : Prop := match F with
  | .one none => True
  | .one (some b) => obCln L b
  | .many g => ∀ i b, g i = some b → obCln L b
def backS (s : SS) (ρ : List (Nat × Nat)) (base : Nat) (keep kb : List Nat) (o : Own) : SS := ⟨keepF s.f keep, o.map (fun p => (nuF ρ base p.1, p.2.ren (nu ρ base))) ++ keepO s.o kb⟩
/-- No two of them are the same. -/
def difN : List Nat → Bool
  | [] => true
  | x :: l => !(l.elem x) && difN l

structure CC where
  ct : FuncId → List SV → (SV → Prop) → Prop
  cm : FuncId → List Nm → Own → List SV → (SV → Own → Prop) → Prop
  pr : List Nm
  mu : List FuncId
variable (C : CC)

/-- Behind a call. -/
def thenO (d : Bool) (rs : List (Nat × SRec)) (s : SS) (i an : Nat) (dst : Option Nat) (nx : List (Nat × SRec) → SS → Prop) (sc : Bool) (r : SV) : Prop :=
  fits d an ⟨[], [], [], true, true, !sc, false⟩ rs = true ∧ nx ((i, ⟨[], [], [], true, true, !sc, false⟩) :: rs) (s.put dst r)
/-- Behind a call that may have changed what it was given. -/
def thenM (rs : List (Nat × SRec)) (s : SS) (i : Nat) (dst : Option Nat) (nx : List (Nat × SRec) → SS → Prop) (ρ : List (Nat × Nat)) (base : Nat) (keep kb : List Nat) (r : SV) (o : Own) : Prop :=
  (difN (o.map fun p => nuF ρ base p.1) = true ∧ (o.all fun p => !(kb.elem (nuF ρ base p.1))) = true) ∧ nx ((i, SRec.top) :: rs.map dim) ((backS s ρ base keep kb o).put dst (ren (nu ρ base) 5 r))
structure Kept (pc : List Nm) (s : SS) (ρ : List (Nat × Nat)) (pr : List Nm) (o : Own) (keep kb : List Nat) : Prop where
  prl : allQ (fun β => live o β = true) pr
  apart : ∀ p ∈ ρ, kb.elem p.2 = false
  slot : allQ (fun p => cln (okN ρ pr kb) 5 p.2 = true) (keepF s.f keep)
  own : allQ (fun p => famCln (okN ρ pr kb) p.2) (keepO s.o kb)
  pin : allQ (fun β => okN ρ pr kb β = true) pc
def fitsM (d : Bool) (an : Nat) (o : Own) (rs : List (Nat × SRec)) : Bool := fits d an SRec.top rs || (o.isEmpty && rs.all fun p => Nat.testBit an p.1 || (p.2.pure || quietR p.2))
def callM (d : Bool) (rs : List (Nat × SRec)) (s : SS) (i an : Nat) (dst : Option Nat) (nx : List (Nat × SRec) → SS → Prop) (g : FuncId) (xs : List SV) : Prop :=
  ∃ (ρ : List (Nat × Nat)) (base : Nat) (keep kb : List Nat) (pr : List Nm) (o : Own) (as : List SV),
    xs.length = as.length ∧ WeakBy (to1 ρ) [] [] ⟨slots xs 0, s.o⟩ ⟨slots as 0, o⟩ ∧ (∀ p ∈ o, (look ρ p.1).isSome = true) ∧ fitsM d an o rs = true ∧ Kept C.pr s ρ pr o keep kb ∧
      C.cm g pr o as (thenM rs s i dst nx ρ base keep kb)
def callO (d : Bool) (rs : List (Nat × SRec)) (s : SS) (i an : Nat) (dst : Option Nat) (nx : List (Nat × SRec) → SS → Prop) : Option SV → Option (List SV) → Prop
  | some (.fn g a b), some xs => if C.mu.elem g = true then callM C d rs s i an dst nx g (a ++ xs ++ b) else if (a ++ xs ++ b).any (owned 5) then
      (allP (vok s.o 5) (a ++ xs ++ b) ∧ C.ct g ((a ++ xs ++ b).map (view s.o 5)) fun r => scalar 5 r = true ∧ thenO d rs s i an dst nx true r) ∨ callM C d rs s i an dst nx g (a ++ xs ++ b)
    else C.ct g (a ++ xs ++ b) fun r => thenO d rs s i an dst nx (scalar 5 r) r
  | _, _ => False
def opO (d : Bool) (rs : List (Nat × SRec)) (i an : Nat) (dst : Option Nat) (nx : List (Nat × SRec) → SS → Prop) : Option XR → Prop
  | some r => r.c ∧ fits d an r.r rs = true ∧ nx ((i, r.r) :: rs) (r.s.put dst r.v)
  | none => False
def runO (d : Bool) (rs : List (Nat × SRec)) (s : SS) (i an : Nat) (dst : Option Nat) (nx : List (Nat × SRec) → SS → Prop) (op : SOp) : Prop := match op with
  | .call f xs => callO C d rs s i an dst nx (s.get f) (s.gets xs)
  | op => opO d rs i an dst nx (xOp s dst op)
def guardO (d : Bool) (rs : List (Nat × SRec)) (s : SS) (i an : Nat) (dst : Option Nat) (nx : List (Nat × SRec) → SS → Prop) (op : SOp) (t : Nat) (w : Bool) : Option SV → Prop
  | some (.b c) => (c = w → runO C d rs (s.put (some t) (.b w)) i an dst nx op) ∧ (c = !w → nx rs ((s.put (some t) (.b !w)).put dst (.tp [])))
  | some (.tp []) => nx rs (s.put dst (.tp []))
  | _ => False
/-- Operations of a region: drawn or not; those that are left, the number of the first of these, what has been touched. -/
def vcOps (d : Bool) (K : SS → Prop) : List SOper → Nat → List (Nat × SRec) → SS → Prop
  | [], _, _, s => K s
  | o :: l, i, rs, s => match o.g with
    | none => runO C d rs s i o.an o.dst (vcOps d K l (i + 1)) o.op
    | some (t, w) => guardO C d rs s i o.an o.dst (vcOps d K l (i + 1)) o.op t w (look s.f t)
end
end Sh
end Go.Proofs.Ytlfojfndkcmfnaa
namespace Go.Proofs.Ytlfojfndkcmfnaa
namespace Sh
open Go Ev

/-- An own block is what it is told to be. -/
def OwnOk (F : AM) (ω : Om) (m : Mem) (β : Nm) (ob : OB) : Prop :=
  (∃ k T, ∃ L : Nat → List Value, ω β = some (some (k, ob.z)) ∧ ob.e ≠ CU ∧ m.b.get k = some (.cells T (ob.n * ob.z) ob.e (if ob.bx then 0 else ob.z)) ∧
    ∀ i, i < ob.n → (L i).length = ob.z ∧ RVL F ω (ob.g i) (L i) ∧ (ob.g i).all one1 = true ∧ ∀ j, j < ob.z → T.get (i * ob.z + j) = (L i)[j]?) ∨ (ω β = some none ∧ ob.n = 0 ∧ ob.bx = false)

structure Conc (lo : Nat) (F : AM) (ω : Om) (s : SS) (f : Fr) (m : Mem) : Prop where
  wf : Wf m
  low : lo ≤ m.low
  nxt : lo ≤ m.next
  sub : ∀ i b, F i = some b → m.b.get i = some b
  own : ∀ β ob, lookO s.o β = some ob → OwnOk F ω m β ob
  dom : ∀ β : Nm, look s.o β.1 = none → ω β = none
  inj : ∀ β γ k z k' z', ω β = some (some (k, z)) → ω γ = some (some (k', z')) → β ≠ γ → k ≠ k'
  apart : ∀ β k z, ω β = some (some (k, z)) → F k = none ∧ lo ≤ k ∧ k < m.next
  fr : ∀ t v, look s.f t = some v → ∃ u, f.t.get t = some u ∧ RV F ω v u

section
variable {P : Program} {lo : Nat} {F : AM} {ω : Om} {s : SS} {f : Fr} {m : Mem} {o : Oper}

theorem Conc.get (h : Conc lo F ω s f m) {x : Operand} {v : SV} (hx : s.get x = some v) : ∃ u, f.get x = some u ∧ RV F ω v u := by
  cases x with
  | tmp t => exact h.fr t v hx
  | const c => exact ⟨c, (constS_rv (F := F) (ω := ω) hx).1, (constS_rv hx).2⟩
  | global g => cases hx
  | func g => cases hx; exact ⟨_, rfl, by simpa using RV.fn (F := F) (ω := ω) (g := g) .nil .nil⟩
theorem Conc.pget (h : Conc lo F ω s f m) {x : Operand} {v : SV} (hx : s.pget x = some v) : ∃ u, f.get x = some u ∧ RV F ω v u := by
  unfold SS.pget at hx
  split at hx
  · rename_i Q w hw
    cases hx
    obtain ⟨u, h1, h2⟩ := h.get hw
    cases h2 with
    | ex _ _ h3 => exact ⟨u, h1, h3.mono (Le.refl _) (om0_le _)⟩
  · exact h.get hx
theorem Conc.gets (h : Conc lo F ω s f m) : ∀ {xs : List Operand} {vs : List SV}, s.gets xs = some vs → ∃ us, valsA f xs = some us ∧ RVL F ω vs us
  | [], vs, hx => by cases hx; exact ⟨[], rfl, .nil⟩
  | x :: xs, vs, hx => by
    unfold SS.gets at hx
    split at hx
    · rename_i v ws h1 h2
      cases hx
      obtain ⟨u, e1, r1⟩ := h.get h1
      obtain ⟨us, e2, r2⟩ := h.gets h2
      refine ⟨u :: us, ?_, .cons r1 r2⟩
      unfold valsA
      rw [e1]
      simp only [e2]
    · cases hx

/-- What an operation comes to. -/
def OpS (P : Program) (lo : Nat) (F : AM) (ω : Om) (f : Fr) (m : Mem) (o : Oper) (r : XR) : Prop :=
  ∃ r0 ω', evOp P f o m = some r0 ∧ ω.le ω' ∧ Conc lo F ω' r.s f (m.app r0.e) ∧ RV F ω' r.v r0.v ∧
    (∀ β k z, ω' β = some (some (k, z)) → ω β = some (some (k, z)) ∨ m.next ≤ k) ∧
    (∀ x ∈ r0.foot, (∃ β z, β ∈ r.r.rd ∧ ω β = some (some (x, z))) ∨ (r.r.fz = true ∧ ∃ b, F x = some b)) ∧
    (∀ x ∈ r0.e.mods, ∃ β z, β ∈ r.r.wr ∧ ω β = some (some (x, z))) ∧ (r.r.nw = [] → r0.e.adds = false) ∧ (r0.e.adds = true → ∃ β z, β ∈ r.r.nw ∧ ω' β = some (some (m.next, z)))

theorem app_none (m : Mem) : m.app .none = m := rfl
theorem OpS.pure (hc : Conc lo F ω s f m) {u : Value} {ft : List Nat} (h : evOp P f o m = some ⟨u, .none, ft⟩) {c : Prop} {r : SRec} {v : SV} (hv : RV F ω v u)
    (hft : ∀ x ∈ ft, (∃ β z, β ∈ r.rd ∧ ω β = some (some (x, z))) ∨ (r.fz = true ∧ ∃ b, F x = some b)) : OpS P lo F ω f m o ⟨c, r, v, s⟩ :=
  ⟨_, ω, h, Om.le_refl _, hc, hv, fun _ _ _ h => .inl h, hft, fun x hx => (by cases hx), fun _ => rfl, fun q => (by cases q)⟩
theorem OpS.idle (hc : Conc lo F ω s f m) {u : Value} (h : evOp P f o m = some ⟨u, .none, []⟩) {c : Prop} {r : SRec} {v : SV} (hv : RV F ω v u) : OpS P lo F ω f m o ⟨c, r, v, s⟩ :=
  OpS.pure hc h hv (fun x hx => by cases hx)

theorem s_mv (hc : Conc lo F ω s f m) {x : Operand} {v : SV} (hop : o.op = .move x ∨ o.op = .assign x) (hx : s.get x = some v) {c : Prop} {r : SRec} : OpS P lo F ω f m o ⟨c, r, v, s⟩ := by
  obtain ⟨u, e, hr⟩ := hc.get hx
  refine OpS.idle hc (u := u) ?_ hr
  unfold evOp
  rcases hop with h | h <;> rw [h] <;> show ob (f.get x) val = _ <;> rw [e] <;> rfl
theorem RV.bool_inv {t : Bool} {u : Value} (h : RV F ω (.b t) u) : u = .bool t := by cases h; rfl
theorem RV.int_inv {k : IntKind} {n : Int} {u : Value} (h : RV F ω (.i k n) u) : u = .int k n := by cases h; rfl
theorem s_pick (hc : Conc lo F ω s f m) {x y w : Operand} {t : Bool} {v : SV} (hop : o.op = .pick x y w) (hx : s.get x = some (.b t)) (hy : s.get (if t then y else w) = some v) {c : Prop} {r : SRec} : OpS P lo F ω f m o ⟨c, r, v, s⟩ := by
  obtain ⟨u, e, hr⟩ := hc.get hx
  obtain ⟨u', e', hr'⟩ := hc.get hy
  cases hr.bool_inv
  refine OpS.idle hc (u := u') ?_ hr'
  unfold evOp
  rw [hop]
  show ob (f.get x) (evPick f y w) = _
  rw [e]
  show ob (f.get (iteB t y w)) val = _
  rw [iteB_eq, e']
  rfl

/-- Cells in memory, told of. -/
theorem getCells_of {T : T Value} : ∀ {L : List Value} {o : Nat}, (∀ j, j < L.length → T.get (o + j) = L[j]?) → getCells T o L.length = some L
  | [], _, _ => rfl
  | v :: L, o, h => by
    show (match T.get o with | none => none | some v => match getCells T (o + 1) L.length with | none => none | some l => some (v :: l)) = _
    have h0 := h 0 (by simp)
    rw [Nat.add_zero] at h0
    rw [h0]
    simp only [List.getElem?_cons_zero]
    rw [getCells_of (L := L) (o := o + 1) (fun j hj => by have := h (j + 1) (by simp; omega); rw [show o + 1 + j = o + (j + 1) by omega, this]; simp)]
theorem part_rv {ag : Bool} {p n : Nat} {l : List SV} {L : List Value} {v : SV} (h : part ag p n l = some v) (hl : RVL F ω l L) :
    p + n ≤ L.length ∧ ((ag = true ∧ RV F ω v (.agg ((L.drop p).take n).toArray)) ∨ (ag = false ∧ n = 1 ∧ ∃ u, L[p]? = some u ∧ RV F ω v u)) := by
  unfold part at h
  split at h
  · rename_i hle
    rw [hl.length] at hle
    refine ⟨hle, ?_⟩
    split at h
    · rename_i ha
      cases h
      exact .inl ⟨ha, .ag ((hl.drop p).take n)⟩
    · rename_i ha
      split at h
      · rename_i hn
        have hg : l[p]? = some v := by rw [List.head?_drop] at h; exact h
        obtain ⟨u, h1, h2⟩ := hl.get hg
        exact .inr ⟨by simpa using ha, hn, u, h1, h2⟩
      · cases h
  · cases h
theorem loadA_of {t : TypeId} {d : TypeDesc} {i : TypeInfo} (hd : P.underlying t = some d) (hi : P.info? t = some i) {bk p : Nat} {T : T Value} {N e zz : Nat} (hb : m.b.get bk = some (.cells T N e zz))
    {L : List Value} {q : Nat} (hN : q + L.length ≤ N) (hT : ∀ j, j < L.length → T.get (q + j) = L[j]?) (hp : p + i.size ≤ L.length) {v : SV}
    (hv : (isAggD d = true ∧ RV F ω v (.agg ((L.drop p).take i.size).toArray)) ∨ (isAggD d = false ∧ i.size = 1 ∧ ∃ u, L[p]? = some u ∧ RV F ω v u)) :
    ∃ u, loadA P m t ⟨bk, q + p, none⟩ = some u ∧ RV F ω v u := by
  unfold loadA
  rw [hb, hd, hi]
  simp only
  rcases hv with ⟨ha, hr⟩ | ⟨ha, hn, u, hu, hr⟩
  · rw [ha]
    simp only [cond_true]
    rw [Nat.ble_eq_true_of_le (show q + p + i.size ≤ N by omega)]
    simp only [cond_true]
    have hlen : ((L.drop p).take i.size).length = i.size := by simp; omega
    have := getCells_of (T := T) (L := (L.drop p).take i.size) (o := q + p) (fun j hj => by
      rw [hlen] at hj
      rw [show q + p + j = q + (p + j) by omega, hT _ (by omega)]
      simp [List.getElem?_drop, hj])
    rw [hlen] at this
    rw [this]
    exact ⟨_, rfl, hr⟩
  · rw [ha]
    simp only [cond_false]
    rw [show Nat.blt (q + p) N = true from Nat.ble_eq_true_of_le (show q + p + 1 ≤ N by omega)]
    simp only [cond_true]
    exact ⟨u, by rw [hT p (by omega)]; exact hu, hr⟩
theorem RV.rf_inv {c : List SV} {u : Value} (h : RV F ω (.rf c) u) : ∃ bk p T N e zz L, u = .pointer (some ⟨bk, p, none⟩) ∧ F bk = some (.cells T N e zz) ∧ p + L.length ≤ N ∧ (∀ j, j < L.length → T.get (p + j) = L[j]?) ∧ RVL F om0 c L ∧ c.all one1 = true := by
  cases h with
  | rf h1 h2 h3 h4 h5 => exact ⟨_, _, _, _, _, _, _, rfl, h1, h2, h3, h4, h5⟩
theorem RV.pt_inv {β : Nm} {i j : Nat} {u : Value} (h : RV F ω (.pt β i j) u) : ∃ k z, ω β = some (some (k, z)) ∧ u = .pointer (some ⟨k, i * z + j, none⟩) := by
  cases h with
  | pt h => exact ⟨_, _, h, rfl⟩
theorem Conc.ownAt (hc : Conc lo F ω s f m) {β : Nm} {k z : Nat} {b : OB} (hb : lookO s.o β = some b) (hk : ω β = some (some (k, z))) : z = b.z ∧ ∃ T, ∃ L : Nat → List Value, m.b.get k = some (.cells T (b.n * b.z) b.e (if b.bx then 0 else b.z)) ∧
    ∀ i, i < b.n → (L i).length = b.z ∧ RVL F ω (b.g i) (L i) ∧ (b.g i).all one1 = true ∧ ∀ j, j < b.z → T.get (i * b.z + j) = (L i)[j]? := by
  rcases hc.own β b hb with ⟨k', T, L, h1, _, h2, h3⟩ | ⟨h1, _⟩
  · rw [hk] at h1; cases h1; exact ⟨rfl, T, L, h2, h3⟩
  · rw [hk] at h1; cases h1
theorem Conc.ownE (hc : Conc lo F ω s f m) {β : Nm} {k z : Nat} {b : OB} (hb : lookO s.o β = some b) (hk : ω β = some (some (k, z))) : b.e ≠ CU := by
  rcases hc.own β b hb with ⟨k', T, L, h1, h0, h2, h3⟩ | ⟨h1, _⟩
  · exact h0
  · rw [hk] at h1; cases h1
theorem s_load (hc : Conc lo F ω s f m) {t : TypeId} {x : Operand} {d : TypeDesc} {i : TypeInfo} (hop : o.op = .load t x) (hd : P.underlying t = some d) (hi : P.info? t = some i) {p : SV} (hx : s.get x = some p)
    {r : XR} (h : loadX s (isAggD d) i.size p = some r) (hr : r.c) : OpS P lo F ω f m o r := by
  obtain ⟨u, e, hu⟩ := hc.get hx
  have hev : ∀ {a : Addr} {v : Value}, u = .pointer (some a) → loadA P m t a = some v → evOp P f o m = some ⟨v, .none, [a.block]⟩ := by
    intro a v h1 h2
    unfold evOp
    rw [hop]
    show ob (f.get x) (evLoad P t m) = _
    rw [e, h1]
    show ob (loadA P m t a) _ = _
    rw [h2]
    rfl
  unfold loadX at h
  split at h
  · rename_i c
    split at h
    · rename_i v hv
      cases h
      obtain ⟨bk, q, T, N, e', zz, L, rfl, h1, h2, h3, h4, _⟩ := hu.rf_inv
      obtain ⟨hp, hpv⟩ := part_rv hv h4
      obtain ⟨w, w1, w2⟩ := loadA_of (F := F) hd hi (hc.sub _ _ h1) (q := q) h2 h3 hp hpv
      exact OpS.pure hc (hev rfl w1) (w2.mono (Le.refl _) (om0_le _)) (fun y hy => by simp at hy; subst hy; exact .inr ⟨rfl, _, h1⟩)
    · cases h
  · rename_i β a j
    split at h
    · rename_i b hb
      split at h
      · rename_i hz
        split at h
        · rename_i v hv
          cases h
          obtain ⟨k, z, hk, rfl⟩ := hu.pt_inv
          obtain ⟨rfl, T, L, g1, g2⟩ := hc.ownAt hb hk
          obtain ⟨l1, l2, _, l3⟩ := g2 a hr
          obtain ⟨hp, hpv⟩ := part_rv hv l2
          have hr : a < b.n := hr
          obtain ⟨w, w1, w2⟩ := loadA_of (F := F) hd hi g1 (q := a * b.z) (L := L a) (by rw [l1]; have := Nat.mul_le_mul_right b.z (Nat.succ_le_of_lt hr); rw [Nat.succ_mul] at this; omega) (fun y hy => l3 y (by omega)) hp hpv
          exact OpS.pure hc (hev rfl w1) w2 (fun y hy => by simp at hy; subst hy; exact .inl ⟨β, b.z, by simp, hk⟩)
        · cases h
      · cases h
    · cases h
  · cases h
end
end Sh
end Go.Proofs.Ytlfojfndkcmfnaa
namespace Go.Proofs.Ytlfojfndkcmfnaa
namespace Sh
open Go Ev

section
variable {P : Program} {lo : Nat} {F : AM} {ω : Om} {s : SS} {f : Fr} {m : Mem} {o : Oper} {c : Prop} {r : SRec}

theorem s_nilck (hc : Conc lo F ω s f m) {x : Operand} {v : SV} (hop : o.op = .nilCheck x) (hx : s.get x = some v) (hv : (∃ c, v = .rf c) ∨ ∃ β i j, v = .pt β i j) : OpS P lo F ω f m o ⟨c, r, v, s⟩ := by
  obtain ⟨u, e, hr⟩ := hc.get hx
  have : ∃ a, u = .pointer (some a) := by
    rcases hv with ⟨_, rfl⟩ | ⟨_, _, _, rfl⟩
    · obtain ⟨bk, p, T, N, e, zz, L, rfl, _⟩ := hr.rf_inv; exact ⟨_, rfl⟩
    · obtain ⟨k, z, _, rfl⟩ := hr.pt_inv; exact ⟨_, rfl⟩
  obtain ⟨a, rfl⟩ := this
  refine OpS.idle hc (u := .pointer (some a)) ?_ hr
  unfold evOp
  rw [hop]
  show ob (f.get x) evNilCheck = _
  rw [e]
  rfl

theorem addrAt_eq (b p q : Nat) : addrAt ⟨b, p, none⟩ q = some ⟨.pointer (some ⟨b, p + q, none⟩), .none, []⟩ := by
  show ptrAt b (Nat.add p q) = _
  unfold ptrAt
  rw [forceN_eq]
  rfl
theorem all_drop {l : List SV} {g : SV → Bool} (h : l.all g = true) (n : Nat) : (l.drop n).all g = true := List.all_eq_true.2 fun x hx => List.all_eq_true.1 h x (List.mem_of_mem_drop hx)
theorem all_take {l : List SV} {g : SV → Bool} (h : l.all g = true) (n : Nat) : (l.take n).all g = true := List.all_eq_true.2 fun x hx => List.all_eq_true.1 h x (List.mem_of_mem_take hx)
/-- A pointer further in. -/
theorem RV.rf_in {l : List SV} {bk p T N e zz} {L : List Value} (h1 : F bk = some (.cells T N e zz)) (h2 : p + L.length ≤ N) (h3 : ∀ j, j < L.length → T.get (p + j) = L[j]?) (h4 : RVL F om0 l L) (h5 : l.all one1 = true) {q n : Nat} (hq : q + n ≤ l.length) :
    RV F ω (.rf ((l.drop q).take n)) (.pointer (some ⟨bk, p + q, none⟩)) := by
  rw [h4.length] at hq
  have hlen : ((L.drop q).take n).length = n := by simp; omega
  refine .rf h1 (L := (L.drop q).take n) (by rw [hlen]; omega) (fun j hj => ?_) ((h4.drop q).take n) (all_take (all_drop h5 q) n)
  rw [hlen] at hj
  rw [show p + q + j = p + (q + j) by omega, h3 _ (by omega)]
  simp [hj]
theorem s_faddr (hc : Conc lo F ω s f m) {t : TypeId} {x : Operand} {k : Nat} {fs : Array Field} {fd : Field} {i : TypeInfo} (hop : o.op = .fieldAddr t x k) (hd : P.underlying t = some (.struct fs)) (hf : fs[k]? = some fd) (hi : P.info? fd.type = some i) (h0 : i.size ≠ 0)
    {v w : SV} (hx : s.get x = some v) (hw : (∃ l, v = .rf l ∧ fd.offset + i.size ≤ l.length ∧ w = .rf ((l.drop fd.offset).take i.size)) ∨ ∃ β a j, v = .pt β a j ∧ w = .pt β a (j + fd.offset)) : OpS P lo F ω f m o ⟨c, r, w, s⟩ := by
  obtain ⟨u, e, hr⟩ := hc.get hx
  have hev : ∀ {b p : Nat}, u = .pointer (some ⟨b, p, none⟩) → evOp P f o m = some ⟨.pointer (some ⟨b, p + fd.offset, none⟩), .none, []⟩ := by
    rintro b p rfl
    unfold evOp
    rw [hop]
    show ob (f.get x) (evFieldAddr P t k) = _
    rw [e]
    show ob (P.underlying t) _ = _
    rw [hd]
    show ob fs[k]? _ = _
    rw [hf]
    show ob (P.info? fd.type) _ = _
    rw [hi]
    show iteB (Nat.beq i.size 0) none _ = _
    rw [iteB_eq, if_neg (by intro q; exact h0 (Nat.eq_of_beq_eq_true q)), addrAt_eq]
  rcases hw with ⟨l, rfl, hl, rfl⟩ | ⟨β, a, j, rfl, rfl⟩
  · obtain ⟨bk, p, T, N, e', zz, L, rfl, h1, h2, h3, h4, h5⟩ := hr.rf_inv
    exact OpS.idle hc (hev rfl) (RV.rf_in h1 h2 h3 h4 h5 hl)
  · obtain ⟨k', z, hk, rfl⟩ := hr.pt_inv
    refine OpS.idle hc (hev rfl) ?_
    rw [Nat.add_assoc]
    exact .pt hk
theorem RV.ag_inv {l : List SV} {u : Value} (h : RV F ω (.ag l) u) : ∃ L : List Value, u = .agg L.toArray ∧ RVL F ω l L := by
  cases h with
  | ag h => exact ⟨_, rfl, h⟩
theorem RV.tp_inv {l : List SV} {u : Value} (h : RV F ω (.tp l) u) : ∃ L : List Value, u = .tuple L.toArray ∧ RVL F ω l L := by
  cases h with
  | tp h => exact ⟨_, rfl, h⟩
theorem s_field (hc : Conc lo F ω s f m) {t : TypeId} {x : Operand} {k : Nat} {fs : Array Field} {fd : Field} {i : TypeInfo} {d : TypeDesc} (hop : o.op = .field t x k) (hd : P.underlying t = some (.struct fs)) (hf : fs[k]? = some fd) (hi : P.info? fd.type = some i) (hu : P.underlying fd.type = some d)
    {l : List SV} {w : SV} (hx : s.get x = some (.ag l)) (hw : part (isAggD d) fd.offset i.size l = some w) : OpS P lo F ω f m o ⟨c, r, w, s⟩ := by
  obtain ⟨u, e, hr⟩ := hc.get hx
  obtain ⟨L, rfl, hL⟩ := hr.ag_inv
  obtain ⟨hp, hpv⟩ := part_rv hw hL
  have hev : ∀ {v : Value}, partA P fd.type L fd.offset = some v → evOp P f o m = some ⟨v, .none, []⟩ := by
    intro v hv
    unfold evOp
    rw [hop]
    show ob (f.get x) (evFieldOf P t k) = _
    rw [e]
    show ob (P.underlying t) _ = _
    rw [hd]
    show ob fs[k]? _ = _
    rw [hf]
    show ob (partA P fd.type L fd.offset) val = _
    rw [hv]
    rfl
  unfold partA at hev
  rw [hu, hi] at hev
  simp only at hev
  rcases hpv with ⟨ha, hv⟩ | ⟨ha, hn, v, h1, hv⟩
  · rw [ha] at hev
    simp only [cond_true, takeFrom] at hev
    have hlen : ((L.drop fd.offset).take i.size).length = i.size := by simp; omega
    rw [hlen, Nat.beq_refl] at hev
    exact OpS.idle hc (hev rfl) hv
  · rw [ha] at hev
    simp only [cond_false] at hev
    exact OpS.idle hc (hev h1) hv

theorem RV.sl_inv {z n : Nat} {g : Nat → List SV} {u : Value} (h : RV F ω (.sl z n g) u) : (n = 0 ∧ Z0 u) ∨ ∃ bk p cp T N e zz, ∃ L : Nat → List Value, u = .slice (some ⟨bk, p, none⟩) n cp ∧ F bk = some (.cells T N e zz) ∧ (zz = z ∨ zz = 0) ∧ p + n * z ≤ N ∧
    (∀ k, k < n → (L k).length = z) ∧ (∀ k, k < n → ∀ j, j < z → T.get (p + k * z + j) = (L k)[j]?) ∧ (∀ k, k < n → RVL F om0 (g k) (L k)) ∧ (∀ k, k < n → (g k).all one1 = true) := by
  cases h with
  | sl0 h => exact .inl ⟨rfl, h⟩
  | sl h1 h2 h3 h4 h5 h6 h7 => exact .inr ⟨_, _, _, _, _, _, _, _, rfl, h1, h2, h3, h4, h5, h6, h7⟩
theorem RV.os_inv {β : Nm} {p n : Nat} {ap : Bool} {u : Value} (h : RV F ω (.os β p n ap) u) : (∃ k z cp, ω β = some (some (k, z)) ∧ u = .slice (some ⟨k, p * z, none⟩) n cp ∧ (ap = true → cp = CU ∨ (cp = n ∧ n < CU))) ∨ (ω β = some none ∧ p = 0 ∧ n = 0 ∧ u = .slice none 0 0) := by
  cases h with
  | os h hb => exact .inl ⟨_, _, _, h, rfl, hb⟩
  | os0 h => exact .inr ⟨h, rfl, rfl, rfl⟩
theorem mul_in {k n z : Nat} (h : k < n) : k * z + z ≤ n * z := by
  have := Nat.mul_le_mul_right z (Nat.succ_le_of_lt h)
  rwa [Nat.succ_mul] at this

theorem s_idx (hc : Conc lo F ω s f m) {t elem : TypeId} {x y : Operand} {i : TypeInfo} (hop : o.op = .indexAddr t x y) (hd : P.underlying t = some (.slice elem)) (hi : P.info? elem = some i)
    {v : SV} {kk : IntKind} {n : Int} (hx : s.pget x = some v) (hy : s.get y = some (.i kk n)) {q : XR} (h : idxX s n i.size v = some q) (hr : q.c) : OpS P lo F ω f m o q := by
  obtain ⟨u, e, hu⟩ := hc.pget hx
  obtain ⟨u', e', hu'⟩ := hc.get hy
  cases hu'.int_inv
  have hev : ∀ {b p len cp a : Nat}, u = .slice (some ⟨b, p, none⟩) len cp → n = Int.ofNat a → a < len → evOp P f o m = some ⟨.pointer (some ⟨b, p + a * i.size, none⟩), .none, []⟩ := by
    rintro b p len cp a rfl rfl ha
    unfold evOp
    rw [hop]
    show (ob (f.get x) fun x => ob (f.get y) (evIndexAddr P t x)) = _
    rw [e]
    show ob (f.get y) (evIndexAddr P t _) = _
    rw [e']
    show ob (P.underlying t) _ = _
    rw [hd]
    show iteB (Nat.blt a len) (ob (P.info? elem) fun inf => addrAt ⟨b, p, none⟩ (Nat.mul a inf.size)) none = _
    rw [iteB_eq, if_pos (show Nat.blt a len = true from Nat.ble_eq_true_of_le ha), hi]
    exact addrAt_eq _ _ _
  unfold idxX at h
  split at h
  · rename_i z' len g
    split at h
    · rename_i hz
      subst hz
      cases h
      obtain ⟨h0, h1⟩ : 0 ≤ n ∧ n < len := hr
      obtain ⟨a, rfl⟩ := Int.eq_ofNat_of_zero_le h0
      have ha : a < len := by omega
      rcases hu.sl_inv with ⟨q, _⟩ | ⟨bk, p, cp, T, N, e2, zz, L, rfl, g1, g2, g3, g4, g5, g6, g7⟩
      · omega
      · refine OpS.idle hc (hev rfl rfl ha) ?_
        rw [Int.toNat_natCast]
        have := mul_in (z := i.size) ha
        exact .rf (L := L a) g1 (by rw [g4 a ha]; omega) (fun j hj => g5 a ha j (by rw [g4 a ha] at hj; exact hj)) (g6 a ha) (g7 a ha)
    · cases h
  · rename_i β p len cp
    split at h
    · rename_i b hb
      split at h
      · rename_i hz
        cases h
        obtain ⟨h0, h1⟩ : 0 ≤ n ∧ n < len := hr
        obtain ⟨a, rfl⟩ := Int.eq_ofNat_of_zero_le h0
        have ha : a < len := by omega
        rcases hu.os_inv with ⟨k, z, cp, hk, rfl, _⟩ | ⟨_, _, q, _⟩
        · obtain ⟨rfl, _⟩ := hc.ownAt hb hk
          refine OpS.idle hc (hev rfl rfl ha) ?_
          rw [Int.toNat_natCast, ← hz, ← Nat.add_mul]
          exact .pt hk
        · omega
      · cases h
    · cases h
  · cases h
theorem s_idxA (hc : Conc lo F ω s f m) {t elem : TypeId} {x y : Operand} {i : TypeInfo} {len : Nat} (hop : o.op = .indexAddr t x y) (hd : P.underlying t = some (.array len elem)) (hi : P.info? elem = some i)
    {v w : SV} {kk : IntKind} {n : Int} (hx : s.get x = some v) (hy : s.get y = some (.i kk n)) (hn : 0 ≤ n ∧ n < len)
    (hw : (∃ β b a j, v = .pt β a j ∧ lookO s.o β = some b ∧ b.z = i.size ∧ w = .pt β (a + n.toNat) j) ∨ (∃ β a j, v = .pt β a j ∧ w = .pt β a (j + n.toNat * i.size)) ∨ (∃ l, v = .rf l ∧ n.toNat * i.size + i.size ≤ l.length ∧ w = .rf ((l.drop (n.toNat * i.size)).take i.size))) : OpS P lo F ω f m o ⟨c, r, w, s⟩ := by
  obtain ⟨u, e, hu⟩ := hc.get hx
  obtain ⟨u', e', hu'⟩ := hc.get hy
  cases hu'.int_inv
  obtain ⟨a, rfl⟩ := Int.eq_ofNat_of_zero_le hn.1
  have ha : a < len := by omega
  have hev : ∀ {b p : Nat}, u = .pointer (some ⟨b, p, none⟩) → evOp P f o m = some ⟨.pointer (some ⟨b, p + a * i.size, none⟩), .none, []⟩ := by
    rintro b p rfl
    unfold evOp
    rw [hop]
    show (ob (f.get x) fun x => ob (f.get y) (evIndexAddr P t x)) = _
    rw [e]
    show ob (f.get y) (evIndexAddr P t _) = _
    rw [e']
    show ob (P.underlying t) _ = _
    rw [hd]
    show iteB (Nat.blt a len) (ob (P.info? elem) fun inf => addrAt ⟨b, p, none⟩ (Nat.mul a inf.size)) none = _
    rw [iteB_eq, if_pos (show Nat.blt a len = true from Nat.ble_eq_true_of_le ha), hi]
    exact addrAt_eq _ _ _
  simp only [Int.toNat_natCast] at hw
  rcases hw with ⟨β, b, a', j, rfl, hb, hz, rfl⟩ | ⟨β, a', j, rfl, rfl⟩ | ⟨l, rfl, hl, rfl⟩
  · obtain ⟨k, z, hk, rfl⟩ := hu.pt_inv
    obtain ⟨rfl, _⟩ := hc.ownAt hb hk
    refine OpS.idle hc (hev rfl) ?_
    have := RV.pt (F := F) (i := a' + a) (j := j) hk
    rw [show a' * b.z + j + a * i.size = (a' + a) * b.z + j by rw [← hz, Nat.add_mul]; omega]
    exact this
  · obtain ⟨k, z, hk, rfl⟩ := hu.pt_inv
    refine OpS.idle hc (hev rfl) ?_
    rw [Nat.add_assoc]
    exact .pt hk
  · obtain ⟨bk, p, T, N, e2, zz, L, rfl, h1, h2, h3, h4, h5⟩ := hu.rf_inv
    exact OpS.idle hc (hev rfl) (RV.rf_in h1 h2 h3 h4 h5 hl)
theorem s_extract (hc : Conc lo F ω s f m) {x : Operand} {k : Nat} {l : List SV} {v : SV} (hop : o.op = .extract x k) (hx : s.get x = some (.tp l)) (hk : l[k]? = some v) : OpS P lo F ω f m o ⟨c, r, v, s⟩ := by
  obtain ⟨u, e, hu⟩ := hc.get hx
  obtain ⟨L, rfl, hL⟩ := hu.tp_inv
  obtain ⟨w, h1, h2⟩ := hL.get hk
  refine OpS.idle hc (u := w) ?_ h2
  unfold evOp
  rw [hop]
  show ob (f.get x) (evExtract k) = _
  rw [e]
  show ob (L.toArray)[k]? val = _
  rw [show L.toArray[k]? = some w by simpa using h1]
  rfl
theorem s_mkfn (hc : Conc lo F ω s f m) {g : FuncId} {a b : Array Operand} {va vb : List SV} (hop : o.op = .makeFunc (.func g) a b) (ha : s.gets a.toList = some va) (hb : s.gets b.toList = some vb) : OpS P lo F ω f m o ⟨c, r, .fn g va vb, s⟩ := by
  obtain ⟨ua, e1, h1⟩ := hc.gets ha
  obtain ⟨ub, e2, h2⟩ := hc.gets hb
  refine OpS.idle hc ?_ (.fn h1 h2)
  unfold evOp
  rw [hop]
  show (ob (valsA f a.toList) fun a => ob (valsA f b.toList) fun b => evMakeFunc a b (.func g)) = _
  rw [e1]
  show (ob (valsA f b.toList) fun b => evMakeFunc ua b (.func g)) = _
  rw [e2]
  rfl
end
end Sh
end Go.Proofs.Ytlfojfndkcmfnaa
namespace Go.Proofs.Ytlfojfndkcmfnaa
namespace Sh
open Go Ev

section
variable {P : Program} {lo : Nat} {F : AM} {ω : Om} {s : SS} {f : Fr} {m : Mem} {o : Oper} {c : Prop} {r : SRec}

theorem wrap_in {k : IntKind} {n : Int} (h : inK k n) : k.wrap n = n := by
  obtain ⟨h1, h2⟩ := h
  unfold IntKind.wrap
  cases k <;> simp [IntKind.min, IntKind.max, IntKind.bits, IntKind.signed] at * <;> omega

theorem runPure_bind {α β : Type} (P : Program) (k : α → Sem β) : ∀ {S : Sem α} {a : α}, runPure P S = some a → runPure P (S >>= k) = runPure P (k a) := by
  intro S
  induction S with
  | pure x => intro a h; cases h; rfl
  | program j ih => intro a h; exact ih P h
  | _ => intro a h; cases h
/-- An operation without memory. -/
theorem pureA_of {u : Value} {us : List Value} (hus : valsA f o.op.operands.toList = some us) (ha : us.all atomA = true) (hr : runPure P (execOp (fun x => (f.get x).getD undef) o) = some (.value u)) (hu : atomA u = true) : pureA P f o = some ⟨u, .none, []⟩ := by
  unfold pureA
  rw [hus]
  simp only [ha, cond_true]
  rw [hr]
  simp only [hu, cond_true]
theorem vals2 {x y : Operand} {a b : Value} (hx : f.get x = some a) (hy : f.get y = some b) : valsA f [x, y] = some [a, b] := by
  unfold valsA
  rw [hx]
  simp only
  unfold valsA
  rw [hy]
  rfl
theorem vals1 {x : Operand} {a : Value} (hx : f.get x = some a) : valsA f [x] = some [a] := by
  unfold valsA
  rw [hx]
  rfl
theorem runPure_underlying {t : TypeId} {d : TypeDesc} (h : P.underlying t = some d) : runPure P (underlying t) = some d := by
  unfold underlying
  show runPure P (match P.underlying t with | some d => _ | none => _) = _
  rw [h]
  rfl
/-- A difference that may wrap. -/
theorem s_wsub (hc : Conc lo F ω s f m) {xt yt : TypeId} {x y : Operand} (hop : o.op = .binOp .sub xt x y yt) {k : IntKind} {n n' : Int} (hx : s.get x = some (.i k n)) (hy : s.get y = some (.i k n')) : OpS P lo F ω f m o ⟨c, r, .i k (k.wrap (n - n')), s⟩ := by
  obtain ⟨a, e1, r1⟩ := hc.get hx
  obtain ⟨b, e2, r2⟩ := hc.get hy
  have hev : evOp P f o m = pureA P f o := by unfold evOp; rw [hop]
  cases r1.int_inv
  cases r2.int_inv
  have hguard : runPure P (do eqGuard .sub xt x y (.int k n) (.int k n'); binOp .sub xt (.int k n) (.int k n') : Sem Value) = some (.int k (k.wrap (n - n'))) := by
    have : runPure P (eqGuard .sub xt x y (.int k n) (.int k n')) = some () := rfl
    refine (runPure_bind P (fun _ => binOp .sub xt (.int k n) (.int k n')) this).trans ?_
    show runPure P (if k ≠ k then _ else _) = _
    rw [if_neg (by simp)]
    rfl
  have hrun : runPure P (execOp (fun x => (f.get x).getD undef) o) = some (.value (.int k (k.wrap (n - n')))) := by
    unfold execOp
    rw [hop]
    simp only [e1, e2, Option.getD_some]
    exact (runPure_bind P (fun v => pure (Next.value v)) hguard).trans rfl
  refine OpS.idle hc (u := .int k (k.wrap (n - n'))) ?_ .i
  rw [hev]
  exact pureA_of (us := [.int k n, .int k n']) (by rw [hop]; exact vals2 e1 e2) rfl hrun rfl
theorem s_bin (hc : Conc lo F ω s f m) {op : BinOp} {xt yt : TypeId} {x y : Operand} (hop : o.op = .binOp op xt x y yt) {v w : SV} (hx : s.get x = some v) (hy : s.get y = some w) {q : Prop × SV} (h : xbin op v w = some q) (hq : q.1) : OpS P lo F ω f m o ⟨c, r, q.2, s⟩ := by
  obtain ⟨a, e1, r1⟩ := hc.get hx
  obtain ⟨b, e2, r2⟩ := hc.get hy
  have hev : evOp P f o m = pureA P f o := by unfold evOp; rw [hop]
  have main : ∀ {u : Value}, atomA a = true → atomA b = true → atomA u = true → runPure P (execOp (fun x => (f.get x).getD undef) o) = some (.value u) → RV F ω q.2 u → OpS P lo F ω f m o ⟨c, r, q.2, s⟩ := by
    intro u h1 h2 h3 h4 h5
    refine OpS.idle hc (u := u) ?_ h5
    rw [hev]
    exact pureA_of (us := [a, b]) (by rw [hop]; exact vals2 e1 e2) (by simp [h1, h2]) h4 h3
  unfold xbin at h
  split at h
  · rename_i k n k' n'
    cases r1.int_inv
    cases r2.int_inv
    have hrun : ∀ {u : Value}, runPure P (do eqGuard op xt x y (.int k n) (.int k' n'); binOp op xt (.int k n) (.int k' n') : Sem Value) = some u → runPure P (execOp (fun x => (f.get x).getD undef) o) = some (.value u) := by
      intro u hu
      unfold execOp
      rw [hop]
      simp only [e1, e2, Option.getD_some]
      exact (runPure_bind P (fun v => pure (Next.value v)) hu).trans rfl
    have hguard : ∀ {S : Sem Value} {u : Value}, runPure P S = some u → runPure P (do eqGuard op xt x y (.int k n) (.int k' n'); S : Sem Value) = some u := by
      intro S u hu
      have : runPure P (eqGuard op xt x y (.int k n) (.int k' n')) = some () := by cases op <;> rfl
      exact (runPure_bind P (fun _ => S) this).trans hu
    cases op with
    | add =>
      simp only at h; split at h
      · rename_i hk; subst hk; cases h
        refine main rfl rfl rfl (hrun (hguard (u := .int k (n + n')) ?_)) .i
        show runPure P (if k ≠ k then _ else _) = _
        rw [if_neg (by simp)]
        show some (Value.int k (k.wrap (n + n'))) = _
        rw [wrap_in hq]
      · cases h
    | sub =>
      simp only at h; split at h
      · rename_i hk; subst hk; cases h
        refine main rfl rfl rfl (hrun (hguard (u := .int k (n - n')) ?_)) .i
        show runPure P (if k ≠ k then _ else _) = _
        rw [if_neg (by simp)]
        show some (Value.int k (k.wrap (n - n'))) = _
        rw [wrap_in hq]
      · cases h
    | mul =>
      simp only at h; split at h
      · rename_i hk; subst hk; cases h
        refine main rfl rfl rfl (hrun (hguard (u := .int k (n * n')) ?_)) .i
        show runPure P (if k ≠ k then _ else _) = _
        rw [if_neg (by simp)]
        show some (Value.int k (k.wrap (n * n'))) = _
        rw [wrap_in hq]
      · cases h
    | quo =>
      simp only at h; split at h
      · rename_i hk; subst hk; cases h
        refine main rfl rfl rfl (hrun (hguard (u := .int k (n.tdiv n')) ?_)) .i
        show runPure P (if k ≠ k then _ else _) = _
        rw [if_neg (by simp)]
        show runPure P (if n' = 0 then _ else _) = _
        rw [if_neg hq.1]
        show some (Value.int k (k.wrap (n.tdiv n'))) = _
        rw [wrap_in hq.2]
      · cases h
    | rem =>
      simp only at h; split at h
      · rename_i hk; subst hk; cases h
        refine main rfl rfl rfl (hrun (hguard (u := .int k (n.tmod n')) ?_)) .i
        show runPure P (if k ≠ k then _ else _) = _
        rw [if_neg (by simp)]
        show runPure P (if n' = 0 then _ else _) = _
        rw [if_neg hq]
        rfl
      · cases h
    | shl =>
      cases h
      refine main rfl rfl rfl (hrun (hguard (u := .int k (k.wrap (n * 2 ^ n'.toNat))) ?_)) .i
      show runPure P (if n' < 0 then _ else _) = _
      obtain ⟨h0, h1⟩ : 0 ≤ n' ∧ n' < k.bits := hq
      rw [if_neg (by omega)]
      show some (Value.int k (k.wrap (n * 2 ^ (min n'.toNat k.bits)))) = _
      rw [Nat.min_eq_left (by omega)]
    | shr =>
      cases h
      refine main rfl rfl rfl (hrun (hguard (u := .int k (n.fdiv (2 ^ n'.toNat))) ?_)) .i
      show runPure P (if n' < 0 then _ else _) = _
      obtain ⟨h0, h1⟩ : 0 ≤ n' ∧ n' < k.bits := hq
      rw [if_neg (by omega)]
      show some (Value.int k (n.fdiv (2 ^ (min n'.toNat k.bits)))) = _
      rw [Nat.min_eq_left (by omega)]
    | and | or | xor | andNot =>
      simp only at h; split at h
      · rename_i hk; subst hk; cases h
        refine main rfl rfl rfl (hrun (hguard ?_)) .i
        show runPure P (if k ≠ k then _ else _) = _
        rw [if_neg (by simp)]
        rfl
      · cases h
    | eql | neq | lss | leq | gtr | geq =>
      simp only at h; split at h
      · rename_i hk; subst hk; cases h
        refine main rfl rfl rfl (hrun (hguard ?_)) .b
        show runPure P (if k ≠ k then _ else _) = _
        rw [if_neg (by simp)]
        rfl
      · cases h
  · cases h
theorem s_beq (hc : Conc lo F ω s f m) {ne : Bool} {xt yt : TypeId} {x y : Operand} (hop : o.op = .binOp (if ne then .neq else .eql) xt x y yt) (ht : P.underlying xt = some .bool) {a b : Bool} (hx : s.get x = some (.b a)) (hy : s.get y = some (.b b)) : OpS P lo F ω f m o ⟨c, r, .b (if ne then a != b else a == b), s⟩ := by
  obtain ⟨u, e1, r1⟩ := hc.get hx
  obtain ⟨u', e2, r2⟩ := hc.get hy
  cases r1.bool_inv
  cases r2.bool_inv
  have hev : evOp P f o m = pureA P f o := by unfold evOp; rw [hop]
  have heq : runPure P (Op.equal xt (.bool a) (.bool b)) = some (a == b) := by
    unfold Op.equal Op.maxDepth Op.equalIn
    exact (runPure_bind P _ (runPure_underlying ht)).trans rfl
  refine OpS.idle hc (u := .bool (if ne then a != b else a == b)) ?_ .b
  rw [hev]
  refine pureA_of (us := [.bool a, .bool b]) (by rw [hop]; exact vals2 e1 e2) rfl ?_ rfl
  unfold execOp
  rw [hop]
  simp only [e1, e2, Option.getD_some]
  cases ne with
  | true =>
    refine (runPure_bind P (fun v => pure (Next.value v)) (a := .bool (a != b)) ?_).trans rfl
    exact (runPure_bind P (fun v => pure (Value.bool (!v))) heq).trans (by cases a <;> cases b <;> rfl)
  | false =>
    refine (runPure_bind P (fun v => pure (Next.value v)) (a := .bool (a == b)) ?_).trans rfl
    exact (runPure_bind P (fun v => pure (Value.bool v)) heq).trans rfl
theorem runPure_bind2 {α β : Type} (P : Program) (k : α → Sem β) : ∀ (S : Sem α), runPure P (S >>= k) = (runPure P S).bind fun a => runPure P (k a) := by
  intro S
  induction S with
  | pure x => rfl
  | program j ih => exact ih P
  | _ => rfl
/-- The kinds of a struct's fields, one cell each: false for a number, true for a truth value. -/
def fsK (P : Program) : Nat → List Field → Option (List Bool)
  | _, [] => some []
  | o, f :: fs => if f.offset = o ∧ (f.name == "_") = false then (match P.underlying f.type with
    | some (.int _) => (fsK P (o + 1) fs).map (false :: ·)
    | some .bool => (fsK P (o + 1) fs).map (true :: ·)
    | _ => none) else none
theorem runPure_part {e : TypeId} {xs : Array Value} {n : Nat} {v : Value} {d : TypeDesc} (hd : P.underlying e = some d) (hs : isAggD d = false) (hv : xs[n]? = some v) : runPure P (Go.part e xs n) = some v := by
  unfold Go.part isAgg
  rw [runPure_bind2, runPure_bind2, runPure_underlying hd]
  have h2 : runPure P (match d with
    | .struct _ | .array _ _ => pure true
    | _ => pure false) = some false := by cases d <;> first | rfl | cases hs
  refine (congrArg (fun z => Option.bind z fun a => runPure P (if a = true then (fun a => Value.agg (xs.extract n (n + a))) <$> sizeOf e else match xs[n]? with
      | some v => pure v
      | none => stuck "part: no such cell")) h2).trans ?_
  show runPure P (if false = true then _ else _) = _
  rw [if_neg (by simp), hv]
  rfl
theorem runPure_eqStruct (d : Nat) (t : TypeId) (xs ys : Array Value) {fa : Array Field} (ht : P.underlying t = some (.struct fa)) (hp : P.stoodInHeld t = false) :
    runPure P (Op.equalIn (d + 1) t (.agg xs) (.agg ys)) = runPure P (Op.eqFields d xs ys fa.toList) := by
  unfold Op.equalIn
  refine (runPure_bind P _ (runPure_underlying ht)).trans ?_
  show runPure P (program >>= _) = _
  refine (runPure_bind P _ (a := P) rfl).trans ?_
  simp only [hp, Bool.false_eq_true, if_false]
  rw [← Array.forIn_toList]
  generalize fa.toList = fs
  clear ht
  induction fs with
  | nil => rfl
  | cons f fs ih =>
    simp only [List.forIn_cons, Op.eqFields]
    split
    · simp only [runPure_bind2, Option.bind_assoc]
      refine congrArg (fun k => (runPure P (Go.part f.type xs f.offset)).bind k) (funext fun a => ?_)
      refine congrArg (fun k => (runPure P (Go.part f.type ys f.offset)).bind k) (funext fun b => ?_)
      refine congrArg (fun k => (runPure P (Op.equalIn d f.type a b)).bind k) (funext fun r => ?_)
      cases r
      · rfl
      · simp only [runPure_bind2] at ih
        exact ih
    · simp only [runPure_bind2, Option.bind_assoc] at ih ⊢
      exact ih
theorem eqL_int {ks : List Bool} {l l' : List SV} {q : Bool} (h : eqL (false :: ks) l l' = some q) : ∃ k n m a b q2, l = .i k n :: a ∧ l' = .i k m :: b ∧ eqL ks a b = some q2 ∧ q = (decide (n = m) && q2) := by
  match l, l', h with
  | .i k n :: a, .i k' m :: b, h =>
    simp only [eqL] at h
    split at h
    · rename_i e; subst e
      obtain ⟨q2, hq, rfl⟩ := Option.map_eq_some_iff.1 h
      exact ⟨k, n, m, a, b, q2, rfl, rfl, hq, rfl⟩
    · cases h
theorem eqL_bool {ks : List Bool} {l l' : List SV} {q : Bool} (h : eqL (true :: ks) l l' = some q) : ∃ x y a b q2, l = .b x :: a ∧ l' = .b y :: b ∧ eqL ks a b = some q2 ∧ q = ((x == y) && q2) := by
  match l, l', h with
  | .b x :: a, .b y :: b, h =>
    simp only [eqL] at h
    obtain ⟨q2, hq, rfl⟩ := Option.map_eq_some_iff.1 h
    exact ⟨x, y, a, b, q2, rfl, rfl, hq, rfl⟩
theorem eqL_nil {l l' : List SV} {q : Bool} (h : eqL [] l l' = some q) : l = [] ∧ l' = [] ∧ q = true := by
  match l, l', h with
  | [], [], h => cases h; exact ⟨rfl, rfl, rfl⟩
theorem eqL_fields {d : Nat} {xs ys : List Value} : ∀ (fs : List Field) (ks : List Bool) (k : Nat) (l l' : List SV) (q : Bool), fsK P k fs = some ks → eqL ks l l' = some q → RVL F ω l (xs.drop k) → RVL F ω l' (ys.drop k) → runPure P (Op.eqFields (d + 1) xs.toArray ys.toArray fs) = some q
  | [], ks, k, l, l', q, h1, h2, _, _ => by
    cases h1
    obtain ⟨rfl, rfl, rfl⟩ := eqL_nil h2
    rfl
  | f :: fs, ks, k, l, l', q, h1, h2, h3, h4 => by
    unfold fsK at h1
    split at h1
    · rename_i hf
      have main : ∀ {ks' : List Bool} {a b : Value} {la lb : List SV} {q1 q2 : Bool} {dd : TypeDesc}, P.underlying f.type = some dd → isAggD dd = false → xs.drop k = a :: xs.drop (k + 1) → ys.drop k = b :: ys.drop (k + 1) → RVL F ω la (xs.drop (k + 1)) → RVL F ω lb (ys.drop (k + 1)) →
          runPure P (Op.equalIn (d + 1) f.type a b) = some q1 → fsK P (k + 1) fs = some ks' → eqL ks' la lb = some q2 → runPure P (Op.eqFields (d + 1) xs.toArray ys.toArray (f :: fs)) = some (q1 && q2) := by
        intro ks' a b la lb q1 q2 dd hd ha ex ey ra rb he hk hq
        have ih := eqL_fields (d := d) fs ks' (k + 1) la lb q2 hk hq ra rb
        unfold Op.eqFields
        have hn : f.name ≠ "_" := by simpa using hf.2
        rw [if_pos hn, hf.1]
        have gx : xs.toArray[k]? = some a := by
          have := congrArg (fun l => l[0]?) ex
          simpa using this
        have gy : ys.toArray[k]? = some b := by
          have := congrArg (fun l => l[0]?) ey
          simpa using this
        rw [runPure_bind P _ (runPure_part hd ha gx), runPure_bind P _ (runPure_part hd ha gy), runPure_bind P _ he]
        cases q1
        · rfl
        · exact ih
      have cons : ∀ {v : SV} {l : List SV} {zs : List Value} {k : Nat}, RVL F ω (v :: l) (zs.drop k) → ∃ a, zs.drop k = a :: zs.drop (k + 1) ∧ RV F ω v a ∧ RVL F ω l (zs.drop (k + 1)) := by
        intro v l zs k h
        generalize hz : zs.drop k = z at h
        cases h with
        | cons h1 h2 =>
          rename_i u L
          have : zs.drop (k + 1) = L := by have e := congrArg (List.drop 1) hz; rw [List.drop_drop] at e; exact e
          rw [this]
          exact ⟨_, rfl, h1, h2⟩
      split at h1
      · rename_i kk hd
        obtain ⟨ks', hk, rfl⟩ := Option.map_eq_some_iff.1 h1
        obtain ⟨ik, n, m, la, lb, q2, rfl, rfl, hq, rfl⟩ := eqL_int h2
        · obtain ⟨a, ea, ra, rla⟩ := cons h3
          obtain ⟨b, eb, rb, rlb⟩ := cons h4
          cases ra.int_inv
          cases rb.int_inv
          refine main hd rfl ea eb rla rlb ?_ hk hq
          unfold Op.equalIn
          refine (runPure_bind P _ (runPure_underlying hd)).trans ?_
          show runPure P (if _ then _ else _) = _
          rw [if_pos rfl]
          show some _ = some _
          congr 1
      · rename_i hd
        obtain ⟨ks', hk, rfl⟩ := Option.map_eq_some_iff.1 h1
        obtain ⟨n, m, la, lb, q2, rfl, rfl, hq, rfl⟩ := eqL_bool h2
        obtain ⟨a, ea, ra, rla⟩ := cons h3
        obtain ⟨b, eb, rb, rlb⟩ := cons h4
        cases ra.bool_inv
        cases rb.bool_inv
        refine main hd rfl ea eb rla rlb ?_ hk hq
        unfold Op.equalIn
        exact (runPure_bind P _ (runPure_underlying hd)).trans rfl
      · cases h1
    · cases h1
theorem rvl_atoms {ks : List Bool} : ∀ {l l' : List SV} {q : Bool} {L : List Value}, eqL ks l l' = some q → (RVL F ω l L ∨ RVL F ω l' L) → L.all simple = true := by
  induction ks with
  | nil =>
    intro l l' q L h hr
    obtain ⟨rfl, rfl, rfl⟩ := eqL_nil h
    rcases hr with hr | hr <;> cases hr <;> rfl
  | cons b ks ih =>
    intro l l' q L h hr
    cases b
    · obtain ⟨ik, n, m, la, lb, q2, rfl, rfl, hq, rfl⟩ := eqL_int h
      rcases hr with hr | hr <;> cases hr with
      | cons h1 h2 =>
        cases h1.int_inv
        rw [List.all_cons, ih hq (by first | exact .inl h2 | exact .inr h2)]
        rfl
    · obtain ⟨x, y, la, lb, q2, rfl, rfl, hq, rfl⟩ := eqL_bool h
      rcases hr with hr | hr <;> cases hr with
      | cons h1 h2 =>
        cases h1.bool_inv
        rw [List.all_cons, ih hq (by first | exact .inl h2 | exact .inr h2)]
        rfl
theorem s_seq (hc : Conc lo F ω s f m) {ne : Bool} {xt yt : TypeId} {x y : Operand} (hop : o.op = .binOp (if ne then .neq else .eql) xt x y yt) {fa : Array Field} (ht : P.underlying xt = some (.struct fa)) {ks : List Bool} (hk : fsK P 0 fa.toList = some ks) (hg : P.eqGuardType P.depth xt = false) (hp : P.stoodInHeld xt = false)
    {l l' : List SV} {q : Bool} (hx : s.get x = some (.ag l)) (hy : s.get y = some (.ag l')) (hq : eqL ks l l' = some q) : OpS P lo F ω f m o ⟨c, r, .b (if ne then !q else q), s⟩ := by
  obtain ⟨u, e1, r1⟩ := hc.get hx
  obtain ⟨u', e2, r2⟩ := hc.get hy
  obtain ⟨L, rfl, hL⟩ := r1.ag_inv
  obtain ⟨L', rfl, hL'⟩ := r2.ag_inv
  have a1 := rvl_atoms hq (.inl hL)
  have a2 := rvl_atoms hq (.inr hL')
  have hev : evOp P f o m = pureA P f o := by unfold evOp; rw [hop]
  have heq : runPure P (Op.equal xt (.agg L.toArray) (.agg L'.toArray)) = some q := by
    unfold Op.equal Op.maxDepth
    rw [runPure_eqStruct 9999 xt _ _ ht hp]
    exact eqL_fields (d := 9998) fa.toList ks 0 l l' q hk hq hL hL'
  have hgd : ∀ op : BinOp, runPure P (eqGuard op xt x y (.agg L.toArray) (.agg L'.toArray)) = some () := by
    intro op
    cases op <;> simp [eqGuard, runPure, hg, runPure_bind2, program] <;> rfl
  refine OpS.idle hc (u := .bool (if ne then !q else q)) ?_ .b
  rw [hev]
  refine pureA_of (us := [.agg L.toArray, .agg L'.toArray]) (by rw [hop]; exact vals2 e1 e2) (by simp only [List.all_cons, List.all_nil, atomA, a1, a2]; rfl) ?_ rfl
  unfold execOp
  rw [hop]
  simp only [e1, e2, Option.getD_some]
  cases ne with
  | true =>
    refine (runPure_bind P (fun v => pure (Next.value v)) (a := .bool (!q)) ?_).trans rfl
    refine (runPure_bind P _ (hgd _)).trans ?_
    exact (runPure_bind P (fun v => pure (Value.bool (!v))) heq).trans rfl
  | false =>
    refine (runPure_bind P (fun v => pure (Next.value v)) (a := .bool q) ?_).trans rfl
    refine (runPure_bind P _ (hgd _)).trans ?_
    exact (runPure_bind P (fun v => pure (Value.bool v)) heq).trans rfl
theorem s_stri (hc : Conc lo F ω s f m) {t : TypeId} {b : ByteArray} {k : Operand} (hop : o.op = .index t (.const (.string b)) k) (ht : P.underlying t = some .string) {kk : IntKind} {n : Int} (hx : s.get k = some (.i kk n)) (hn : 0 ≤ n ∧ n < ((b.data.toList.map UInt8.toNat).length : Int)) :
    OpS P lo F ω f m o ⟨c, r, .i .u8 (((b.data.toList.map UInt8.toNat).getD n.toNat 0 : Nat) : Int), s⟩ := by
  obtain ⟨u, e1, r1⟩ := hc.get hx
  cases r1.int_inv
  have hev : evOp P f o m = pureA P f o := by unfold evOp; rw [hop]
  have e0 : f.get (.const (.string b)) = some (.string b) := rfl
  have hlt : n.toNat < b.data.toList.length := by have := hn.2; rw [List.length_map] at this; omega
  have hb : b[n.toNat]? = some (b.data.toList[n.toNat]'hlt) := by
    have h1 : n.toNat < b.size := by simpa using hlt
    exact getElem?_pos b n.toNat h1
  refine OpS.idle hc (u := .int .u8 (((b.data.toList.map UInt8.toNat).getD n.toNat 0 : Nat) : Int)) ?_ .i
  rw [hev]
  refine pureA_of (us := [.string b, .int kk n]) (by rw [hop]; exact vals2 e0 e1) rfl ?_ rfl
  unfold execOp
  rw [hop]
  simp only [e0, e1, Option.getD_some]
  refine (runPure_bind P (fun v => pure (Next.value v)) (a := .int .u8 (((b.data.toList.map UInt8.toNat).getD n.toNat 0 : Nat) : Int)) ?_).trans rfl
  unfold Instr.index
  refine (runPure_bind P _ (a := (kk, n)) rfl).trans ?_
  refine (runPure_bind P _ (runPure_underlying ht)).trans ?_
  show runPure P (match (if 0 ≤ n then b[n.toNat]? else none) with | some b => pure (Value.int .u8 b.toNat) | none => boundsPanic kk n b.size .index) = _
  rw [if_pos hn.1, hb]
  show some _ = some _
  congr 2
  have h1 : n.toNat < b.data.size := by simpa using hlt
  rw [List.getD, List.getElem?_map, List.getElem?_eq_getElem hlt]
  rfl
theorem s_un (hc : Conc lo F ω s f m) {op : UnOp} {xt : TypeId} {x : Operand} (hop : o.op = .unOp op xt x) {v : SV} (hx : s.get x = some v) {q : Prop × SV} (h : xun op v = some q) (hq : q.1) : OpS P lo F ω f m o ⟨c, r, q.2, s⟩ := by
  obtain ⟨a, e1, r1⟩ := hc.get hx
  have hev : evOp P f o m = pureA P f o := by unfold evOp; rw [hop]
  have main : ∀ {u : Value}, atomA a = true → atomA u = true → runPure P (Op.unary op a) = some u → RV F ω q.2 u → OpS P lo F ω f m o ⟨c, r, q.2, s⟩ := by
    intro u h1 h3 h4 h5
    refine OpS.idle hc (u := u) ?_ h5
    rw [hev]
    refine pureA_of (us := [a]) (by rw [hop]; exact vals1 e1) (by simp [h1]) ?_ h3
    unfold execOp
    rw [hop]
    simp only [e1, Option.getD_some]
    exact (runPure_bind P (fun v => pure (Next.value v)) h4).trans rfl
  unfold xun at h
  split at h
  · rename_i k n
    cases r1.int_inv
    cases op with
    | neg =>
      simp only at h
      split at h
      · cases h
        refine main rfl rfl (u := .int k (0 - n)) ?_ .i
        show some (Value.int k (k.wrap (0 - n))) = _
        rw [wrap_in hq]
      · cases h
        exact main rfl rfl rfl .i
    | xor => cases h; exact main rfl rfl rfl .i
    | not => cases h
    | plus => cases h
  · rename_i t
    cases r1.bool_inv
    cases op with
    | not => cases h; exact main rfl rfl rfl .b
    | _ => cases h
  · cases h
end
end Sh
end Go.Proofs.Ytlfojfndkcmfnaa
