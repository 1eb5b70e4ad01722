/- Lemmas, joined: PlainI Pm SgN GraphD. -/
import Derived.Test.YtlfojfndkcmfnaaPkLe14
import Derived.Test.YtlfojfndkcmfnaaPkLe15
import Derived.Test.YtlfojfndkcmfnaaPkLe16
set_option linter.unusedSimpArgs false
set_option linter.unusedVariables false
namespace Go.Proofs.Ytlfojfndkcmfnaa

structure VarR where
  name : ByteArray
  kind : Int
  lo : Int
  hi : Int
  perNode : Int
  perID : Int

def varE : Elem VarR := fun w b o x => w.cell? ⟨b, o, none⟩ = some (.string x.name) ∧ w.cell? ⟨b, o + 1, none⟩ = some (.int .i64 x.kind) ∧ w.cell? ⟨b, o + 2, none⟩ = some (.int .i64 x.lo) ∧ w.cell? ⟨b, o + 3, none⟩ = some (.int .i64 x.hi) ∧
  w.cell? ⟨b, o + 4, none⟩ = some (.int .i64 x.perNode) ∧ w.cell? ⟨b, o + 5, none⟩ = some (.int .i64 x.perID)
theorem Stable.var : Stable varE := fun _ _ _ _ _ h _ hx => ⟨h _ _ hx.1, h _ _ hx.2.1, h _ _ hx.2.2.1, h _ _ hx.2.2.2.1, h _ _ hx.2.2.2.2.1, h _ _ hx.2.2.2.2.2⟩
abbrev VarsAt := SlAt 6 varE

/-- Numbers of a variable that fit. -/
def VarFit (x : VarR) : Prop := (0 ≤ x.lo ∧ x.lo ≤ 100000) ∧ (-100000 ≤ x.hi ∧ x.hi ≤ 100000) ∧ (0 ≤ x.perNode ∧ x.perNode ≤ 1000) ∧ (0 ≤ x.perID ∧ x.perID ≤ 1000)

def boundV (g : Gr) (v : Nat) (x : VarR) : Int × Int :=
  if x.kind = 2 then (0, 1) else if x.kind = 3 then (-1, (degOf g v : Int) - 1) else (x.lo, x.hi + x.perNode * (g.ports.length : Int) + x.perID * topID g)
def boundsV (g : Gr) (vars : List VarR) (v : Nat) : Bounds := vars.map (boundV g v)
def refConfB (g : Gr) (c : Conf) (vars : List VarR) : Bool := validB g && confB g.ports.length (boundsV g vars) c

theorem topID_snoc (ids : List Int) (k : Nat) (hk : k < ids.length) : (ids.take (k + 1)).foldl max 0 = max ((ids.take k).foldl max 0) ids[k] := by
  rw [take_snoc ids k hk, List.foldl_append]
  rfl
theorem foldl_max_le (D : List Int) (m : Int) (h : ∀ x ∈ D, x ≤ m) : ∀ a : Int, a ≤ m → D.foldl max a ≤ m := by
  induction D with
  | nil => intro a ha; exact ha
  | cons x D ih => intro a ha; exact ih (fun y hy => h y (by simp [hy])) _ (Int.max_le.2 ⟨ha, h x (by simp)⟩)
theorem topID_range {g : Gr} (hg : GoodG g) : 0 ≤ topID g ∧ topID g ≤ 255 := ⟨foldl_max_ge _ _, foldl_max_le _ _ (fun x hx => (hg.2.2.2.1 x hx).2) _ (by omega)⟩
end Go.Proofs.Ytlfojfndkcmfnaa
namespace Go.Proofs.Ytlfojfndkcmfnaa

abbrev Tm := Int × Int
structure SetR where
  var : Int
  val : List Tm
structure RuleR where
  name : ByteArray
  guard : List Tm
  sets : List SetR
structure ProgR where
  name : ByteArray
  vars : List VarR
  rules : List RuleR
instance : Inhabited VarR := ⟨⟨.empty, 0, 0, 0, 0, 0⟩⟩
instance : Inhabited SetR := ⟨⟨0, []⟩⟩
instance : Inhabited RuleR := ⟨⟨.empty, [], []⟩⟩

/-- Expressions as trees. -/
inductive Ex where
  | leaf (op arg : Int)
  | un (op : Int) (a : Ex)
  | agg (op : Int) (a : Ex)
  | bin (op : Int) (a b : Ex)
  | ite (c a b : Ex)
def Ex.ser : Ex → List Tm
  | .leaf op arg => [(op, arg)]
  | .un op a => (op, 0) :: a.ser
  | .agg op a => (op, 0) :: a.ser
  | .bin op a b => (op, 0) :: (a.ser ++ b.ser)
  | .ite c a b => (43, 0) :: (c.ser ++ (a.ser ++ b.ser))

def maxN : Int := 1073741824
def satP (a : Int) : Int := max (-1073741824) (min a 1073741824)
def truthP (b : Bool) : Int := if b then 1 else 0
def quotP (a b : Int) : Int := if b = 0 then 0 else if a.tmod b ≠ 0 ∧ (decide (a < 0) ≠ decide (b < 0)) then a.tdiv b - 1 else a.tdiv b
def unP (op a : Int) : Int := if op = 18 then -a else truthP (a == 0)
def cmpP (op a b : Int) : Bool := if op = 35 then a == b else if op = 36 then a != b else if op = 37 then decide (a < b) else if op = 38 then decide (a ≤ b) else if op = 39 then decide (a > b) else decide (a ≥ b)
def binP (op a b : Int) : Int :=
  if op = 30 then satP (a * b) else if op = 31 then satP (quotP a b) else if op = 32 then (if b = 0 then 0 else satP (a - b * quotP a b)) else if op = 33 then satP (a + b) else if op = 34 then satP (a - b)
  else if op = 41 then truthP (a != 0 && b != 0) else if op = 42 then truthP (a != 0 || b != 0) else truthP (cmpP op a b)
def countP (l : List Int) : Int := ((l.filter (· != 0)).length : Int)
def leastP (l : List Int) : Int := l.foldl min 1073741824
def great2P (l : List Int) : Int × Int := l.foldl (fun p a => if a > p.1 then (a, p.1) else (p.1, max p.2 a)) (-1073741824, -1073741824)
def mexTo (l : List Int) : Nat → Int → Int
  | 0, r => r
  | n + 1, r => if l.elem r then mexTo l n (r + 1) else r
def mexP (l : List Int) : Int := mexTo l (l.length + 1) 0
def firstTrue (l : List Int) : Int := match l.findIdx? (· != 0) with | some i => i | none => -1
def foldP (op : Int) (l : List Int) : Int :=
  if op = 20 then truthP (countP l == l.length) else if op = 21 then truthP (decide (countP l > 0)) else if op = 22 then countP l else if op = 23 then firstTrue l else if op = 24 then leastP l else if op = 25 then (great2P l).1
  else if op = 26 then satP l.sum else if op = 27 then mexP l else if op = 28 then (great2P l).2 else l.headD 0

/-- What an expression is evaluated over. -/
structure Sc where
  g : Gr
  c : Conf
def linkAt (g : Gr) (v port : Nat) : Int × Int := (g.ports.getD v []).getD port (0, 0)
def backsP (g : Gr) (v : Nat) : List Int := (g.ports.getD v []).map fun l => portTo (g.ports.getD l.1.toNat []) v
def factP (g : Gr) (op : Int) (v : Nat) (port : Int) : Int :=
  if op = 6 then g.ids.length else if op = 7 then topID g else if op = 8 then g.ids.getD v 0 else if op = 9 then ((g.ports.getD v []).length : Int) else if op = 10 then truthP ((v : Int) == 0) else if op = 11 then port
  else (let l := linkAt g v port.toNat
    if op = 13 then g.ids.getD l.1.toNat 0 else if op = 14 then ((g.ports.getD l.1.toNat []).length : Int) else if op = 15 then truthP (l.1 == 0) else if op = 16 then l.2 else (backsP g v).getD port.toNat 0)
def leafP (g : Gr) (c : Conf) (op arg : Int) (v : Nat) (port : Int) : Int :=
  if op = 1 then arg else if op = 2 then 1 else if op = 3 then 0 else if op = 4 then -1 else if op = 5 then (c.getD v []).getD arg.toNat 0 else if op = 12 then (c.getD (linkAt g v port.toNat).1.toNat []).getD arg.toNat 0
  else factP g op v port
def evalP (g : Gr) (c : Conf) (v : Nat) : Ex → Int → Int
  | .leaf op arg, p => leafP g c op arg v p
  | .un op a, p => unP op (evalP g c v a p)
  | .agg op a, _ => foldP op ((List.range (g.ports.getD v []).length).map fun (q : Nat) => evalP g c v a (q : Int))
  | .bin op a b, p => binP op (evalP g c v a p) (evalP g c v b p)
  | .ite x a b, p => if evalP g c v x p ≠ 0 then evalP g c v a p else evalP g c v b p

/-- Expressions over nv variables; bnd: within an aggregate. -/
def Ex.ok (nv : Int) (bnd : Bool) : Ex → Bool
  | .leaf op arg => decide (1 ≤ op ∧ op ≤ 17) && (if op = 1 then decide (0 ≤ arg ∧ arg ≤ 1073741824) else if op = 5 ∨ op = 12 then decide (0 ≤ arg ∧ arg < nv) else true) && (if 11 ≤ op then bnd else true)
  | .un op a => decide (op = 18 ∨ op = 19) && a.ok nv bnd
  | .agg op a => decide (20 ≤ op ∧ op ≤ 29) && a.ok nv true
  | .bin op a b => decide (30 ≤ op ∧ op ≤ 42) && a.ok nv bnd && b.ok nv bnd
  | .ite x a b => x.ok nv bnd && a.ok nv bnd && b.ok nv bnd

def InB (x : Int) : Prop := -1073741824 ≤ x ∧ x ≤ 1073741824
theorem satP_in (a : Int) : InB (satP a) := by unfold InB satP; omega
theorem truthP_in (b : Bool) : InB (truthP b) := by unfold InB truthP; cases b <;> simp
theorem unP_in {op a : Int} (h : InB a) : InB (unP op a) := by
  unfold unP
  split
  · unfold InB at *; omega
  · exact truthP_in _
theorem binP_in (op a b : Int) : InB (binP op a b) := by
  unfold binP
  split; · exact satP_in _
  split; · exact satP_in _
  split
  · split
    · unfold InB; omega
    · exact satP_in _
  split; · exact satP_in _
  split; · exact satP_in _
  split; · exact truthP_in _
  split; · exact truthP_in _
  exact truthP_in _
theorem countP_le (l : List Int) : 0 ≤ countP l ∧ countP l ≤ l.length := by
  unfold countP
  have := List.length_filter_le (· != 0) l
  omega
theorem leastP_in (l : List Int) (h : ∀ x ∈ l, InB x) : InB (leastP l) := by
  unfold leastP
  have : ∀ (l : List Int) (a : Int), InB a → (∀ x ∈ l, InB x) → InB (l.foldl min a) := by
    intro l
    induction l with
    | nil => intro a ha _; exact ha
    | cons x l ih =>
      intro a ha hl
      refine ih _ ?_ fun y hy => hl y (List.mem_cons_of_mem _ hy)
      have := hl x List.mem_cons_self
      unfold InB at *; omega
  exact this l _ (by unfold InB; omega) h
theorem great2P_in (l : List Int) (h : ∀ x ∈ l, InB x) : InB (great2P l).1 ∧ InB (great2P l).2 := by
  unfold great2P
  have : ∀ (l : List Int) (p : Int × Int), InB p.1 ∧ InB p.2 → (∀ x ∈ l, InB x) → InB (l.foldl (fun p a => if a > p.1 then (a, p.1) else (p.1, max p.2 a)) p).1 ∧ InB (l.foldl (fun p a => if a > p.1 then (a, p.1) else (p.1, max p.2 a)) p).2 := by
    intro l
    induction l with
    | nil => intro p hp _; exact hp
    | cons x l ih =>
      intro p hp hl
      refine ih _ ?_ fun y hy => hl y (List.mem_cons_of_mem _ hy)
      have := hl x List.mem_cons_self
      unfold InB at *
      dsimp only
      split <;> dsimp only <;> omega
  exact this l _ (by unfold InB; simp) h
theorem mexTo_in (l : List Int) : ∀ (n : Nat) (r : Int), r ≤ mexTo l n r ∧ mexTo l n r ≤ r + n
  | 0, r => by unfold mexTo; omega
  | n + 1, r => by
    unfold mexTo
    have := mexTo_in l n (r + 1)
    split <;> omega
theorem firstTrue_in (l : List Int) : -1 ≤ firstTrue l ∧ firstTrue l < l.length ∨ firstTrue l = -1 := by
  unfold firstTrue
  split
  · rename_i i hi
    obtain ⟨h, _⟩ := List.findIdx?_eq_some_iff_getElem.1 hi
    left; omega
  · exact .inr rfl
theorem foldP_in {op : Int} {l : List Int} (hl : l.length ≤ 1000) (h : ∀ x ∈ l, InB x) : InB (foldP op l) := by
  have hc := countP_le l
  unfold foldP
  split; · exact truthP_in _
  split; · exact truthP_in _
  split; · unfold InB; omega
  split; · have := firstTrue_in l; unfold InB; omega
  split; · exact leastP_in l h
  split; · exact (great2P_in l h).1
  split; · exact satP_in _
  split; · have := mexTo_in l (l.length + 1) 0; unfold mexP InB; omega
  split; · exact (great2P_in l h).2
  cases l with
  | nil => unfold InB; simp
  | cons x l => exact h x List.mem_cons_self

/-- A configuration whose values are all possible, with nv values a node. -/
structure ConfIn (n nv : Nat) (c : Conf) : Prop where
  len : c.length = n
  row : ∀ s ∈ c, s.length = nv ∧ ∀ x ∈ s, InB x

theorem ConfIn.at_ {n nv : Nat} {c : Conf} (h : ConfIn n nv c) {v : Nat} (hv : v < n) : (c.getD v []).length = nv ∧ ∀ k, InB ((c.getD v []).getD k 0) := by
  have hlt : v < c.length := by rw [h.len]; exact hv
  have e : c.getD v [] = c[v] := by simp [List.getD, hlt]
  obtain ⟨h1, h2⟩ := h.row c[v] (List.getElem_mem hlt)
  rw [e]
  refine ⟨h1, fun k => ?_⟩
  rw [List.getD_eq_getElem?_getD]
  cases hk : c[v][k]? with
  | none => simp; unfold InB; omega
  | some x => simp; exact h2 x (List.mem_of_getElem? hk)
theorem GoodG.linkAt {g : Gr} (hg : GoodG g) {v p : Nat} (hv : v < g.ports.length) (hp : p < (g.ports.getD v []).length) : 0 ≤ (linkAt g v p).1 ∧ (linkAt g v p).1 < g.ports.length ∧ 1 ≤ (linkAt g v p).2 ∧ (linkAt g v p).2 ≤ 15 := by
  have e : g.ports.getD v [] = g.ports[v] := by simp [List.getD, hv]
  have h1 := hg.2.2.2.2.2.1 ⟨v, hv⟩
  rw [e] at hp
  have hm : (g.ports[v])[p] ∈ g.ports[v] := List.getElem_mem hp
  have h2 := h1.1 _ hm
  unfold linkOk at h2
  have e2 : Go.Proofs.Ytlfojfndkcmfnaa.linkAt g v p = (g.ports[v])[p] := by unfold Go.Proofs.Ytlfojfndkcmfnaa.linkAt; rw [e]; simp [List.getD, hp]
  rw [e2]
  omega
theorem GoodG.deg_lt {g : Gr} (hg : GoodG g) {v : Nat} : (g.ports.getD v []).length < 24 := by
  by_cases hv : v < g.ports.length
  · have h1 := hg.2.2.2.2.2.1 ⟨v, hv⟩
    have := lt_of_links hv h1
    have e : g.ports.getD v [] = g.ports[v] := by simp [List.getD, hv]
    rw [e]
    have := hg.2.1
    have h3 : g.ports[(⟨v, hv⟩ : Fin g.ports.length)].length = g.ports[v].length := rfl
    omega
  · rw [List.getD_eq_getElem?_getD, List.getElem?_eq_none (by omega)]
    simp
theorem GoodG.id_in {g : Gr} (hg : GoodG g) (v : Nat) : 0 ≤ g.ids.getD v 0 ∧ g.ids.getD v 0 ≤ 255 := by
  rw [List.getD_eq_getElem?_getD]
  cases h : g.ids[v]? with
  | none => simp
  | some x => exact hg.2.2.2.1 x (List.mem_of_getElem? h)
theorem leafP_in {g : Gr} {c : Conf} {n nv : Nat} (hg : GoodG g) (hn : g.ports.length = n) (hc : ConfIn n nv c) {op arg : Int} {bnd : Bool} (ho : (Ex.leaf op arg).ok nv bnd = true) {v : Nat} (hv : v < n) {p : Int} (hp : bnd = true → 0 ≤ p ∧ p < (g.ports.getD v []).length) (hpi : InB p) : InB (leafP g c op arg v p) := by
  subst hn
  have h24 := hg.2.1
  have hd := hg.deg_lt (v := v)
  unfold leafP
  simp only [Ex.ok, Bool.and_eq_true, decide_eq_true_eq] at ho
  obtain ⟨⟨ho1, ho2⟩, ho3⟩ := ho
  split
  · rename_i h; rw [if_pos h] at ho2; simp at ho2; unfold InB; omega
  split; · unfold InB; omega
  split; · unfold InB; omega
  split; · unfold InB; omega
  split; · exact (hc.at_ hv).2 _
  split
  · rename_i h
    rw [if_pos (by omega)] at ho3
    obtain ⟨q1, q2⟩ := hp ho3
    have hl := hg.linkAt hv (p := p.toNat) (by omega)
    exact (hc.at_ (v := (linkAt g v p.toNat).1.toNat) (by omega)).2 _
  · unfold factP
    split; · rw [hg.2.2.1]; unfold InB; omega
    split; · have := topID_range hg; unfold InB; omega
    split; · have := hg.id_in v; unfold InB; omega
    split; · unfold InB; omega
    split; · exact truthP_in _
    split; · exact hpi
    rename_i h6 h7 h8 h9 h10 h11
    rw [if_pos (by omega)] at ho3
    obtain ⟨q1, q2⟩ := hp ho3
    have hl := hg.linkAt hv (p := p.toNat) (by omega)
    simp only
    split; · have := hg.id_in (linkAt g v p.toNat).1.toNat; unfold InB; omega
    split; · have := hg.deg_lt (v := (linkAt g v p.toNat).1.toNat); unfold InB; omega
    split; · exact truthP_in _
    split; · unfold InB; omega
    · unfold backsP
      rw [List.getD_eq_getElem?_getD, List.getElem?_map]
      cases hk : (g.ports.getD v [])[p.toNat]? with
      | none => simp; unfold InB; omega
      | some l =>
        simp
        have hd2 := hg.deg_lt (v := l.1.toNat)
        rcases portTo_neg_or (ls := g.ports.getD l.1.toNat []) (u := (v : Int)) with e | ⟨k, e, hk⟩
        · simp at e; rw [e]; unfold InB; omega
        · simp at e hk hd2; rw [e]; unfold InB; omega
theorem evalP_in {g : Gr} {c : Conf} {n nv : Nat} (hg : GoodG g) (hn : g.ports.length = n) (hc : ConfIn n nv c) {v : Nat} (hv : v < n) : ∀ (x : Ex) {bnd : Bool} {p : Int}, x.ok nv bnd = true → (bnd = true → 0 ≤ p ∧ p < (g.ports.getD v []).length) → InB p → InB (evalP g c v x p)
  | .leaf op arg, bnd, p, h, hp, hpi => leafP_in hg hn hc h hv hp hpi
  | .un op a, bnd, p, h, hp, hpi => by
    simp only [Ex.ok, Bool.and_eq_true] at h
    exact unP_in (evalP_in hg hn hc hv a h.2 hp hpi)
  | .agg op a, bnd, p, h, hp, hpi => by
    simp only [Ex.ok, Bool.and_eq_true] at h
    have := hg.deg_lt (v := v)
    refine foldP_in (by simp; simp at this; omega) fun x hx => ?_
    obtain ⟨q, hq, rfl⟩ := List.mem_map.1 hx
    have hq := List.mem_range.1 hq
    exact evalP_in hg hn hc hv a h.2 (fun _ => by omega) (by unfold InB; omega)
  | .bin op a b, bnd, p, h, hp, hpi => binP_in _ _ _
  | .ite x a b, bnd, p, h, hp, hpi => by
    simp only [Ex.ok, Bool.and_eq_true] at h
    unfold evalP
    split
    · exact evalP_in hg hn hc hv a h.1.2 hp hpi
    · exact evalP_in hg hn hc hv b h.2 hp hpi
end Go.Proofs.Ytlfojfndkcmfnaa
namespace Go.Proofs.Ytlfojfndkcmfnaa
namespace Sh
open Go Ev
def varC (x : VarR) : List SV := [.a (.string x.name), .i .i64 x.kind, .i .i64 x.lo, .i .i64 x.hi, .i .i64 x.perNode, .i .i64 x.perID]
def varsV (l : List VarR) : SV := .sl 6 l.length (fun k => varC (l.getD k default))
def setsV (l : List SetR) : SV := .sl 2 l.length (fun k => [.i .i64 (l.getD k default).var, linksV (l.getD k default).val])
def rulesV (l : List RuleR) : SV := .sl 3 l.length (fun k => [.a (.string (l.getD k default).name), linksV (l.getD k default).guard, setsV (l.getD k default).sets])
def progC (p : ProgR) : List SV := [.a (.string p.name), varsV p.vars, rulesV p.rules]
def backsV (g : Gr) : SV := .sl 1 g.ports.length (fun v => [intsV (backsP g v)])
def sceneC (p : ProgR) (g : Gr) : List SV := [.a (.string p.name), varsV p.vars, rulesV p.rules, intsV g.ids, portsV g.ports, .i .i64 (topID g), backsV g]
def walkC (p : ProgR) (g : Gr) (c : Conf) (v : Nat) (e : List Tm) : List SV := [.rf (sceneC p g), rowsV c, .i .i64 v, linksV e]
theorem one1_intsV (l : List Int) : one1 (intsV l) = true := rfl
theorem owned_intsV {n : Nat} (l : List Int) : owned (n + 1) (intsV l) = false := rfl
theorem scalar_intsV {n : Nat} (l : List Int) : scalar (n + 1) (intsV l) = false := rfl
theorem view_intsV {n : Nat} (o : Own) (l : List Int) : view o (n + 1) (intsV l) = intsV l := rfl
theorem vok_intsV {n : Nat} (o : Own) (l : List Int) : vok o (n + 1) (intsV l) = True := rfl
theorem ren_intsV {n : Nat} (h : Nm → Nm) (l : List Int) : ren h (n + 1) (intsV l) = intsV l := rfl
theorem cln_intsV {n : Nat} (L : Nm → Bool) (l : List Int) : cln L (n + 1) (intsV l) = true := rfl
theorem one1_linksV (l : List (Int × Int)) : one1 (linksV l) = true := rfl
theorem owned_linksV {n : Nat} (l : List (Int × Int)) : owned (n + 1) (linksV l) = false := rfl
theorem scalar_linksV {n : Nat} (l : List (Int × Int)) : scalar (n + 1) (linksV l) = false := rfl
theorem view_linksV {n : Nat} (o : Own) (l : List (Int × Int)) : view o (n + 1) (linksV l) = linksV l := rfl
theorem vok_linksV {n : Nat} (o : Own) (l : List (Int × Int)) : vok o (n + 1) (linksV l) = True := rfl
theorem ren_linksV {n : Nat} (h : Nm → Nm) (l : List (Int × Int)) : ren h (n + 1) (linksV l) = linksV l := rfl
theorem cln_linksV {n : Nat} (L : Nm → Bool) (l : List (Int × Int)) : cln L (n + 1) (linksV l) = true := rfl
theorem one1_portsV (l : List (List (Int × Int))) : one1 (portsV l) = true := rfl
theorem owned_portsV {n : Nat} (l : List (List (Int × Int))) : owned (n + 1) (portsV l) = false := rfl
theorem scalar_portsV {n : Nat} (l : List (List (Int × Int))) : scalar (n + 1) (portsV l) = false := rfl
theorem view_portsV {n : Nat} (o : Own) (l : List (List (Int × Int))) : view o (n + 1) (portsV l) = portsV l := rfl
theorem vok_portsV {n : Nat} (o : Own) (l : List (List (Int × Int))) : vok o (n + 1) (portsV l) = True := rfl
theorem ren_portsV {n : Nat} (h : Nm → Nm) (l : List (List (Int × Int))) : ren h (n + 1) (portsV l) = portsV l := rfl
theorem cln_portsV {n : Nat} (L : Nm → Bool) (l : List (List (Int × Int))) : cln L (n + 1) (portsV l) = true := rfl
theorem one1_rowsV (l : List (List Int)) : one1 (rowsV l) = true := rfl
theorem owned_rowsV {n : Nat} (l : List (List Int)) : owned (n + 1) (rowsV l) = false := rfl
theorem scalar_rowsV {n : Nat} (l : List (List Int)) : scalar (n + 1) (rowsV l) = false := rfl
theorem view_rowsV {n : Nat} (o : Own) (l : List (List Int)) : view o (n + 1) (rowsV l) = rowsV l := rfl
theorem vok_rowsV {n : Nat} (o : Own) (l : List (List Int)) : vok o (n + 1) (rowsV l) = True := rfl
theorem ren_rowsV {n : Nat} (h : Nm → Nm) (l : List (List Int)) : ren h (n + 1) (rowsV l) = rowsV l := rfl
theorem cln_rowsV {n : Nat} (L : Nm → Bool) (l : List (List Int)) : cln L (n + 1) (rowsV l) = true := rfl
theorem one1_varsV (l : List VarR) : one1 (varsV l) = true := rfl
theorem owned_varsV {n : Nat} (l : List VarR) : owned (n + 1) (varsV l) = false := rfl
theorem scalar_varsV {n : Nat} (l : List VarR) : scalar (n + 1) (varsV l) = false := rfl
theorem view_varsV {n : Nat} (o : Own) (l : List VarR) : view o (n + 1) (varsV l) = varsV l := rfl
theorem vok_varsV {n : Nat} (o : Own) (l : List VarR) : vok o (n + 1) (varsV l) = True := rfl
theorem ren_varsV {n : Nat} (h : Nm → Nm) (l : List VarR) : ren h (n + 1) (varsV l) = varsV l := rfl
theorem cln_varsV {n : Nat} (L : Nm → Bool) (l : List VarR) : cln L (n + 1) (varsV l) = true := rfl
theorem one1_setsV (l : List SetR) : one1 (setsV l) = true := rfl
theorem owned_setsV {n : Nat} (l : List SetR) : owned (n + 1) (setsV l) = false := rfl
theorem scalar_setsV {n : Nat} (l : List SetR) : scalar (n + 1) (setsV l) = false := rfl
theorem view_setsV {n : Nat} (o : Own) (l : List SetR) : view o (n + 1) (setsV l) = setsV l := rfl
theorem vok_setsV {n : Nat} (o : Own) (l : List SetR) : vok o (n + 1) (setsV l) = True := rfl
theorem ren_setsV {n : Nat} (h : Nm → Nm) (l : List SetR) : ren h (n + 1) (setsV l) = setsV l := rfl
theorem cln_setsV {n : Nat} (L : Nm → Bool) (l : List SetR) : cln L (n + 1) (setsV l) = true := rfl
theorem one1_rulesV (l : List RuleR) : one1 (rulesV l) = true := rfl
theorem owned_rulesV {n : Nat} (l : List RuleR) : owned (n + 1) (rulesV l) = false := rfl
theorem scalar_rulesV {n : Nat} (l : List RuleR) : scalar (n + 1) (rulesV l) = false := rfl
theorem view_rulesV {n : Nat} (o : Own) (l : List RuleR) : view o (n + 1) (rulesV l) = rulesV l := rfl
theorem vok_rulesV {n : Nat} (o : Own) (l : List RuleR) : vok o (n + 1) (rulesV l) = True := rfl
theorem ren_rulesV {n : Nat} (h : Nm → Nm) (l : List RuleR) : ren h (n + 1) (rulesV l) = rulesV l := rfl
theorem cln_rulesV {n : Nat} (L : Nm → Bool) (l : List RuleR) : cln L (n + 1) (rulesV l) = true := rfl
theorem one1_backsV (l : Gr) : one1 (backsV l) = true := rfl
theorem owned_backsV {n : Nat} (l : Gr) : owned (n + 1) (backsV l) = false := rfl
theorem scalar_backsV {n : Nat} (l : Gr) : scalar (n + 1) (backsV l) = false := rfl
theorem view_backsV {n : Nat} (o : Own) (l : Gr) : view o (n + 1) (backsV l) = backsV l := rfl
theorem vok_backsV {n : Nat} (o : Own) (l : Gr) : vok o (n + 1) (backsV l) = True := rfl
theorem ren_backsV {n : Nat} (h : Nm → Nm) (l : Gr) : ren h (n + 1) (backsV l) = backsV l := rfl
theorem cln_backsV {n : Nat} (L : Nm → Bool) (l : Gr) : cln L (n + 1) (backsV l) = true := rfl
theorem pview_intsV {n : Nat} (fr : List Nm) (o : Own) (l : List Int) : pview fr o (n + 1) (intsV l) = intsV l := rfl
theorem pok_intsV {n : Nat} (fr : List Nm) (o : Own) (l : List Int) : pok fr o (n + 1) (intsV l) = True := rfl
theorem pview_linksV {n : Nat} (fr : List Nm) (o : Own) (l : List (Int × Int)) : pview fr o (n + 1) (linksV l) = linksV l := rfl
theorem pok_linksV {n : Nat} (fr : List Nm) (o : Own) (l : List (Int × Int)) : pok fr o (n + 1) (linksV l) = True := rfl
theorem pview_portsV {n : Nat} (fr : List Nm) (o : Own) (l : List (List (Int × Int))) : pview fr o (n + 1) (portsV l) = portsV l := rfl
theorem pok_portsV {n : Nat} (fr : List Nm) (o : Own) (l : List (List (Int × Int))) : pok fr o (n + 1) (portsV l) = True := rfl
theorem pview_rowsV {n : Nat} (fr : List Nm) (o : Own) (l : List (List Int)) : pview fr o (n + 1) (rowsV l) = rowsV l := rfl
theorem pok_rowsV {n : Nat} (fr : List Nm) (o : Own) (l : List (List Int)) : pok fr o (n + 1) (rowsV l) = True := rfl
theorem pview_varsV {n : Nat} (fr : List Nm) (o : Own) (l : List VarR) : pview fr o (n + 1) (varsV l) = varsV l := rfl
theorem pok_varsV {n : Nat} (fr : List Nm) (o : Own) (l : List VarR) : pok fr o (n + 1) (varsV l) = True := rfl
theorem pview_setsV {n : Nat} (fr : List Nm) (o : Own) (l : List SetR) : pview fr o (n + 1) (setsV l) = setsV l := rfl
theorem pok_setsV {n : Nat} (fr : List Nm) (o : Own) (l : List SetR) : pok fr o (n + 1) (setsV l) = True := rfl
theorem pview_rulesV {n : Nat} (fr : List Nm) (o : Own) (l : List RuleR) : pview fr o (n + 1) (rulesV l) = rulesV l := rfl
theorem pok_rulesV {n : Nat} (fr : List Nm) (o : Own) (l : List RuleR) : pok fr o (n + 1) (rulesV l) = True := rfl
theorem pview_backsV {n : Nat} (fr : List Nm) (o : Own) (l : Gr) : pview fr o (n + 1) (backsV l) = backsV l := rfl
theorem pok_backsV {n : Nat} (fr : List Nm) (o : Own) (l : Gr) : pok fr o (n + 1) (backsV l) = True := rfl
theorem cells_intsV (l : List Int) : SV.cells (intsV l) = [intsV l] := rfl
theorem cells_linksV (l : List (Int × Int)) : SV.cells (linksV l) = [linksV l] := rfl
theorem cells_portsV (l : List (List (Int × Int))) : SV.cells (portsV l) = [portsV l] := rfl
theorem cells_rowsV (l : List (List Int)) : SV.cells (rowsV l) = [rowsV l] := rfl
theorem cells_varsV (l : List VarR) : SV.cells (varsV l) = [varsV l] := rfl
theorem cells_setsV (l : List SetR) : SV.cells (setsV l) = [setsV l] := rfl
theorem cells_rulesV (l : List RuleR) : SV.cells (rulesV l) = [rulesV l] := rfl
theorem cells_backsV (l : Gr) : SV.cells (backsV l) = [backsV l] := rfl
attribute [go_sem] one1_intsV owned_intsV scalar_intsV view_intsV vok_intsV ren_intsV cln_intsV one1_linksV owned_linksV scalar_linksV view_linksV vok_linksV ren_linksV cln_linksV
attribute [go_sem] one1_portsV owned_portsV scalar_portsV view_portsV vok_portsV ren_portsV cln_portsV one1_rowsV owned_rowsV scalar_rowsV view_rowsV vok_rowsV ren_rowsV
attribute [go_sem] cln_rowsV one1_varsV owned_varsV scalar_varsV view_varsV vok_varsV ren_varsV cln_varsV one1_setsV owned_setsV scalar_setsV view_setsV vok_setsV ren_setsV
attribute [go_sem] cln_setsV one1_rulesV owned_rulesV scalar_rulesV view_rulesV vok_rulesV ren_rulesV cln_rulesV one1_backsV owned_backsV scalar_backsV view_backsV vok_backsV
attribute [go_sem] ren_backsV cln_backsV pview_intsV pok_intsV pview_linksV pok_linksV pview_portsV pok_portsV pview_rowsV pok_rowsV pview_varsV pok_varsV pview_setsV pok_setsV
attribute [go_sem] pview_rulesV pok_rulesV pview_backsV pok_backsV cells_intsV cells_linksV cells_portsV cells_rowsV cells_varsV cells_setsV cells_rulesV cells_backsV
end Sh
end Go.Proofs.Ytlfojfndkcmfnaa
namespace Go.Proofs.Ytlfojfndkcmfnaa
open Go.RowKit

theorem greatest_any (dv : Value) (D : List Int) (w : World) (hd : IntsAt w dv D) :
    Calls Try.prog 83 #[dv] w fun e w' => e = .returned (.int .i64 (greatestP D)) ∧ w = w' := by
  obtain ⟨A, c, rfl, hA1, hA2⟩ := slAt_form hd
  have Hd := Lib.hid hd
  clear hd
  go_enter Try.func83, Try.ntmps83
  go_wp2
  go_loopg [3, 8] D.length (fun q m t wr => ∃ k : Nat, q + k = D.length ∧ t = .int .i64 k ∧ wr = w ∧ m = .int .i64 (greatestP (D.take k)))
  case atStart => exact ⟨0, by omega, rfl, rfl, by simp [greatestP]⟩
  case round =>
    obtain ⟨k, hq, rfl, rfl, rfl⟩ := hrel
    by_cases hlt : k < D.length
    · obtain ⟨b, off, rfl, hb, hc, hr⟩ := intsAt_at Hd.out hlt
      have Hs := Lib.hid (greatestP_snoc D k hlt)
      go_wp2
      all_goals
        go_roundg (gk - 1)
        case measure => omega
        case rel => exact ⟨k + 1, by omega, by go_num, rfl, by rw [Hs.out]; try (congr 1; omega)⟩
    · obtain rfl : k = D.length := by omega
      go_wp2
      go_ret
      exact ⟨ret_int (by rw [List.take_length]), rfl⟩

theorem Connected_any (gv : Value) (g : Gr) (w : World) (hg : GrAt w gv g) :
    Calls Try.prog 38 #[gv] w fun e w' => e = .returned (.bool (connB g)) ∧ Below w.heap.size w w' := by
  have hg0 := Lib.hid hg
  obtain ⟨i, p, rfl, hi, hp⟩ := hg
  clear hi hp
  cases hv : validB g with
  | false =>
    have Hf := Lib.hid (show connB g = false by unfold connB; rw [hv]; rfl)
    go_enter Try.func38, Try.ntmps38
    go_wp2_with fail
    refine (Valid_any _ g _ (hg0.out.below ((Below.refl _ _).alloc (Nat.le_refl _) _))).mono ?_
    rintro e w1 ⟨rfl, hb1⟩
    go_wp2_with fail
    go_ret
    exact ⟨ret_bool Hf.out.symm, belowA hb1⟩
  | true =>
    have hgood := (validB_iff g).1 hv
    have hn1 := hgood.1
    have hn24 := hgood.2.1
    have Hgood := Lib.hid hgood
    have Hd := Lib.hid (distL_length hgood (a := 0) (by omega))
    have Hc := Lib.hid (show connB g = (distL g 0).all (fun x => decide (0 ≤ x)) by unfold connB; rw [hv]; rfl)
    clear hgood
    go_enter Try.func38, Try.ntmps38
    go_wp2_with fail
    refine (Valid_any _ g _ (hg0.out.below ((Below.refl _ _).alloc (Nat.le_refl _) _))).mono ?_
    rintro e w1 ⟨rfl, hb1⟩
    obtain ⟨q0, q1⟩ := newA2 hb1
    have Hb1 := Lib.hid (belowA hb1)
    clear hb1
    go_wp2_with fail
    refine (search_any _ g 0 _ (hg0.out.below Hb1.out) Hgood.out (by omega)).mono ?_
    rintro e w2 ⟨v, rfl, hv2, hb2⟩
    have Hb2 := Lib.hid (Hb1.out.trans (hb2.mono Hb1.out.size))
    obtain ⟨A, c, rfl, hA1, hA2⟩ := slAt_form hv2
    have Hv2 := Lib.hid hv2
    clear hb2 hv2
    obtain ⟨D, hD⟩ : ∃ D, distL g 0 = D := ⟨_, rfl⟩
    rw [hD] at Hv2 Hd hA1 Hc ⊢
    clear hD
    go_wp2
    go_loopg [11] D.length (fun q t wr => ∃ k : Nat, q + k = D.length ∧ t = .int .i64 k ∧ wr = w2 ∧ Hid (∀ j (hj : j < D.length), j < k → 0 ≤ D[j]))
    case atStart => exact ⟨0, by omega, rfl, rfl, Lib.hid (fun j _ hj => absurd hj (by omega))⟩
    case round =>
      obtain ⟨k, hq, rfl, rfl, hall⟩ := hrel
      by_cases hlt : k < D.length
      · obtain ⟨b, off, rfl, hb, hc, hr⟩ := intsAt_at Hv2.out hlt
        by_cases c1 : D[k] < 0
        · have Hf := Lib.hid (show connB g = false by
            rw [Hc.out, List.all_eq_false]
            exact ⟨D[k], List.getElem_mem hlt, by simp; omega⟩)
          go_wp2
          go_ret
          exact ⟨ret_bool Hf.out.symm, Hb2.out⟩
        · go_wp2
          go_roundg (gk - 1)
          case measure => omega
          case rel =>
            refine ⟨k + 1, by omega, by go_num, rfl, Lib.hid (fun j hj hjk => ?_)⟩
            by_cases e : j = k
            · subst e; omega
            · exact hall.out j hj (by omega)
      · obtain rfl : k = D.length := by omega
        have Ht := Lib.hid (show connB g = true by
          rw [Hc.out, List.all_eq_true]
          intro x hx
          obtain ⟨j, hj, rfl⟩ := List.mem_iff_getElem.1 hx
          exact decide_eq_true (hall.out j hj hj))
        go_wp2
        go_ret
        exact ⟨ret_bool Ht.out.symm, Hb2.out⟩

theorem connB_valid {g : Gr} (h : connB g = true) : validB g = true := (Bool.and_eq_true _ _ ▸ h).1

theorem Eccentricity_any (gv : Value) (g : Gr) (v : Int) (w : World) (hg : GrAt w gv g) :
    Calls Try.prog 46 #[gv, .int .i64 v] w fun e w' => e = .returned (.int .i64 (eccP g v)) ∧ Below w.heap.size w w' := by
  have hg0 := Lib.hid hg
  obtain ⟨i, p, rfl, hi, hp⟩ := hg
  obtain ⟨A2, c2, rfl, hB1, hB2⟩ := slAt_form hp
  clear hi hp
  cases hc : connB g with
  | false =>
    have Hf := Lib.hid (show eccP g v = -1 by unfold eccP; rw [hc]; simp)
    go_enter Try.func46, Try.ntmps46
    go_wp2_with fail
    refine (Connected_any _ g _ (hg0.out.below ((Below.refl _ _).alloc (Nat.le_refl _) _))).mono ?_
    rintro e w1 ⟨rfl, hb1⟩
    go_wp2_with fail
    go_ret
    exact ⟨ret_int Hf.out.symm, belowA hb1⟩
  | true =>
    have Hgood := Lib.hid ((validB_iff g).1 (connB_valid hc))
    by_cases c1 : v < 0
    · have Hf := Lib.hid (show eccP g v = -1 by unfold eccP; rw [if_neg]; omega)
      go_enter Try.func46, Try.ntmps46
      go_wp2_with fail
      refine (Connected_any _ g _ (hg0.out.below ((Below.refl _ _).alloc (Nat.le_refl _) _))).mono ?_
      rintro e w1 ⟨rfl, hb1⟩
      go_wp2_with fail
      go_ret
      exact ⟨ret_int Hf.out.symm, belowA hb1⟩
    · by_cases c2 : v < g.ports.length
      · obtain ⟨u, rfl⟩ := Int.eq_ofNat_of_zero_le (show 0 ≤ v by omega)
        have Hf := Lib.hid (show eccP g u = greatestP (distL g u) by unfold eccP; rw [if_pos ⟨hc, by omega, c2⟩]; rfl)
        have c3 : u < g.ports.length := by omega
        have c4 : decide ((g.ports.length : Int) ≤ (u : Int)) = false := by simp; omega
        have c5 : decide (g.ports.length ≤ u) = false := by simp; omega
        go_enter Try.func46, Try.ntmps46
        go_wp2_with fail
        refine (Connected_any _ g _ (hg0.out.below ((Below.refl _ _).alloc (Nat.le_refl _) _))).mono ?_
        rintro e w1 ⟨rfl, hb1⟩
        obtain ⟨q0, q1⟩ := newA2 hb1
        have Hb1 := Lib.hid (belowA hb1)
        clear hb1
        go_wp2_with fail
        refine (search_any _ g u _ (hg0.out.below Hb1.out) Hgood.out c3).mono ?_
        rintro e w2 ⟨x, rfl, hv2, hb2⟩
        have Hb2 := Lib.hid (Hb1.out.trans (hb2.mono Hb1.out.size))
        have Hv2 := Lib.hid hv2
        clear hb2 hv2
        go_wp2_with fail
        refine (greatest_any _ _ _ Hv2.out).mono ?_
        rintro e w3 ⟨rfl, rfl⟩
        go_wp2_with fail
        go_ret
        exact ⟨ret_int Hf.out.symm, Hb2.out⟩
      · have Hf := Lib.hid (show eccP g v = -1 by unfold eccP; rw [if_neg]; omega)
        have c4 : decide ((g.ports.length : Int) ≤ v) = true := by simp; omega
        go_enter Try.func46, Try.ntmps46
        go_wp2_with fail
        refine (Connected_any _ g _ (hg0.out.below ((Below.refl _ _).alloc (Nat.le_refl _) _))).mono ?_
        rintro e w1 ⟨rfl, hb1⟩
        obtain ⟨q0, q1⟩ := newA2 hb1
        go_wp2_with fail
        go_ret
        exact ⟨ret_int Hf.out.symm, belowA hb1⟩

theorem Distances_any (gv : Value) (g : Gr) (v : Int) (w : World) (hg : GrAt w gv g) :
    Calls Try.prog 41 #[gv, .int .i64 v] w (RetInts (distsP g v) w) := by
  have hg0 := Lib.hid hg
  obtain ⟨i, p, rfl, hi, hp⟩ := hg
  obtain ⟨A2, c2, rfl, hB1, hB2⟩ := slAt_form hp
  clear hi hp
  cases hc : validB g with
  | false =>
    have Hf := Lib.hid (show distsP g v = [] from distsP_out (by simp [hc]))
    go_enter Try.func41, Try.ntmps41
    go_wp2_with fail
    refine (Valid_any _ g _ (hg0.out.below ((Below.refl _ _).alloc (Nat.le_refl _) _))).mono ?_
    rintro e w1 ⟨rfl, hb1⟩
    go_wp2_with fail
    go_ret
    exact ⟨_, rfl, by rw [Hf.out]; exact SlAt.nil _, belowA hb1⟩
  | true =>
    have Hgood := Lib.hid ((validB_iff g).1 hc)
    by_cases c1 : v < 0
    · have Hf := Lib.hid (show distsP g v = [] from distsP_out (by omega))
      go_enter Try.func41, Try.ntmps41
      go_wp2_with fail
      refine (Valid_any _ g _ (hg0.out.below ((Below.refl _ _).alloc (Nat.le_refl _) _))).mono ?_
      rintro e w1 ⟨rfl, hb1⟩
      go_wp2_with fail
      go_ret
      exact ⟨_, rfl, by rw [Hf.out]; exact SlAt.nil _, belowA hb1⟩
    · by_cases c2 : v < g.ports.length
      · obtain ⟨u, rfl⟩ := Int.eq_ofNat_of_zero_le (show 0 ≤ v by omega)
        have Hf := Lib.hid (show distsP g u = distL g u from distsP_in hc (by omega) c2)
        have c3 : u < g.ports.length := by omega
        have c4 : decide ((g.ports.length : Int) ≤ (u : Int)) = false := by simp; omega
        have c5 : decide (g.ports.length ≤ u) = false := by simp; omega
        go_enter Try.func41, Try.ntmps41
        go_wp2_with fail
        refine (Valid_any _ g _ (hg0.out.below ((Below.refl _ _).alloc (Nat.le_refl _) _))).mono ?_
        rintro e w1 ⟨rfl, hb1⟩
        obtain ⟨q0, q1⟩ := newA2 hb1
        have Hb1 := Lib.hid (belowA hb1)
        clear hb1
        go_wp2_with fail
        refine (search_any _ g u _ (hg0.out.below Hb1.out) Hgood.out c3).mono ?_
        rintro e w2 ⟨x, rfl, hv2, hb2⟩
        have Hb2 := Lib.hid (Hb1.out.trans (hb2.mono Hb1.out.size))
        have Hv2 := Lib.hid hv2
        clear hb2 hv2
        go_wp2_with fail
        go_ret
        exact ⟨_, rfl, by rw [Hf.out]; exact Hv2.out, Hb2.out⟩
      · have Hf := Lib.hid (show distsP g v = [] from distsP_out (by omega))
        have c4 : decide ((g.ports.length : Int) ≤ v) = true := by simp; omega
        go_enter Try.func41, Try.ntmps41
        go_wp2_with fail
        refine (Valid_any _ g _ (hg0.out.below ((Below.refl _ _).alloc (Nat.le_refl _) _))).mono ?_
        rintro e w1 ⟨rfl, hb1⟩
        obtain ⟨q0, q1⟩ := newA2 hb1
        go_wp2_with fail
        go_ret
        exact ⟨_, rfl, by rw [Hf.out]; exact SlAt.nil _, belowA hb1⟩
end Go.Proofs.Ytlfojfndkcmfnaa
