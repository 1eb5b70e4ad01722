/- A region that draws its order, carried out in one order that is laid down ahead ('plan'): an operation is taken first where it yields one value in every world that meets S and no other operation that could come before it touches its slots; or it stands alone. -/
import Derived.Test.YtegpikhfnhcjaaaGreatHead
import Derived.OrdersHeld
namespace Go.Proofs.YtegpikhfnhcjaaaGreat
open Go.RowKit

section
variable {P : Program} {ops : Array Oper} {Q : Exit → Act → World → Prop} {S : World → Prop}

def planOk (ops : Array Oper) : List (Nat × Bool) → Array Bool → Bool
  | [], listed => (Region.ready .any ops listed).isEmpty
  | (i, true) :: σ, listed => (Region.ready .any ops listed).contains i && Region.free .any ops listed i && planOk ops σ (listed.setIfInBounds i true)
  | (i, false) :: σ, listed => decide (Region.ready .any ops listed = [i]) && planOk ops σ (listed.setIfInBounds i true)

/-- The operations in the plan's order. -/
def Seq (P : Program) (ops : Array Oper) (Q : Exit → Act → World → Prop) (S : World → Prop) : List (Nat × Bool) → Act → World → Prop
  | [], a, w => Q .normal a w
  | (i, true) :: σ, a, w => ∃ o v, ops[i]? = some o ∧ YieldsIf P ops S o v a ∧ S w ∧ Seq P ops Q S σ (a.put o.dst v) w
  | (i, false) :: σ, a, w => wpOp P ops Q i (fun a' w' => S w' ∧ Seq P ops Q S σ a' w') a w

theorem Seq.sound (hs : Region.noSelect ops = true) (hQ : ∀ c d v a w, Q (.panic c) (Act.put a d v) w → Q (.panic c) a w) : ∀ (σ : List (Nat × Bool)) (k : Nat) (listed : Array Bool) (a : Act) (w : World), planOk ops σ listed = true → Seq P ops Q S σ a w → wpAnyH P .any ops Q S (σ.length + k) listed a w
  | [], k, listed, a, w, hp, h => wpAnyH_done (by simpa [planOk] using hp) h _
  | (i, true) :: σ, k, listed, a, w, hp, h => by
    obtain ⟨o, v, ho, hy, hS, h⟩ := h
    simp only [planOk, Bool.and_eq_true] at hp
    rw [show ((i, true) :: σ).length + k = (σ.length + k) + 1 by simp; omega]
    exact wpAnyH_take ho hs hp.1.2 hp.1.1 (fun c a w => hQ c _ _ a w) hy hS (Seq.sound hs hQ σ k _ _ _ hp.2 h)
  | (i, false) :: σ, k, listed, a, w, hp, h => by
    simp only [planOk, Bool.and_eq_true, decide_eq_true_eq] at hp
    rw [show ((i, false) :: σ).length + k = (σ.length + k) + 1 by simp; omega]
    refine wpAnyH_all hp.1 (by simp) fun j hj => ?_
    obtain rfl : j = i := by simpa using hj
    exact wpOp_mono (fun a' w' h' => ⟨h'.1, Seq.sound hs hQ σ k _ a' w' hp.2 h'.2⟩) h

theorem wp_region_plan {id : Nat} {a : Act} {w : World} (hm : P.follows .mixedOrders = true) (σ : List (Nat × Bool)) (S : World → Prop) (hs : Region.noSelect ops = true) (hQ : ∀ c d v a w, Q (.panic c) (Act.put a d v) w → Q (.panic c) a w)
    (hl : σ.length = ops.size) (hp : planOk ops σ (Array.replicate ops.size false) = true) (h : Seq P ops Q S σ a w.drew) : (Code.region id ops true).wp P Q a w := by
  refine wp_region_held (S := S) hm ?_
  have := Seq.sound hs hQ σ 0 _ a _ hp h
  rw [Nat.add_zero, hl] at this
  exact this

/-- The frame as a list. -/
def evalL (l : List Value) : Operand → Value
  | .tmp t => l.getD t undef
  | .const v => v
  | .global g => .pointer (some ⟨g, 0, none⟩)
  | .func f => .func (.func f) #[] #[]
def yieldedL (ops : Array Oper) (l : List Value) (j : Nat) : Option Bool :=
  match ((ops[j]?).bind (·.dst)).bind (l[·]?) with
  | some (.bool b) => some b
  | _ => none
theorem eval_list (l : List Value) (ds : List Deferred) : (⟨l.toArray, ds⟩ : Act).eval = evalL l := by
  funext x
  cases x with
  | tmp t => simp [Act.eval, evalL, List.getD]
  | const v => rfl
  | global g => rfl
  | func f => rfl
theorem yielded_list (l : List Value) : yielded ops l.toArray = yieldedL ops l := by
  funext j
  unfold yielded yieldedL
  cases (ops[j]?).bind (·.dst) with
  | none => rfl
  | some d =>
    simp only [Option.bind_some, List.getElem?_toArray]
    rfl
theorem put_list (l : List Value) (ds : List Deferred) (d : Nat) (v : Value) : (⟨l.toArray, ds⟩ : Act).put (some d) v = ⟨(l.set d v).toArray, ds⟩ := by simp [Act.put]

variable {l : List Value} {ds : List Deferred} {w : World} {i d : Nat} {σ : List (Nat × Bool)} {o : Oper}
def wantedL (ops : Array Oper) (o : Oper) (l : List Value) : Bool :=
  match o.guard with
  | none => true
  | some (j, want) => yieldedL ops l j == some want
theorem wanted_list (l : List Value) : Region.wanted o (yielded ops l.toArray) = wantedL ops o l := by
  rw [yielded_list]
  rfl

theorem Seq.done (h : Q .normal ⟨l.toArray, ds⟩ w) : Seq P ops Q S [] ⟨l.toArray, ds⟩ w := h
theorem Seq.skip (ho : ops[i]? = some o) (hd : o.dst = some d) (hw : wantedL ops o l = false) (hS : S w) (h : Seq P ops Q S σ ⟨(l.set d undef).toArray, ds⟩ w) : Seq P ops Q S ((i, true) :: σ) ⟨l.toArray, ds⟩ w :=
  ⟨o, undef, ho, .inr ⟨by rw [wanted_list]; exact hw, rfl⟩, hS, by rw [hd, put_list]; exact h⟩
theorem Seq.yield (v : Value) (ho : ops[i]? = some o) (hd : o.dst = some d) (hw : wantedL ops o l = true) (hS : S w) (hy : ∀ w, S w → (execOp (evalL l) o).run P w = .ok (.value v) w) (h : Seq P ops Q S σ ⟨(l.set d v).toArray, ds⟩ w) : Seq P ops Q S ((i, true) :: σ) ⟨l.toArray, ds⟩ w :=
  ⟨o, v, ho, .inl ⟨by rw [wanted_list]; exact hw, by rw [eval_list]; exact hy⟩, hS, by rw [hd, put_list]; exact h⟩
theorem Seq.move {x : Operand} {v : Value} (ho : ops[i]? = some o) (hop : o.op = .move x) (hd : o.dst = some d) (hw : wantedL ops o l = true) (hx : evalL l x = v) (hS : S w) (h : Seq P ops Q S σ ⟨(l.set d v).toArray, ds⟩ w) : Seq P ops Q S ((i, true) :: σ) ⟨l.toArray, ds⟩ w :=
  Seq.yield _ ho hd hw hS (fun w _ => by unfold execOp; rw [hop]; show Result.ok (Next.value (evalL l x)) w = _; rw [hx]) h
theorem Seq.assign {x : Operand} {v : Value} (ho : ops[i]? = some o) (hop : o.op = .assign x) (hd : o.dst = some d) (hw : wantedL ops o l = true) (hx : evalL l x = v) (hS : S w) (h : Seq P ops Q S σ ⟨(l.set d v).toArray, ds⟩ w) : Seq P ops Q S ((i, true) :: σ) ⟨l.toArray, ds⟩ w :=
  Seq.yield _ ho hd hw hS (fun w _ => by unfold execOp; rw [hop]; show Result.ok (Next.value (evalL l x)) w = _; rw [hx]) h
theorem Seq.pick {c x y : Operand} {b : Bool} {v : Value} (ho : ops[i]? = some o) (hop : o.op = .pick c x y) (hd : o.dst = some d) (hw : wantedL ops o l = true) (hc : evalL l c = .bool b) (hx : (if b then evalL l x else evalL l y) = v) (hS : S w) (h : Seq P ops Q S σ ⟨(l.set d v).toArray, ds⟩ w) : Seq P ops Q S ((i, true) :: σ) ⟨l.toArray, ds⟩ w :=
  Seq.yield _ ho hd hw hS (fun w _ => by unfold execOp; rw [hop]; simp only [hc]; rw [← hx]; rfl) h
theorem Seq.not_ {t : TypeId} {x : Operand} {b : Bool} (ho : ops[i]? = some o) (hop : o.op = .unOp .not t x) (hd : o.dst = some d) (hw : wantedL ops o l = true) (hx : evalL l x = .bool b) (hS : S w) (h : Seq P ops Q S σ ⟨(l.set d (.bool (!b))).toArray, ds⟩ w) : Seq P ops Q S ((i, true) :: σ) ⟨l.toArray, ds⟩ w :=
  Seq.yield _ ho hd hw hS (fun w _ => by unfold execOp; rw [hop]; simp only [hx]; rfl) h

/-- A function of the program's own that has a body. -/
def HasBody (P : Program) (f : FuncId) : Prop := ∃ fn, P.funcs[f]? = some fn ∧ fn.body.isNone = false ∧ (fn.name == "runtime.NumGoroutine") = false
theorem exec_call {ρ : Operand → Value} {f : FuncId} {args : Array Operand} {ats : Array TypeId} (hb : HasBody P f) (hop : o.op = .call { callee := .value (.func f), args := args, argTypes := ats }) (hρ : ρ (.func f) = .func (.func f) #[] #[]) :
    (execOp ρ o).run P w = .ok (.enter f (args.map ρ)) w := by
  obtain ⟨fn, h1, h2, h3⟩ := hb
  have h2' : ¬ (fn.body = none) := by intro h; rw [h] at h2; cases h2
  have h3' : ¬ (fn.name = "runtime.NumGoroutine") := by simpa using h3
  unfold execOp
  rw [hop]
  simp [resolve, hρ, Deferred.ofValue, invoke, callFunc, program, Sem.run, h1, h2', h3']
theorem Seq.call {f : FuncId} {args : Array Operand} {ats : Array TypeId} (vs : Array Value) (ho : ops[i]? = some o) (hop : o.op = .call { callee := .value (.func f), args := args, argTypes := ats }) (hd : o.dst = some d) (hw : wantedL ops o l = true) (hb : HasBody P f) (hvs : (args.toList.map (evalL l)).toArray = vs)
    (h : Calls P f vs w fun e w' => ∃ v, e = .returned v ∧ S w' ∧ Seq P ops Q S σ ⟨(l.set d v).toArray, ds⟩ w') : Seq P ops Q S ((i, false) :: σ) ⟨l.toArray, ds⟩ w := by
  unfold Seq wpOp
  rw [← wanted_list] at hw
  simp only [ho, hw, if_true]
  left
  unfold Oper.wp
  rw [eval_list, exec_call hb hop rfl, show args.map (evalL l) = vs from (by rw [← hvs, ← Array.toList_map]), Oper.upon_enter]
  refine h.mono ?_
  rintro e w' ⟨v, rfl, hS, hh⟩
  exact ⟨hS, by rw [hd, put_list]; exact hh⟩
end
end Go.Proofs.YtegpikhfnhcjaaaGreat
