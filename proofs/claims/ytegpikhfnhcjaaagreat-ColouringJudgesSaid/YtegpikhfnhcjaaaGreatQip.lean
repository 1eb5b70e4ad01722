/- A drawn region by a plan, within a round. -/
import Derived.Test.YtegpikhfnhcjaaaGreatQin
import Derived.Test.YtegpikhfnhcjaaaGreatRegion
namespace Go.Proofs.YtegpikhfnhcjaaaGreat
namespace Ev
open Go Go.RowKit
section
variable {P : Program} {ops : Array Oper} {Q : Exit → Act → World → Prop} {S : World → Prop} {r : Option Nat}
theorem wpIn_region_plan {id : Nat} {a : Act} {w : World} (hm : P.follows .mixedOrders = true) (σ : List (Nat × Bool)) (S : World → Prop) (hs : Region.noSelect ops = true) (hd : ∀ o ∈ ops, ∀ c, o.op ≠ .defer c) (hQo : ¬ LetsOut Q) (hQ : ∀ c d v a w, Q (.panic c) (Act.put a d v) w → Q (.panic c) a w)
    (hl : σ.length = ops.size) (hp : planOk ops σ (Array.replicate ops.size false) = true) (h : Seq P ops Q S σ a w.drew) : (Code.region id ops true).wpIn (wr r) 0 P Q a w := by
  refine wpIn_region_any hm (wpAnyIn_of hd hQo _ _ _ _ ?_)
  have := Seq.sound hs hQ σ 0 _ a _ hp h
  rw [Nat.add_zero, hl] at this
  exact wpAny_of_held _ _ _ _ this
end
section
variable {P : Program} {ops : Array Oper} {Q : Exit → Act → World → Prop} {S : World → Prop} {l : List Value} {ds : List Deferred} {w w' : World} {i : Nat} {σ : List (Nat × Bool)} {o : Oper}
/-- An operation without a result, that stands alone. -/
theorem Seq.act0 (ho : ops[i]? = some o) (hd : o.dst = none) (hw : wantedL ops o l = true) (hr : (execOp (evalL l) o).run P w = .ok .skip w') (hS : S w') (h : Seq P ops Q S σ ⟨l.toArray, ds⟩ w') : Seq P ops Q S ((i, false) :: σ) ⟨l.toArray, ds⟩ w := by
  unfold Seq wpOp
  rw [← wanted_list] at hw
  simp only [ho, hw, if_true]
  left
  unfold Oper.wp
  rw [eval_list, hr, Oper.upon_skip, hd]
  exact ⟨hS, h⟩
/-- An operation with a result, that stands alone. -/
theorem Seq.act1 {d : Nat} {v : Value} (ho : ops[i]? = some o) (hd : o.dst = some d) (hw : wantedL ops o l = true) (hr : (execOp (evalL l) o).run P w = .ok (.value v) w') (hS : S w') (h : Seq P ops Q S σ ⟨(l.set d v).toArray, ds⟩ w') : Seq P ops Q S ((i, false) :: σ) ⟨l.toArray, ds⟩ w := by
  unfold Seq wpOp
  rw [← wanted_list] at hw
  simp only [ho, hw, if_true]
  left
  unfold Oper.wp
  rw [eval_list, hr, Oper.upon_value, hd, put_list]
  exact ⟨hS, h⟩
end
end Ev
end Go.Proofs.YtegpikhfnhcjaaaGreat
