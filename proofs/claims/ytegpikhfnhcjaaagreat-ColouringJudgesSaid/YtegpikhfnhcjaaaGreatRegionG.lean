/- The same where a graph lies in a box: its loads; what a call leaves. -/
import Derived.Test.YtegpikhfnhcjaaaGreatRegion
import Derived.Maps.RangeWalk
namespace Go.Proofs.YtegpikhfnhcjaaaGreat
open Go.RowKit

/-- The call's box (its first new block) holds x and y; nothing that was there has turned. -/
def BoxS (w : World) (x y : Value) (w' : World) : Prop := w'.cell? ⟨w.heap.size, 0, none⟩ = some x ∧ w'.cell? ⟨w.heap.size, 1, none⟩ = some y ∧ Below w.heap.size w w'
theorem BoxS.start (w : World) (x y : Value) (t : TypeId) : BoxS w x y (w.alloc (.cells #[x, y] t)).drew := ⟨by simp, by simp, ((Below.refl _ _).alloc (Nat.le_refl _) _).drew⟩
theorem BoxS.calls {w w1 w2 : World} {x y : Value} (h : BoxS w x y w1) (hb : Below w1.heap.size w1 w2) : BoxS w x y w2 :=
  ⟨keepCells hb _ _ h.1, keepCells hb _ _ h.2.1, h.2.2.trans (hb.mono h.2.2.size)⟩
theorem BoxS.drewN {w w1 : World} {x y : Value} (h : BoxS w x y w1) (n : Nat) : BoxS w x y (w1.drewN n) := ⟨h.1, h.2.1, below_drewN h.2.2 n⟩
theorem BoxS.drew {w w1 : World} {x y : Value} (h : BoxS w x y w1) : BoxS w x y w1.drew := ⟨h.1, h.2.1, h.2.2.drew⟩

section
variable {ops : Array Oper} {Q : Exit → Act → World → Prop} {l : List Value} {ds : List Deferred} {w : World} {i d : Nat} {σ : List (Nat × Bool)} {o : Oper}
theorem exec_loadG {ρ : Operand → Value} {r : Operand} {B : Nat} {x y : Value} {w : World} (hop : o.op = .load 25 r) (hr : ρ r = .pointer (some ⟨B, 0, none⟩)) (h0 : w.cell? ⟨B, 0, none⟩ = some x) (h1 : w.cell? ⟨B, 1, none⟩ = some y) :
    (execOp ρ o).run Tryz.prog w = .ok (.value (.agg #[x, y])) w := by
  unfold execOp
  rw [hop]
  simp [hr, go_sem, h0, h1]
theorem Seq.loadG {r : Operand} {w0 : World} {x y : Value} (ho : ops[i]? = some o) (hop : o.op = .load 25 r) (hd : o.dst = some d) (hw : wantedL ops o l = true) (hr : evalL l r = .pointer (some ⟨w0.heap.size, 0, none⟩)) (hS : BoxS w0 x y w)
    (h : Seq Tryz.prog ops Q (BoxS w0 x y) σ ⟨(l.set d (.agg #[x, y])).toArray, ds⟩ w) : Seq Tryz.prog ops Q (BoxS w0 x y) ((i, true) :: σ) ⟨l.toArray, ds⟩ w :=
  Seq.yield _ ho hd hw hS (fun _ hS => exec_loadG hop hr hS.1 hS.2.1) h
theorem exec_eqlB {ρ : Operand → Value} {x y : Operand} {t' : TypeId} {b b' : Bool} {w : World} (hop : o.op = .binOp .eql 4 x y t') (hx : ρ x = .bool b) (hy : ρ y = .bool b') :
    (execOp ρ o).run Tryz.prog w = .ok (.value (.bool (b == b'))) w := by
  unfold execOp
  rw [hop]
  simp [hx, hy, go_sem]
theorem Seq.eqlB {S : World → Prop} {x y : Operand} {t' : TypeId} {b b' : Bool} (ho : ops[i]? = some o) (hop : o.op = .binOp .eql 4 x y t') (hd : o.dst = some d) (hw : wantedL ops o l = true) (hx : evalL l x = .bool b) (hy : evalL l y = .bool b') (hS : S w)
    (h : Seq Tryz.prog ops Q S σ ⟨(l.set d (.bool (b == b'))).toArray, ds⟩ w) : Seq Tryz.prog ops Q S ((i, true) :: σ) ⟨l.toArray, ds⟩ w :=
  Seq.yield _ ho hd hw hS (fun _ _ => exec_eqlB hop hx hy) h
end
theorem mixed : Tryz.prog.follows .mixedOrders = true := by kernel_rfl
end Go.Proofs.YtegpikhfnhcjaaaGreat
