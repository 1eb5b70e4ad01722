/- known of law 32, by the evaluator. -/
import Derived.Test.YtegpikhfnhcjaaaGreatKc0
import Derived.Test.YtegpikhfnhcjaaaGreatKc1
import Derived.Test.YtegpikhfnhcjaaaGreatKc2
import Derived.Test.YtegpikhfnhcjaaaGreatKc3
import Derived.Test.YtegpikhfnhcjaaaGreatKcR
namespace Go.Proofs.YtegpikhfnhcjaaaGreat
namespace Ev
open Go Go.RowKit
def kcF : List Fact := [Kcg1_14, Kcg2_3, Kcg3_1]
theorem kcF_ok : AllOk kcF := (AllOk.cons (f := Kcg1_14) (AllOk.at_ Kcg1L_ok 14 rfl) (AllOk.cons (f := Kcg2_3) (AllOk.at_ Kcg2L_ok 3 rfl) (AllOk.cons (f := Kcg3_1) (AllOk.at_ Kcg3L_ok 1 rfl) AllOk.nil)))
set_option maxRecDepth 1000000 in
theorem known32_run : outV (ev Tryz.prog (hk kcF) 3000 (.call 5 [] mem0)) = some (.bool true) := by kernel_rfl
theorem known32 (w : World) : Calls Tryz.prog 5 #[] w fun e w' => e = .returned (.bool true) ∧ Below w.heap.size w w' :=
  ev_calls_atom mix noNum (hk_ok kcF_ok) known32_run rfl rfl ⟨_, _, Tryz.func5, rfl⟩ w
#print axioms known32
end Ev
end Go.Proofs.YtegpikhfnhcjaaaGreat
