/- known of law 23, by the evaluator. -/
import Derived.Test.YtlfojfndkcmfnaaEvS
namespace Go.Proofs.Ytlfojfndkcmfnaa
namespace Ev
open Go Go.RowKit

def hooks : Hooks := ⟨none, none, some 95, symB, []⟩
theorem hooks_ok : HooksOk Try.prog hooks := ⟨fun g h => (by cases h), fun g h => (by cases h), fun g h => (by cases h; exact symm_ok), fun f hf => (by cases hf)⟩
set_option maxRecDepth 100000 in
theorem known23_run : outV (ev Try.prog hooks 3000 (.call 7 [] mem0)) = some (.bool true) := by kernel_rfl
theorem known23 (w : World) : Calls Try.prog 7 #[] w fun e w' => e = .returned (.bool true) ∧ Below w.heap.size w w' :=
  ev_calls_atom mix noNum hooks_ok known23_run rfl rfl ⟨_, _, Try.func7, rfl⟩ w
#print axioms known23
end Ev
end Go.Proofs.Ytlfojfndkcmfnaa
