/- ElectionEither at any number: the runs. Printed by wip/either.py. -/
import Derived.Test.YtdenophkdliinaaGreatRvU
import Derived.Test.YtdenophkdliinaaGreatTxB
import Derived.Test.YtdenophkdliinaaGreatEe0
import Derived.Test.YtdenophkdliinaaGreatEe1
import Derived.Test.YtdenophkdliinaaGreatEe2
import Derived.Test.YtdenophkdliinaaGreatEe3
import Derived.Test.YtdenophkdliinaaGreatEe4
import Derived.Test.YtdenophkdliinaaGreatEe5
import Derived.Test.YtdenophkdliinaaGreatEe6
import Derived.Test.YtdenophkdliinaaGreatEe7
import Derived.Test.YtdenophkdliinaaGreatEe8
import Derived.Test.YtdenophkdliinaaGreatEe9
import Derived.Test.YtdenophkdliinaaGreatEe10
import Derived.Test.YtdenophkdliinaaGreatEe11
import Derived.Test.YtdenophkdliinaaGreatEe12
import Derived.Test.YtdenophkdliinaaGreatEe13
import Derived.Test.YtdenophkdliinaaGreatEe14
import Derived.Test.YtdenophkdliinaaGreatEe15
import Derived.Test.YtdenophkdliinaaGreatEe16
import Derived.Test.YtdenophkdliinaaGreatEe17
import Derived.Test.YtdenophkdliinaaGreatEe18
import Derived.Test.YtdenophkdliinaaGreatEeR
namespace Go.Proofs.YtdenophkdliinaaGreat
namespace Ev
open Go Go.RowKit
noncomputable def eeBody : Code := Option.rec Code.skip (fun c => c) Tryz.f3.body
noncomputable def eePre : List Code := [seqHead eeBody]
noncomputable def eeRest : Code := seqTail (seqTail eeBody)
noncomputable def eeOps : List Oper := match seqHead (seqTail eeBody) with
  | .region _ ops _ => ops.toList
  | _ => []
noncomputable def eeB (fs : List Fact) (n k : Int) (b : Bool) : Option (Option Value × Value) :=
  match evSeqs Tryz.prog (hk fs) eePre ⟨Nat.max 2 Tryz.f3.ntmps, tOf [.int .i64 n, .bool b]⟩ (enterM mem0) with
  | some ⟨f, m⟩ => (match putAll [(13, .int .i64 n), (14, .int .i64 k)] f with
    | some f' => (match evOps Tryz.prog (ev Tryz.prog (hk fs) 3000) eeOps eeOps.tail.tail f' m with
      | some x => (match ev Tryz.prog (hk fs) 3000 (.code eeRest x.f x.m) with
        | some (.code .ret f2 m2) => (match leaveFn Tryz.prog mem0 Tryz.f3.results.toList f2 m2 with
          | some (.call v _) => some (f.t.get 0, v)
          | _ => none)
        | _ => none)
      | _ => none)
    | _ => none)
  | _ => none
def eeF0 : List Fact := [Eeg16_6, Eeg18_1, Eeg19_4]
theorem eeF0_ok : AllOk eeF0 := (AllOk.cons (f := Eeg16_6) (AllOk.at_ Eeg16L_ok 6 rfl) (AllOk.cons (f := Eeg18_1) (AllOk.at_ Eeg18L_ok 1 rfl) (AllOk.cons (f := Eeg19_4) (AllOk.at_ Eeg19L_ok 4 rfl) AllOk.nil)))
set_option maxRecDepth 1000000 in
theorem eeB_0 (n : Int) : eeB eeF0 n 0 false = some (some (.int .i64 n), .bool true) := by kernel_rfl
def eeF1 : List Fact := [Eeg16_6, Eeg19_6, Eeg19_4]
theorem eeF1_ok : AllOk eeF1 := (AllOk.cons (f := Eeg16_6) (AllOk.at_ Eeg16L_ok 6 rfl) (AllOk.cons (f := Eeg19_6) (AllOk.at_ Eeg19L_ok 6 rfl) (AllOk.cons (f := Eeg19_4) (AllOk.at_ Eeg19L_ok 4 rfl) AllOk.nil)))
set_option maxRecDepth 1000000 in
theorem eeB_1 (n : Int) : eeB eeF1 n 0 true = some (some (.int .i64 n), .bool true) := by kernel_rfl
def eeF2 : List Fact := [Eem11, Eeg21_7, Eem14]
theorem eeF2_ok : AllOk eeF2 := (AllOk.cons (f := Eem11) Eem11_ok (AllOk.cons (f := Eeg21_7) (AllOk.at_ Eeg21L_ok 7 rfl) (AllOk.cons (f := Eem14) Eem14_ok AllOk.nil)))
set_option maxRecDepth 1000000 in
theorem eeB_2 (n : Int) : eeB eeF2 n 1 false = some (some (.int .i64 n), .bool true) := by kernel_rfl
def eeF3 : List Fact := [Eem11, Eeg22_1, Eem14]
theorem eeF3_ok : AllOk eeF3 := (AllOk.cons (f := Eem11) Eem11_ok (AllOk.cons (f := Eeg22_1) (AllOk.at_ Eeg22L_ok 1 rfl) (AllOk.cons (f := Eem14) Eem14_ok AllOk.nil)))
set_option maxRecDepth 1000000 in
theorem eeB_3 (n : Int) : eeB eeF3 n 1 true = some (some (.int .i64 n), .bool true) := by kernel_rfl
def eeF4 : List Fact := [Eem16, Eeg25_7, Eem20, Eeg25_9]
theorem eeF4_ok : AllOk eeF4 := (AllOk.cons (f := Eem16) Eem16_ok (AllOk.cons (f := Eeg25_7) (AllOk.at_ Eeg25L_ok 7 rfl) (AllOk.cons (f := Eem20) Eem20_ok (AllOk.cons (f := Eeg25_9) (AllOk.at_ Eeg25L_ok 9 rfl) AllOk.nil))))
set_option maxRecDepth 1000000 in
theorem eeB_4 (n : Int) : eeB eeF4 n 2 false = some (some (.int .i64 n), .bool true) := by kernel_rfl
def eeF5 : List Fact := [Eem16, Eeg25_11, Eem20, Eeg26_1]
theorem eeF5_ok : AllOk eeF5 := (AllOk.cons (f := Eem16) Eem16_ok (AllOk.cons (f := Eeg25_11) (AllOk.at_ Eeg25L_ok 11 rfl) (AllOk.cons (f := Eem20) Eem20_ok (AllOk.cons (f := Eeg26_1) (AllOk.at_ Eeg26L_ok 1 rfl) AllOk.nil))))
set_option maxRecDepth 1000000 in
theorem eeB_5 (n : Int) : eeB eeF5 n 2 true = some (some (.int .i64 n), .bool true) := by kernel_rfl
def eeF6 : List Fact := [Eeg26_2, Eeg26_3, Eem22, Eeg30_7, Eem26, Eeg31_1]
theorem eeF6_ok : AllOk eeF6 := (AllOk.cons (f := Eeg26_2) (AllOk.at_ Eeg26L_ok 2 rfl) (AllOk.cons (f := Eeg26_3) (AllOk.at_ Eeg26L_ok 3 rfl) (AllOk.cons (f := Eem22) Eem22_ok (AllOk.cons (f := Eeg30_7) (AllOk.at_ Eeg30L_ok 7 rfl) (AllOk.cons (f := Eem26) Eem26_ok (AllOk.cons (f := Eeg31_1) (AllOk.at_ Eeg31L_ok 1 rfl) AllOk.nil))))))
set_option maxRecDepth 1000000 in
theorem eeB_6 (n : Int) : eeB eeF6 n 3 false = some (some (.int .i64 n), .bool true) := by kernel_rfl
def eeF7 : List Fact := [Eeg26_2, Eeg26_3, Eem22, Eeg31_3, Eem26, Eeg31_5]
theorem eeF7_ok : AllOk eeF7 := (AllOk.cons (f := Eeg26_2) (AllOk.at_ Eeg26L_ok 2 rfl) (AllOk.cons (f := Eeg26_3) (AllOk.at_ Eeg26L_ok 3 rfl) (AllOk.cons (f := Eem22) Eem22_ok (AllOk.cons (f := Eeg31_3) (AllOk.at_ Eeg31L_ok 3 rfl) (AllOk.cons (f := Eem26) Eem26_ok (AllOk.cons (f := Eeg31_5) (AllOk.at_ Eeg31L_ok 5 rfl) AllOk.nil))))))
set_option maxRecDepth 1000000 in
theorem eeB_7 (n : Int) : eeB eeF7 n 3 true = some (some (.int .i64 n), .bool true) := by kernel_rfl
end Ev
end Go.Proofs.YtdenophkdliinaaGreat
