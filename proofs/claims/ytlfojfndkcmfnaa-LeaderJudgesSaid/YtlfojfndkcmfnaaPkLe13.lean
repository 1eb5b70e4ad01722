/- Lemmas, joined: ScEv PlainC PlainD. -/
import Derived.Test.YtlfojfndkcmfnaaPkLe12
import Derived.Test.YtlfojfndkcmfnaaPkLe11
set_option linter.unusedSimpArgs false
set_option linter.unusedVariables false
namespace Go.Proofs.Ytlfojfndkcmfnaa
namespace Sh
open Go Ev
-- slices.Index[[]int,int]
def c_slices_Indexintint_r0 : List SOper := [⟨.mv (.const (.int .i64 0)), some 4, none, 0⟩]
def c_slices_Indexintint_r1 : List SOper := [⟨.mv (.tmp 0), some 6, none, 0⟩, ⟨.len (.tmp 6), some 7, none, 1⟩, ⟨.mv (.const (.int .i64 0)), some 8, none, 0⟩]
def c_slices_Indexintint_r2 : List SOper := [⟨.bin .lss (.tmp 8) (.tmp 7), some 9, none, 0⟩]
def c_slices_Indexintint_r3 : List SOper := [⟨.mv (.tmp 8), some 10, none, 0⟩, ⟨.mv (.tmp 10), some 5, none, 1⟩]
def c_slices_Indexintint_r4 : List SOper := [⟨.mv (.tmp 1), some 11, none, 0⟩, ⟨.mv (.tmp 0), some 12, none, 0⟩, ⟨.mv (.tmp 5), some 13, none, 0⟩, ⟨.idx 1 (.tmp 12) (.tmp 13), some 14, none, 6⟩, ⟨.load false 1 (.tmp 14), some 15, none, 14⟩, ⟨.bin .eql (.tmp 11) (.tmp 15), some 16, none, 31⟩]
def c_slices_Indexintint_r5 : List SOper := [⟨.mv (.tmp 5), some 17, none, 0⟩, ⟨.mv (.tmp 17), some 4, none, 1⟩]
def c_slices_Indexintint_r6 : List SOper := [⟨.bin .add (.tmp 8) (.const (.int .i64 1)), some 18, none, 0⟩, ⟨.mv (.tmp 18), some 8, none, 1⟩]
def c_slices_Indexintint_r7 : List SOper := [⟨.mv (.const (.int .i64 (-1))), some 4, none, 0⟩]
def c_slices_Indexintint : SC := (.seq (.reg false c_slices_Indexintint_r0) (.seq (.seq (.reg false c_slices_Indexintint_r1) (.block 0 (.loop (.seq (.reg false c_slices_Indexintint_r2) (.seq (.cond (.tmp 9) .skip (.exit 0)) (.seq (.block 1 (.seq (.reg false c_slices_Indexintint_r3) (.seq (.reg false c_slices_Indexintint_r4) (.cond (.tmp 16) (.seq (.reg false c_slices_Indexintint_r5) .ret) .skip)))) (.reg false c_slices_Indexintint_r6))))))) (.seq (.reg false c_slices_Indexintint_r7) .ret)))
theorem c_slices_Indexintint_cmp : (Try.f84.body.bind (cmp Try.prog Try.f84.ntmps)) = some c_slices_Indexintint := by kernel_rfl
theorem c_slices_Indexintint_ok (args : List SV) (Q : SV → Prop) (h : vc ⟨Ct Try.prog, Cm Try.prog, [], []⟩ c_slices_Indexintint (retK [.t 4] Q) ⟨slots args 0, []⟩) : Ct Try.prog 84 args Q := fn_ok Try.func84 c_slices_Indexintint_cmp (rs := [.t 4]) (by kernel_rfl) h
theorem c_slices_Indexintint_okU (mu : List FuncId) (args : List SV) (Q : SV → Prop) (h : vc ⟨Ct Try.prog, Cm Try.prog, [], mu⟩ c_slices_Indexintint (retK [.t 4] Q) ⟨slots args 0, []⟩) : Ct Try.prog 84 args Q := fn_ok Try.func84 c_slices_Indexintint_cmp (rs := [.t 4]) (by kernel_rfl) h
theorem c_slices_Indexintint_okM (pr : List Nm) (mu : List FuncId) (o : Own) (args : List SV) (Q : SV → Own → Prop) (h : vc ⟨Ct Try.prog, Cm Try.prog, pr, mu⟩ c_slices_Indexintint (retM [.t 4] pr Q) ⟨slots args 0, o⟩) : Cm Try.prog 84 pr o args Q := fnM_ok Try.func84 c_slices_Indexintint_cmp (rs := [.t 4]) (by kernel_rfl) h
-- slices.Max[[]int,int]
def c_slices_Maxintint_r0 : List SOper := [⟨.mv (.const (.int .i64 0)), some 2, none, 0⟩]
def c_slices_Maxintint_r1 : List SOper := [⟨.mv (.tmp 0), some 5, none, 0⟩, ⟨.len (.tmp 5), some 6, none, 1⟩, ⟨.bin .lss (.tmp 6) (.const (.int .i64 1)), some 7, none, 3⟩]
def c_slices_Maxintint_r2 : List SOper := [⟨.no, some 8, none, 0⟩, ⟨.no, none, none, 1⟩]
def c_slices_Maxintint_r3 : List SOper := [⟨.mv (.tmp 0), some 9, none, 0⟩, ⟨.idx 1 (.tmp 9) (.const (.int .i64 0)), some 10, none, 1⟩, ⟨.load false 1 (.tmp 10), some 11, none, 3⟩, ⟨.mv (.tmp 11), some 3, none, 7⟩]
def c_slices_Maxintint_r4 : List SOper := [⟨.mv (.const (.int .i64 1)), some 4, none, 0⟩]
def c_slices_Maxintint_r5 : List SOper := [⟨.mv (.tmp 4), some 12, none, 0⟩, ⟨.mv (.tmp 0), some 13, none, 0⟩, ⟨.len (.tmp 13), some 14, none, 2⟩, ⟨.bin .lss (.tmp 12) (.tmp 14), some 15, none, 7⟩]
def c_slices_Maxintint_r7 : List SOper := [⟨.mv (.tmp 3), some 18, none, 0⟩, ⟨.mv (.tmp 0), some 19, none, 0⟩, ⟨.mv (.tmp 4), some 20, none, 0⟩, ⟨.idx 1 (.tmp 19) (.tmp 20), some 21, none, 6⟩, ⟨.load false 1 (.tmp 21), some 22, none, 14⟩, ⟨.mm true (.tmp 18) (.tmp 22), some 23, none, 31⟩, ⟨.mv (.tmp 23), some 3, none, 63⟩]
def c_slices_Maxintint_r6 : List SOper := [⟨.mv (.tmp 4), some 16, none, 0⟩, ⟨.bin .add (.tmp 16) (.const (.int .i64 1)), some 17, none, 1⟩, ⟨.mv (.tmp 17), some 4, none, 3⟩]
def c_slices_Maxintint_r8 : List SOper := [⟨.mv (.tmp 3), some 24, none, 0⟩, ⟨.mv (.tmp 24), some 2, none, 1⟩]
def c_slices_Maxintint : SC := (.seq (.reg false c_slices_Maxintint_r0) (.seq (.seq (.reg false c_slices_Maxintint_r1) (.cond (.tmp 7) (.reg false c_slices_Maxintint_r2) .skip)) (.seq (.reg false c_slices_Maxintint_r3) (.seq (.seq (.reg false c_slices_Maxintint_r4) (.block 0 (.loop (.seq (.seq (.reg false c_slices_Maxintint_r5) (.cond (.tmp 15) .skip (.exit 0))) (.seq (.block 1 (.reg false c_slices_Maxintint_r7)) (.reg false c_slices_Maxintint_r6)))))) (.seq (.reg false c_slices_Maxintint_r8) .ret)))))
theorem c_slices_Maxintint_cmp : (Try.f51.body.bind (cmp Try.prog Try.f51.ntmps)) = some c_slices_Maxintint := by kernel_rfl
theorem c_slices_Maxintint_ok (args : List SV) (Q : SV → Prop) (h : vc ⟨Ct Try.prog, Cm Try.prog, [], []⟩ c_slices_Maxintint (retK [.t 2] Q) ⟨slots args 0, []⟩) : Ct Try.prog 51 args Q := fn_ok Try.func51 c_slices_Maxintint_cmp (rs := [.t 2]) (by kernel_rfl) h
theorem c_slices_Maxintint_okU (mu : List FuncId) (args : List SV) (Q : SV → Prop) (h : vc ⟨Ct Try.prog, Cm Try.prog, [], mu⟩ c_slices_Maxintint (retK [.t 2] Q) ⟨slots args 0, []⟩) : Ct Try.prog 51 args Q := fn_ok Try.func51 c_slices_Maxintint_cmp (rs := [.t 2]) (by kernel_rfl) h
theorem c_slices_Maxintint_okM (pr : List Nm) (mu : List FuncId) (o : Own) (args : List SV) (Q : SV → Own → Prop) (h : vc ⟨Ct Try.prog, Cm Try.prog, pr, mu⟩ c_slices_Maxintint (retM [.t 2] pr Q) ⟨slots args 0, o⟩) : Cm Try.prog 51 pr o args Q := fnM_ok Try.func51 c_slices_Maxintint_cmp (rs := [.t 2]) (by kernel_rfl) h
-- slices.Equal[[]int,int]
def c_slices_Equalintint_r0 : List SOper := [⟨.mv (.const (.bool false)), some 4, none, 0⟩]
def c_slices_Equalintint_r1 : List SOper := [⟨.mv (.tmp 0), some 6, none, 0⟩, ⟨.len (.tmp 6), some 7, none, 1⟩, ⟨.mv (.tmp 1), some 8, none, 0⟩, ⟨.len (.tmp 8), some 9, none, 4⟩, ⟨.bin .neq (.tmp 7) (.tmp 9), some 10, none, 15⟩]
def c_slices_Equalintint_r2 : List SOper := [⟨.mv (.const (.bool false)), some 4, none, 0⟩]
def c_slices_Equalintint_r3 : List SOper := [⟨.mv (.tmp 0), some 11, none, 0⟩, ⟨.len (.tmp 11), some 12, none, 1⟩, ⟨.mv (.const (.int .i64 0)), some 13, none, 0⟩]
def c_slices_Equalintint_r4 : List SOper := [⟨.bin .lss (.tmp 13) (.tmp 12), some 14, none, 0⟩]
def c_slices_Equalintint_r5 : List SOper := [⟨.mv (.tmp 13), some 15, none, 0⟩, ⟨.mv (.tmp 15), some 5, none, 1⟩]
def c_slices_Equalintint_r6 : List SOper := [⟨.mv (.tmp 0), some 16, none, 0⟩, ⟨.mv (.tmp 5), some 17, none, 0⟩, ⟨.idx 1 (.tmp 16) (.tmp 17), some 18, none, 3⟩, ⟨.load false 1 (.tmp 18), some 19, none, 7⟩, ⟨.mv (.tmp 1), some 20, none, 0⟩, ⟨.mv (.tmp 5), some 21, none, 0⟩, ⟨.idx 1 (.tmp 20) (.tmp 21), some 22, none, 48⟩, ⟨.load false 1 (.tmp 22), some 23, none, 112⟩, ⟨.bin .neq (.tmp 19) (.tmp 23), some 24, none, 255⟩]
def c_slices_Equalintint_r7 : List SOper := [⟨.mv (.const (.bool false)), some 4, none, 0⟩]
def c_slices_Equalintint_r8 : List SOper := [⟨.bin .add (.tmp 13) (.const (.int .i64 1)), some 25, none, 0⟩, ⟨.mv (.tmp 25), some 13, none, 1⟩]
def c_slices_Equalintint_r9 : List SOper := [⟨.mv (.const (.bool true)), some 4, none, 0⟩]
def c_slices_Equalintint : SC := (.seq (.reg false c_slices_Equalintint_r0) (.seq (.seq (.reg false c_slices_Equalintint_r1) (.cond (.tmp 10) (.seq (.reg false c_slices_Equalintint_r2) .ret) .skip)) (.seq (.seq (.reg false c_slices_Equalintint_r3) (.block 0 (.loop (.seq (.reg false c_slices_Equalintint_r4) (.seq (.cond (.tmp 14) .skip (.exit 0)) (.seq (.block 1 (.seq (.reg false c_slices_Equalintint_r5) (.seq (.reg true c_slices_Equalintint_r6) (.cond (.tmp 24) (.seq (.reg false c_slices_Equalintint_r7) .ret) .skip)))) (.reg false c_slices_Equalintint_r8))))))) (.seq (.reg false c_slices_Equalintint_r9) .ret))))
theorem c_slices_Equalintint_cmp : (Try.f55.body.bind (cmp Try.prog Try.f55.ntmps)) = some c_slices_Equalintint := by kernel_rfl
theorem c_slices_Equalintint_ok (args : List SV) (Q : SV → Prop) (h : vc ⟨Ct Try.prog, Cm Try.prog, [], []⟩ c_slices_Equalintint (retK [.t 4] Q) ⟨slots args 0, []⟩) : Ct Try.prog 55 args Q := fn_ok Try.func55 c_slices_Equalintint_cmp (rs := [.t 4]) (by kernel_rfl) h
theorem c_slices_Equalintint_okU (mu : List FuncId) (args : List SV) (Q : SV → Prop) (h : vc ⟨Ct Try.prog, Cm Try.prog, [], mu⟩ c_slices_Equalintint (retK [.t 4] Q) ⟨slots args 0, []⟩) : Ct Try.prog 55 args Q := fn_ok Try.func55 c_slices_Equalintint_cmp (rs := [.t 4]) (by kernel_rfl) h
theorem c_slices_Equalintint_okM (pr : List Nm) (mu : List FuncId) (o : Own) (args : List SV) (Q : SV → Own → Prop) (h : vc ⟨Ct Try.prog, Cm Try.prog, pr, mu⟩ c_slices_Equalintint (retM [.t 4] pr Q) ⟨slots args 0, o⟩) : Cm Try.prog 55 pr o args Q := fnM_ok Try.func55 c_slices_Equalintint_cmp (rs := [.t 4]) (by kernel_rfl) h
-- MISSING slices.Contains[[]int,int]
-- MISSING slices.IndexFunc[[]int,int]
-- MISSING term.Arity
-- MISSING term.Aggregate
-- MISSING term.End
-- graph.FirstPort
def c_graph_FirstPort_r0 : List SOper := [⟨.box 25 (.tmp 0), some 3, none, 0⟩, ⟨.mv (.const (.int .i64 0)), some 6, none, 0⟩]
def c_graph_FirstPort_r1 : List SOper := [⟨.faddr 1 1 (.tmp 3), some 9, none, 0⟩, ⟨.load false 1 (.tmp 9), some 10, none, 1⟩, ⟨.mv (.tmp 1), some 11, none, 0⟩, ⟨.idx 1 (.tmp 10) (.tmp 11), some 12, none, 7⟩, ⟨.load false 1 (.tmp 12), some 13, none, 15⟩, ⟨.len (.tmp 13), some 14, none, 31⟩, ⟨.mv (.const (.int .i64 0)), some 15, none, 0⟩]
def c_graph_FirstPort_r2 : List SOper := [⟨.bin .lss (.tmp 15) (.tmp 14), some 16, none, 0⟩]
def c_graph_FirstPort_r3 : List SOper := [⟨.mv (.tmp 15), some 17, none, 0⟩, ⟨.idx 2 (.tmp 13) (.tmp 15), some 18, none, 0⟩, ⟨.load true 2 (.tmp 18), some 19, none, 2⟩, ⟨.alloc 54 1 [.i .i64 0, .i .i64 0], some 8, none, 0⟩, ⟨.mv (.tmp 17), some 7, none, 15⟩, ⟨.store 2 (.tmp 8) (.tmp 19), none, none, 31⟩]
def c_graph_FirstPort_r4 : List SOper := [⟨.mv (.tmp 2), some 20, none, 0⟩, ⟨.load true 2 (.tmp 8), some 21, none, 0⟩, ⟨.call (.tmp 20) [(.tmp 21)], some 22, none, 3⟩]
def c_graph_FirstPort_r5 : List SOper := [⟨.mv (.tmp 7), some 23, none, 0⟩, ⟨.mv (.tmp 23), some 6, none, 1⟩]
def c_graph_FirstPort_r6 : List SOper := [⟨.bin .add (.tmp 15) (.const (.int .i64 1)), some 24, none, 0⟩, ⟨.mv (.tmp 24), some 15, none, 1⟩]
def c_graph_FirstPort_r7 : List SOper := [⟨.mv (.const (.int .i64 (-1))), some 6, none, 0⟩]
def c_graph_FirstPort : SC := (.seq (.reg false c_graph_FirstPort_r0) (.seq (.seq (.reg false c_graph_FirstPort_r1) (.block 0 (.loop (.seq (.reg false c_graph_FirstPort_r2) (.seq (.cond (.tmp 16) .skip (.exit 0)) (.seq (.block 1 (.seq (.reg false c_graph_FirstPort_r3) (.seq (.reg false c_graph_FirstPort_r4) (.cond (.tmp 22) (.seq (.reg false c_graph_FirstPort_r5) .ret) .skip)))) (.reg false c_graph_FirstPort_r6))))))) (.seq (.reg false c_graph_FirstPort_r7) .ret)))
theorem c_graph_FirstPort_cmp : (Try.f53.body.bind (cmp Try.prog Try.f53.ntmps)) = some c_graph_FirstPort := by kernel_rfl
theorem c_graph_FirstPort_ok (args : List SV) (Q : SV → Prop) (h : vc ⟨Ct Try.prog, Cm Try.prog, [], []⟩ c_graph_FirstPort (retK [.t 6] Q) ⟨slots args 0, []⟩) : Ct Try.prog 53 args Q := fn_ok Try.func53 c_graph_FirstPort_cmp (rs := [.t 6]) (by kernel_rfl) h
theorem c_graph_FirstPort_okU (mu : List FuncId) (args : List SV) (Q : SV → Prop) (h : vc ⟨Ct Try.prog, Cm Try.prog, [], mu⟩ c_graph_FirstPort (retK [.t 6] Q) ⟨slots args 0, []⟩) : Ct Try.prog 53 args Q := fn_ok Try.func53 c_graph_FirstPort_cmp (rs := [.t 6]) (by kernel_rfl) h
theorem c_graph_FirstPort_okM (pr : List Nm) (mu : List FuncId) (o : Own) (args : List SV) (Q : SV → Own → Prop) (h : vc ⟨Ct Try.prog, Cm Try.prog, pr, mu⟩ c_graph_FirstPort (retM [.t 6] pr Q) ⟨slots args 0, o⟩) : Cm Try.prog 53 pr o args Q := fnM_ok Try.func53 c_graph_FirstPort_cmp (rs := [.t 6]) (by kernel_rfl) h
-- MISSING graph.PortTo
-- graph.All
def c_graph_All_r0 : List SOper := [⟨.box 25 (.tmp 0), some 1, none, 0⟩, ⟨.mv (.const (.int .u32 0)), some 2, none, 0⟩]
def c_graph_All_r1 : List SOper := [⟨.faddr 0 1 (.tmp 1), some 3, none, 0⟩, ⟨.load false 1 (.tmp 3), some 4, none, 1⟩, ⟨.len (.tmp 4), some 5, none, 3⟩, ⟨.bin .shl (.const (.int .u32 1)) (.tmp 5), some 6, none, 7⟩, ⟨.bin .sub (.tmp 6) (.const (.int .u32 1)), some 7, none, 15⟩, ⟨.mv (.tmp 7), some 2, none, 31⟩]
def c_graph_All : SC := (.seq (.reg false c_graph_All_r0) (.seq (.reg false c_graph_All_r1) .ret))
theorem c_graph_All_cmp : (Try.f90.body.bind (cmp Try.prog Try.f90.ntmps)) = some c_graph_All := by kernel_rfl
theorem c_graph_All_ok (args : List SV) (Q : SV → Prop) (h : vc ⟨Ct Try.prog, Cm Try.prog, [], []⟩ c_graph_All (retK [.t 2] Q) ⟨slots args 0, []⟩) : Ct Try.prog 90 args Q := fn_ok Try.func90 c_graph_All_cmp (rs := [.t 2]) (by kernel_rfl) h
theorem c_graph_All_okU (mu : List FuncId) (args : List SV) (Q : SV → Prop) (h : vc ⟨Ct Try.prog, Cm Try.prog, [], mu⟩ c_graph_All (retK [.t 2] Q) ⟨slots args 0, []⟩) : Ct Try.prog 90 args Q := fn_ok Try.func90 c_graph_All_cmp (rs := [.t 2]) (by kernel_rfl) h
theorem c_graph_All_okM (pr : List Nm) (mu : List FuncId) (o : Own) (args : List SV) (Q : SV → Own → Prop) (h : vc ⟨Ct Try.prog, Cm Try.prog, pr, mu⟩ c_graph_All (retM [.t 2] pr Q) ⟨slots args 0, o⟩) : Cm Try.prog 90 pr o args Q := fnM_ok Try.func90 c_graph_All_cmp (rs := [.t 2]) (by kernel_rfl) h
-- graph.search
def c_graph_search_r0 : List SOper := [⟨.box 25 (.tmp 0), some 2, none, 0⟩, ⟨.mv (.const (.slice none 0 0)), some 4, none, 0⟩]
def c_graph_search_r1 : List SOper := [⟨.faddr 1 1 (.tmp 2), some 11, none, 0⟩, ⟨.load false 1 (.tmp 11), some 12, none, 1⟩, ⟨.len (.tmp 12), some 13, none, 3⟩, ⟨.mk 3 1 8 [.i .i64 0] (.tmp 13) (.tmp 13), some 14, none, 7⟩, ⟨.mv (.tmp 14), some 5, none, 15⟩]
def c_graph_search_r2 : List SOper := [⟨.mv (.tmp 5), some 15, none, 0⟩, ⟨.len (.tmp 15), some 16, none, 1⟩, ⟨.mv (.const (.int .i64 0)), some 17, none, 0⟩]
def c_graph_search_r3 : List SOper := [⟨.bin .lss (.tmp 17) (.tmp 16), some 18, none, 0⟩]
def c_graph_search_r4 : List SOper := [⟨.mv (.tmp 17), some 19, none, 0⟩, ⟨.mv (.tmp 19), some 6, none, 1⟩]
def c_graph_search_r5 : List SOper := [⟨.mv (.tmp 5), some 20, none, 0⟩, ⟨.mv (.tmp 6), some 21, none, 0⟩, ⟨.idx 1 (.tmp 20) (.tmp 21), some 22, none, 3⟩, ⟨.store 1 (.tmp 22) (.const (.int .i64 (-1))), none, none, 7⟩]
def c_graph_search_r6 : List SOper := [⟨.bin .add (.tmp 17) (.const (.int .i64 1)), some 23, none, 0⟩, ⟨.mv (.tmp 23), some 17, none, 1⟩]
def c_graph_search_r7 : List SOper := [⟨.mv (.tmp 5), some 24, none, 0⟩, ⟨.mv (.tmp 1), some 25, none, 0⟩, ⟨.idx 1 (.tmp 24) (.tmp 25), some 26, none, 3⟩, ⟨.store 1 (.tmp 26) (.const (.int .i64 0)), none, none, 7⟩]
def c_graph_search_r8 : List SOper := [⟨.mv (.tmp 1), some 27, none, 0⟩, ⟨.bslice 3 1 1 [.i .i64 0] [(0, 1, (.tmp 27))], some 28, none, 1⟩, ⟨.mv (.tmp 28), some 7, none, 3⟩]
def c_graph_search_r9 : List SOper := [⟨.mv (.tmp 7), some 29, none, 0⟩, ⟨.len (.tmp 29), some 30, none, 1⟩, ⟨.bin .gtr (.tmp 30) (.const (.int .i64 0)), some 31, none, 3⟩]
def c_graph_search_r10 : List SOper := [⟨.mv (.tmp 7), some 32, none, 0⟩, ⟨.idx 1 (.tmp 32) (.const (.int .i64 0)), some 33, none, 1⟩, ⟨.load false 1 (.tmp 33), some 34, none, 3⟩, ⟨.mv (.tmp 34), some 8, none, 7⟩]
def c_graph_search_r11 : List SOper := [⟨.mv (.tmp 7), some 35, none, 0⟩, ⟨.cut 1 (.tmp 35) (some (.const (.int .i64 1))) none, some 36, none, 1⟩, ⟨.mv (.tmp 36), some 7, none, 3⟩]
def c_graph_search_r12 : List SOper := [⟨.faddr 1 1 (.tmp 2), some 37, none, 0⟩, ⟨.load false 1 (.tmp 37), some 38, none, 1⟩, ⟨.mv (.tmp 8), some 39, none, 0⟩, ⟨.idx 1 (.tmp 38) (.tmp 39), some 40, none, 7⟩, ⟨.load false 1 (.tmp 40), some 41, none, 15⟩, ⟨.len (.tmp 41), some 42, none, 31⟩, ⟨.mv (.const (.int .i64 0)), some 43, none, 0⟩]
def c_graph_search_r13 : List SOper := [⟨.bin .lss (.tmp 43) (.tmp 42), some 44, none, 0⟩]
def c_graph_search_r14 : List SOper := [⟨.idx 2 (.tmp 41) (.tmp 43), some 45, none, 0⟩, ⟨.load true 2 (.tmp 45), some 46, none, 1⟩, ⟨.alloc 54 1 [.i .i64 0, .i .i64 0], some 10, none, 0⟩, ⟨.store 2 (.tmp 10) (.tmp 46), none, none, 7⟩]
def c_graph_search_r15 : List SOper := [⟨.mv (.tmp 5), some 47, none, 0⟩, ⟨.faddr 0 1 (.tmp 10), some 48, none, 0⟩, ⟨.load false 1 (.tmp 48), some 49, none, 2⟩, ⟨.idx 1 (.tmp 47) (.tmp 49), some 50, none, 7⟩, ⟨.load false 1 (.tmp 50), some 51, none, 15⟩, ⟨.bin .lss (.tmp 51) (.const (.int .i64 0)), some 52, none, 31⟩]
def c_graph_search_r16 : List SOper := [⟨.mv (.tmp 5), some 53, none, 0⟩, ⟨.faddr 0 1 (.tmp 10), some 54, none, 0⟩, ⟨.load false 1 (.tmp 54), some 55, none, 2⟩, ⟨.mv (.tmp 5), some 56, none, 0⟩, ⟨.mv (.tmp 8), some 57, none, 0⟩, ⟨.idx 1 (.tmp 56) (.tmp 57), some 58, none, 24⟩, ⟨.load false 1 (.tmp 58), some 59, none, 56⟩, ⟨.bin .add (.tmp 59) (.const (.int .i64 1)), some 60, none, 120⟩, ⟨.idx 1 (.tmp 53) (.tmp 55), some 61, none, 255⟩, ⟨.store 1 (.tmp 61) (.tmp 60), none, none, 511⟩]
def c_graph_search_r17 : List SOper := [⟨.mv (.tmp 7), some 62, none, 0⟩, ⟨.faddr 0 1 (.tmp 10), some 63, none, 0⟩, ⟨.load false 1 (.tmp 63), some 64, none, 2⟩, ⟨.bslice 3 1 1 [.i .i64 0] [(0, 1, (.tmp 64))], some 65, none, 6⟩, ⟨.app 3 1 8 (.tmp 62) (.tmp 65), some 66, none, 15⟩, ⟨.mv (.tmp 66), some 7, none, 31⟩]
def c_graph_search_r18 : List SOper := [⟨.bin .add (.tmp 43) (.const (.int .i64 1)), some 67, none, 0⟩, ⟨.mv (.tmp 67), some 43, none, 1⟩]
def c_graph_search_r19 : List SOper := [⟨.mv (.tmp 5), some 68, none, 0⟩, ⟨.mv (.tmp 68), some 4, none, 1⟩]
def c_graph_search : SC := (.seq (.reg false c_graph_search_r0) (.seq (.reg false c_graph_search_r1) (.seq (.seq (.reg false c_graph_search_r2) (.block 0 (.loop (.seq (.reg false c_graph_search_r3) (.seq (.cond (.tmp 18) .skip (.exit 0)) (.seq (.block 1 (.seq (.reg false c_graph_search_r4) (.reg false c_graph_search_r5))) (.reg false c_graph_search_r6))))))) (.seq (.reg false c_graph_search_r7) (.seq (.reg false c_graph_search_r8) (.seq (.block 2 (.loop (.seq (.seq (.reg false c_graph_search_r9) (.cond (.tmp 31) .skip (.exit 2))) (.block 3 (.seq (.reg false c_graph_search_r10) (.seq (.reg false c_graph_search_r11) (.seq (.reg false c_graph_search_r12) (.block 4 (.loop (.seq (.reg false c_graph_search_r13) (.seq (.cond (.tmp 44) .skip (.exit 4)) (.seq (.block 5 (.seq (.reg false c_graph_search_r14) (.seq (.reg false c_graph_search_r15) (.cond (.tmp 52) (.seq (.reg true c_graph_search_r16) (.reg false c_graph_search_r17)) .skip)))) (.reg false c_graph_search_r18))))))))))))) (.seq (.reg false c_graph_search_r19) .ret)))))))
theorem c_graph_search_cmp : (Try.f74.body.bind (cmp Try.prog Try.f74.ntmps)) = some c_graph_search := by kernel_rfl
theorem c_graph_search_ok (args : List SV) (Q : SV → Prop) (h : vc ⟨Ct Try.prog, Cm Try.prog, [], []⟩ c_graph_search (retK [.t 4] Q) ⟨slots args 0, []⟩) : Ct Try.prog 74 args Q := fn_ok Try.func74 c_graph_search_cmp (rs := [.t 4]) (by kernel_rfl) h
theorem c_graph_search_okU (mu : List FuncId) (args : List SV) (Q : SV → Prop) (h : vc ⟨Ct Try.prog, Cm Try.prog, [], mu⟩ c_graph_search (retK [.t 4] Q) ⟨slots args 0, []⟩) : Ct Try.prog 74 args Q := fn_ok Try.func74 c_graph_search_cmp (rs := [.t 4]) (by kernel_rfl) h
theorem c_graph_search_okM (pr : List Nm) (mu : List FuncId) (o : Own) (args : List SV) (Q : SV → Own → Prop) (h : vc ⟨Ct Try.prog, Cm Try.prog, pr, mu⟩ c_graph_search (retM [.t 4] pr Q) ⟨slots args 0, o⟩) : Cm Try.prog 74 pr o args Q := fnM_ok Try.func74 c_graph_search_cmp (rs := [.t 4]) (by kernel_rfl) h
-- graph.greatest
def c_graph_greatest_r0 : List SOper := [⟨.mv (.const (.int .i64 0)), some 2, none, 0⟩]
def c_graph_greatest_r1 : List SOper := [⟨.mv (.const (.int .i64 (-1))), some 3, none, 0⟩]
def c_graph_greatest_r2 : List SOper := [⟨.mv (.tmp 0), some 6, none, 0⟩, ⟨.len (.tmp 6), some 7, none, 1⟩, ⟨.mv (.const (.int .i64 0)), some 8, none, 0⟩]
def c_graph_greatest_r3 : List SOper := [⟨.bin .lss (.tmp 8) (.tmp 7), some 9, none, 0⟩]
def c_graph_greatest_r4 : List SOper := [⟨.idx 1 (.tmp 6) (.tmp 8), some 10, none, 0⟩, ⟨.load false 1 (.tmp 10), some 11, none, 1⟩, ⟨.mv (.tmp 11), some 5, none, 3⟩]
def c_graph_greatest_r5 : List SOper := [⟨.mv (.tmp 3), some 12, none, 0⟩, ⟨.mv (.tmp 5), some 13, none, 0⟩, ⟨.mm true (.tmp 12) (.tmp 13), some 14, none, 3⟩, ⟨.mv (.tmp 14), some 3, none, 7⟩]
def c_graph_greatest_r6 : List SOper := [⟨.bin .add (.tmp 8) (.const (.int .i64 1)), some 15, none, 0⟩, ⟨.mv (.tmp 15), some 8, none, 1⟩]
def c_graph_greatest_r7 : List SOper := [⟨.mv (.tmp 3), some 16, none, 0⟩, ⟨.mv (.tmp 16), some 2, none, 1⟩]
def c_graph_greatest : SC := (.seq (.reg false c_graph_greatest_r0) (.seq (.reg false c_graph_greatest_r1) (.seq (.seq (.reg false c_graph_greatest_r2) (.block 0 (.loop (.seq (.reg false c_graph_greatest_r3) (.seq (.cond (.tmp 9) .skip (.exit 0)) (.seq (.block 1 (.seq (.reg false c_graph_greatest_r4) (.reg false c_graph_greatest_r5))) (.reg false c_graph_greatest_r6))))))) (.seq (.reg false c_graph_greatest_r7) .ret))))
theorem c_graph_greatest_cmp : (Try.f83.body.bind (cmp Try.prog Try.f83.ntmps)) = some c_graph_greatest := by kernel_rfl
theorem c_graph_greatest_ok (args : List SV) (Q : SV → Prop) (h : vc ⟨Ct Try.prog, Cm Try.prog, [], []⟩ c_graph_greatest (retK [.t 2] Q) ⟨slots args 0, []⟩) : Ct Try.prog 83 args Q := fn_ok Try.func83 c_graph_greatest_cmp (rs := [.t 2]) (by kernel_rfl) h
theorem c_graph_greatest_okU (mu : List FuncId) (args : List SV) (Q : SV → Prop) (h : vc ⟨Ct Try.prog, Cm Try.prog, [], mu⟩ c_graph_greatest (retK [.t 2] Q) ⟨slots args 0, []⟩) : Ct Try.prog 83 args Q := fn_ok Try.func83 c_graph_greatest_cmp (rs := [.t 2]) (by kernel_rfl) h
theorem c_graph_greatest_okM (pr : List Nm) (mu : List FuncId) (o : Own) (args : List SV) (Q : SV → Own → Prop) (h : vc ⟨Ct Try.prog, Cm Try.prog, pr, mu⟩ c_graph_greatest (retM [.t 2] pr Q) ⟨slots args 0, o⟩) : Cm Try.prog 83 pr o args Q := fnM_ok Try.func83 c_graph_greatest_cmp (rs := [.t 2]) (by kernel_rfl) h
-- graph.Connected
def c_graph_Connected_r0 : List SOper := [⟨.box 25 (.tmp 0), some 1, none, 0⟩, ⟨.mv (.const (.bool false)), some 2, none, 0⟩]
def c_graph_Connected_r1 : List SOper := [⟨.load true 2 (.tmp 1), some 5, none, 0⟩, ⟨.call (.func 73) [(.tmp 5)], some 6, none, 1⟩, ⟨.un .not (.tmp 6), some 7, none, 3⟩]
def c_graph_Connected_r2 : List SOper := [⟨.mv (.const (.bool false)), some 2, none, 0⟩]
def c_graph_Connected_r3 : List SOper := [⟨.load true 2 (.tmp 1), some 8, none, 0⟩, ⟨.call (.func 74) [(.tmp 8), (.const (.int .i64 0))], some 9, none, 1⟩, ⟨.len (.tmp 9), some 10, none, 3⟩, ⟨.mv (.const (.int .i64 0)), some 11, none, 0⟩]
def c_graph_Connected_r4 : List SOper := [⟨.bin .lss (.tmp 11) (.tmp 10), some 12, none, 0⟩]
def c_graph_Connected_r5 : List SOper := [⟨.idx 1 (.tmp 9) (.tmp 11), some 13, none, 0⟩, ⟨.load false 1 (.tmp 13), some 14, none, 1⟩, ⟨.mv (.tmp 14), some 4, none, 3⟩]
def c_graph_Connected_r6 : List SOper := [⟨.mv (.tmp 4), some 15, none, 0⟩, ⟨.bin .lss (.tmp 15) (.const (.int .i64 0)), some 16, none, 1⟩]
def c_graph_Connected_r7 : List SOper := [⟨.mv (.const (.bool false)), some 2, none, 0⟩]
def c_graph_Connected_r8 : List SOper := [⟨.bin .add (.tmp 11) (.const (.int .i64 1)), some 17, none, 0⟩, ⟨.mv (.tmp 17), some 11, none, 1⟩]
def c_graph_Connected_r9 : List SOper := [⟨.mv (.const (.bool true)), some 2, none, 0⟩]
def c_graph_Connected : SC := (.seq (.reg false c_graph_Connected_r0) (.seq (.seq (.reg false c_graph_Connected_r1) (.cond (.tmp 7) (.seq (.reg false c_graph_Connected_r2) .ret) .skip)) (.seq (.seq (.reg false c_graph_Connected_r3) (.block 0 (.loop (.seq (.reg false c_graph_Connected_r4) (.seq (.cond (.tmp 12) .skip (.exit 0)) (.seq (.block 1 (.seq (.reg false c_graph_Connected_r5) (.seq (.reg false c_graph_Connected_r6) (.cond (.tmp 16) (.seq (.reg false c_graph_Connected_r7) .ret) .skip)))) (.reg false c_graph_Connected_r8))))))) (.seq (.reg false c_graph_Connected_r9) .ret))))
theorem c_graph_Connected_cmp : (Try.f38.body.bind (cmp Try.prog Try.f38.ntmps)) = some c_graph_Connected := by kernel_rfl
theorem c_graph_Connected_ok (args : List SV) (Q : SV → Prop) (h : vc ⟨Ct Try.prog, Cm Try.prog, [], []⟩ c_graph_Connected (retK [.t 2] Q) ⟨slots args 0, []⟩) : Ct Try.prog 38 args Q := fn_ok Try.func38 c_graph_Connected_cmp (rs := [.t 2]) (by kernel_rfl) h
theorem c_graph_Connected_okU (mu : List FuncId) (args : List SV) (Q : SV → Prop) (h : vc ⟨Ct Try.prog, Cm Try.prog, [], mu⟩ c_graph_Connected (retK [.t 2] Q) ⟨slots args 0, []⟩) : Ct Try.prog 38 args Q := fn_ok Try.func38 c_graph_Connected_cmp (rs := [.t 2]) (by kernel_rfl) h
theorem c_graph_Connected_okM (pr : List Nm) (mu : List FuncId) (o : Own) (args : List SV) (Q : SV → Own → Prop) (h : vc ⟨Ct Try.prog, Cm Try.prog, pr, mu⟩ c_graph_Connected (retM [.t 2] pr Q) ⟨slots args 0, o⟩) : Cm Try.prog 38 pr o args Q := fnM_ok Try.func38 c_graph_Connected_cmp (rs := [.t 2]) (by kernel_rfl) h
-- graph.Distances
def c_graph_Distances_r0 : List SOper := [⟨.box 25 (.tmp 0), some 2, none, 0⟩, ⟨.mv (.const (.slice none 0 0)), some 4, none, 0⟩]
def c_graph_Distances_r1 : List SOper := [⟨.load true 2 (.tmp 2), some 5, none, 0⟩, ⟨.call (.func 73) [(.tmp 5)], some 6, none, 1⟩, ⟨.un .not (.tmp 6), some 7, none, 3⟩, ⟨.mv (.tmp 7), some 8, none, 7⟩, ⟨.mv (.tmp 1), some 9, some (8, false), 15⟩, ⟨.bin .lss (.tmp 9) (.const (.int .i64 0)), some 10, some (8, false), 31⟩, ⟨.pick (.tmp 8) (.const (.bool true)) (.tmp 10), some 11, none, 63⟩, ⟨.mv (.tmp 11), some 12, none, 127⟩, ⟨.mv (.tmp 1), some 13, some (12, false), 255⟩, ⟨.faddr 1 1 (.tmp 2), some 14, some (12, false), 255⟩, ⟨.load false 1 (.tmp 14), some 15, some (12, false), 767⟩, ⟨.len (.tmp 15), some 16, some (12, false), 1791⟩, ⟨.bin .geq (.tmp 13) (.tmp 16), some 17, some (12, false), 4095⟩, ⟨.pick (.tmp 12) (.const (.bool true)) (.tmp 17), some 18, none, 8191⟩]
def c_graph_Distances_r2 : List SOper := [⟨.mv (.const (.slice none 0 0)), some 4, none, 0⟩]
def c_graph_Distances_r3 : List SOper := [⟨.load true 2 (.tmp 2), some 19, none, 0⟩, ⟨.mv (.tmp 1), some 20, none, 0⟩, ⟨.call (.func 74) [(.tmp 19), (.tmp 20)], some 21, none, 3⟩, ⟨.mv (.tmp 21), some 4, none, 7⟩]
def c_graph_Distances : SC := (.seq (.reg false c_graph_Distances_r0) (.seq (.seq (.reg false c_graph_Distances_r1) (.cond (.tmp 18) (.seq (.reg false c_graph_Distances_r2) .ret) .skip)) (.seq (.reg false c_graph_Distances_r3) .ret)))
theorem c_graph_Distances_cmp : (Try.f41.body.bind (cmp Try.prog Try.f41.ntmps)) = some c_graph_Distances := by kernel_rfl
theorem c_graph_Distances_ok (args : List SV) (Q : SV → Prop) (h : vc ⟨Ct Try.prog, Cm Try.prog, [], []⟩ c_graph_Distances (retK [.t 4] Q) ⟨slots args 0, []⟩) : Ct Try.prog 41 args Q := fn_ok Try.func41 c_graph_Distances_cmp (rs := [.t 4]) (by kernel_rfl) h
theorem c_graph_Distances_okU (mu : List FuncId) (args : List SV) (Q : SV → Prop) (h : vc ⟨Ct Try.prog, Cm Try.prog, [], mu⟩ c_graph_Distances (retK [.t 4] Q) ⟨slots args 0, []⟩) : Ct Try.prog 41 args Q := fn_ok Try.func41 c_graph_Distances_cmp (rs := [.t 4]) (by kernel_rfl) h
theorem c_graph_Distances_okM (pr : List Nm) (mu : List FuncId) (o : Own) (args : List SV) (Q : SV → Own → Prop) (h : vc ⟨Ct Try.prog, Cm Try.prog, pr, mu⟩ c_graph_Distances (retM [.t 4] pr Q) ⟨slots args 0, o⟩) : Cm Try.prog 41 pr o args Q := fnM_ok Try.func41 c_graph_Distances_cmp (rs := [.t 4]) (by kernel_rfl) h
-- graph.Eccentricity
def c_graph_Eccentricity_r0 : List SOper := [⟨.box 25 (.tmp 0), some 2, none, 0⟩, ⟨.mv (.const (.int .i64 0)), some 4, none, 0⟩]
def c_graph_Eccentricity_r1 : List SOper := [⟨.load true 2 (.tmp 2), some 5, none, 0⟩, ⟨.call (.func 38) [(.tmp 5)], some 6, none, 1⟩, ⟨.un .not (.tmp 6), some 7, none, 3⟩, ⟨.mv (.tmp 7), some 8, none, 7⟩, ⟨.mv (.tmp 1), some 9, some (8, false), 15⟩, ⟨.bin .lss (.tmp 9) (.const (.int .i64 0)), some 10, some (8, false), 31⟩, ⟨.pick (.tmp 8) (.const (.bool true)) (.tmp 10), some 11, none, 63⟩, ⟨.mv (.tmp 11), some 12, none, 127⟩, ⟨.mv (.tmp 1), some 13, some (12, false), 255⟩, ⟨.faddr 1 1 (.tmp 2), some 14, some (12, false), 255⟩, ⟨.load false 1 (.tmp 14), some 15, some (12, false), 767⟩, ⟨.len (.tmp 15), some 16, some (12, false), 1791⟩, ⟨.bin .geq (.tmp 13) (.tmp 16), some 17, some (12, false), 4095⟩, ⟨.pick (.tmp 12) (.const (.bool true)) (.tmp 17), some 18, none, 8191⟩]
def c_graph_Eccentricity_r2 : List SOper := [⟨.mv (.const (.int .i64 (-1))), some 4, none, 0⟩]
def c_graph_Eccentricity_r3 : List SOper := [⟨.load true 2 (.tmp 2), some 19, none, 0⟩, ⟨.mv (.tmp 1), some 20, none, 0⟩, ⟨.call (.func 74) [(.tmp 19), (.tmp 20)], some 21, none, 3⟩, ⟨.call (.func 83) [(.tmp 21)], some 22, none, 7⟩, ⟨.mv (.tmp 22), some 4, none, 15⟩]
def c_graph_Eccentricity : SC := (.seq (.reg false c_graph_Eccentricity_r0) (.seq (.seq (.reg false c_graph_Eccentricity_r1) (.cond (.tmp 18) (.seq (.reg false c_graph_Eccentricity_r2) .ret) .skip)) (.seq (.reg false c_graph_Eccentricity_r3) .ret)))
theorem c_graph_Eccentricity_cmp : (Try.f46.body.bind (cmp Try.prog Try.f46.ntmps)) = some c_graph_Eccentricity := by kernel_rfl
theorem c_graph_Eccentricity_ok (args : List SV) (Q : SV → Prop) (h : vc ⟨Ct Try.prog, Cm Try.prog, [], []⟩ c_graph_Eccentricity (retK [.t 4] Q) ⟨slots args 0, []⟩) : Ct Try.prog 46 args Q := fn_ok Try.func46 c_graph_Eccentricity_cmp (rs := [.t 4]) (by kernel_rfl) h
theorem c_graph_Eccentricity_okU (mu : List FuncId) (args : List SV) (Q : SV → Prop) (h : vc ⟨Ct Try.prog, Cm Try.prog, [], mu⟩ c_graph_Eccentricity (retK [.t 4] Q) ⟨slots args 0, []⟩) : Ct Try.prog 46 args Q := fn_ok Try.func46 c_graph_Eccentricity_cmp (rs := [.t 4]) (by kernel_rfl) h
theorem c_graph_Eccentricity_okM (pr : List Nm) (mu : List FuncId) (o : Own) (args : List SV) (Q : SV → Own → Prop) (h : vc ⟨Ct Try.prog, Cm Try.prog, pr, mu⟩ c_graph_Eccentricity (retM [.t 4] pr Q) ⟨slots args 0, o⟩) : Cm Try.prog 46 pr o args Q := fnM_ok Try.func46 c_graph_Eccentricity_cmp (rs := [.t 4]) (by kernel_rfl) h
-- MISSING eval.truth
-- MISSING eval.saturated
-- MISSING eval.unary
-- MISSING eval.binary
-- MISSING eval.quotient
-- MISSING eval.compared
-- MISSING eval.fold
-- MISSING eval.fold$1
-- MISSING eval.count
-- MISSING eval.twoGreatest
-- MISSING eval.mex
-- MISSING eval.NewScene
-- MISSING (*eval.Scene).Fact
-- MISSING (*eval.Scene).Value
-- MISSING (*eval.Scene).Guard
-- MISSING (*eval.walk).value
-- MISSING (*eval.walk).leaf
-- MISSING (*eval.walk).aggregate
end Sh
end Go.Proofs.Ytlfojfndkcmfnaa
namespace Go.Proofs.Ytlfojfndkcmfnaa

def adj (g : Gr) (u v : Nat) : Prop := ∃ ls, g.ports[u]? = some ls ∧ ∃ l ∈ ls, l.1 = (v : Int)
def Walk (g : Gr) (a : Nat) : Nat → Nat → Prop
  | 0, v => v = a
  | k + 1, v => ∃ u, Walk g a k u ∧ adj g u v
/-- x is the distance of v from a: -1 if no walk leads there. -/
def DistVal (g : Gr) (a v : Nat) (x : Int) : Prop := (x = -1 ∧ ∀ k, ¬ Walk g a k v) ∨ ∃ k : Nat, x = k ∧ Walk g a k v ∧ ∀ j, j < k → ¬ Walk g a j v
def IsDist (g : Gr) (a : Nat) (D : List Int) : Prop := D.length = g.ports.length ∧ ∀ v x, D[v]? = some x → DistVal g a v x

theorem DistVal.unique {g : Gr} {a v : Nat} {x y : Int} (h : DistVal g a v x) (h' : DistVal g a v y) : x = y := by
  rcases h with ⟨rfl, h1⟩ | ⟨k, rfl, h1, h2⟩ <;> rcases h' with ⟨rfl, h3⟩ | ⟨j, rfl, h3, h4⟩
  · rfl
  · exact absurd h3 (h1 j)
  · exact absurd h1 (h3 k)
  · rcases Nat.lt_trichotomy k j with h | h | h
    · exact absurd h1 (h4 k h)
    · rw [h]
    · exact absurd h3 (h2 j h)
theorem IsDist.unique {g : Gr} {a : Nat} {D D' : List Int} (h : IsDist g a D) (h' : IsDist g a D') : D = D' := by
  apply List.ext_getElem (by rw [h.1, h'.1])
  intro i h1 h2
  exact (h.2 i _ (List.getElem?_eq_getElem h1)).unique (h'.2 i _ (List.getElem?_eq_getElem h2))

theorem GoodG.link {g : Gr} (h : GoodG g) {v : Nat} {ls : List (Int × Int)} (hv : g.ports[v]? = some ls) {l : Int × Int} (hl : l ∈ ls) : 0 ≤ l.1 ∧ l.1 < g.ports.length ∧ l.1 ≠ v ∧ 1 ≤ l.2 ∧ l.2 ≤ 15 := by
  obtain ⟨hlt, e⟩ := List.getElem?_eq_some_iff.1 hv
  have := (h.2.2.2.2.2.1 ⟨v, hlt⟩).1 l (by simp only [Fin.getElem_fin, e]; exact hl)
  unfold linkOk at this
  simp only at this
  omega
theorem GoodG.adj_lt {g : Gr} (h : GoodG g) {u v : Nat} (ha : adj g u v) : u < g.ports.length ∧ v < g.ports.length := by
  obtain ⟨ls, h1, l, hl, e⟩ := ha
  have := h.link h1 hl
  exact ⟨(List.getElem?_eq_some_iff.1 h1).1, by omega⟩
theorem GoodG.adj_symm {g : Gr} (h : GoodG g) {u v : Nat} (ha : adj g u v) : adj g v u := by
  obtain ⟨hu, hv⟩ := h.adj_lt ha
  obtain ⟨ls, h1, l, hl, e⟩ := ha
  obtain ⟨hlt, e1⟩ := List.getElem?_eq_some_iff.1 h1
  have := h.2.2.2.2.2.2 ⟨u, hlt⟩ l (by simp only [Fin.getElem_fin, e1]; exact hl)
  rw [e, Int.toNat_natCast] at this
  simp only [List.getD, List.getElem?_eq_getElem hv, Option.getD_some] at this
  exact ⟨_, List.getElem?_eq_getElem hv, _, this, rfl⟩

/-- What holds at the head of the search's loop: R: the distances found so far, Q: the queue. -/
structure BfsInv (g : Gr) (a : Nat) (R : List Int) (Q : List Nat) : Prop where
  len : R.length = g.ports.length
  src : R[a]? = some 0
  val : ∀ (v : Nat) (x : Int), R[v]? = some x → x = -1 ∨ ∃ k : Nat, x = k ∧ Walk g a k v ∧ ∀ j, j < k → ¬ Walk g a j v
  qin : ∀ q ∈ Q, ∃ k : Nat, R[q]? = some (k : Int)
  sorted : Q.Pairwise (fun p q => ∀ x y, R[p]? = some x → R[q]? = some y → x ≤ y ∧ y ≤ x + 1)
  done : ∀ (v k : Nat), R[v]? = some (k : Int) → v ∉ Q → ∀ u, adj g v u → ∃ j : Nat, R[u]? = some (j : Int)

/-- In the middle of node v's links: i of them have been looked at. -/
structure BfsIn (g : Gr) (a v d : Nat) (ls : List (Int × Int)) (i : Nat) (R : List Int) (Q : List Nat) : Prop where
  len : R.length = g.ports.length
  src : R[a]? = some 0
  val : ∀ (v : Nat) (x : Int), R[v]? = some x → x = -1 ∨ ∃ k : Nat, x = k ∧ Walk g a k v ∧ ∀ j, j < k → ¬ Walk g a j v
  qin : ∀ q ∈ Q, ∃ k : Nat, R[q]? = some (k : Int)
  sorted : Q.Pairwise (fun p q => ∀ x y, R[p]? = some x → R[q]? = some y → x ≤ y ∧ y ≤ x + 1)
  rv : R[v]? = some (d : Int)
  low : ∀ q ∈ Q, ∀ y, R[q]? = some y → (d : Int) ≤ y ∧ y ≤ d + 1
  done : ∀ (u k : Nat), R[u]? = some (k : Int) → u ∉ Q → u ≠ v → ∀ t, adj g u t → ∃ j : Nat, R[t]? = some (j : Int)
  part : ∀ l ∈ ls.take i, ∃ j : Nat, R[l.1.toNat]? = some (j : Int)

theorem BfsInv.start {g : Gr} {a : Nat} (ha : a < g.ports.length) : BfsInv g a ((List.replicate g.ports.length (-1)).set a 0) [a] where
  len := by simp
  src := by simp [ha]
  val := by
    intro v x h
    rw [List.getElem?_set] at h
    split at h
    · rename_i e
      subst e
      simp [ha] at h
      subst h
      exact .inr ⟨0, rfl, rfl, fun j hj => absurd hj (by omega)⟩
    · rw [List.getElem?_replicate] at h
      split at h
      · cases h; exact .inl rfl
      · cases h
  qin := by
    intro q hq
    obtain rfl : q = a := by simpa using hq
    exact ⟨0, by simp [ha]⟩
  sorted := by simp
  done := by
    intro v k h hv u _
    rw [List.getElem?_set] at h
    split at h
    · rename_i e
      exact absurd (by simp [e]) hv
    · rw [List.getElem?_replicate] at h
      split at h
      · cases h
      · cases h

theorem BfsInv.pop {g : Gr} {a : Nat} {R : List Int} {v : Nat} {Q : List Nat} (h : BfsInv g a R (v :: Q)) {d : Nat} (hd : R[v]? = some (d : Int)) (ls : List (Int × Int)) : BfsIn g a v d ls 0 R Q where
  len := h.len
  src := h.src
  val := h.val
  qin := fun q hq => h.qin q (List.mem_cons_of_mem _ hq)
  sorted := (List.pairwise_cons.1 h.sorted).2
  rv := hd
  low := fun q hq y hy => (List.pairwise_cons.1 h.sorted).1 q hq _ y hd hy
  done := fun u k hu hq hv t ht => h.done u k hu (by simp [hq, hv]) t ht
  part := by simp

theorem BfsIn.finish {g : Gr} {a v d : Nat} {ls : List (Int × Int)} {R : List Int} {Q : List Nat} (h : BfsIn g a v d ls ls.length R Q) (hls : g.ports[v]? = some ls) : BfsInv g a R Q where
  len := h.len
  src := h.src
  val := h.val
  qin := h.qin
  sorted := h.sorted
  done := by
    intro u k hu hq t ht
    by_cases e : u = v
    · subst e
      obtain ⟨ls', h1, l, hl, e2⟩ := ht
      rw [hls] at h1
      cases h1
      have := h.part l (by rw [List.take_length]; exact hl)
      rwa [e2, Int.toNat_natCast] at this
    · exact h.done u k hu hq e t ht

theorem BfsIn.skip {g : Gr} {a v d : Nat} {ls : List (Int × Int)} {i : Nat} {R : List Int} {Q : List Nat} (h : BfsIn g a v d ls i R Q) (hi : i < ls.length) {j : Nat} (hj : R[ls[i].1.toNat]? = some (j : Int)) : BfsIn g a v d ls (i + 1) R Q :=
  ⟨h.len, h.src, h.val, h.qin, h.sorted, h.rv, h.low, h.done, by
      intro l hl
      rw [take_snoc ls i hi] at hl
      rcases List.mem_append.1 hl with hl | hl
      · exact h.part l hl
      · obtain rfl : l = ls[i] := by simpa using hl
        exact ⟨j, hj⟩⟩

theorem BfsIn.found {g : Gr} {a v d : Nat} {ls : List (Int × Int)} {i : Nat} {R : List Int} {Q : List Nat} (h : BfsIn g a v d ls i R Q) :
    ∀ k, k ≤ d → ∀ t, Walk g a k t → ∃ j : Nat, R[t]? = some (j : Int) := by
  intro k
  induction k with
  | zero => intro _ t ht; obtain rfl : t = a := ht; exact ⟨0, h.src⟩
  | succ k ih =>
    intro hk t ⟨p, hp, hpt⟩
    obtain ⟨j, hj⟩ := ih (by omega) p hp
    have hjk : j ≤ k := by
      rcases h.val p _ hj with e | ⟨k', e, _, hmin⟩
      · omega
      · have : j = k' := by omega
        subst this
        rcases Nat.lt_or_ge k j with hlt | hge
        · exact absurd hp (hmin k hlt)
        · exact hge
    refine h.done p j hj ?_ ?_ t hpt
    · intro hq
      have := (h.low p hq _ hj).1
      omega
    · rintro rfl
      have e1 := h.rv
      rw [hj] at e1
      have e2 := Option.some.inj e1
      omega

theorem BfsIn.discover {g : Gr} {a v d : Nat} {ls : List (Int × Int)} {i : Nat} {R : List Int} {Q : List Nat} (h : BfsIn g a v d ls i R Q) (hls : g.ports[v]? = some ls) (hi : i < ls.length) {u : Nat} (hu : ls[i].1 = (u : Int)) (hR : R[u]? = some (-1)) :
    BfsIn g a v d ls (i + 1) (R.set u ((d : Int) + 1)) (Q ++ [u]) := by
  have hul : u < R.length := (List.getElem?_eq_some_iff.1 hR).1
  have hne : ∀ t (k : Nat), R[t]? = some (k : Int) → t ≠ u := by
    rintro t k ht rfl
    rw [hR] at ht
    have := Option.some.inj ht
    omega
  have hset : ∀ t, t ≠ u → (R.set u ((d : Int) + 1))[t]? = R[t]? := fun t ht => by rw [List.getElem?_set, if_neg (by omega)]
  have hsu : (R.set u ((d : Int) + 1))[u]? = some ((d : Int) + 1) := by rw [List.getElem?_set, if_pos rfl, if_pos hul]
  have keep : ∀ t : Nat, (∃ j : Nat, R[t]? = some (j : Int)) → ∃ j : Nat, (R.set u ((d : Int) + 1))[t]? = some (j : Int) := by
    rintro t ⟨j, hj⟩
    exact ⟨j, by rw [hset t (hne t j hj)]; exact hj⟩
  have hadj : adj g v u := ⟨ls, hls, ls[i], List.getElem_mem hi, hu⟩
  have hnq : u ∉ Q := fun hq => by
    obtain ⟨k, hk⟩ := h.qin u hq
    exact hne u k hk rfl
  refine ⟨by simp [h.len], ?_, ?_, ?_, ?_, ?_, ?_, ?_, ?_⟩
  · rw [hset a (hne a 0 h.src)]; exact h.src
  · intro t x hx
    by_cases e : t = u
    · subst e
      rw [hsu] at hx
      cases hx
      refine .inr ⟨d + 1, by omega, ?_, ?_⟩
      · rcases h.val v _ h.rv with e | ⟨k, e, hk, _⟩
        · omega
        · have : d = k := by omega
          subst this
          exact ⟨v, hk, hadj⟩
      · intro j hj hw
        obtain ⟨k, hk⟩ := h.found j (by omega) t hw
        exact hne t k hk rfl
    · rw [hset t e] at hx
      exact h.val t x hx
  · intro q hq
    rcases List.mem_append.1 hq with hq | hq
    · exact keep q (h.qin q hq)
    · obtain rfl : q = u := by simpa using hq
      exact ⟨d + 1, by rw [hsu]; rfl⟩
  · rw [List.pairwise_append]
    refine ⟨?_, by simp, ?_⟩
    · refine (List.Pairwise.and_mem.1 h.sorted).imp ?_
      rintro p q ⟨hp, hq, hpq⟩ x y hx hy
      rw [hset p (fun e => hnq (e ▸ hp))] at hx
      rw [hset q (fun e => hnq (e ▸ hq))] at hy
      exact hpq x y hx hy
    · intro p hp q hq x y hx hy
      obtain rfl : q = u := by simpa using hq
      rw [hset p (fun e => hnq (e ▸ hp))] at hx
      rw [hsu] at hy
      cases hy
      have := h.low p hp x hx
      omega
  · rw [hset v (hne v d h.rv)]; exact h.rv
  · intro q hq y hy
    rcases List.mem_append.1 hq with hq | hq
    · rw [hset q (fun e => hnq (e ▸ hq))] at hy
      exact h.low q hq y hy
    · obtain rfl : q = u := by simpa using hq
      rw [hsu] at hy
      cases hy
      omega
  · intro t k ht hq hv s hs
    have htu : t ≠ u := fun e => hq (by simp [e])
    rw [hset t htu] at ht
    exact keep s (h.done t k ht (fun hh => hq (List.mem_append_left _ hh)) hv s hs)
  · intro l hl
    rw [take_snoc ls i hi] at hl
    rcases List.mem_append.1 hl with hl | hl
    · exact keep _ (h.part l hl)
    · obtain rfl : l = ls[i] := by simpa using hl
      rw [hu, Int.toNat_natCast]
      exact ⟨d + 1, by rw [hsu]; rfl⟩

theorem BfsInv.isDist {g : Gr} {a : Nat} {R : List Int} (h : BfsInv g a R []) : IsDist g a R := by
  have found : ∀ k t, Walk g a k t → ∃ j : Nat, R[t]? = some (j : Int) := by
    intro k
    induction k with
    | zero => intro t ht; obtain rfl : t = a := ht; exact ⟨0, h.src⟩
    | succ k ih =>
      intro t ⟨p, hp, hpt⟩
      obtain ⟨j, hj⟩ := ih p hp
      exact h.done p j hj (by simp) t hpt
  refine ⟨h.len, fun v x hx => ?_⟩
  rcases h.val v x hx with rfl | h1
  · refine .inl ⟨rfl, fun k hk => ?_⟩
    obtain ⟨j, hj⟩ := found k v hk
    rw [hx] at hj
    have := Option.some.inj hj
    omega
  · exact .inr h1

/-- How many nodes have not been found. -/
def unfound (R : List Int) : Nat := R.countP (fun x => decide (x < 0))
theorem unfound_set {R : List Int} {u : Nat} {x : Int} (hR : R[u]? = some (-1)) (hx : 0 ≤ x) : unfound (R.set u x) + 1 = unfound R := by
  obtain ⟨hlt, e⟩ := List.getElem?_eq_some_iff.1 hR
  have h1 : R = R.take u ++ R[u] :: R.drop (u + 1) := by rw [List.getElem_cons_drop, List.take_append_drop]
  have h2 : R.set u x = R.take u ++ x :: R.drop (u + 1) := by rw [List.set_eq_take_append_cons_drop, if_pos hlt]
  have hx' : decide (x < 0) = false := by simp; omega
  unfold unfound
  rw [h2]
  conv => rhs; rw [h1]
  rw [List.countP_append, List.countP_append, List.countP_cons, List.countP_cons, e, hx']
  simp
  omega
end Go.Proofs.Ytlfojfndkcmfnaa
namespace Go.Proofs.Ytlfojfndkcmfnaa

/-- Node v has a link to a node whose entry is x. -/
def hasAt (R : List Int) (x : Int) (ls : List (Int × Int)) : Bool := ls.any (fun l => decide (R[l.1.toNat]? = some x))
def stepV (g : Gr) (d : Int) (R : List Int) (v : Nat) : List Int :=
  if decide (R.getD v 0 < 0) && hasAt R (d - 1) (g.ports.getD v []) then R.set v d else R
def stepD (g : Gr) (R : List Int) (d : Nat) : List Int := (List.range g.ports.length).foldl (stepV g d) R
def start (g : Gr) (a : Nat) : List Int := (List.replicate g.ports.length (-1)).set a 0
/-- The distances from node a. -/
def distL (g : Gr) (a : Nat) : List Int := (List.range (g.ports.length - 1)).foldl (fun R d => stepD g R (d + 1)) (start g a)

/-- What is known of node v when all distances up to d have been found. -/
def Upto (g : Gr) (a d v : Nat) (x : Int) : Prop := (x = -1 ∧ ∀ k, k ≤ d → ¬ Walk g a k v) ∨ ∃ k : Nat, k ≤ d ∧ x = k ∧ Walk g a k v ∧ ∀ j, j < k → ¬ Walk g a j v

theorem Upto.eq {g : Gr} {a d v : Nat} {x : Int} (h : Upto g a d v x) {k : Nat} (hk : k ≤ d) : x = k ↔ Walk g a k v ∧ ∀ j, j < k → ¬ Walk g a j v := by
  rcases h with ⟨rfl, h1⟩ | ⟨i, hi, rfl, h1, h2⟩
  · exact ⟨fun e => by omega, fun e => absurd e.1 (h1 k hk)⟩
  · constructor
    · intro e
      obtain rfl : i = k := by omega
      exact ⟨h1, h2⟩
    · rintro ⟨h3, h4⟩
      rcases Nat.lt_trichotomy i k with h | h | h
      · exact absurd h1 (h4 i h)
      · omega
      · exact absurd h3 (h2 k h)

theorem Upto.more {g : Gr} {a d v : Nat} {x : Int} (h : Upto g a d v x) (hx : 0 ≤ x) : Upto g a (d + 1) v x := by
  rcases h with ⟨rfl, h1⟩ | ⟨i, hi, rfl, h1, h2⟩
  · omega
  · exact .inr ⟨i, by omega, rfl, h1, h2⟩

structure LayerInv (g : Gr) (a d v : Nat) (R : List Int) : Prop where
  len : R.length = g.ports.length
  new : ∀ (u : Nat) (x : Int), R[u]? = some x → u < v → Upto g a (d + 1) u x
  old : ∀ (u : Nat) (x : Int), R[u]? = some x → v ≤ u → Upto g a d u x

theorem LayerInv.at_ {g : Gr} {a d v : Nat} {R : List Int} (h : LayerInv g a d v R) {u : Nat} (hu : u < g.ports.length) : R[u]? = some (d : Int) ↔ Walk g a d u ∧ ∀ j, j < d → ¬ Walk g a j u := by
  have hl := h.len
  have e : R[u]? = some R[u] := List.getElem?_eq_getElem (by omega)
  have hx : R[u] = (d : Int) ↔ Walk g a d u ∧ ∀ j, j < d → ¬ Walk g a j u := by
    by_cases hv : u < v
    · exact (h.new u _ e hv).eq (by omega)
    · exact (h.old u _ e (by omega)).eq (by omega)
  rw [e]
  simpa using hx

theorem LayerInv.step {g : Gr} (hg : GoodG g) {a d v : Nat} {R : List Int} (h : LayerInv g a d v R) (hv : v < g.ports.length) : LayerInv g a d (v + 1) (stepV g ((d : Int) + 1) R v) := by
  have hlen := h.len
  have ev : R[v]? = some R[v] := List.getElem?_eq_getElem (by omega)
  have eg : R.getD v 0 = R[v] := by simp [List.getD, ev]
  have ep : g.ports.getD v [] = g.ports[v] := by simp [List.getD, List.getElem?_eq_getElem hv]
  have hhas : hasAt R ((d : Int) + 1 - 1) g.ports[v] = true ↔ ∃ u, adj g u v ∧ Walk g a d u ∧ ∀ j, j < d → ¬ Walk g a j u := by
    unfold hasAt
    rw [List.any_eq_true]
    constructor
    · rintro ⟨l, hl, h1⟩
      have hlk := hg.link (List.getElem?_eq_getElem hv) hl
      have h1 := of_decide_eq_true h1
      rw [show (d : Int) + 1 - 1 = d by omega] at h1
      refine ⟨l.1.toNat, hg.adj_symm ⟨_, List.getElem?_eq_getElem hv, l, hl, by omega⟩, ?_⟩
      exact (h.at_ (by omega)).1 h1
    · rintro ⟨u, hu, hw⟩
      obtain ⟨hu1, _⟩ := hg.adj_lt hu
      obtain ⟨ls, h1, l, hl, e⟩ := hg.adj_symm hu
      rw [List.getElem?_eq_getElem hv] at h1
      cases h1
      refine ⟨l, hl, decide_eq_true ?_⟩
      rw [e, Int.toNat_natCast, show (d : Int) + 1 - 1 = d by omega]
      exact (h.at_ hu1).2 hw
  have hov := h.old v _ ev (Nat.le_refl _)
  unfold stepV
  rw [eg, ep]
  by_cases c1 : R[v] < 0
  · have hx : R[v] = -1 ∧ ∀ k, k ≤ d → ¬ Walk g a k v := by
      rcases hov with h1 | ⟨k, _, e, _⟩
      · exact h1
      · omega
    by_cases c2 : hasAt R ((d : Int) + 1 - 1) g.ports[v] = true
    · rw [if_pos (by rw [Bool.and_eq_true]; exact ⟨decide_eq_true c1, c2⟩)]
      obtain ⟨p, hp, hw, _⟩ := hhas.1 c2
      have hset : ∀ t, t ≠ v → (R.set v ((d : Int) + 1))[t]? = R[t]? := fun t ht => by rw [List.getElem?_set, if_neg (by omega)]
      refine ⟨by simp [hlen], fun u x hu huv => ?_, fun u x hu huv => ?_⟩
      · by_cases e : u = v
        · subst e
          rw [List.getElem?_set, if_pos rfl, if_pos (by omega)] at hu
          cases hu
          exact .inr ⟨d + 1, Nat.le_refl _, by omega, ⟨p, hw, hp⟩, fun j hj => hx.2 j (by omega)⟩
        · rw [hset u e] at hu
          exact h.new u x hu (by omega)
      · rw [hset u (by omega)] at hu
        exact h.old u x hu (by omega)
    · rw [if_neg (fun e => c2 (Bool.and_eq_true _ _ ▸ e).2)]
      refine ⟨hlen, fun u x hu huv => ?_, fun u x hu huv => h.old u x hu (by omega)⟩
      by_cases e : u = v
      · subst e
        rw [ev] at hu
        cases hu
        refine .inl ⟨hx.1, fun k hk hw => ?_⟩
        rcases Nat.lt_or_ge d k with hlt | hge
        · obtain rfl : k = d + 1 := by omega
          obtain ⟨p, hp, hpv⟩ := hw
          refine c2 (hhas.2 ⟨p, hpv, hp, fun j hj hw' => hx.2 (j + 1) (by omega) ⟨p, hw', hpv⟩⟩)
        · exact hx.2 k hge hw
      · exact h.new u x hu (by omega)
  · rw [if_neg (by simp [c1])]
    refine ⟨hlen, fun u x hu huv => ?_, fun u x hu huv => h.old u x hu (by omega)⟩
    by_cases e : u = v
    · subst e
      exact (h.old u x hu (Nat.le_refl _)).more (by rw [ev] at hu; cases hu; omega)
    · exact h.new u x hu (by omega)

theorem layer_fold {g : Gr} (hg : GoodG g) {a d : Nat} {R : List Int} (h : LayerInv g a d 0 R) : ∀ v, v ≤ g.ports.length → LayerInv g a d v ((List.range v).foldl (stepV g ((d : Int) + 1)) R)
  | 0, _ => h
  | v + 1, hv => by
    rw [List.range_succ, List.foldl_append]
    exact (layer_fold hg h v (by omega)).step hg (by omega)

def AllUpto (g : Gr) (a d : Nat) (R : List Int) : Prop := R.length = g.ports.length ∧ ∀ (u : Nat) (x : Int), R[u]? = some x → Upto g a d u x

theorem start_upto {g : Gr} {a : Nat} (ha : a < g.ports.length) : AllUpto g a 0 (start g a) := by
  refine ⟨by simp [start], fun u x hu => ?_⟩
  unfold start at hu
  rw [List.getElem?_set] at hu
  split at hu
  · rename_i e
    subst e
    simp [ha] at hu
    subst hu
    exact .inr ⟨0, Nat.le_refl _, rfl, rfl, fun j hj => absurd hj (by omega)⟩
  · rename_i e
    rw [List.getElem?_replicate] at hu
    split at hu
    · cases hu
      refine .inl ⟨rfl, fun k hk hw => ?_⟩
      obtain rfl : k = 0 := by omega
      exact e hw.symm
    · cases hu

theorem stepD_upto {g : Gr} (hg : GoodG g) {a d : Nat} {R : List Int} (h : AllUpto g a d R) : AllUpto g a (d + 1) (stepD g R (d + 1)) := by
  have h0 : LayerInv g a d 0 R := ⟨h.1, fun _ _ _ hu => absurd hu (by omega), fun u x hu _ => h.2 u x hu⟩
  have h1 := layer_fold hg h0 g.ports.length (Nat.le_refl _)
  unfold stepD
  rw [show ((d + 1 : Nat) : Int) = (d : Int) + 1 by omega]
  exact ⟨h1.len, fun u x hu => h1.new u x hu (by rw [← h1.len]; exact (List.getElem?_eq_some_iff.1 hu).1)⟩

theorem rounds_upto {g : Gr} (hg : GoodG g) {a : Nat} (ha : a < g.ports.length) : ∀ d, AllUpto g a d ((List.range d).foldl (fun R d => stepD g R (d + 1)) (start g a))
  | 0 => start_upto ha
  | d + 1 => by rw [List.range_succ, List.foldl_append]; exact stepD_upto hg (rounds_upto hg ha d)

/-- A node at distance k has, for each j up to k, a node at distance j. -/
theorem chain {g : Gr} {a : Nat} : ∀ k v, Walk g a k v → (∀ j, j < k → ¬ Walk g a j v) → ∃ f : Nat → Nat, ∀ j, j ≤ k → Walk g a j (f j) ∧ ∀ i, i < j → ¬ Walk g a i (f j)
  | 0, v, h, _ => ⟨fun _ => v, fun j hj => by obtain rfl : j = 0 := by omega
                                              exact ⟨h, fun i hi => absurd hi (by omega)⟩⟩
  | k + 1, v, h, hm => by
    obtain ⟨p, hp, hpv⟩ := h
    obtain ⟨f, hf⟩ := chain k p hp (fun j hj hw => hm (j + 1) (by omega) ⟨p, hw, hpv⟩)
    refine ⟨fun j => if j ≤ k then f j else v, fun j hj => ?_⟩
    by_cases hjk : j ≤ k
    · simp only [if_pos hjk]; exact hf j hjk
    · obtain rfl : j = k + 1 := by omega
      simp only [if_neg hjk]
      exact ⟨⟨p, hp, hpv⟩, hm⟩

theorem walk_lt {g : Gr} (hg : GoodG g) {a : Nat} (ha : a < g.ports.length) : ∀ k v, Walk g a k v → v < g.ports.length
  | 0, v, h => by obtain rfl : v = a := h; exact ha
  | k + 1, v, h => by obtain ⟨u, _, hu⟩ := h; exact (hg.adj_lt hu).2

theorem least_walk {g : Gr} {a v : Nat} : ∀ k, Walk g a k v → ∃ j, j ≤ k ∧ Walk g a j v ∧ ∀ i, i < j → ¬ Walk g a i v := by
  intro k
  induction k using Nat.strongRecOn with
  | _ k ih =>
    intro hw
    by_cases h : ∃ j, j < k ∧ Walk g a j v
    · obtain ⟨j, hj, hwj⟩ := h
      obtain ⟨i, hi, r⟩ := ih j hj hwj
      exact ⟨i, by omega, r⟩
    · exact ⟨k, Nat.le_refl _, hw, fun i hi hwi => h ⟨i, hi, hwi⟩⟩

theorem dist_lt {g : Gr} (hg : GoodG g) {a v k : Nat} (ha : a < g.ports.length) (h : Walk g a k v) (hm : ∀ j, j < k → ¬ Walk g a j v) : k < g.ports.length := by
  obtain ⟨f, hf⟩ := chain k v h hm
  have hinj : ∀ i j, i < j → j ≤ k → f i ≠ f j := fun i j hij hj e => (hf j hj).2 i hij (by rw [← e]; exact (hf i (by omega)).1)
  have h1 : ((List.range (k + 1)).map f).Nodup := by
    rw [List.Nodup, List.pairwise_map]
    refine (List.Pairwise.and_mem.1 List.pairwise_lt_range).imp ?_
    rintro i j ⟨_, hj, hij⟩
    exact hinj i j hij (by simp at hj; omega)
  have h2 : (List.range (k + 1)).map f ⊆ List.range g.ports.length := by
    intro x hx
    obtain ⟨j, hj, rfl⟩ := List.mem_map.1 hx
    simp only [List.mem_range] at hj ⊢
    exact walk_lt hg ha j _ (hf j (by omega)).1
  have := List.Nodup.length_le_of_subset h1 h2
  simp at this
  omega

theorem distL_isDist {g : Gr} (hg : GoodG g) {a : Nat} (ha : a < g.ports.length) : IsDist g a (distL g a) := by
  obtain ⟨h1, h2⟩ := rounds_upto hg ha (g.ports.length - 1)
  refine ⟨h1, fun v x hx => ?_⟩
  rcases h2 v x hx with ⟨rfl, h3⟩ | ⟨k, _, r⟩
  · refine .inl ⟨rfl, fun k hk => ?_⟩
    obtain ⟨j, _, hj, hm⟩ := least_walk k hk
    have := dist_lt hg ha hj hm
    exact h3 j (by omega) hj
  · exact .inr ⟨k, r⟩

theorem IsDist.bound {g : Gr} (hg : GoodG g) {a : Nat} (ha : a < g.ports.length) {D : List Int} (h : IsDist g a D) : ∀ x ∈ D, -1 ≤ x ∧ x ≤ 24 := by
  intro x hx
  obtain ⟨v, hv, rfl⟩ := List.mem_iff_getElem.1 hx
  rcases h.2 v _ (List.getElem?_eq_getElem hv) with ⟨e, _⟩ | ⟨k, e, h1, h2⟩
  · omega
  · have := dist_lt hg ha h1 h2
    have := hg.2.1
    omega
end Go.Proofs.Ytlfojfndkcmfnaa
