/- Joined. -/
import Derived.Test.YthclbjjgfcgbgaaGreatDoorPkCk7
import Derived.Test.YthclbjjgfcgbgaaGreatDoorPkCk8
set_option linter.unusedSimpArgs false
set_option linter.unusedVariables false
set_option maxRecDepth 8000
open Go.Proofs.Tryz renaming prog->zA,func131->zO,ntmps131->zU,zeroCells241->zAB
open List renaming getElem?_eq_getElem->zB,mem_of_getElem?->zF,getD->zH,getD_eq_getElem?_getD->zJ,range->zK,getElem?_set->zL,foldl_append->zM,take_succ_eq_append_getElem->zN,mem_zipIdx_iff_getElem?->zQ,mem_cons_self->zS,getElem?_zip_eq_some->zW,all_eq_true->zX,getElem_mem->zY,mem_cons_of_mem->zZ,take_length->zAC,length_nil->zAD,range_succ->zAE,length->zAF
open Nat renaming le_refl->zC,reduceEqDiff->zI,reduceAdd->zT,zero_le->zAG
open Go.Lib renaming hid->zD
open Bool renaming and_eq_true->zG,false_eq_true->zAA
open Int renaming toNat_natCast->zV
open Go
namespace Go.Proofs.YthclbjjgfcgbgaaGreatDoor
section
namespace Sh
open Go Ev
theorem ydsq {g:FuncId}{fn:Func}{sc:SC}{rs:List SR}(hg:Tryz.prog.funcs[g]?=some fn) (hcmp:fn.body.bind (cmp zA fn.ntmps)=some sc) (hrs:cmpR zA fn.results.toList=some rs)
 {mu:List FuncId}{args:List SV}{Q:SV->Prop}(h:vc ⟨Ct zA,Cm zA,ItC zA,[],mu⟩ sc (retK rs Q) ⟨slots args 0,[]⟩):Ct zA g args Q:=by
 obtain⟨c,h1,h2⟩:=bind_some hcmp;exact ychh mix yra hg h1 h2 hrs h
theorem ydqv {g:FuncId}{fn:Func}{sc:SC}{rs:List SR}(hg:Tryz.prog.funcs[g]?=some fn) (hcmp:fn.body.bind (cmp zA fn.ntmps)=some sc) (hrs:cmpR zA fn.results.toList=some rs)
 {pr:List Nm}{mu:List FuncId}{o:Own}{args:List SV}{Q:SV->Own->Prop}(h:vc ⟨Ct zA,Cm zA,ItC zA,pr,mu⟩ sc (retM rs pr Q) ⟨slots args 0,o⟩):Cm zA g pr o args Q:=by
 obtain⟨c,h1,h2⟩:=bind_some hcmp;exact yccc mix yra hg h1 h2 hrs h
def Fn(g:FuncId)(c:SC)(rs:List SR):Prop:=∀(args:List SV) (Q:SV->Prop),vc ⟨Ct zA,Cm zA,ItC zA,[],[]⟩ c (retK rs Q) ⟨slots args 0,[]⟩->Ct zA g args Q
def FnU(g:FuncId)(c:SC)(rs:List SR):Prop:=∀(mu:List FuncId) (args:List SV) (Q:SV->Prop),vc ⟨Ct zA,Cm zA,ItC zA,[],mu⟩ c (retK rs Q) ⟨slots args 0,[]⟩->Ct zA g args Q
def FnM(g:FuncId)(c:SC)(rs:List SR):Prop:=∀(pr:List Nm) (mu:List FuncId) (o:Own) (args:List SV) (Q:SV->Own->Prop),vc ⟨Ct zA,Cm zA,ItC zA,pr,mu⟩ c (retM rs pr Q) ⟨slots args 0,o⟩->Cm zA g pr o args Q
section
variable {g:FuncId}{fn:Func}{sc:SC}{rs:List SR}(hg:Tryz.prog.funcs[g]?=some fn) (hcmp:fn.body.bind (cmp zA fn.ntmps)=some sc) (hrs:cmpR zA fn.results.toList=some rs)
include hg hcmp hrs
theorem fn_0:Fn g sc rs:=fun _ _ h=>ydsq hg hcmp hrs h
theorem fn_u:FnU g sc rs:=fun _ _ _ h=>ydsq hg hcmp hrs h
theorem fn_m:FnM g sc rs:=fun _ _ _ _ _ h=>ydqv hg hcmp hrs h
end
def o3(x:SOp)(d a:Nat):SOper:=⟨x,some d,none,a⟩
def o0(x:SOp)(a:Nat):SOper:=⟨x,none,none,a⟩
abbrev LO:=List SOper
def mv'(x d a:Nat):SOper:=⟨.mv (.tmp x),some d,none,a⟩
def bn'(op:BinOp)(x y d a:Nat):SOper:=⟨.bin op (.tmp x) (.tmp y),some d,none,a⟩
def ld'(ag:Bool)(n x d a:Nat):SOper:=⟨.load ag n (.tmp x),some d,none,a⟩
def fa'(o n x d a:Nat):SOper:=⟨.faddr o n (.tmp x),some d,none,a⟩
def ix'(z x k d a:Nat):SOper:=⟨.idx z (.tmp x) (.tmp k),some d,none,a⟩
def ln'(x d a:Nat):SOper:=⟨.len (.tmp x),some d,none,a⟩
def xt'(x k d a:Nat):SOper:=⟨.extract (.tmp x) k,some d,none,a⟩
def cl'(g:FuncId)(xs:List Nat)(d a:Nat):SOper:=⟨.call (.func g) (xs.map .tmp),some d,none,a⟩
def ci'(n:Int):Operand:=.const (.int .i64 n)
attribute [go_sem] o3 o0 mv' bn' ld' fa' ix' ln' xt' cl' ci'
attribute [go_sem] ydut yddk ycds ybtv ydvi ycyf ydgg ycxk yccw ydfq ycfe ybct yxx yboa ybhq puts ydbt
attribute [go_sem] ydjr ydvb ydrf ybbh ybqd ybwg yyw ybei ybnu ybmy ycac ybhp ycfx ybfh ycer
attribute [go_sem] yqq Fam.at Prod.mk.injEq ycyo ycxr yczg yczm ycxt ydem ybmu oldX oldV yjr ynj ybqv ydfs gb_x yduz resX yig slots ycdq
attribute [go_sem] ycia ybvu runO opO ybqv xOp SS.get SS.pget SS.gets SS.lit look lookO SS.put SS.own ycxf ydfp ycyx ycgv ycgp ychl yceb
attribute [go_sem] ycgh yccz ycex ychx ycic ybku simple yla yuk ybca part idxX natX yqa yboq xbin xun eqL splice fill OB.set ofV fits ycxp
attribute [go_sem] yblq allP SRec.no SRec.pure clash nmem List.isEmpty_nil List.isEmpty_cons List.drop List.take List.all List.any List.map zAF List.head? List.append
attribute [go_sem] List.nil_append List.append_nil List.cons_append List.all_cons List.all_nil List.drop_succ_cons List.drop_zero List.take_succ_cons List.take_zero List.drop_nil
attribute [go_sem] List.take_nil List.length_cons zAD List.map_cons List.map_nil List.getElem?_cons_zero List.getElem?_cons_succ List.elem zV Nat.zero_add
attribute [go_sem] Nat.add_zero if_true if_false ite_true ite_false Option.isNone Option.isNone_none Option.map_some Option.map_none Bool.not_true Bool.not_false Bool.true_or
attribute [go_sem] Bool.or_true Bool.false_or Bool.or_false Bool.and_true Bool.true_and Bool.and_false Bool.false_and Bool.and_self Bool.or_self true_and and_true and_self
attribute [go_sem] true_implies false_implies implies_true forall_const Nat.lt_add_one Nat.one_pos Nat.zero_lt_one Nat.lt_irrefl zC decide_true decide_false zAA
attribute [go_sem] Bool.true_eq_false forall_eq BEq.rfl beq_self_eq_true decide_eq_true_eq decide_eq_false_iff_not beq_iff_eq beq_eq_false_iff_ne bne_iff_ne bne_eq_false_iff_eq
attribute [go_sem] Bool.not_eq_true Bool.not_eq_false Bool.not_eq_true' Bool.not_eq_false' ycxx ydby ycym yced ycih ybwb ychg ychf yccu
attribute [go_sem] ycid ybsy yddn ydhv yczx yccy ycfr ycfz ycev ycee ycct ybtr ybtt ybpl ybxk ybsh ybzp
attribute [go_sem] ycbb ybqw ybul ydis ydia ydqr ycwz ydbh yciq yczy yczc ydbk yddp ycya ydfn ydwk ydvl ydum ydgy ydqa
attribute [go_sem] ydbw ydkv ydjj ydrm ydhx ydtt ydhw ydqy ydin ydga ydag ydex ycej ydeu ydfg yczi ycxe ycyg yddr
attribute [go_sem] yzk ybfk idxF ydkq ysl ymc own1 ybky ydcl ydet zAA false_implies Tel telL ydu yhi ybwe yczh ycxl
attribute [go_sem] ycft ycdu ycdf ychb ychv ycec ycgn ycdw ycew ydwl ydwa ydvq ydhs ydpq ydke ydpj ydln ydtk ydom ydog
attribute [go_sem] ydrn lv nmem rid ygh ybsp ydpl yvc ydtr yczb ywr yll ybua ydif ydpf ycbl yfq ybjw ydvz ydwc ydux ydso ydsj yddt
attribute [go_sem] ydgi ydrw ydkm ydkz ydsk ydhc List.any_cons List.any_nil Option.isSome ydas or_false false_or or_true true_or false_and exists_const exists_false
attribute [go_sem] List.not_mem_nil and_false
attribute [go_sem ↓] gb_t gb_f ydur ydvn
end Sh
end
section
namespace Sh
open Go Ev
def ycjv:LO:=[o3 (.mv (ci' 0)) 4 0]
def ycqh:LO:=[mv' 0 6 0,ln' 6 7 1,o3 (.mv (ci' 0)) 8 0]
def ycuq:LO:=[bn' .lss 8 7 9 0]
def ycrf:LO:=[mv' 8 10 0,mv' 10 5 1]
def yckn:LO:=[mv' 1 11 0,mv' 0 12 0,mv' 5 13 0,ix' 1 12 13 14 6,ld' false 1 14 15 14,bn' .eql 11 15 16 31]
def ycmg:LO:=[mv' 5 17 0,mv' 17 4 1]
def ycjr:LO:=[o3 (.bin .add (.tmp 8) (ci' 1)) 18 0,mv' 18 8 1]
def yclr:LO:=[o3 (.mv (.const (.int .i64 (-1)))) 4 0]
def c143:SC:=(.seq (.reg false ycjv) (.seq (.seq (.reg false ycqh) (.block 0 (.loop (.seq (.reg false ycuq) (.seq (.cond (.tmp 9) .skip (.exit 0)) (.seq (.block 1 (.seq (.reg false ycrf) (.seq (.reg false yckn) (.cond (.tmp 16) (.seq (.reg false ycmg) .ret) .skip)))) (.reg false ycjr))))))) (.seq (.reg false yclr) .ret)))
theorem yczk:Fn 143 c143 [.t 4]:=fn_0 Tryz.func143 (by kernel_rfl) (by kernel_rfl)
def ydij:LO:=[o3 (.mv (ci' 0)) 2 0]
def ydrb:LO:=[mv' 0 5 0,ln' 5 6 1,o3 (.bin .lss (.tmp 6) (ci' 1)) 7 3]
def ydug:LO:=[o3 (.no) 8 0,o0 (.no) 1]
def ydty:LO:=[mv' 0 9 0,o3 (.idx 1 (.tmp 9) (ci' 0)) 10 1,ld' false 1 10 11 3,mv' 11 3 7]
def ydnz:LO:=[o3 (.mv (ci' 1)) 4 0]
def ydtn:LO:=[mv' 4 12 0,mv' 0 13 0,ln' 13 14 2,bn' .lss 12 14 15 7]
def ydgs:LO:=[mv' 3 18 0,mv' 0 19 0,mv' 4 20 0,ix' 1 19 20 21 6,ld' false 1 21 22 14,o3 (.mm true (.tmp 18) (.tmp 22)) 23 31,mv' 23 3 63]
def ydsf:LO:=[mv' 4 16 0,o3 (.bin .add (.tmp 16) (ci' 1)) 17 1,mv' 17 4 3]
def ydjy:LO:=[mv' 3 24 0,mv' 24 2 1]
def c54:SC:=(.seq (.reg false ydij) (.seq (.seq (.reg false ydrb) (.cond (.tmp 7) (.reg false ydug) .skip)) (.seq (.reg false ydty) (.seq (.seq (.reg false ydnz) (.block 0 (.loop (.seq (.seq (.reg false ydtn) (.cond (.tmp 15) .skip (.exit 0))) (.seq (.block 1 (.reg false ydgs)) (.reg false ydsf)))))) (.seq (.reg false ydjy) .ret)))))
theorem ydps:Fn 54 c54 [.t 2]:=fn_0 Tryz.func54 (by kernel_rfl) (by kernel_rfl)
def yckc:LO:=[o3 (.mv (.const (.bool false))) 4 0]
def ycwu:LO:=[mv' 0 5 0,mv' 1 6 0,cl' 143 [5,6] 7 3,o3 (.bin .geq (.tmp 7) (ci' 0)) 8 7,mv' 8 4 15]
def c258:SC:=(.seq (.reg false yckc) (.seq (.reg false ycwu) .ret))
theorem ydco:Fn 258 c258 [.t 4]:=fn_0 Tryz.func258 (by kernel_rfl) (by kernel_rfl)
def ycvd:LO:=[o3 (.mv (ci' 0)) 4 0]
def yclp:LO:=[mv' 0 6 0,ln' 6 7 1,o3 (.mv (ci' 0)) 8 0]
def ycsl:LO:=[bn' .lss 8 7 9 0]
def ycuj:LO:=[mv' 8 10 0,mv' 10 5 1]
def ycub:LO:=[mv' 1 11 0,mv' 0 12 0,mv' 5 13 0,ix' 1 12 13 14 6,ld' false 1 14 15 14,o3 (.call (.tmp 11) [(.tmp 15)]) 16 31]
def yckw:LO:=[mv' 5 17 0,mv' 17 4 1]
def ycnz:LO:=[o3 (.bin .add (.tmp 8) (ci' 1)) 18 0,mv' 18 8 1]
def ycrk:LO:=[o3 (.mv (.const (.int .i64 (-1)))) 4 0]
def c251:SC:=(.seq (.reg false ycvd) (.seq (.seq (.reg false yclp) (.block 0 (.loop (.seq (.reg false ycsl) (.seq (.cond (.tmp 9) .skip (.exit 0)) (.seq (.block 1 (.seq (.reg false ycuj) (.seq (.reg false ycub) (.cond (.tmp 16) (.seq (.reg false yckw) .ret) .skip)))) (.reg false ycnz))))))) (.seq (.reg false ycrk) .ret)))
theorem ydca:Fn 251 c251 [.t 4]:=fn_0 Tryz.func251 (by kernel_rfl) (by kernel_rfl)
def ycps:LO:=[o3 (.mv (ci' 0)) 2 0]
def ycnu:LO:=[mv' 0 4 0,o3 (.bin .lss (.tmp 4) (ci' 1)) 5 1,mv' 5 6 3,⟨.mv (.tmp 0),some 7,some (6,false),7⟩,⟨.bin .gtr (.tmp 7) (ci' 43),some 8,some (6,false),15⟩,o3 (.pick (.tmp 6) (.const (.bool true)) (.tmp 8)) 9 31,mv' 9 3 63]
def ycrh:LO:=[o3 (.mv (.const (.int .i64 (-1)))) 2 0]
def ycto:LO:=[mv' 0 11 0,o3 (.bin .leq (.tmp 11) (ci' 17)) 12 1,mv' 12 10 3]
def ycwh:LO:=[o3 (.mv (ci' 0)) 2 0]
def ycvr:LO:=[mv' 0 14 0,o3 (.bin .leq (.tmp 14) (ci' 29)) 15 1,mv' 15 13 3]
def ycoo:LO:=[o3 (.mv (ci' 1)) 2 0]
def ycln:LO:=[mv' 0 17 0,o3 (.bin .leq (.tmp 17) (ci' 42)) 18 1,mv' 18 16 3]
def ycqc:LO:=[o3 (.mv (ci' 2)) 2 0]
def ycrc:LO:=[o3 (.mv (ci' 3)) 2 0]
def c231:SC:=(.seq (.reg false ycps) (.seq (.block 0 (.seq (.reg false ycnu) (.cond (.tmp 3) (.seq (.reg false ycrh) .ret) (.seq (.reg false ycto) (.cond (.tmp 10) (.seq (.reg false ycwh) .ret) (.seq (.reg false ycvr) (.cond (.tmp 13) (.seq (.reg false ycoo) .ret) (.seq (.reg false ycln) (.cond (.tmp 16) (.seq (.reg false ycqc) .ret) .skip))))))))) (.seq (.reg false ycrc) .ret)))
theorem ycxs:Fn 231 c231 [.t 2]:=fn_0 Tryz.func231 (by kernel_rfl) (by kernel_rfl)
def ycpx:LO:=[o3 (.mv (ci' 0)) 4 0]
def ycwi:LO:=[mv' 1 7 0,o3 (.bin .lss (.tmp 7) (ci' 0)) 8 1,mv' 8 9 3,⟨.mv (.tmp 1),some 10,some (9,false),7⟩,⟨.mv (.tmp 0),some 11,some (9,false),7⟩,⟨.len (.tmp 11),some 12,some (9,false),23⟩,⟨.bin .geq (.tmp 10) (.tmp 12),some 13,some (9,false),63⟩,o3 (.pick (.tmp 9) (.const (.bool true)) (.tmp 13)) 14 127]
def ycjf:LO:=[o3 (.mv (.const (.int .i64 (-1)))) 4 0]
def ycvt:LO:=[o3 (.mv (ci' 1)) 5 0]
def ycny:LO:=[mv' 1 15 0,mv' 0 16 0,ln' 16 17 2,bn' .lss 15 17 18 7]
def yctl:LO:=[mv' 0 21 0,mv' 1 22 0,ix' 2 21 22 23 3,fa' 0 1 23 24 7,ld' false 1 24 25 15,cl' 231 [25] 26 31,mv' 26 6 63]
def ycrn:LO:=[mv' 6 27 0,o3 (.bin .lss (.tmp 27) (ci' 0)) 28 1]
def ycrs:LO:=[o3 (.mv (.const (.int .i64 (-1)))) 4 0]
def ycwr:LO:=[mv' 5 29 0,mv' 6 30 0,o3 (.bin .sub (.tmp 30) (ci' 1)) 31 2,bn' .add 29 31 32 7,mv' 32 5 15]
def ybqz:LO:=[mv' 5 33 0,o3 (.bin .eql (.tmp 33) (ci' 0)) 34 1]
def ybvb:LO:=[mv' 1 35 0,o3 (.bin .add (.tmp 35) (ci' 1)) 36 1,mv' 36 4 3]
def ycje:LO:=[mv' 1 19 0,o3 (.bin .add (.tmp 19) (ci' 1)) 20 1,mv' 20 1 3]
def ybxc:LO:=[o3 (.mv (.const (.int .i64 (-1)))) 4 0]
def c215:SC:=(.seq (.reg false ycpx) (.seq (.seq (.reg false ycwi) (.cond (.tmp 14) (.seq (.reg false ycjf) .ret) .skip)) (.seq (.seq (.reg false ycvt) (.block 0 (.loop (.seq (.seq (.reg false ycny) (.cond (.tmp 18) .skip (.exit 0))) (.seq (.block 1 (.seq (.reg false yctl) (.seq (.seq (.reg false ycrn) (.cond (.tmp 28) (.seq (.reg false ycrs) .ret) .skip)) (.seq (.reg false ycwr) (.seq (.reg false ybqz) (.cond (.tmp 34) (.seq (.reg false ybvb) .ret) .skip)))))) (.reg false ycje)))))) (.seq (.reg false ybxc) .ret))))
theorem ydfd:Fn 215 c215 [.t 4]:=fn_0 Tryz.func215 (by kernel_rfl) (by kernel_rfl)
def ycwo:LO:=[o3 (.box 27 (.tmp 0)) 3 0,o3 (.mv (ci' 0)) 6 0]
def ycpe:LO:=[fa' 1 1 3 9 0,ld' false 1 9 10 1,mv' 1 11 0,ix' 1 10 11 12 7,ld' false 1 12 13 15,ln' 13 14 31,o3 (.mv (ci' 0)) 15 0]
def ycoc:LO:=[bn' .lss 15 14 16 0]
def ycpa:LO:=[mv' 15 17 0,ix' 2 13 15 18 0,ld' true 2 18 19 2,o3 (.alloc 68 1 [.i .i64 0,.i .i64 0]) 8 0,mv' 17 7 15,o0 (.store 2 (.tmp 8) (.tmp 19)) 31]
def ycmb:LO:=[fa' 0 1 8 20 0,ld' false 1 20 21 1,mv' 2 22 0,bn' .eql 21 22 23 7]
def ycpm:LO:=[mv' 7 24 0,mv' 24 6 1]
def ycpn:LO:=[o3 (.bin .add (.tmp 15) (ci' 1)) 25 0,mv' 25 15 1]
def ycot:LO:=[o3 (.mv (.const (.int .i64 (-1)))) 6 0]
def c204:SC:=(.seq (.reg false ycwo) (.seq (.seq (.reg false ycpe) (.block 0 (.loop (.seq (.reg false ycoc) (.seq (.cond (.tmp 16) .skip (.exit 0)) (.seq (.block 1 (.seq (.reg false ycpa) (.seq (.reg false ycmb) (.cond (.tmp 23) (.seq (.reg false ycpm) .ret) .skip)))) (.reg false ycpn))))))) (.seq (.reg false ycot) .ret)))
theorem ycyj:Fn 204 c204 [.t 6]:=fn_0 Tryz.func204 (by kernel_rfl) (by kernel_rfl)
def ycnn:LO:=[o3 (.mv (ci' 0)) 2 0]
def ycwx:LO:=[mv' 0 3 0]
def ycws:LO:=[o3 (.mv (ci' 1)) 2 0]
def ycmu:LO:=[o3 (.mv (ci' 0)) 2 0]
def c240:SC:=(.seq (.reg false ycnn) (.seq (.seq (.reg false ycwx) (.cond (.tmp 3) (.seq (.reg false ycws) .ret) .skip)) (.seq (.reg false ycmu) .ret)))
theorem ycxu:Fn 240 c240 [.t 2]:=fn_0 Tryz.func240 (by kernel_rfl) (by kernel_rfl)
def yctm:LO:=[o3 (.mv (ci' 0)) 2 0]
def ycnr:LO:=[mv' 0 3 0,o3 (.mm false (.tmp 3) (ci' 1073741824)) 4 1,o3 (.mm true (.const (.int .i64 (-1073741824))) (.tmp 4)) 5 3,mv' 5 2 7]
def c242:SC:=(.seq (.reg false yctm) (.seq (.reg false ycnr) .ret))
theorem ydel:Fn 242 c242 [.t 2]:=fn_0 Tryz.func242 (by kernel_rfl) (by kernel_rfl)
def ycuu:LO:=[o3 (.mv (ci' 0)) 4 0]
def ycvn:LO:=[mv' 0 5 0,o3 (.bin .eql (.tmp 5) (ci' 18)) 6 1]
def ycvx:LO:=[mv' 1 7 0,o3 (.un .neg (.tmp 7)) 8 1,mv' 8 4 3]
def yciy:LO:=[mv' 1 9 0,o3 (.bin .eql (.tmp 9) (ci' 0)) 10 1,cl' 240 [10] 11 3,mv' 11 4 7]
def c221:SC:=(.seq (.reg false ycuu) (.seq (.seq (.reg false ycvn) (.cond (.tmp 6) (.seq (.reg false ycvx) .ret) .skip)) (.seq (.reg false yciy) .ret)))
theorem ydew:Fn 221 c221 [.t 4]:=fn_0 Tryz.func221 (by kernel_rfl) (by kernel_rfl)
def ycus:LO:=[o3 (.mv (ci' 0)) 6 0]
def ycmr:LO:=[mv' 0 7 0]
def yctt:LO:=[o3 (.bin .eql (.tmp 7) (ci' 30)) 9 0,mv' 9 8 1]
def ycks:LO:=[mv' 1 10 0,mv' 2 11 0,bn' .mul 10 11 12 3,cl' 242 [12] 13 7,mv' 13 6 15]
def ycph:LO:=[o3 (.bin .eql (.tmp 7) (ci' 31)) 15 0,mv' 15 14 1]
def ycwf:LO:=[mv' 1 16 0,mv' 2 17 0,cl' 243 [16,17] 18 3,cl' 242 [18] 19 7,mv' 19 6 15]
def ycjh:LO:=[o3 (.bin .eql (.tmp 7) (ci' 32)) 21 0,mv' 21 20 1]
def ycvl:LO:=[mv' 2 22 0,o3 (.bin .eql (.tmp 22) (ci' 0)) 23 1]
def ycwn:LO:=[o3 (.mv (ci' 0)) 6 0]
def ycmz:LO:=[mv' 1 24 0,mv' 2 25 0,mv' 1 26 0,mv' 2 27 0,cl' 243 [26,27] 28 12,bn' .mul 25 28 29 30,bn' .sub 24 29 30 63,cl' 242 [30] 31 127,mv' 31 6 255]
def ybsq:LO:=[o3 (.bin .eql (.tmp 7) (ci' 33)) 33 0,mv' 33 32 1]
def ybth:LO:=[mv' 1 34 0,mv' 2 35 0,bn' .add 34 35 36 3,cl' 242 [36] 37 7,mv' 37 6 15]
def ybuw:LO:=[o3 (.bin .eql (.tmp 7) (ci' 34)) 39 0,mv' 39 38 1]
def ybqr:LO:=[mv' 1 40 0,mv' 2 41 0,bn' .sub 40 41 42 3,cl' 242 [42] 43 7,mv' 43 6 15]
def ybzz:LO:=[o3 (.bin .eql (.tmp 7) (ci' 41)) 45 0,mv' 45 44 1]
def ycaj:LO:=[mv' 1 46 0,o3 (.bin .neq (.tmp 46) (ci' 0)) 47 1,mv' 47 48 3,⟨.mv (.tmp 2),some 49,some (48,true),7⟩,⟨.bin .neq (.tmp 49) (ci' 0),some 50,some (48,true),15⟩,o3 (.pick (.tmp 48) (.tmp 50) (.const (.bool false))) 51 31,cl' 240 [51] 52 63,mv' 52 6 127]
def ybuf:LO:=[o3 (.bin .eql (.tmp 7) (ci' 42)) 54 0,mv' 54 53 1]
def ybuc:LO:=[mv' 1 55 0,o3 (.bin .neq (.tmp 55) (ci' 0)) 56 1,mv' 56 57 3,⟨.mv (.tmp 2),some 58,some (57,false),7⟩,⟨.bin .neq (.tmp 58) (ci' 0),some 59,some (57,false),15⟩,o3 (.pick (.tmp 57) (.const (.bool true)) (.tmp 59)) 60 31,cl' 240 [60] 61 63,mv' 61 6 127]
def ycbk:LO:=[mv' 0 62 0,mv' 1 63 0,mv' 2 64 0,cl' 244 [62,63,64] 65 7,cl' 240 [65] 66 15,mv' 66 6 31]
def c223:SC:=(.seq (.reg false ycus) (.seq (.seq (.reg false ycmr) (.block 0 (.seq (.reg false yctt) (.cond (.tmp 8) (.seq (.reg false ycks) .ret) (.seq (.reg false ycph) (.cond (.tmp 14) (.seq (.reg false ycwf) .ret) (.seq (.reg false ycjh) (.cond (.tmp 20) (.seq (.seq (.reg false ycvl) (.cond (.tmp 23) (.seq (.reg false ycwn) .ret) .skip)) (.seq (.reg false ycmz) .ret)) (.seq (.reg false ybsq) (.cond (.tmp 32) (.seq (.reg false ybth) .ret) (.seq (.reg false ybuw) (.cond (.tmp 38) (.seq (.reg false ybqr) .ret) (.seq (.reg false ybzz) (.cond (.tmp 44) (.seq (.reg false ycaj) .ret) (.seq (.reg false ybuf) (.cond (.tmp 53) (.seq (.reg false ybuc) .ret) .skip)))))))))))))))) (.seq (.reg false ycbk) .ret)))
theorem ydbq:Fn 223 c223 [.t 6]:=fn_0 Tryz.func223 (by kernel_rfl) (by kernel_rfl)
def ycuc:LO:=[o3 (.mv (ci' 0)) 4 0]
def ycof:LO:=[mv' 1 6 0,o3 (.bin .eql (.tmp 6) (ci' 0)) 7 1]
def ycwt:LO:=[o3 (.mv (ci' 0)) 4 0]
def yckd:LO:=[mv' 0 8 0,mv' 1 9 0,bn' .quo 8 9 10 3,mv' 10 5 7]
def ycpo:LO:=[mv' 0 11 0,mv' 1 12 0,bn' .rem 11 12 13 3,o3 (.bin .neq (.tmp 13) (ci' 0)) 14 7,mv' 14 15 15,⟨.mv (.tmp 0),some 16,some (15,true),31⟩,⟨.bin .lss (.tmp 16) (ci' 0),some 17,some (15,true),63⟩,⟨.mv (.tmp 1),some 18,some (15,true),31⟩,⟨.bin .lss (.tmp 18) (ci' 0),some 19,some (15,true),159⟩,⟨.beq true (.tmp 17) (.tmp 19),some 20,some (15,true),511⟩,o3 (.pick (.tmp 15) (.tmp 20) (.const (.bool false))) 21 1023]
def ycvu:LO:=[mv' 5 22 0,o3 (.bin .sub (.tmp 22) (ci' 1)) 23 1,mv' 23 5 3]
def yclv:LO:=[mv' 5 24 0,mv' 24 4 1]
def c243:SC:=(.seq (.reg false ycuc) (.seq (.seq (.reg false ycof) (.cond (.tmp 7) (.seq (.reg false ycwt) .ret) .skip)) (.seq (.reg false yckd) (.seq (.seq (.reg false ycpo) (.cond (.tmp 21) (.reg false ycvu) .skip)) (.seq (.reg false yclv) .ret)))))
theorem ydcs:Fn 243 c243 [.t 4]:=fn_0 Tryz.func243 (by kernel_rfl) (by kernel_rfl)
def ycuk:LO:=[o3 (.mv (.const (.bool false))) 6 0]
def ycmp:LO:=[mv' 0 7 0]
def ycoj:LO:=[o3 (.bin .eql (.tmp 7) (ci' 35)) 9 0,mv' 9 8 1]
def yclx:LO:=[mv' 1 10 0,mv' 2 11 0,bn' .eql 10 11 12 3,mv' 12 6 7]
def ycju:LO:=[o3 (.bin .eql (.tmp 7) (ci' 36)) 14 0,mv' 14 13 1]
def ycjo:LO:=[mv' 1 15 0,mv' 2 16 0,bn' .neq 15 16 17 3,mv' 17 6 7]
def ycke:LO:=[o3 (.bin .eql (.tmp 7) (ci' 37)) 19 0,mv' 19 18 1]
def ycri:LO:=[mv' 1 20 0,mv' 2 21 0,bn' .lss 20 21 22 3,mv' 22 6 7]
def ycsr:LO:=[o3 (.bin .eql (.tmp 7) (ci' 38)) 24 0,mv' 24 23 1]
def ycti:LO:=[mv' 1 25 0,mv' 2 26 0,bn' .leq 25 26 27 3,mv' 27 6 7]
def ybrp:LO:=[o3 (.bin .eql (.tmp 7) (ci' 39)) 29 0,mv' 29 28 1]
def ycad:LO:=[mv' 1 30 0,mv' 2 31 0,bn' .gtr 30 31 32 3,mv' 32 6 7]
def ybze:LO:=[mv' 1 33 0,mv' 2 34 0,bn' .geq 33 34 35 3,mv' 35 6 7]
def c244:SC:=(.seq (.reg false ycuk) (.seq (.seq (.reg false ycmp) (.block 0 (.seq (.reg false ycoj) (.cond (.tmp 8) (.seq (.reg false yclx) .ret) (.seq (.reg false ycju) (.cond (.tmp 13) (.seq (.reg false ycjo) .ret) (.seq (.reg false ycke) (.cond (.tmp 18) (.seq (.reg false ycri) .ret) (.seq (.reg false ycsr) (.cond (.tmp 23) (.seq (.reg false ycti) .ret) (.seq (.reg false ybrp) (.cond (.tmp 28) (.seq (.reg false ycad) .ret) .skip)))))))))))) (.seq (.reg false ybze) .ret)))
theorem yczw:Fn 244 c244 [.t 6]:=fn_0 Tryz.func244 (by kernel_rfl) (by kernel_rfl)
def ycjc:LO:=[o3 (.mv (ci' 0)) 4 0]
def yckg:LO:=[mv' 0 15 0]
def ycte:LO:=[o3 (.bin .eql (.tmp 15) (ci' 20)) 17 0,mv' 17 16 1]
def ycpc:LO:=[mv' 1 18 0,cl' 250 [18] 19 1,mv' 1 20 0,ln' 20 21 4,bn' .eql 19 21 22 15,cl' 240 [22] 23 31,mv' 23 4 63]
def ycsn:LO:=[o3 (.bin .eql (.tmp 15) (ci' 21)) 25 0,mv' 25 24 1]
def ycoa:LO:=[mv' 1 26 0,cl' 250 [26] 27 1,o3 (.bin .gtr (.tmp 27) (ci' 0)) 28 3,cl' 240 [28] 29 7,mv' 29 4 15]
def ycnp:LO:=[o3 (.bin .eql (.tmp 15) (ci' 22)) 31 0,mv' 31 30 1]
def ycvh:LO:=[mv' 1 32 0,cl' 250 [32] 33 1,mv' 33 4 3]
def ycop:LO:=[o3 (.bin .eql (.tmp 15) (ci' 23)) 35 0,mv' 35 34 1]
def ycni:LO:=[mv' 1 36 0,o3 (.call (.func 251) [(.tmp 36),(.func 252)]) 37 1,mv' 37 4 3]
def ybto:LO:=[o3 (.bin .eql (.tmp 15) (ci' 24)) 39 0,mv' 39 38 1]
def ybsd:LO:=[o3 (.mv (ci' 1073741824)) 5 0]
def ycbm:LO:=[mv' 1 40 0,ln' 40 41 1,o3 (.mv (ci' 0)) 42 0]
def ybxs:LO:=[bn' .lss 42 41 43 0]
def ybyr:LO:=[ix' 1 40 42 44 0,ld' false 1 44 45 1,mv' 45 7 3]
def ycco:LO:=[mv' 5 46 0,mv' 7 47 0,o3 (.mm false (.tmp 46) (.tmp 47)) 48 3,mv' 48 5 7]
def ycan:LO:=[o3 (.bin .add (.tmp 42) (ci' 1)) 49 0,mv' 49 42 1]
def ycaa:LO:=[mv' 5 50 0,mv' 50 4 1]
def ybvz:LO:=[o3 (.bin .eql (.tmp 15) (ci' 25)) 52 0,mv' 52 51 1]
def ybrm:LO:=[mv' 1 54 0,cl' 253 [54] 55 1,mv' 55 53 3,xt' 53 0 56 7,xt' 53 1 57 7,mv' 56 8 15,mv' 57 9 63]
def ybui:LO:=[mv' 8 58 0,mv' 58 4 1]
def ybwv:LO:=[o3 (.bin .eql (.tmp 15) (ci' 26)) 60 0,mv' 60 59 1]
def ybwt:LO:=[o3 (.mv (ci' 0)) 10 0]
def ybsi:LO:=[mv' 1 61 0,ln' 61 62 1,o3 (.mv (ci' 0)) 63 0]
def ybzm:LO:=[bn' .lss 63 62 64 0]
def ybvm:LO:=[ix' 1 61 63 65 0,ld' false 1 65 66 1,mv' 66 12 3]
def ybrk:LO:=[mv' 10 67 0,mv' 12 68 0,bn' .add 67 68 69 3,mv' 69 10 7]
def ybvj:LO:=[o3 (.bin .add (.tmp 63) (ci' 1)) 70 0,mv' 70 63 1]
def ybtp:LO:=[mv' 10 71 0,cl' 242 [71] 72 1,mv' 72 4 3]
def ybtx:LO:=[o3 (.bin .eql (.tmp 15) (ci' 27)) 74 0,mv' 74 73 1]
def ybrh:LO:=[mv' 1 75 0,cl' 254 [75] 76 1,mv' 76 4 3]
def yccg:LO:=[o3 (.bin .eql (.tmp 15) (ci' 28)) 78 0,mv' 78 77 1]
def ycak:LO:=[mv' 1 80 0,cl' 253 [80] 81 1,mv' 81 79 3,xt' 79 0 82 7,xt' 79 1 83 7,mv' 82 13 15,mv' 83 14 63]
def ybsw:LO:=[mv' 14 84 0,mv' 84 4 1]
def ybzu:LO:=[mv' 1 85 0,ln' 85 86 1,o3 (.bin .eql (.tmp 86) (ci' 0)) 87 3]
def ybre:LO:=[o3 (.mv (ci' 0)) 4 0]
def ybrb:LO:=[mv' 1 88 0,o3 (.idx 1 (.tmp 88) (ci' 0)) 89 1,ld' false 1 89 90 3,mv' 90 4 7]
def c241:SC:=(.seq (.reg false ycjc) (.seq (.seq (.reg false yckg) (.block 0 (.seq (.reg false ycte) (.cond (.tmp 16) (.seq (.reg false ycpc) .ret) (.seq (.reg false ycsn) (.cond (.tmp 24) (.seq (.reg false ycoa) .ret) (.seq (.reg false ycnp) (.cond (.tmp 30) (.seq (.reg false ycvh) .ret) (.seq (.reg false ycop) (.cond (.tmp 34) (.seq (.reg false ycni) .ret) (.seq (.reg false ybto) (.cond (.tmp 38) (.seq (.reg false ybsd) (.seq (.seq (.reg false ycbm) (.block 1 (.loop (.seq (.reg false ybxs) (.seq (.cond (.tmp 43) .skip (.exit 1)) (.seq (.block 2 (.seq (.reg false ybyr) (.reg false ycco))) (.reg false ycan))))))) (.seq (.reg false ycaa) .ret))) (.seq (.reg false ybvz) (.cond (.tmp 51) (.seq (.reg false ybrm) (.seq (.reg false ybui) .ret)) (.seq (.reg false ybwv) (.cond (.tmp 59) (.seq (.reg false ybwt) (.seq (.seq (.reg false ybsi) (.block 3 (.loop (.seq (.reg false ybzm) (.seq (.cond (.tmp 64) .skip (.exit 3)) (.seq (.block 4 (.seq (.reg false ybvm) (.reg false ybrk))) (.reg false ybvj))))))) (.seq (.reg false ybtp) .ret))) (.seq (.reg false ybtx) (.cond (.tmp 73) (.seq (.reg false ybrh) .ret) (.seq (.reg false yccg) (.cond (.tmp 77) (.seq (.reg false ycak) (.seq (.reg false ybsw) .ret)) .skip)))))))))))))))))))) (.seq (.seq (.reg false ybzu) (.cond (.tmp 87) (.seq (.reg false ybre) .ret) .skip)) (.seq (.reg false ybrb) .ret))))
theorem ydak:Fn 241 c241 [.t 4]:=fn_0 Tryz.func241 (by kernel_rfl) (by kernel_rfl)
def ycpk:LO:=[o3 (.mv (.const (.bool false))) 2 0]
def ycla:LO:=[mv' 0 3 0,o3 (.bin .neq (.tmp 3) (ci' 0)) 4 1,mv' 4 2 3]
def c252:SC:=(.seq (.reg false ycpk) (.seq (.reg false ycla) .ret))
theorem yddh:Fn 252 c252 [.t 2]:=fn_0 Tryz.func252 (by kernel_rfl) (by kernel_rfl)
def ycms:LO:=[o3 (.mv (ci' 0)) 2 0]
def yckx:LO:=[o3 (.mv (ci' 0)) 3 0]
def yclo:LO:=[mv' 0 6 0,ln' 6 7 1,o3 (.mv (ci' 0)) 8 0]
def ycki:LO:=[bn' .lss 8 7 9 0]
def ycoy:LO:=[ix' 1 6 8 10 0,ld' false 1 10 11 1,mv' 11 5 3]
def ycsm:LO:=[mv' 5 12 0,o3 (.bin .neq (.tmp 12) (ci' 0)) 13 1]
def yckf:LO:=[mv' 3 14 0,o3 (.bin .add (.tmp 14) (ci' 1)) 15 1,mv' 15 3 3]
def ycnx:LO:=[o3 (.bin .add (.tmp 8) (ci' 1)) 16 0,mv' 16 8 1]
def yctw:LO:=[mv' 3 17 0,mv' 17 2 1]
def c250:SC:=(.seq (.reg false ycms) (.seq (.reg false yckx) (.seq (.seq (.reg false yclo) (.block 0 (.loop (.seq (.reg false ycki) (.seq (.cond (.tmp 9) .skip (.exit 0)) (.seq (.block 1 (.seq (.reg false ycoy) (.seq (.reg false ycsm) (.cond (.tmp 13) (.reg false yckf) .skip)))) (.reg false ycnx))))))) (.seq (.reg false yctw) .ret))))
theorem ydez:Fn 250 c250 [.t 2]:=fn_0 Tryz.func250 (by kernel_rfl) (by kernel_rfl)
def yctf:LO:=[o3 (.mv (ci' 0)) 2 0,o3 (.mv (ci' 0)) 3 1]
def ycjq:LO:=[o3 (.mv (.const (.int .i64 (-1073741824)))) 2 0,o3 (.mv (.const (.int .i64 (-1073741824)))) 3 1]
def ycmt:LO:=[mv' 0 6 0,ln' 6 7 1,o3 (.mv (ci' 0)) 8 0]
def ycnj:LO:=[bn' .lss 8 7 9 0]
def ycul:LO:=[ix' 1 6 8 10 0,ld' false 1 10 11 1,mv' 11 5 3]
def ycrq:LO:=[mv' 5 12 0,mv' 2 13 0,bn' .gtr 12 13 14 3]
def ycpy:LO:=[mv' 5 15 0,mv' 2 16 0,mv' 15 2 3,mv' 16 3 7]
def ycnw:LO:=[mv' 3 17 0,mv' 5 18 0,o3 (.mm true (.tmp 17) (.tmp 18)) 19 3,mv' 19 3 7]
def ycqm:LO:=[o3 (.bin .add (.tmp 8) (ci' 1)) 20 0,mv' 20 8 1]
def ycmm:LO:=[mv' 2 21 0,mv' 3 22 0,mv' 21 2 1,mv' 22 3 7]
def c253:SC:=(.seq (.reg false yctf) (.seq (.reg false ycjq) (.seq (.seq (.reg false ycmt) (.block 0 (.loop (.seq (.reg false ycnj) (.seq (.cond (.tmp 9) .skip (.exit 0)) (.seq (.block 1 (.seq (.reg false ycul) (.seq (.reg false ycrq) (.cond (.tmp 14) (.reg false ycpy) (.reg false ycnw))))) (.reg false ycqm))))))) (.seq (.reg false ycmm) .ret))))
theorem ycxg:Fn 253 c253 [.t 2,.t 3]:=fn_0 Tryz.func253 (by kernel_rfl) (by kernel_rfl)
def ycuv:LO:=[o3 (.mv (ci' 0)) 2 0]
def ycsc:LO:=[o3 (.mv (ci' 0)) 3 0]
def ycsz:LO:=[mv' 0 4 0,mv' 3 5 0,cl' 258 [4,5] 6 3]
def ycjt:LO:=[mv' 3 7 0,o3 (.bin .add (.tmp 7) (ci' 1)) 8 1,mv' 8 3 3]
def ycve:LO:=[mv' 3 9 0,mv' 9 2 1]
def c254:SC:=(.seq (.reg false ycuv) (.seq (.reg false ycsc) (.seq (.block 0 (.loop (.seq (.seq (.reg false ycsz) (.cond (.tmp 6) .skip (.exit 0))) (.block 1 (.reg false ycjt))))) (.seq (.reg false ycve) .ret))))
theorem ydej:Fn 254 c254 [.t 2]:=fn_0 Tryz.func254 (by kernel_rfl) (by kernel_rfl)
def yctx:LO:=[o3 (.box 32 (.tmp 0)) 2 0,o3 (.box 27 (.tmp 1)) 3 0,o3 (.mv (.const (.pointer none))) 4 0]
def ycme:LO:=[ld' true 3 2 10 0,ld' true 2 3 11 0,fa' 1 1 3 12 0,ld' false 1 12 13 4,ln' 13 14 12,o3 (.mk 22 1 24 [.a (.slice none 0 0)] (.tmp 14) (.tmp 14)) 15 28,o3 (.build [.a (.string (ByteArray.mk #[])),.a (.slice none 0 0),.a (.slice none 0 0),.a (.slice none 0 0),.a (.slice none 0 0),.i .i64 0,.a (.slice none 0 0)] [(0,3,(.tmp 10)),(3,2,(.tmp 11)),(6,1,(.tmp 15))]) 16 63,o3 (.box 235 (.tmp 16)) 17 127,mv' 17 5 255]
def ycsy:LO:=[fa' 1 1 3 18 0,ld' false 1 18 19 1,ln' 19 20 3,o3 (.mv (ci' 0)) 21 0]
def yctn:LO:=[bn' .lss 21 20 22 0]
def yckm:LO:=[mv' 21 23 0,ix' 1 19 21 24 0,ld' false 1 24 25 2,mv' 23 6 7,mv' 25 7 15]
def ycqo:LO:=[mv' 5 26 0,mv' 5 27 0,o3 (.nilck (.tmp 27)) 28 2,fa' 5 1 28 29 6,ld' false 1 29 30 14,fa' 0 1 3 31 0,ld' false 1 31 32 32,mv' 6 33 0,ix' 1 32 33 34 224,ld' false 1 34 35 480,o3 (.mm true (.tmp 30) (.tmp 35)) 36 1022,o3 (.nilck (.tmp 26)) 37 2047,fa' 5 1 37 38 4095,o0 (.store 1 (.tmp 38) (.tmp 36)) 8191]
def ycqt:LO:=[mv' 7 39 0,ln' 39 40 1,o3 (.mv (ci' 0)) 41 0]
def ycoz:LO:=[bn' .lss 41 40 42 0]
def ycql:LO:=[ix' 2 39 41 43 0,ld' true 2 43 44 1,o3 (.alloc 68 1 [.i .i64 0,.i .i64 0]) 9 0,o0 (.store 2 (.tmp 9) (.tmp 44)) 7]
def ycky:LO:=[mv' 5 45 0,o3 (.nilck (.tmp 45)) 46 1,fa' 6 1 46 47 3,ld' false 1 47 48 7,mv' 6 49 0,mv' 5 50 0,o3 (.nilck (.tmp 50)) 51 32,fa' 6 1 51 52 96,ld' false 1 52 53 224,mv' 6 54 0,ix' 1 53 54 55 992,ld' false 1 55 56 2016,ld' true 2 3 57 0,fa' 0 1 9 58 0,ld' false 1 58 59 8192,mv' 6 60 0,cl' 204 [57,59,60] 61 61440,o3 (.bslice 3 1 1 [.i .i64 0] [(0,1,(.tmp 61))]) 62 126976,o3 (.app 3 1 8 (.tmp 56) (.tmp 62)) 63 262112,ix' 1 48 49 64 524287,o0 (.store 1 (.tmp 64) (.tmp 63)) 1048575]
def ybvf:LO:=[o3 (.bin .add (.tmp 41) (ci' 1)) 65 0,mv' 65 41 1]
def ybvr:LO:=[o3 (.bin .add (.tmp 21) (ci' 1)) 66 0,mv' 66 21 1]
def ybqs:LO:=[mv' 5 67 0,mv' 67 4 1]
def c167:SC:=(.seq (.reg false yctx) (.seq (.reg true ycme) (.seq (.seq (.reg false ycsy) (.block 0 (.loop (.seq (.reg false yctn) (.seq (.cond (.tmp 22) .skip (.exit 0)) (.seq (.block 1 (.seq (.reg false yckm) (.seq (.reg true ycqo) (.seq (.reg false ycqt) (.block 2 (.loop (.seq (.reg false ycoz) (.seq (.cond (.tmp 42) .skip (.exit 2)) (.seq (.block 3 (.seq (.reg false ycql) (.reg true ycky))) (.reg false ybvf)))))))))) (.reg false ybvr))))))) (.seq (.reg false ybqs) .ret))))
theorem ydaw:Fn 167 c167 [.t 4]:=fn_0 Tryz.func167 (by kernel_rfl) (by kernel_rfl)
def ycpj:LO:=[o3 (.mv (ci' 0)) 8 0]
def ycqg:LO:=[mv' 1 10 0]
def ycpg:LO:=[o3 (.bin .eql (.tmp 10) (ci' 6)) 12 0,mv' 12 11 1]
def ycow:LO:=[mv' 0 13 0,o3 (.nilck (.tmp 13)) 14 1,fa' 3 2 14 15 3,fa' 0 1 15 16 7,ld' false 1 16 17 15,ln' 17 18 31,mv' 18 8 63]
def ycsf:LO:=[o3 (.bin .eql (.tmp 10) (ci' 7)) 20 0,mv' 20 19 1]
def ycqu:LO:=[mv' 0 21 0,o3 (.nilck (.tmp 21)) 22 1,fa' 5 1 22 23 3,ld' false 1 23 24 7,mv' 24 8 15]
def ycqn:LO:=[o3 (.bin .eql (.tmp 10) (ci' 8)) 26 0,mv' 26 25 1]
def yctz:LO:=[mv' 0 27 0,o3 (.nilck (.tmp 27)) 28 1,fa' 3 2 28 29 3,fa' 0 1 29 30 7,ld' false 1 30 31 15,mv' 2 32 0,ix' 1 31 32 33 63,ld' false 1 33 34 127,mv' 34 8 255]
def ycpv:LO:=[o3 (.bin .eql (.tmp 10) (ci' 9)) 36 0,mv' 36 35 1]
def ycwg:LO:=[mv' 0 37 0,o3 (.nilck (.tmp 37)) 38 1,fa' 3 2 38 39 3,fa' 1 1 39 40 7,ld' false 1 40 41 15,mv' 2 42 0,ix' 1 41 42 43 63,ld' false 1 43 44 127,ln' 44 45 255,mv' 45 8 511]
def ybqt:LO:=[o3 (.bin .eql (.tmp 10) (ci' 10)) 47 0,mv' 47 46 1]
def ybtn:LO:=[mv' 2 48 0,o3 (.bin .eql (.tmp 48) (ci' 0)) 49 1,cl' 240 [49] 50 3,mv' 50 8 7]
def ybzh:LO:=[o3 (.bin .eql (.tmp 10) (ci' 11)) 52 0,mv' 52 51 1]
def ybyv:LO:=[mv' 3 53 0,mv' 53 8 1]
def ybvi:LO:=[mv' 0 54 0,o3 (.nilck (.tmp 54)) 55 1,fa' 3 2 55 56 3,fa' 1 1 56 57 7,ld' false 1 57 58 15,mv' 2 59 0,ix' 1 58 59 60 63,ld' false 1 60 61 127,mv' 3 62 0,ix' 2 61 62 63 511,ld' true 2 63 64 1023,o3 (.alloc 68 1 [.i .i64 0,.i .i64 0]) 9 0,o0 (.store 2 (.tmp 9) (.tmp 64)) 4095]
def ybqn:LO:=[mv' 1 65 0]
def ybsr:LO:=[o3 (.bin .eql (.tmp 65) (ci' 13)) 67 0,mv' 67 66 1]
def ybvd:LO:=[mv' 0 68 0,o3 (.nilck (.tmp 68)) 69 1,fa' 3 2 69 70 3,fa' 0 1 70 71 7,ld' false 1 71 72 15,fa' 0 1 9 73 0,ld' false 1 73 74 32,ix' 1 72 74 75 127,ld' false 1 75 76 255,mv' 76 8 511]
def ybut:LO:=[o3 (.bin .eql (.tmp 65) (ci' 14)) 78 0,mv' 78 77 1]
def ybyl:LO:=[mv' 0 79 0,o3 (.nilck (.tmp 79)) 80 1,fa' 3 2 80 81 3,fa' 1 1 81 82 7,ld' false 1 82 83 15,fa' 0 1 9 84 0,ld' false 1 84 85 32,ix' 1 83 85 86 127,ld' false 1 86 87 255,ln' 87 88 511,mv' 88 8 1023]
def ybty:LO:=[o3 (.bin .eql (.tmp 65) (ci' 15)) 90 0,mv' 90 89 1]
def yccm:LO:=[fa' 0 1 9 91 0,ld' false 1 91 92 1,o3 (.bin .eql (.tmp 92) (ci' 0)) 93 3,cl' 240 [93] 94 7,mv' 94 8 15]
def ybyy:LO:=[o3 (.bin .eql (.tmp 65) (ci' 16)) 96 0,mv' 96 95 1]
def ybzr:LO:=[fa' 1 1 9 97 0,ld' false 1 97 98 1,mv' 98 8 3]
def ybwm:LO:=[mv' 0 99 0,o3 (.nilck (.tmp 99)) 100 1,fa' 6 1 100 101 3,ld' false 1 101 102 7,mv' 2 103 0,ix' 1 102 103 104 31,ld' false 1 104 105 63,mv' 3 106 0,ix' 1 105 106 107 255,ld' false 1 107 108 511,mv' 108 8 1023]
def c239:SC:=(.seq (.reg false ycpj) (.seq (.seq (.reg false ycqg) (.block 0 (.seq (.reg false ycpg) (.cond (.tmp 11) (.seq (.reg false ycow) .ret) (.seq (.reg false ycsf) (.cond (.tmp 19) (.seq (.reg false ycqu) .ret) (.seq (.reg false ycqn) (.cond (.tmp 25) (.seq (.reg false yctz) .ret) (.seq (.reg false ycpv) (.cond (.tmp 35) (.seq (.reg false ycwg) .ret) (.seq (.reg false ybqt) (.cond (.tmp 46) (.seq (.reg false ybtn) .ret) (.seq (.reg false ybzh) (.cond (.tmp 51) (.seq (.reg false ybyv) .ret) .skip)))))))))))))) (.seq (.reg false ybvi) (.seq (.seq (.reg false ybqn) (.block 1 (.seq (.reg false ybsr) (.cond (.tmp 66) (.seq (.reg true ybvd) .ret) (.seq (.reg false ybut) (.cond (.tmp 77) (.seq (.reg true ybyl) .ret) (.seq (.reg false ybty) (.cond (.tmp 89) (.seq (.reg false yccm) .ret) (.seq (.reg false ybyy) (.cond (.tmp 95) (.seq (.reg false ybzr) .ret) .skip)))))))))) (.seq (.reg false ybwm) .ret)))))
theorem yder:Fn 239 c239 [.t 8]:=fn_0 Tryz.func239 (by kernel_rfl) (by kernel_rfl)
def yckh:LO:=[o3 (.mv (ci' 0)) 8 0]
def ycrj:LO:=[mv' 0 12 0,mv' 1 13 0,mv' 2 14 0,mv' 3 15 0,o3 (.build [.a (.pointer none),.a (.slice none 0 0),.i .i64 0,.a (.slice none 0 0)] [(0,1,(.tmp 12)),(1,1,(.tmp 13)),(2,1,(.tmp 14)),(3,1,(.tmp 15))]) 16 15,o3 (.alloc 237 1 [.a (.pointer none),.a (.slice none 0 0),.i .i64 0,.a (.slice none 0 0)]) 9 0,o0 (.store 4 (.tmp 9) (.tmp 16)) 63]
def ycns:LO:=[o3 (.call (.func 205) [(.tmp 9),(ci' 0),(.const (.int .i64 (-1)))]) 18 0,mv' 18 17 1,xt' 17 0 19 3,xt' 17 1 20 3,mv' 19 10 7,mv' 20 11 31]
def ycup:LO:=[mv' 10 21 0,mv' 21 8 1]
def c169:SC:=(.seq (.reg false yckh) (.seq (.reg false ycrj) (.seq (.reg false ycns) (.seq (.reg false ycup) .ret))))
theorem ydci:Fn 169 c169 [.t 8]:=fn_0 Tryz.func169 (by kernel_rfl) (by kernel_rfl)
def yckz:LO:=[o3 (.mv (.const (.bool false))) 8 0]
def ycog:LO:=[mv' 0 9 0,mv' 1 10 0,mv' 2 11 0,mv' 0 12 0,o3 (.nilck (.tmp 12)) 13 8,fa' 0 3 13 14 24,fa' 2 1 14 15 56,ld' false 1 15 16 120,mv' 3 17 0,ix' 3 16 17 18 504,fa' 1 1 18 19 1016,ld' false 1 19 20 2040,cl' 169 [9,10,11,20] 21 4095,o3 (.bin .neq (.tmp 21) (ci' 0)) 22 8191,mv' 22 8 16383]
def c168:SC:=(.seq (.reg false yckz) (.seq (.reg false ycog) .ret))
theorem ydes:Fn 168 c168 [.t 8]:=fn_0 Tryz.func168 (by kernel_rfl) (by kernel_rfl)
def yvz:LO:=[o3 (.mv (ci' 0)) 6 0,o3 (.mv (ci' 0)) 7 1]
def yxa:LO:=[mv' 0 18 0,o3 (.nilck (.tmp 18)) 19 1,fa' 3 1 19 20 3,ld' false 1 20 21 7,mv' 1 22 0,ix' 2 21 22 23 31,ld' true 2 23 24 63,o3 (.alloc 251 1 [.i .i64 0,.i .i64 0]) 8 0,o0 (.store 2 (.tmp 8) (.tmp 24)) 255]
def yvi:LO:=[fa' 0 1 8 26 0,ld' false 1 26 27 1,o3 (.bin .leq (.tmp 27) (ci' 17)) 28 3,mv' 28 25 7]
def yvw:LO:=[mv' 0 29 0,ld' true 2 8 30 0,mv' 2 31 0,cl' 220 [29,30,31] 32 7,mv' 1 33 0,o3 (.bin .add (.tmp 33) (ci' 1)) 34 16,mv' 32 6 15,mv' 34 7 127]
def ywh:LO:=[fa' 0 1 8 36 0,ld' false 1 36 37 1,o3 (.bin .leq (.tmp 37) (ci' 19)) 38 3,mv' 38 35 7]
def yvx:LO:=[mv' 0 40 0,mv' 1 41 0,o3 (.bin .add (.tmp 41) (ci' 1)) 42 2,mv' 2 43 0,cl' 205 [40,42,43] 44 15,mv' 44 39 31,xt' 39 0 45 63,xt' 39 1 46 63,mv' 45 6 127,mv' 46 7 511]
def yvk:LO:=[fa' 0 1 8 47 0,ld' false 1 47 48 1,mv' 6 49 0,cl' 221 [48,49] 50 7,mv' 7 51 0,mv' 50 6 15,mv' 51 7 63]
def ywa:LO:=[fa' 0 1 8 53 0,ld' false 1 53 54 1,o3 (.bin .leq (.tmp 54) (ci' 29)) 55 3,mv' 55 52 7]
def yvn:LO:=[mv' 0 56 0,fa' 0 1 8 57 0,ld' false 1 57 58 2,mv' 1 59 0,cl' 222 [56,58,59] 60 15,xt' 60 0 61 31,xt' 60 1 62 31,mv' 61 6 127,mv' 62 7 255]
def yxe:LO:=[fa' 0 1 8 64 0,ld' false 1 64 65 1,o3 (.bin .leq (.tmp 65) (ci' 42)) 66 3,mv' 66 63 7]
def yor:LO:=[mv' 0 68 0,mv' 1 69 0,o3 (.bin .add (.tmp 69) (ci' 1)) 70 2,mv' 2 71 0,cl' 205 [68,70,71] 72 15,mv' 72 67 31,xt' 67 0 73 63,xt' 67 1 74 63,mv' 73 9 127,mv' 74 10 511]
def yos:LO:=[mv' 0 76 0,mv' 10 77 0,mv' 2 78 0,cl' 205 [76,77,78] 79 7,mv' 79 75 15,xt' 75 0 80 31,xt' 75 1 81 31,mv' 80 11 63,mv' 81 12 255]
def ypv:LO:=[fa' 0 1 8 82 0,ld' false 1 82 83 1,mv' 9 84 0,mv' 11 85 0,cl' 223 [83,84,85] 86 15,mv' 12 87 0,mv' 86 6 31,mv' 87 7 127]
def ypk:LO:=[mv' 0 89 0,mv' 1 90 0,o3 (.bin .add (.tmp 90) (ci' 1)) 91 2,mv' 2 92 0,cl' 205 [89,91,92] 93 15,mv' 93 88 31,xt' 88 0 94 63,xt' 88 1 95 63,mv' 94 13 127,mv' 95 14 511]
def ypg:LO:=[mv' 0 97 0,mv' 14 98 0,mv' 2 99 0,cl' 205 [97,98,99] 100 7,mv' 100 96 15,xt' 96 0 101 31,xt' 96 1 102 31,mv' 101 15 63,mv' 102 16 255]
def ypq:LO:=[mv' 0 104 0,mv' 16 105 0,mv' 2 106 0,cl' 205 [104,105,106] 107 7,mv' 107 103 15,xt' 103 0 108 31,xt' 103 1 109 31,mv' 108 17 63,mv' 109 7 255]
def yov:LO:=[mv' 13 110 0,o3 (.bin .neq (.tmp 110) (ci' 0)) 111 1]
def ype:LO:=[mv' 15 112 0,mv' 7 113 0,mv' 112 6 1,mv' 113 7 7]
def ypf:LO:=[mv' 17 114 0,mv' 7 115 0,mv' 114 6 1,mv' 115 7 7]
def c205:SC:=(.seq (.reg false yvz) (.seq (.reg false yxa) (.seq (.block 0 (.seq (.reg false yvi) (.cond (.tmp 25) (.seq (.reg false yvw) .ret) (.seq (.reg false ywh) (.cond (.tmp 35) (.seq (.reg false yvx) (.seq (.reg false yvk) .ret)) (.seq (.reg false ywa) (.cond (.tmp 52) (.seq (.reg false yvn) .ret) (.seq (.reg false yxe) (.cond (.tmp 63) (.seq (.reg false yor) (.seq (.reg false yos) (.seq (.reg false ypv) .ret))) .skip))))))))) (.seq (.reg false ypk) (.seq (.reg false ypg) (.seq (.reg false ypq) (.seq (.seq (.reg false yov) (.cond (.tmp 111) (.seq (.reg false ype) .ret) .skip)) (.seq (.reg false ypf) .ret))))))))
theorem ysp:Fn 205 c205 [.t 6,.t 7]:=fn_0 Tryz.func205 (by kernel_rfl) (by kernel_rfl)
def yclh:LO:=[o3 (.box 251 (.tmp 1)) 4 0,o3 (.mv (ci' 0)) 6 0]
def ycmh:LO:=[fa' 0 1 4 7 0,ld' false 1 7 8 1]
def ycsx:LO:=[o3 (.bin .eql (.tmp 8) (ci' 1)) 10 0,mv' 10 9 1]
def ycvk:LO:=[fa' 1 1 4 11 0,ld' false 1 11 12 1,mv' 12 6 3]
def ycug:LO:=[o3 (.bin .eql (.tmp 8) (ci' 2)) 14 0,mv' 14 13 1]
def ycmv:LO:=[o3 (.mv (ci' 1)) 6 0]
def ycoh:LO:=[o3 (.bin .eql (.tmp 8) (ci' 3)) 16 0,mv' 16 15 1]
def ycsq:LO:=[o3 (.mv (ci' 0)) 6 0]
def ycra:LO:=[o3 (.bin .eql (.tmp 8) (ci' 4)) 18 0,mv' 18 17 1]
def yclf:LO:=[o3 (.mv (.const (.int .i64 (-1)))) 6 0]
def ybwf:LO:=[o3 (.bin .eql (.tmp 8) (ci' 5)) 20 0,mv' 20 19 1]
def ybso:LO:=[mv' 0 21 0,o3 (.nilck (.tmp 21)) 22 1,fa' 1 1 22 23 3,ld' false 1 23 24 7,mv' 0 25 0,o3 (.nilck (.tmp 25)) 26 16,fa' 2 1 26 27 48,ld' false 1 27 28 112,ix' 1 24 28 29 255,ld' false 1 29 30 511,fa' 1 1 4 31 0,ld' false 1 31 32 1024,ix' 1 30 32 33 4095,ld' false 1 33 34 8191,mv' 34 6 16383]
def ybxe:LO:=[o3 (.bin .eql (.tmp 8) (ci' 12)) 36 0,mv' 36 35 1]
def ybvg:LO:=[mv' 0 37 0,o3 (.nilck (.tmp 37)) 38 1,fa' 1 1 38 39 3,ld' false 1 39 40 7,mv' 0 41 0,o3 (.nilck (.tmp 41)) 42 16,fa' 0 1 42 43 48,ld' false 1 43 44 112,o3 (.nilck (.tmp 44)) 45 240,fa' 3 2 45 46 496,fa' 1 1 46 47 1008,ld' false 1 47 48 2032,mv' 0 49 0,o3 (.nilck (.tmp 49)) 50 4096,fa' 2 1 50 51 12288,ld' false 1 51 52 28672,ix' 1 48 52 53 65520,ld' false 1 53 54 131056,mv' 2 55 0,ix' 2 54 55 56 524272,fa' 0 1 56 57 1048560,ld' false 1 57 58 2097136,ix' 1 40 58 59 4194303,ld' false 1 59 60 8388607,fa' 1 1 4 61 0,ld' false 1 61 62 16777216,ix' 1 60 62 63 67108863,ld' false 1 63 64 134217727,mv' 64 6 268435455]
def ybxh:LO:=[mv' 0 65 0,o3 (.nilck (.tmp 65)) 66 1,fa' 0 1 66 67 3,ld' false 1 67 68 7,fa' 0 1 4 69 0,ld' false 1 69 70 16,mv' 0 71 0,o3 (.nilck (.tmp 71)) 72 64,fa' 2 1 72 73 192,ld' false 1 73 74 448,mv' 2 75 0,cl' 239 [68,70,74,75] 76 2047,mv' 76 6 4095]
def c220:SC:=(.seq (.reg false yclh) (.seq (.seq (.reg false ycmh) (.block 0 (.seq (.reg false ycsx) (.cond (.tmp 9) (.seq (.reg false ycvk) .ret) (.seq (.reg false ycug) (.cond (.tmp 13) (.seq (.reg false ycmv) .ret) (.seq (.reg false ycoh) (.cond (.tmp 15) (.seq (.reg false ycsq) .ret) (.seq (.reg false ycra) (.cond (.tmp 17) (.seq (.reg false yclf) .ret) (.seq (.reg false ybwf) (.cond (.tmp 19) (.seq (.reg true ybso) .ret) (.seq (.reg false ybxe) (.cond (.tmp 35) (.seq (.reg true ybvg) .ret) .skip)))))))))))))) (.seq (.reg true ybxh) .ret)))
theorem ydad:Fn 220 c220 [.t 6]:=fn_0 Tryz.func220 (by kernel_rfl) (by kernel_rfl)
def ycjs:LO:=[o3 (.mv (ci' 0)) 6 0,o3 (.mv (ci' 0)) 7 1]
def ycuh:LO:=[o3 (.alloc 150 24 [.i .i64 0]) 8 0]
def yclj:LO:=[mv' 0 11 0,o3 (.nilck (.tmp 11)) 12 1,fa' 0 1 12 13 3,ld' false 1 13 14 7,o3 (.nilck (.tmp 14)) 15 15,fa' 3 2 15 16 31,fa' 1 1 16 17 63,ld' false 1 17 18 127,mv' 0 19 0,o3 (.nilck (.tmp 19)) 20 256,fa' 2 1 20 21 768,ld' false 1 21 22 1792,ix' 1 18 22 23 4095,ld' false 1 23 24 8191,ln' 24 25 16383,mv' 25 9 32767]
def ycqp:LO:=[mv' 9 26 0,o3 (.mv (ci' 0)) 27 0]
def ycor:LO:=[bn' .lss 27 26 28 0]
def ycun:LO:=[mv' 27 29 0,mv' 29 10 1]
def ycsu:LO:=[mv' 10 31 0,mv' 0 32 0,mv' 2 33 0,o3 (.bin .add (.tmp 33) (ci' 1)) 34 4,mv' 10 35 0,cl' 205 [32,34,35] 36 30,mv' 36 30 62,xt' 30 0 37 126,xt' 30 1 38 126,o3 (.idxA 24 1 (.tmp 8) (.tmp 31)) 39 255,o0 (.store 1 (.tmp 39) (.tmp 37)) 767,mv' 38 7 2047]
def ycmf:LO:=[o3 (.bin .add (.tmp 27) (ci' 1)) 40 0,mv' 40 27 1]
def ycjd:LO:=[mv' 9 41 0,o3 (.bin .eql (.tmp 41) (ci' 0)) 42 1]
def ycqr:LO:=[mv' 0 43 0,o3 (.nilck (.tmp 43)) 44 1,fa' 3 1 44 45 3,ld' false 1 45 46 7,mv' 2 47 0,cl' 215 [46,47] 48 31,mv' 48 7 63]
def ybrg:LO:=[mv' 1 49 0,mv' 9 50 0,o3 (.cutA 24 1 (.tmp 8) none (some (.tmp 50))) 51 2,cl' 241 [49,51] 52 7,mv' 7 53 0,mv' 52 6 15,mv' 53 7 63]
def c222:SC:=(.seq (.reg false ycjs) (.seq (.reg false ycuh) (.seq (.reg true yclj) (.seq (.seq (.reg false ycqp) (.block 0 (.loop (.seq (.reg false ycor) (.seq (.cond (.tmp 28) .skip (.exit 0)) (.seq (.block 1 (.seq (.reg false ycun) (.reg false ycsu))) (.reg false ycmf))))))) (.seq (.seq (.reg false ycjd) (.cond (.tmp 42) (.reg false ycqr) .skip)) (.seq (.reg false ybrg) .ret))))))
theorem ycxn:Fn 222 c222 [.t 6,.t 7]:=fn_0 Tryz.func222 (by kernel_rfl) (by kernel_rfl)
end Sh
end
section
def adj(g:Gr)(u v:Nat):Prop:=∃ls,g.ports[u]?=some ls/\∃l∈ls,l.1=(v:Int)
def Walk(g:Gr)(a:Nat):Nat->Nat->Prop
 |0,v=>v=a
 |k+1,v=>∃u,Walk g a k u/\adj g u v
def yczz(g:Gr)(a v:Nat)(x:Int):Prop:=(x = -1/\∀k,¬Walk g a k v)\/∃k:Nat,x=k/\Walk g a k v/\∀j,j<k->¬Walk g a j v
def ydpm(g:Gr)(a:Nat)(D:List Int):Prop:=D.length=g.ports.length/\∀v x,D[v]?=some x->yczz g a v x
theorem ybg.link{g:Gr}(h:ybg g){v:Nat}{ls:List (Int×Int)}(hv:g.ports[v]?=some ls){l:Int×Int}(hl:l∈ls):0<=l.1/\l.1<g.ports.length/\l.1≠v/\1<=l.2/\l.2<=15:=by
 obtain⟨hlt,e⟩:=List.getElem?_eq_some_iff.1 hv;have:=(h.2.2.2.2.2.1 ⟨v,hlt⟩).1 l (by simp only[Fin.getElem_fin,e];exact hl)
 unfold yob at this;simp only at this;omega
theorem ybg.adj_lt{g:Gr}(h:ybg g){u v:Nat}(ha:adj g u v):u<g.ports.length/\v<g.ports.length:=by
 obtain⟨ls,h1,l,hl,e⟩:=ha;have:=h.link h1 hl;exact⟨(List.getElem?_eq_some_iff.1 h1).1,by omega⟩
theorem ybg.adj_symm{g:Gr}(h:ybg g){u v:Nat}(ha:adj g u v):adj g v u:=by
 obtain⟨hu,hv⟩:=h.adj_lt ha;obtain⟨ls,h1,l,hl,e⟩:=ha;obtain⟨hlt,e1⟩:=List.getElem?_eq_some_iff.1 h1;have:=h.2.2.2.2.2.2 ⟨u,hlt⟩ l (by simp only[Fin.getElem_fin,e1];exact hl)
 rw[e,zV]at this;simp only[zH,zB hv,Option.getD_some]at this;exact⟨_,zB hv,_,this,rfl⟩
structure BfsInv(g:Gr)(a:Nat)(R:List Int)(Q:List Nat):Prop where
 len:R.length=g.ports.length
 src:R[a]?=some 0
 val:∀(v:Nat) (x:Int),R[v]?=some x->x = -1\/∃k:Nat,x=k/\Walk g a k v/\∀j,j<k->¬Walk g a j v
 qin:∀q∈Q,∃k:Nat,R[q]?=some (k:Int)
 sorted:Q.Pairwise (fun p q=>∀x y,R[p]?=some x->R[q]?=some y->x<=y/\y<=x+1)
 done:∀(v k:Nat),R[v]?=some (k:Int)->v∉Q->∀u,adj g v u->∃j:Nat,R[u]?=some (j:Int)
structure BfsIn(g:Gr)(a v d:Nat)(ls:List (Int×Int))(i:Nat)(R:List Int)(Q:List Nat):Prop where
 len:R.length=g.ports.length
 src:R[a]?=some 0
 val:∀(v:Nat) (x:Int),R[v]?=some x->x = -1\/∃k:Nat,x=k/\Walk g a k v/\∀j,j<k->¬Walk g a j v
 qin:∀q∈Q,∃k:Nat,R[q]?=some (k:Int)
 sorted:Q.Pairwise (fun p q=>∀x y,R[p]?=some x->R[q]?=some y->x<=y/\y<=x+1)
 rv:R[v]?=some (d:Int)
 low:∀q∈Q,∀y,R[q]?=some y->(d:Int)<=y/\y<=d+1
 done:∀(u k:Nat),R[u]?=some (k:Int)->u∉Q->u≠v->∀t,adj g u t->∃j:Nat,R[t]?=some (j:Int)
 part:∀l∈ls.take i,∃j:Nat,R[l.1.toNat]?=some (j:Int)
end
section
def ycet(R:List Int)(x:Int)(ls:List (Int×Int)):Bool:=ls.any (fun l=>decide (R[l.1.toNat]?=some x))
def ycek(g:Gr)(d:Int)(R:List Int)(v:Nat):List Int :=
 if decide (R.getD v 0<0)&&ycet R (d-1) (g.ports.getD v [])then R.set v d else R
def stepD(g:Gr)(R:List Int)(d:Nat):List Int:=(zK g.ports.length).foldl (ycek g d) R
def start(g:Gr)(a:Nat):List Int:=(List.replicate g.ports.length (-1)).set a 0
def yqu(g:Gr)(a:Nat):List Int:=(zK (g.ports.length-1)).foldl (fun R d=>stepD g R (d+1)) (start g a)
def Upto(g:Gr)(a d v:Nat)(x:Int):Prop:=(x = -1/\∀k,k<=d->¬Walk g a k v)\/∃k:Nat,k<=d/\x=k/\Walk g a k v/\∀j,j<k->¬Walk g a j v
theorem Upto.eq{g:Gr}{a d v:Nat}{x:Int}(h:Upto g a d v x){k:Nat}(hk:k<=d):x=k↔Walk g a k v/\∀j,j<k->¬Walk g a j v:=by
 rcases h with⟨rfl,h1⟩|⟨i,hi,rfl,h1,h2⟩
 .exact⟨fun e=>by omega,fun e=>absurd e.1 (h1 k hk)⟩
 .constructor
  .intro e;obtain rfl:i=k:=by omega
   exact⟨h1,h2⟩
  .rintro⟨h3,h4⟩;rcases Nat.lt_trichotomy i k with h|h|h
   .exact absurd h1 (h4 i h)
   .omega
   .exact absurd h3 (h2 k h)
theorem Upto.more{g:Gr}{a d v:Nat}{x:Int}(h:Upto g a d v x)(hx:0<=x):Upto g a (d+1) v x:=by
 rcases h with⟨rfl,h1⟩|⟨i,hi,rfl,h1,h2⟩
 .omega
 .exact .inr ⟨i,by omega,rfl,h1,h2⟩
structure LayerInv(g:Gr)(a d v:Nat)(R:List Int):Prop where
 len:R.length=g.ports.length
 new:∀(u:Nat) (x:Int),R[u]?=some x->u<v->Upto g a (d+1) u x
 old:∀(u:Nat) (x:Int),R[u]?=some x->v<=u->Upto g a d u x
theorem LayerInv.at_{g:Gr}{a d v:Nat}{R:List Int}(h:LayerInv g a d v R){u:Nat}(hu:u<g.ports.length):R[u]?=some (d:Int)↔Walk g a d u/\∀j,j<d->¬Walk g a j u:=by
 have hl:=h.len;have e:R[u]?=some R[u]:=zB (by omega)
 have hx:R[u]=(d:Int)↔Walk g a d u/\∀j,j<d->¬Walk g a j u:=by
  by_cases hv:u<v
  .exact(h.new u _ e hv).eq (by omega)
  .exact(h.old u _ e (by omega)).eq (by omega)
 rw[e]
 simpa using hx
theorem LayerInv.step{g:Gr}(hg:ybg g){a d v:Nat}{R:List Int}(h:LayerInv g a d v R)(hv:v<g.ports.length):LayerInv g a d (v+1) (ycek g ((d:Int)+1) R v):=by
 have hlen:=h.len;have ev:R[v]?=some R[v]:=zB (by omega)
 have eg:R.getD v 0=R[v]:=by simp[zH,ev]
 have ep:g.ports.getD v []=g.ports[v]:=by simp[zH,zB hv]
 have hhas:ycet R ((d:Int)+1-1) g.ports[v]=true↔∃u,adj g u v/\Walk g a d u/\∀j,j<d->¬Walk g a j u:=by
  unfold ycet;rw[List.any_eq_true];constructor
  .rintro⟨l,hl,h1⟩;have hlk:=hg.link (zB hv) hl;have h1:=of_decide_eq_true h1;rw[show(d:Int)+1-1=d by omega]at h1
   refine⟨l.1.toNat,hg.adj_symm ⟨_,zB hv,l,hl,by omega⟩,?_⟩
   exact(h.at_ (by omega)).1 h1
  .rintro⟨u,hu,hw⟩;obtain⟨hu1,_⟩:=hg.adj_lt hu;obtain⟨ls,h1,l,hl,e⟩:=hg.adj_symm hu;rw[zB hv]at h1;cases h1
   refine⟨l,hl,decide_eq_true ?_⟩;rw[e,zV,show(d:Int)+1-1=d by omega]
   exact(h.at_ hu1).2 hw
 have hov:=h.old v _ ev (zC _);unfold ycek;rw[eg,ep]
 by_cases c1:R[v]<0
 .have hx:R[v] = -1/\∀k,k<=d->¬Walk g a k v:=by
   rcases hov with h1|⟨k,_,e,_⟩
   .exact h1
   .omega
  by_cases c2:ycet R ((d:Int)+1-1) g.ports[v]=true
  .rw[if_pos (by rw[zG];exact⟨decide_eq_true c1,c2⟩)]
   obtain⟨p,hp,hw,_⟩:=hhas.1 c2;have hset:∀t,t≠v->(R.set v ((d:Int)+1))[t]?=R[t]?:=fun t ht=>by rw[zL,if_neg (by omega)]
   refine⟨by simp[hlen],fun u x hu huv=>?_,fun u x hu huv=>?_⟩
   .by_cases e:u=v
    .subst e;rw[zL,if_pos rfl,if_pos (by omega)]at hu
     cases hu
     exact .inr ⟨d+1,zC _,by omega,⟨p,hw,hp⟩,fun j hj=>hx.2 j (by omega)⟩
    .rw[hset u e]at hu;exact h.new u x hu (by omega)
   .rw[hset u (by omega)]at hu
    exact h.old u x hu (by omega)
  .rw[if_neg (fun e=>c2 (zG _ _▸e).2)];refine⟨hlen,fun u x hu huv=>?_,fun u x hu huv=>h.old u x hu (by omega)⟩
   by_cases e:u=v
   .subst e;rw[ev]at hu;cases hu
    refine .inl ⟨hx.1,fun k hk hw=>?_⟩;rcases Nat.lt_or_ge d k with hlt|hge
    .obtain rfl:k=d+1:=by omega
     obtain⟨p,hp,hpv⟩:=hw;refine c2 (hhas.2 ⟨p,hpv,hp,fun j hj hw'=>hx.2 (j+1) (by omega) ⟨p,hw',hpv⟩⟩)
    .exact hx.2 k hge hw
   .exact h.new u x hu (by omega)
 .rw[if_neg (by simp[c1])]
  refine⟨hlen,fun u x hu huv=>?_,fun u x hu huv=>h.old u x hu (by omega)⟩
  by_cases e:u=v
  .subst e;exact(h.old u x hu (zC _)).more (by rw[ev]at hu;cases hu;omega)
  .exact h.new u x hu (by omega)
theorem yvm{g:Gr}(hg:ybg g){a d:Nat}{R:List Int}(h:LayerInv g a d 0 R):∀v,v<=g.ports.length->LayerInv g a d v ((zK v).foldl (ycek g ((d:Int)+1)) R)
 |0,_=>h
 | v+1,hv=>by
   rw[zAE,zM];exact(yvm hg h v (by omega)).step hg (by omega)
def yzq(g:Gr)(a d:Nat)(R:List Int):Prop:=R.length=g.ports.length/\∀(u:Nat) (x:Int),R[u]?=some x->Upto g a d u x
theorem ybmt{g:Gr}{a:Nat}(ha:a<g.ports.length):yzq g a 0 (start g a):=by
 refine⟨by simp[start],fun u x hu=>?_⟩
 unfold start at hu;rw[zL]at hu;split at hu
 .rename_i e
  subst e;simp[ha]at hu;subst hu;exact .inr ⟨0,zC _,rfl,rfl,fun j hj=>absurd hj (by omega)⟩
 .rename_i e
  rw[List.getElem?_replicate]at hu;split at hu
  .cases hu
   refine .inl ⟨rfl,fun k hk hw=>?_⟩;obtain rfl:k=0:=by omega
   exact e hw.symm
  .cases hu
theorem ybmo{g:Gr}(hg:ybg g){a d:Nat}{R:List Int}(h:yzq g a d R):yzq g a (d+1) (stepD g R (d+1)):=by
 have h0:LayerInv g a d 0 R:=⟨h.1,fun _ _ _ hu=>absurd hu (by omega),fun u x hu _=>h.2 u x hu⟩
 have h1:=yvm hg h0 g.ports.length (zC _);unfold stepD;rw[show((d+1:Nat):Int)=(d:Int)+1 by omega]
 exact⟨h1.len,fun u x hu=>h1.new u x hu (by rw[<-h1.len];exact(List.getElem?_eq_some_iff.1 hu).1)⟩
theorem ysf{g:Gr}(hg:ybg g){a:Nat}(ha:a<g.ports.length):∀d,yzq g a d ((zK d).foldl (fun R d=>stepD g R (d+1)) (start g a))
 |0=>ybmt ha
 |d+1=>by rw[zAE,zM];exact ybmo hg (ysf hg ha d)
theorem chain{g:Gr}{a:Nat}:∀k v,Walk g a k v->(∀j,j<k->¬Walk g a j v)->∃f:Nat->Nat,∀j,j<=k->Walk g a j (f j)/\∀i,i<j->¬Walk g a i (f j)
 | 0,v,h,_=>⟨fun _=>v,fun j hj=>by obtain rfl:j=0:=by omega
                                   exact⟨h,fun i hi=>absurd hi (by omega)⟩⟩
 | k + 1,v,h,hm=>by
   obtain⟨p,hp,hpv⟩:=h;obtain⟨f,hf⟩:=chain k p hp (fun j hj hw=>hm (j+1) (by omega) ⟨p,hw,hpv⟩)
   refine⟨fun j=>if j<=k then f j else v,fun j hj=>?_⟩
   by_cases hjk:j<=k
   .simp only[if_pos hjk];exact hf j hjk
   .obtain rfl:j=k+1:=by omega
    simp only[if_neg hjk];exact⟨⟨p,hp,hpv⟩,hm⟩
theorem walk_lt{g:Gr}(hg:ybg g){a:Nat}(ha:a<g.ports.length):∀k v,Walk g a k v->v<g.ports.length
 |0,v,h=>by obtain rfl:v=a:=h;exact ha
 |k+1,v,h=>by obtain⟨u,_,hu⟩:=h;exact(hg.adj_lt hu).2
theorem least_walk{g:Gr}{a v:Nat}:∀k,Walk g a k v->∃j,j<=k/\Walk g a j v/\∀i,i<j->¬Walk g a i v:=by
 intro k
 induction k using Nat.strongRecOn with
 | _ k ih =>
   intro hw
   by_cases h:∃j,j<k/\Walk g a j v
   .obtain⟨j,hj,hwj⟩:=h;obtain⟨i,hi,r⟩:=ih j hj hwj;exact⟨i,by omega,r⟩
   .exact⟨k,zC _,hw,fun i hi hwi=>h ⟨i,hi,hwi⟩⟩
theorem ycze{g:Gr}(hg:ybg g){a v k:Nat}(ha:a<g.ports.length)(h:Walk g a k v)(hm:∀j,j<k->¬Walk g a j v):k<g.ports.length:=by
 obtain⟨f,hf⟩:=chain k v h hm;have hinj:∀i j,i<j->j<=k->f i≠f j:=fun i j hij hj e=>(hf j hj).2 i hij (by rw[<-e];exact(hf i (by omega)).1)
 have h1:((zK (k+1)).map f).Nodup:=by
  rw[List.Nodup,List.pairwise_map];refine(List.Pairwise.and_mem.1 List.pairwise_lt_range).imp ?_;rintro i j ⟨_,hj,hij⟩;exact hinj i j hij (by simp at hj;omega)
 have h2:(zK (k+1)).map f ⊆ zK g.ports.length:=by
  intro x hx;obtain⟨j,hj,rfl⟩:=List.mem_map.1 hx;simp only[List.mem_range]at hj ⊢;exact walk_lt hg ha j _ (hf j (by omega)).1
 have:=List.Nodup.length_le_of_subset h1 h2;simp at this;omega
theorem ybbe{g:Gr}(hg:ybg g){a:Nat}(ha:a<g.ports.length):ydpm g a (yqu g a):=by
 obtain⟨h1,h2⟩:=ysf hg ha (g.ports.length-1);refine⟨h1,fun v x hx=>?_⟩;rcases h2 v x hx with⟨rfl,h3⟩|⟨k,_,r⟩
 .refine .inl ⟨rfl,fun k hk=>?_⟩;obtain⟨j,_,hj,hm⟩:=least_walk k hk;have:=ycze hg ha hj hm;exact h3 j (by omega) hj
 .exact .inr ⟨k,r⟩
end
section
def ybwk(g:Gr):Bool:=ygt g&&(yqu g 0).all (fun x=>decide (0<=x))
theorem ybap(D:List Int):∀m:Int,m<=D.foldl max m:=by
 induction D with
 |nil=>intro m;exact Int.le_refl _
 |cons x D ih=>intro m;exact Int.le_trans (Int.le_max_left m x) (ih _)
theorem ydcb{g:Gr}(hg:ybg g){a:Nat}(ha:a<g.ports.length):(yqu g a).all (fun x=>decide (0<=x))=true↔∀v,v<g.ports.length->∃k,Walk g a k v:=by
 have hd:=ybbe hg ha;rw[zX];constructor
 .intro h v hv;have hv':v<(yqu g a).length:=by rw[hd.1];exact hv
  rcases hd.2 v _ (zB hv')with⟨e,_⟩|⟨k,_,hk,_⟩
  .have:=of_decide_eq_true (h _ (zY hv'));omega
  .exact⟨k,hk⟩
 .intro h x hx;obtain⟨v,hv,rfl⟩:=List.mem_iff_getElem.1 hx;obtain⟨k,hk⟩:=h v (by rw[<-hd.1];exact hv)
  rcases hd.2 v _ (zB hv)with⟨e,h1⟩|⟨k,e,_⟩
  .exact absurd hk (h1 k)
  .rw[e];simp
end
section
abbrev Conf:=List (List Int)
abbrev Bounds:=List (Int×Int)
def ybsg(bs:Bounds)(s:List Int):Bool:=decide (s.length=bs.length)&&(bs.zip s).all (fun p=>decide (p.1.1<=p.2)&&decide (p.2<=p.1.2))
def yuv(n:Nat)(bs:Nat->Bounds)(c:Conf):Bool:=decide (c.length=n)&&c.zipIdx.all (fun p=>ybsg (bs p.2) p.1)
def yih(bs:Bounds)(s:List Int):Prop:=s.length=bs.length/\∀(i:Nat) b x,bs[i]?=some b->s[i]?=some x->b.1<=x/\x<=b.2
def ybkt(n:Nat)(bs:Nat->Bounds)(c:Conf):Prop:=c.length=n/\∀(v:Nat) s,c[v]?=some s->yih (bs v) s
theorem ywu(bs:Bounds)(s:List Int):ybsg bs s=true↔yih bs s:=by
 unfold ybsg yih;rw[zG,decide_eq_true_iff,zX];refine and_congr_right fun _=>⟨fun h i b x hb hx=>?_,fun h p hp=>?_⟩
 .have:=h (b,x) (zF (i:=i) (by simp[zW,hb,hx]))
  simpa using this
 .obtain⟨i,hi⟩:=List.mem_iff_getElem?.1 hp;obtain⟨b,x⟩:=p;rw[zW]at hi
  simpa using h i b x hi.1 hi.2
theorem yfk(n:Nat)(bs:Nat->Bounds)(c:Conf):yuv n bs c=true↔ybkt n bs c:=by
 unfold yuv ybkt;rw[zG,decide_eq_true_iff,zX];refine and_congr_right fun _=>⟨fun h v s hs=>?_,fun h p hp=>?_⟩
 .refine(ywu _ _).1 (h (s,v) ?_);rw[zQ];exact hs
 .rw[zQ]at hp;exact(ywu _ _).2 (h p.2 p.1 hp)
theorem ysq{n:Nat}{bs:Nat->Bounds}{c:Conf}(h:¬ybkt n bs c):yuv n bs c=false:=by
 cases hb:yuv n bs c with
 |false=>rfl
 |true=>exact absurd ((yfk n bs c).1 hb) h
theorem ybpm{n:Nat}{bs:Nat->Bounds}{c:Conf}(h:ybkt n bs c):yuv n bs c=true:=(yfk n bs c).2 h
def ydch(g:Gr)(v:Nat):Nat:=(g.ports.getD v []).length
def yee(g:Gr)(G:List Int)(v:Nat):Bounds:=G.map (fun h=>if h = -1 then(-1,(ydch g v:Int)-1)else(0,h))
def ybmh(g:Gr):Int:=g.ids.foldl max 0
end
section
open Go.RowKit
end
section
open Go.RowKit
end
section
open Go.RowKit
end
section
end
section
def ybbs(ids:List Int)(k:Nat):Int:=(ids.take k).tail.foldl max (ids.headD 0)
abbrev maxI(ids:List Int):Int:=ybbs ids ids.length
theorem ybsv{ids:List Int}{k:Nat}(h1:1<=k)(hk:k<ids.length):(ids.take (k+1)).tail=(ids.take k).tail++[ids[k]]:=by
 rw[zN hk,List.tail_append_of_ne_nil];intro h;have:=congrArg zAF h;rw[List.length_take,zAD]at this;omega
theorem ybup(ids:List Int):ybbs ids 1=ids.headD 0:=by cases ids<;>simp[ybbs]
theorem ybpy{ids:List Int}{k:Nat}(h1:1<=k)(hk:k<ids.length):ybbs ids (k+1)=max (ybbs ids k) ids[k]:=by
 unfold ybbs;rw[ybsv h1 hk,zM];rfl
theorem ycfa{ids:List Int}(h0:0<ids.length)(h:∀x∈ids,0<=x):maxI ids=ids.foldl max 0:=by
 cases ids with
 |nil=>simp at h0
 | cons x l =>
   have hx:max 0 x=x:=Int.max_eq_right (h x (by simp))
   simp[maxI,ybbs,hx]
def idxP(ids:List Int)(x:Int):Int:=match ids.findIdx? (fun y=>x==y)with
 |some i=>i
 |none=>-1
theorem yccr{ids:List Int}{x:Int}{k:Nat}(hk:k<ids.length)(h:x=ids[k])(hn:(ids.take k).findIdx? (fun y=>x==y)=none):idxP ids x=k:=by
 unfold idxP
 have:ids.findIdx? (fun y=>x==y)=some k:=by
  rw[List.findIdx?_eq_some_iff_getElem];refine⟨hk,by simp[h],fun j hj=>?_⟩
  rw[List.findIdx?_eq_none_iff]at hn;simp[hn ids[j] (List.mem_take_iff_getElem.2 ⟨j,by omega,rfl⟩)]
 rw[this]
theorem ycbx{ids:List Int}{x:Int}(hn:(ids.take ids.length).findIdx? (fun y=>x==y)=none):idxP ids x = -1:=by
 rw[zAC]at hn;unfold idxP;rw[hn]
theorem ycha{ids:List Int}{x:Int}{k:Nat}(hk:k<ids.length)(h:x≠ids[k])(hn:(ids.take k).findIdx? (fun y=>x==y)=none):(ids.take (k+1)).findIdx? (fun y=>x==y)=none:=by
 rw[zN hk,List.findIdx?_append,hn];simp[h]
end
section
namespace Sh
open Go Ev
def ybc(l:List Int):SV:=.sl 1 l.length (fun k=>[.i .i64 (l.getD k 0)])
def ybb(ls:List (Int×Int)):SV:=.sl 2 ls.length (fun j=>[.i .i64 (ls.getD j (0,0)).1,.i .i64 (ls.getD j (0,0)).2])
def yu(ps:List (List (Int×Int))):SV:=.sl 1 ps.length (fun v=>[ybb (ps.getD v [])])
def ycm(c:List (List Int)):SV:=.sl 1 c.length (fun v=>[ybc (c.getD v [])])
def grV(g:Gr):SV:=.ag [ybc g.ids,yu g.ports]
theorem ik{n:Int}(h1:-1000000000000<=n)(h2:n<=1000000000000):inK .i64 n:=by
 unfold inK;simp[IntKind.min,IntKind.max,IntKind.bits,IntKind.signed];omega
theorem ikw{n:Int}(h1:-4611686018427387904<=n)(h2:n<=4611686018427387904):inK .i64 n:=by
 unfold inK;simp[IntKind.min,IntKind.max,IntKind.bits,IntKind.signed];omega
theorem getD_at{α:Type}{l:List α}{k:Nat}{d:α}(h:k<l.length):l.getD k d=l[k]:=by simp[zH,h]
theorem ycei{l:List Int}{i k:Nat}{x:Int}(h:i<l.length):(l.set i x).getD k 0=if k=i then x else l.getD k 0:=by
 simp only[zH,zL]
 by_cases q:i=k
 .subst q;simp[h]
 .rw[if_neg q,if_neg (Ne.symm q)]
theorem yccf(l:List Int)(x:Int)(hl:l.length<=100000):Returns zA 143 [ybc l,.i .i64 x] (.i .i64 (idxP l x)):=by
 refine Returns.of (yczk _ _ ?_);simp only[c143,ycjv,ycqh,ybc,go_sem,zT,↓reduceIte,reduceCtorEq];refine ybf (σ:=Nat) (fun k=>⟨[(8,.i .i64 k),(0,ybc l),(1,.i .i64 x),(7,.i .i64 l.length)],[]⟩) (fun k=>k<=l.length/\(l.take k).findIdx? (fun y=>x==y)=none) (fun k=>l.length-k) 0 ⟨zAG _,by simp⟩ ?_ ?_
 .refine yh [] [] [] ?_;simp only[ybc,allQ,live,yc,Int.natCast_zero,go_sem,zI,↓reduceIte,reduceCtorEq]
 .intro k ⟨hk,hno⟩;simp only[ycuq,ycrf,yckn,ycmg,ycjr,yclr,ybc,yba,go_sem,zI,zT,↓reduceIte,reduceCtorEq];refine⟨fun h=>⟨by omega,fun he=>?_,fun he=>⟨ik (by omega) (by omega),?_⟩⟩,fun h=>?_⟩
  .have hlt:k<l.length:=by omega
   rw[yccr hlt (by rw[he,getD_at hlt]) hno]
  .have hlt:k<l.length:=by omega
   refine yj (k+1) ⟨by omega,ycha hlt (by rw[<-getD_at (d:=0) hlt];exact he) hno⟩ (by omega) ?_
   refine yh [] [] [] ?_;simp only[allQ,live,yc,yba,go_sem,zI,↓reduceIte,reduceCtorEq];simp
  .obtain rfl:k=l.length:=by omega
   rw[ycbx hno]
theorem ydek(l:List Int)(h0:0<l.length)(hl:l.length<=100000):Returns zA 54 [ybc l] (.i .i64 (maxI l)):=by
 refine Returns.of (ydps _ _ ?_);simp only[c54,ydij,ydrb,ydug,ydty,ydnz,ybc,go_sem,Int.reduceToNat,zI,zT,↓reduceIte,reduceCtorEq];refine⟨fun h=>by omega,fun _=>⟨by omega,?_⟩⟩
 refine ybf (σ:=Nat) (fun k=>⟨[(4,.i .i64 k),(3,.i .i64 (ybbs l k)),(0,ybc l)],[]⟩) (fun k=>1<=k/\k<=l.length) (fun k=>l.length-k) 1 ⟨by omega,by omega⟩ ?_ ?_
 .refine yh [] [] [] ?_;simp only[ybc,ybup,allQ,live,yc,yba,go_sem,zI,↓reduceIte,reduceCtorEq];cases l<;>simp at h0 ⊢
 .intro k ⟨hk1,hk⟩;simp only[ydtn,ydsf,ydgs,ydjy,ybc,yba,go_sem,zI,zT,↓reduceIte,reduceCtorEq];refine⟨fun h=>⟨by omega,ik (by omega) (by omega),?_⟩,fun h=>?_⟩
  .refine yj (k+1) ⟨by omega,by omega⟩ (by omega) ?_
   refine yh [] [] [] ?_;have hlt:k<l.length:=by omega
   simp only[ybpy hk1 hlt,getD_at hlt,allQ,live,yc,yba,go_sem,zI,↓reduceIte,reduceCtorEq];simp
  .obtain rfl:k=l.length:=by omega
   rfl
end Sh
end
section
namespace Sh
open Go Ev Go.RowKit
def GrI(g:Gr):Prop:=(∀x∈g.ids,I64 x)/\∀ls∈g.ports,∀l∈ls,I64 l.1/\I64 l.2
def ybqf(c:List (List Int)):Prop:=∀s∈c,∀x∈s,I64 x
section
variable {G:AM}{m:Mem}{φ:Phi}{M:AM}{w:World}{u u':Value}
theorem ycfv {α:Type}{z n:Nat}{gg:Nat->List SV}{xs:List α}{E:Elem α}(hG:Le G m.b.get) (hr:RV G om0 (.sl z n gg) u) (hv:VR φ u u') (hR:Rel φ M w) (hs:Sub m M) (hn:xs.length=n)
 (hE:∀k x b o L L',xs[k]?=some x->RVL G om0 (gg k) L->VRL φ L L'->(∀j v,L'[j]?=some v->w.cell? ⟨b,o+j,none⟩=some v)->E w b o x):SlAt z E w u' xs:=by
 rcases hr.sl_inv with⟨rfl,h0⟩|⟨bk,p,cp,T,N,e,zz,L,rfl,g1,g2,g3,g4,g5,g6,g7⟩
 .have:xs=[]:=List.eq_nil_of_length_eq_zero hn;subst this;rcases h0 with rfl|⟨b,o,c,rfl⟩
  .have e:=hv.eq_simple rfl;subst e;exact SlAt.nil w
  .obtain⟨lc,A,c',k1,k2,k3,k4,k5,k6,k7⟩:=hv.slice_inv;subst k3;exact⟨some A,c',rfl,zAG _,k6,fun q=>absurd q (by simp)⟩
 .obtain⟨lc,A,c',k1,k2,k3,k4,k5,k6,k7⟩:=hv.slice_inv;subst k3;subst hn;refine⟨some A,c',rfl,k4,k6,fun hpos=>?_⟩;rcases k7 with⟨rfl,_⟩|k7
  .obtain⟨lc',h1,h2⟩:=hR.blk _ _ (hs _ _ (hG _ _ g1));have k1':φ bk=some lc:=k1;rw[k1']at h1;cases h1
   obtain⟨h3,h4,cs,e2,fz2,h0,h5,h6,h7⟩:=h2;refine⟨lc.blk,lc.base+p,rfl,(Array.getElem?_eq_some_iff.1 h5).1,fun k x hx=>?_⟩;have hk:k<xs.length:=(List.getElem?_eq_some_iff.1 hx).1;have hin:=yjq (z:=z) hk;have hcells:∀j v,j<z->(L k)[j]?=some v->∃v',cs[lc.base+(p+k*z+j)]?=some v'/\VR φ v v':=fun j v hj hv=>h7 _ v (by omega) (by rw[g5 k hk j hj];exact hv)
   have hex:∀(l:List Value) (q:Nat),(∀j v,l[j]?=some v->∃v',cs[q+j]?=some v'/\VR φ v v')->∃l',VRL φ l l'/\∀j v,l'[j]?=some v->cs[q+j]?=some v:=by
    intro l
    induction l with
    |nil=>intro q _;exact⟨[],.nil,fun j v h=>by simp at h⟩
    | cons a l ih =>
      intro q h;obtain⟨v',e1,e2⟩:=h 0 a rfl;obtain⟨l',e3,e4⟩:=ih (q+1) (fun j v hv=>by have:=h (j+1) v (by simpa using hv);rw[show q+1+j=q+(j+1)by omega];exact this)
      refine⟨v'::l',.cons e2 e3,fun j v hv=>?_⟩;cases j with
      |zero=>simp at hv;subst hv;exact e1
      |succ j=>have:=e4 j v (by simpa using hv);rw[show q+(j+1)=q+1+j by omega];exact this
   obtain⟨L',r1,r2⟩:=hex (L k) (lc.base+p+k*z) (fun j v hv=>by
    have hj:j<z:=by rw[<-g4 k hk];exact(List.getElem?_eq_some_iff.1 hv).1
    have:=hcells j v hj hv;rw[show lc.base+p+k*z+j=lc.base+(p+k*z+j)by omega]
    exact this)
   exact hE k x _ _ (L k) L' hx (g6 k hk) r1 fun j v hv=>cell_of h5 (by have:=r2 j v hv;exact this)
  .omega
theorem ints_at{l:List Int}(hG:Le G m.b.get)(hr:RV G om0 (ybc l) u)(hv:VR φ u u')(hR:Rel φ M w)(hs:Sub m M)(hI:∀x∈l,I64 x):ytq w u' l:=by
 refine ycfv hG hr hv hR hs rfl fun k x b o L L' hx hL hL' hc=>?_;have hk:k<l.length:=(List.getElem?_eq_some_iff.1 hx).1;have hxe:l.getD k 0=x:=by simp[zH,hx]
 rw[hxe]at hL;cases hL with
 | cons a b =>
   cases b
   cases a.int_inv
   obtain⟨v',rfl,hvv⟩:=yfs hL';have:=hvv.eq_simple rfl;subst this;exact⟨hc 0 _ rfl,hI x (zF hx)⟩
theorem ycgz{ls:List (Int×Int)}(hG:Le G m.b.get)(hr:RV G om0 (ybb ls) u)(hv:VR φ u u')(hR:Rel φ M w)(hs:Sub m M)(hI:∀l∈ls,I64 l.1/\I64 l.2):ycce w u' ls:=by
 refine ycfv hG hr hv hR hs rfl fun k x b o L L' hx hL hL' hc=>?_;have hxe:ls.getD k (0,0)=x:=by simp[zH,hx]
 rw[hxe]at hL;cases hL with
 | cons a b =>
   cases b with
   | cons a2 b2 =>
     cases b2
     cases a.int_inv
     cases a2.int_inv
     obtain⟨v1,v2,rfl,h1,h2⟩:=yys hL';have:=h1.eq_simple rfl;subst this;have:=h2.eq_simple rfl;subst this;exact⟨hc 0 _ rfl,hc 1 _ rfl,hI x (zF hx)⟩
theorem ycfw{ps:List (List (Int×Int))}(hG:Le G m.b.get)(hr:RV G om0 (yu ps) u)(hv:VR φ u u')(hR:Rel φ M w)(hs:Sub m M)(hI:∀ls∈ps,∀l∈ls,I64 l.1/\I64 l.2):yxk w u' ps:=by
 refine ycfv hG hr hv hR hs rfl fun k x b o L L' hx hL hL' hc=>?_;have hxe:ps.getD k []=x:=by simp[zH,hx]
 rw[hxe]at hL;cases hL with
 | cons a b =>
   cases b
   obtain⟨v',rfl,hvv⟩:=yfs hL';exact⟨v',hc 0 _ rfl,ycgz hG a hvv hR hs (hI x (zF hx))⟩
theorem ydbn{c:List (List Int)}(hG:Le G m.b.get)(hr:RV G om0 (ycm c) u)(hv:VR φ u u')(hR:Rel φ M w)(hs:Sub m M)(hI:ybqf c):ycvp w u' c:=by
 refine ycfv hG hr hv hR hs rfl fun k x b o L L' hx hL hL' hc=>?_;have hxe:c.getD k []=x:=by simp[zH,hx]
 rw[hxe]at hL;cases hL with
 | cons a b =>
   cases b
   obtain⟨v',rfl,hvv⟩:=yfs hL';exact⟨v',hc 0 _ rfl,ints_at hG a hvv hR hs (hI x (zF hx))⟩
theorem ydph{g:Gr}(hG:Le G m.b.get)(hr:RV G om0 (grV g) u)(hv:VR φ u u')(hR:Rel φ M w)(hs:Sub m M)(hI:GrI g):GrAt w u' g:=by
 obtain⟨L,rfl,hL⟩:=hr.ag_inv;cases hL with
 | cons a b =>
   cases b with
   | cons a2 b2 =>
     cases b2
     obtain⟨L',rfl,hL'⟩:=hv.agg_inv;obtain⟨v1,v2,rfl,h1,h2⟩:=yys hL';exact⟨v1,v2,rfl,ints_at hG a h1 hR hs hI.1,ycfw hG a2 h2 hR hs hI.2⟩
end
theorem ycas {g:FuncId}{args:List SV}{r:SV}{v:Value}(hg:∃fn c,Tryz.prog.funcs[g]?=some fn/\fn.body=some c) (hrv:∀F,RV F om0 r v) (hvr:∀φ,VR φ v v)
 (h:∀(G:AM) (m:Mem) (us:List Value),Le G m.b.get->RVL G om0 args us->∀φ M w us',Rel φ M w->Sub m M->VRL φ us us'->Calls zA g us'.toArray w fun e w'=>e = .returned v/\Below w.heap.size w w'):Returns zA g args r:=by
 intro G m us hw hle hr;refine⟨v,enterM m,r,ylk yra hg fun φ M w us' hR hs hv=>(h G m us hle hr φ M w us' hR hs hv).mono ?_,zC _,Le.refl _,rfl,hrv _⟩;rintro e w' ⟨rfl,hb⟩;exact⟨v,rfl,hvr φ,hb⟩
theorem rvl1{F:AM}{ω:Om}{a:SV}{us:List Value}(h:RVL F ω [a] us):∃u,us=[u]/\RV F ω a u:=by
 cases h with|cons x y=>cases y;exact⟨_,rfl,x⟩
theorem rvl2{F:AM}{ω:Om}{a b:SV}{us:List Value}(h:RVL F ω [a,b] us):∃u v,us=[u,v]/\RV F ω a u/\RV F ω b v:=by
 cases h with|cons x y=>obtain⟨v,rfl,q⟩:=rvl1 y;exact⟨_,v,rfl,x,q⟩
end Sh
end
section
open Go.RowKit
end
section
open Go.RowKit
theorem ybdy:zAB=Array.replicate 256 (.bool false):=by kernel_rfl
def Seen(w:World)(g:Nat)(S:List Int):Prop:=∃cur,w.heap[g]?=some (.cells cur 241 (0,0))/\cur.size=256/\∀i:Nat,i<256->cur[i]?=some (.bool (decide ((i:Int)∈S)))
theorem Seen.cell{w:World}{g:Nat}{S:List Int}(h:Seen w g S){i:Nat}(hi:i<256):w.cell? ⟨g,i,none⟩=some (.bool (decide ((i:Int)∈S))):=by
 obtain⟨cur,h1,h2,h3⟩:=h;simp[World.cell?,h1,h3 i hi]
theorem Seen.frozen{w:World}{g:Nat}{S:List Int}(h:Seen w g S)(i:Nat):w.frozen? ⟨g,i,none⟩=false:=by
 obtain⟨cur,h1,h2,h3⟩:=h;simp[World.frozen?,h1]
theorem Seen.set_{w:World}{g:Nat}{S:List Int}(h:Seen w g S){i:Nat}:Seen (w.setCell ⟨g,i,none⟩ (.bool true)) g (S++[(i:Int)]):=by
 obtain⟨cur,h1,h2,h3⟩:=h;refine⟨cur.setIfInBounds i (.bool true),by simp[World.setCell,Array.getElem?_modify,h1],by simp[h2],fun j hj=>?_⟩
 rw[Array.getElem?_setIfInBounds];split
 .subst_vars
  rw[if_pos (by omega)]
  simp
 .rw[h3 j hj];congr 3;simp;omega
theorem Seen.start(w:World):Seen (w.alloc (.cells zAB 241)) w.heap.size []:=by
 refine⟨_,heap_alloc_new w _,by rw[ybdy];simp,fun i hi=>?_⟩
 rw[ybdy];simp[hi]
def ybhj(ids:List Int):Bool:=decide ((∀x∈ids,0<=x/\x<=255)/\ids.Nodup)
def yta(ids:List Int)(k:Nat):Prop:=(∀x∈ids.take k,0<=x/\x<=255)/\(ids.take k).Nodup
theorem ybub{ids:List Int}{k:Nat}(hk:k<ids.length):yta ids (k+1)↔yta ids k/\(0<=ids[k]/\ids[k]<=255)/\ids[k]∉ids.take k:=by
 unfold yta;rw[take_snoc ids k hk,List.nodup_append];constructor
 .rintro⟨h1,h2,_,h3⟩;exact⟨⟨fun x hx=>h1 x (List.mem_append_left _ hx),h2⟩,h1 _ (List.mem_append_right _ (by simp)),fun hm=>h3 _ hm _ (by simp) rfl⟩
 .rintro⟨⟨h1,h2⟩,h3,h4⟩;refine⟨fun x hx=>?_,h2,by simp,fun a ha b hb e=>?_⟩
  .rcases List.mem_append.1 hx with hx|hx
   .exact h1 x hx
   .simp at hx;subst hx;exact h3
  .simp at hb;subst hb e;exact h4 ha
theorem ybew{ids:List Int}{k:Nat}(h:¬yta ids k):ybhj ids=false:=by
 unfold ybhj;rw[decide_eq_false_iff_not];exact fun hd=>h ⟨fun x hx=>hd.1 x (List.mem_of_mem_take hx),hd.2.sublist (List.take_sublist _ _)⟩
theorem ybpz{ids:List Int}(h:yta ids ids.length):ybhj ids=true:=by
 unfold yta at h;rw[zAC]at h;exact decide_eq_true h
set_option maxRecDepth 100000 in
set_option maxHeartbeats 1000000 in
theorem yqx(iv:Value)(ids:List Int)(w:World)(hi:ytq w iv ids) :
 Calls zA 174 #[iv] w fun e w'=>e = .returned (.bool (ybhj ids))/\Below w.heap.size w w':=by
 obtain⟨A,c,rfl,hA1,hA2⟩:=ycr hi;have Hi:=zD hi
 clear hi
 go_enter Tryz.func174,Tryz.ntmps174
 go_wp2
 go_loopg [8] ids.length (fun q t wr=>∃k:Nat,q+k=ids.length/\t = .int .i64 k/\Hid (Below w.heap.size w wr)/\Hid (Seen wr w.heap.size (ids.take k))/\Hid (yta ids k))
 case atStart=>exact⟨0,by omega,rfl,zD ((Below.refl _ _).alloc (zC _) _),zD (Seen.start w),zD ⟨by simp,by simp⟩⟩
 case round =>
  obtain⟨k,hq,rfl,hbel,hseen,hok⟩:=hrel
  by_cases hlt:k<ids.length
  .obtain⟨b,off,rfl,hb,hcid,hr⟩:=ysh (Hi.out.below Stable.int hbel.out) hlt;obtain⟨x,hx⟩:∃x,ids[k]=x:=⟨_,rfl⟩;have Hsn:=zD (ybub hlt);rw[hx]at hcid hr Hsn;obtain⟨hr1,hr2⟩:=hr;have Hbad:=zD (fun h=>ybew (ids:=ids) (k:=k+1) h);have Hts:=zD (take_snoc ids k hlt);rw[hx]at Hts
   clear hx
   by_cases c1:0<=x/\x<=255
   .obtain⟨c1a,c1b⟩:=c1;obtain⟨n,rfl⟩:=Int.eq_ofNat_of_zero_le c1a;have hcs:=hseen.out.cell (i:=n) (by omega)
    have hfs:=hseen.out.frozen n
    by_cases c2:(n:Int)∈ids.take k
    .rw[decide_eq_true c2]at hcs;have Hf:=zD (Hbad.out (fun h=>(Hsn.out.1 h).2.2 c2))
     clear c2
     go_wp2
     go_ret
     exact⟨ybw Hf.out.symm,hbel.out⟩
    .rw[decide_eq_false c2]at hcs;have Hn:=zD (Hsn.out.2 ⟨hok.out,⟨by omega,by omega⟩,c2⟩)
     clear c2
     go_wp2
     go_roundg (gk-1)
     case measure=>omega
     case rel =>
      refine⟨k+1,by omega,by go_num,zD (hbel.out.setCell (zC _) _),zD ?_,Hn⟩
      rw[Hts.out];exact hseen.out.set_
   .have Hf:=zD (Hbad.out (fun h=>c1 (Hsn.out.1 h).2.1))
    by_cases c3:x<0
    .clear c1
     go_wp2
     go_ret
     exact⟨ybw Hf.out.symm,hbel.out⟩
    .have c4:255<x:=by omega
     clear c1
     go_wp2
     go_ret
     exact⟨ybw Hf.out.symm,hbel.out⟩
  .obtain rfl:k=ids.length:=by omega
   have Ht:=zD (ybpz hok.out)
   go_wp2
   go_ret
   exact⟨ybw Ht.out.symm,hbel.out⟩
theorem ybwn(g:Gr)(h1:1<=g.ids.length)(h2:g.ids.length<=24)(h3:g.ports.length=g.ids.length):ygt g=(ybhj g.ids&&symB g.ports):=by
 unfold ygt ybhj symB;rw[<-Bool.decide_and];congr 1;apply propext;unfold ybg ycht;constructor
 .rintro⟨_,_,_,h4,h5,h6,h7⟩;exact⟨⟨h4,h5⟩,h6,h7⟩
 .rintro⟨⟨h4,h5⟩,h6,h7⟩;exact⟨by omega,by omega,by omega,h4,h5,h6,h7⟩
set_option maxHeartbeats 1000000 in
theorem ybxf(gv:Value)(g:Gr)(w:World)(hg:GrAt w gv g) :
 Calls zA 131 #[gv] w fun e w'=>e = .returned (.bool (ygt g))/\Below w.heap.size w w':=by
 obtain⟨i,p,rfl,hi,hp⟩:=hg;obtain⟨A,c,rfl,hA1,hA2⟩:=ycr hi;obtain⟨A2,c2,rfl,hB1,hB2⟩:=ycr hp;have Hi:=zD hi;have Hp:=zD hp
 clear hi hp
 by_cases n1:1<=g.ids.length
 .by_cases n2:g.ids.length<=24
  .by_cases n3:g.ports.length=g.ids.length
   .have n3':((g.ports.length:Int)!=(g.ids.length:Int))=false:=by simp[n3]
    have He:=zD (ybwn g n1 n2 n3);have n3a:g.ports.length<=24:=by omega
    clear n3
    go_enter zO,zU
    go_wp2_with fail
    refine(yqx _ g.ids _ (Hi.out.below Stable.int ((Below.refl _ _).alloc (zC _) _))).mono ?_;rintro e w1 ⟨rfl,hb1⟩;have Hb1:=zD (ydtp hb1);obtain⟨q0,q1⟩:=yduu hb1
    clear hb1
    cases hd:ybhj g.ids with
    | false =>
      have Hv:=zD (show ygt g=false by rw[He.out,hd];rfl)
      go_wp2_with fail
      go_ret
      exact⟨ybw Hv.out.symm,Hb1.out⟩
    | true =>
      have Hv:=zD (show ygt g=symB g.ports by rw[He.out,hd];rfl)
      go_wp2_with fail
      refine(ymv _ g.ports _ (Hp.out.below (Stable.sl Stable.link) Hb1.out) (by omega)).mono ?_
      rintro e w2 ⟨rfl,hb2⟩
      go_wp2_with fail
      go_ret
      exact⟨ybw Hv.out.symm,Hb1.out.trans (hb2.mono Hb1.out.size)⟩
   .have n3':((g.ports.length:Int)!=(g.ids.length:Int))=true:=by simp;omega
    have Hf:=zD (yid (g:=g) (fun h=>n3 h.2.2.symm))
    clear n3
    go_enter zO,zU
    go_wp2
    go_ret
    exact⟨ybw Hf.out.symm,(Below.refl _ _).alloc (zC _) _⟩
  .have Hf:=zD (yid (g:=g) (fun h=>n2 (by omega)))
   go_enter zO,zU
   go_wp2
   go_ret
   exact⟨ybw Hf.out.symm,(Below.refl _ _).alloc (zC _) _⟩
 .have Hf:=zD (yid (g:=g) (fun h=>n1 (by omega)))
  go_enter zO,zU
  go_wp2
  go_ret
  exact⟨ybw Hf.out.symm,(Below.refl _ _).alloc (zC _) _⟩
end
section
namespace Sh
open Go Ev Go.RowKit
theorem ygj{x:Int}(h:-4611686018427387904<=x/\x<=4611686018427387904):I64 x:=by
 unfold I64;omega
theorem ycyn{g:Gr}(hg:ybg g):GrI g:=by
 obtain⟨h1,h2,h3,h4,h5,h6,h7⟩:=hg;refine⟨fun x hx=>ygj (by have:=h4 x hx;omega),fun ls hls l hl=>?_⟩
 obtain⟨v,hv,rfl⟩:=List.getElem_of_mem hls;obtain⟨a1,a2,a3,a4,a5⟩:=(h6 ⟨v,hv⟩).1 l hl;exact⟨ygj (by omega),ygj (by omega)⟩
theorem yxc{g:Gr}(hI:GrI g):Returns zA 131 [grV g] (.b (ygt g)):=by
 refine ycas ⟨_,_,zO,rfl⟩ (fun _=>.b) (fun _=>.simple rfl) fun G m us hG hr φ M w us' hR hs hv=>?_;obtain⟨u,rfl,h1⟩:=rvl1 hr;obtain⟨u',rfl,h2⟩:=yfs hv;exact ybxf u' g w (ydph hG h1 h2 hR hs hI)
end Sh
end
section
namespace Sh
open Go Ev
end Sh
end
section
structure VarR where
 name:ByteArray
 kind:Int
 lo:Int
 hi:Int
 perNode:Int
 perID:Int
theorem ybpe(ids:List Int)(k:Nat)(hk:k<ids.length):(ids.take (k+1)).foldl max 0=max ((ids.take k).foldl max 0) ids[k]:=by
 rw[take_snoc ids k hk,zM];rfl
theorem ybcj(D:List Int)(m:Int)(h:∀x∈D,x<=m):∀a:Int,a<=m->D.foldl max a<=m:=by
 induction D with
 |nil=>intro a ha;exact ha
 |cons x D ih=>intro a ha;exact ih (fun y hy=>h y (by simp[hy])) _ (Int.max_le.2 ⟨ha,h x (by simp)⟩)
theorem ysk{g:Gr}(hg:ybg g):0<=ybmh g/\ybmh g<=255:=⟨ybap _ _,ybcj _ _ (fun x hx=>(hg.2.2.2.1 x hx).2) _ (by omega)⟩
end
section
abbrev Tm:=Int×Int
structure SetR where
 var:Int
 val:List Tm
structure RuleR where
 name:ByteArray
 guard:List Tm
 sets:List SetR
structure ProgR where
 name:ByteArray
 vars:List VarR
 rules:List RuleR
instance:Inhabited VarR:=⟨⟨.empty,0,0,0,0,0⟩⟩
instance:Inhabited SetR:=⟨⟨0,[]⟩⟩
instance:Inhabited RuleR:=⟨⟨.empty,[],[]⟩⟩
inductive Ex where
 |leaf (op arg:Int)
 |un (op:Int) (a:Ex)
 |agg (op:Int) (a:Ex)
 |bin (op:Int) (a b:Ex)
 |ite (c a b:Ex)
def Ex.ser:Ex->List Tm
 |.leaf op arg=>[(op,arg)]
 |.un op a=>(op,0)::a.ser
 |.agg op a=>(op,0)::a.ser
 |.bin op a b=>(op,0)::(a.ser++b.ser)
 |.ite c a b=>(43,0)::(c.ser++(a.ser++b.ser))
def satP(a:Int):Int:=max (-1073741824) (min a 1073741824)
def yfo(b:Bool):Int:=if b then 1 else 0
def yuo(a b:Int):Int:=if b=0 then 0 else if a.tmod b≠0/\(decide (a<0)≠decide (b<0))then a.tdiv b-1 else a.tdiv b
def unP(op a:Int):Int:=if op=18 then -a else yfo (a==0)
def cmpP(op a b:Int):Bool:=if op=35 then a==b else if op=36 then a != b else if op=37 then decide (a<b)else if op=38 then decide (a<=b)else if op=39 then decide (a>b)else decide (a>=b)
def binP(op a b:Int):Int :=
 if op=30 then satP (a*b)else if op=31 then satP (yuo a b)else if op=32 then(if b=0 then 0 else satP (a-b*yuo a b))else if op=33 then satP (a+b)else if op=34 then satP (a-b)
 else if op=41 then yfo (a != 0&&b != 0)else if op=42 then yfo (a != 0||b != 0)else yfo (cmpP op a b)
def countP(l:List Int):Int:=((l.filter (· != 0)).length:Int)
def yqm(l:List Int):Int:=l.foldl min 1073741824
def yeg(l:List Int):Int×Int:=l.foldl (fun p a=>if a>p.1 then(a,p.1)else(p.1,max p.2 a)) (-1073741824,-1073741824)
def yrc(l:List Int):Nat->Int->Int
 |0,r=>r
 |n+1,r=>if l.elem r then yrc l n (r+1)else r
def mexP(l:List Int):Int:=yrc l (l.length+1) 0
def ygn(l:List Int):Int:=match l.findIdx? (· != 0)with|some i=>i|none=>-1
def yio(op:Int)(l:List Int):Int :=
 if op=20 then yfo (countP l==l.length)else if op=21 then yfo (decide (countP l>0))else if op=22 then countP l else if op=23 then ygn l else if op=24 then yqm l else if op=25 then(yeg l).1
 else if op=26 then satP l.sum else if op=27 then mexP l else if op=28 then(yeg l).2 else l.headD 0
structure Sc where
 g:Gr
 c:Conf
def ydd(g:Gr)(v port:Nat):Int×Int:=(g.ports.getD v []).getD port (0,0)
def yka(g:Gr)(v:Nat):List Int:=(g.ports.getD v []).map fun l=>ylm (g.ports.getD l.1.toNat []) v
def ymw(g:Gr)(op:Int)(v:Nat)(port:Int):Int :=
 if op=6 then g.ids.length else if op=7 then ybmh g else if op=8 then g.ids.getD v 0 else if op=9 then((g.ports.getD v []).length:Int)else if op=10 then yfo ((v:Int)==0)else if op=11 then port
 else(let l:=ydd g v port.toNat
  if op=13 then g.ids.getD l.1.toNat 0 else if op=14 then((g.ports.getD l.1.toNat []).length:Int)else if op=15 then yfo (l.1==0)else if op=16 then l.2 else(yka g v).getD port.toNat 0)
def ytu(g:Gr)(c:Conf)(op arg:Int)(v:Nat)(port:Int):Int :=
 if op=1 then arg else if op=2 then 1 else if op=3 then 0 else if op=4 then -1 else if op=5 then(c.getD v []).getD arg.toNat 0 else if op=12 then(c.getD (ydd g v port.toNat).1.toNat []).getD arg.toNat 0
 else ymw g op v port
def ygr(g:Gr)(c:Conf)(v:Nat):Ex->Int->Int
 |.leaf op arg,p=>ytu g c op arg v p
 |.un op a,p=>unP op (ygr g c v a p)
 |.agg op a,_=>yio op ((zK (g.ports.getD v []).length).map fun(q:Nat)=>ygr g c v a (q:Int))
 |.bin op a b,p=>binP op (ygr g c v a p) (ygr g c v b p)
 |.ite x a b,p=>if ygr g c v x p≠0 then ygr g c v a p else ygr g c v b p
def Ex.ok(nv:Int)(bnd:Bool):Ex->Bool
 |.leaf op arg=>decide (1<=op/\op<=17)&&(if op=1 then decide (0<=arg/\arg<=1073741824)else if op=5\/op=12 then decide (0<=arg/\arg<nv)else true)&&(if 11<=op then bnd else true)
 |.un op a=>decide (op=18\/op=19)&&a.ok nv bnd
 |.agg op a=>decide (20<=op/\op<=29)&&a.ok nv true
 |.bin op a b=>decide (30<=op/\op<=42)&&a.ok nv bnd&&b.ok nv bnd
 |.ite x a b=>x.ok nv bnd&&a.ok nv bnd&&b.ok nv bnd
def InB(x:Int):Prop:=-1073741824<=x/\x<=1073741824
theorem yoi(a:Int):InB (satP a):=by unfold InB satP;omega
theorem ygk(b:Bool):InB (yfo b):=by unfold InB yfo;cases b<;>simp
theorem ydhp{op a:Int}(h:InB a):InB (unP op a):=by
 unfold unP;split
 .unfold InB at *;omega
 .exact ygk _
theorem ydcg(op a b:Int):InB (binP op a b):=by
 unfold binP;split;· exact yoi _
 split;· exact yoi _
 split
 .split
  .unfold InB;omega
  .exact yoi _
 split;· exact yoi _
 split;· exact yoi _
 split;· exact ygk _
 split;· exact ygk _
 exact ygk _
theorem countP_le(l:List Int):0<=countP l/\countP l<=l.length:=by
 unfold countP;have:=List.length_filter_le (· != 0) l;omega
theorem ycar(l:List Int)(h:∀x∈l,InB x):InB (yqm l):=by
 unfold yqm
 have:∀(l:List Int) (a:Int),InB a->(∀x∈l,InB x)->InB (l.foldl min a):=by
  intro l
  induction l with
  |nil=>intro a ha _;exact ha
  | cons x l ih =>
    intro a ha hl;refine ih _ ?_ fun y hy=>hl y (zZ _ hy);have:=hl x zS;unfold InB at *;omega
 exact this l _ (by unfold InB;omega) h
theorem ywb(l:List Int)(h:∀x∈l,InB x):InB (yeg l).1/\InB (yeg l).2:=by
 unfold yeg
 have:∀(l:List Int) (p:Int×Int),InB p.1/\InB p.2->(∀x∈l,InB x)->InB (l.foldl (fun p a=>if a>p.1 then(a,p.1)else(p.1,max p.2 a)) p).1/\InB (l.foldl (fun p a=>if a>p.1 then(a,p.1)else(p.1,max p.2 a)) p).2:=by
  intro l
  induction l with
  |nil=>intro p hp _;exact hp
  | cons x l ih =>
    intro p hp hl;refine ih _ ?_ fun y hy=>hl y (zZ _ hy);have:=hl x zS;unfold InB at *
    dsimp only
    split<;>dsimp only<;>omega
 exact this l _ (by unfold InB;simp) h
theorem ybim(l:List Int):∀(n:Nat) (r:Int),r<=yrc l n r/\yrc l n r<=r+n
 |0,r=>by unfold yrc;omega
 | n+1,r=>by
   unfold yrc;have:=ybim l n (r+1);split<;>omega
theorem ybco(l:List Int):-1<=ygn l/\ygn l<l.length\/ygn l = -1:=by
 unfold ygn;split
 .rename_i i hi
  obtain⟨h,_⟩:=List.findIdx?_eq_some_iff_getElem.1 hi;left;omega
 .exact .inr rfl
theorem ycgd{op:Int}{l:List Int}(hl:l.length<=1000)(h:∀x∈l,InB x):InB (yio op l):=by
 have hc:=countP_le l;unfold yio;split;· exact ygk _
 split;· exact ygk _
 split;· unfold InB;omega
 split;· have:=ybco l;unfold InB;omega
 split;· exact ycar l h
 split;· exact(ywb l h).1
 split;· exact yoi _
 split;· have:=ybim l (l.length+1) 0;unfold mexP InB;omega
 split;· exact(ywb l h).2
 cases l with
 |nil=>unfold InB;simp
 |cons x l=>exact h x zS
structure ConfIn(n nv:Nat)(c:Conf):Prop where
 len:c.length=n
 row:∀s∈c,s.length=nv/\∀x∈s,InB x
theorem ConfIn.at_{n nv:Nat}{c:Conf}(h:ConfIn n nv c){v:Nat}(hv:v<n):(c.getD v []).length=nv/\∀k,InB ((c.getD v []).getD k 0):=by
 have hlt:v<c.length:=by rw[h.len];exact hv
 have e:c.getD v []=c[v]:=by simp[zH,hlt]
 obtain⟨h1,h2⟩:=h.row c[v] (zY hlt);rw[e];refine⟨h1,fun k=>?_⟩;rw[zJ];cases hk:c[v][k]? with
 |none=>simp;unfold InB;omega
 |some x=>simp;exact h2 x (zF hk)
theorem ybg.ydd{g:Gr}(hg:ybg g){v p:Nat}(hv:v<g.ports.length)(hp:p<(g.ports.getD v []).length):0<=(ydd g v p).1/\(ydd g v p).1<g.ports.length/\1<=(ydd g v p).2/\(ydd g v p).2<=15:=by
 have e:g.ports.getD v []=g.ports[v]:=by simp[zH,hv]
 have h1:=hg.2.2.2.2.2.1 ⟨v,hv⟩;rw[e]at hp;have hm:(g.ports[v])[p]∈g.ports[v]:=zY hp;have h2:=h1.1 _ hm;unfold yob at h2;have e2:Go.Proofs.YthclbjjgfcgbgaaGreatDoor.ydd g v p=(g.ports[v])[p]:=by unfold Go.Proofs.YthclbjjgfcgbgaaGreatDoor.ydd;rw[e];simp[zH,hp]
 rw[e2];omega
theorem ybg.deg_lt{g:Gr}(hg:ybg g){v:Nat}:(g.ports.getD v []).length<24:=by
 by_cases hv:v<g.ports.length
 .have h1:=hg.2.2.2.2.2.1 ⟨v,hv⟩;have:=ybfo hv h1;have e:g.ports.getD v []=g.ports[v]:=by simp[zH,hv]
  rw[e];have:=hg.2.1;have h3:g.ports[(⟨v,hv⟩:Fin g.ports.length)].length=g.ports[v].length:=rfl;omega
 .rw[zJ,List.getElem?_eq_none (by omega)]
  simp
theorem ybg.id_in{g:Gr}(hg:ybg g)(v:Nat):0<=g.ids.getD v 0/\g.ids.getD v 0<=255:=by
 rw[zJ];cases h:g.ids[v]? with
 |none=>simp
 |some x=>exact hg.2.2.2.1 x (zF h)
theorem yccv{g:Gr}{c:Conf}{n nv:Nat}(hg:ybg g)(hn:g.ports.length=n)(hc:ConfIn n nv c){op arg:Int}{bnd:Bool}(ho:(Ex.leaf op arg).ok nv bnd=true){v:Nat}(hv:v<n){p:Int}(hp:bnd=true->0<=p/\p<(g.ports.getD v []).length)(hpi:InB p):InB (ytu g c op arg v p):=by
 subst hn;have h24:=hg.2.1;have hd:=hg.deg_lt (v:=v);unfold ytu;simp only[Ex.ok,zG,decide_eq_true_eq]at ho;obtain⟨⟨ho1,ho2⟩,ho3⟩:=ho;split
 .rename_i h;rw[if_pos h]at ho2;simp at ho2;unfold InB;omega
 split;· unfold InB;omega
 split;· unfold InB;omega
 split;· unfold InB;omega
 split;· exact(hc.at_ hv).2 _
 split
 .rename_i h
  rw[if_pos (by omega)]at ho3
  obtain⟨q1,q2⟩:=hp ho3;have hl:=hg.ydd hv (p:=p.toNat) (by omega)
  exact(hc.at_ (v:=(ydd g v p.toNat).1.toNat) (by omega)).2 _
 .unfold ymw;split;· rw[hg.2.2.1];unfold InB;omega
  split;· have:=ysk hg;unfold InB;omega
  split;· have:=hg.id_in v;unfold InB;omega
  split;· unfold InB;omega
  split;· exact ygk _
  split;· exact hpi
  rename_i h6 h7 h8 h9 h10 h11
  rw[if_pos (by omega)]at ho3
  obtain⟨q1,q2⟩:=hp ho3;have hl:=hg.ydd hv (p:=p.toNat) (by omega)
  simp only;split;· have:=hg.id_in (ydd g v p.toNat).1.toNat;unfold InB;omega
  split;· have:=hg.deg_lt (v:=(ydd g v p.toNat).1.toNat);unfold InB;omega
  split;· exact ygk _
  split;· unfold InB;omega
  .unfold yka;rw[zJ,List.getElem?_map];cases hk:(g.ports.getD v [])[p.toNat]? with
   |none=>simp;unfold InB;omega
   | some l =>
     simp;have hd2:=hg.deg_lt (v:=l.1.toNat);rcases yyo (ls:=g.ports.getD l.1.toNat []) (u:=(v:Int))with e|⟨k,e,hk⟩
     .simp at e;rw[e];unfold InB;omega
     .simp at e hk hd2;rw[e];unfold InB;omega
theorem yhy{g:Gr}{c:Conf}{n nv:Nat}(hg:ybg g)(hn:g.ports.length=n)(hc:ConfIn n nv c){v:Nat}(hv:v<n):∀(x:Ex) {bnd:Bool}{p:Int},x.ok nv bnd=true->(bnd=true->0<=p/\p<(g.ports.getD v []).length)->InB p->InB (ygr g c v x p)
 |.leaf op arg,bnd,p,h,hp,hpi=>yccv hg hn hc h hv hp hpi
 | .un op a,bnd,p,h,hp,hpi=>by
   simp only[Ex.ok,zG]at h;exact ydhp (yhy hg hn hc hv a h.2 hp hpi)
 | .agg op a,bnd,p,h,hp,hpi=>by
   simp only[Ex.ok,zG]at h;have:=hg.deg_lt (v:=v);refine ycgd (by simp;simp at this;omega) fun x hx=>?_
   obtain⟨q,hq,rfl⟩:=List.mem_map.1 hx;have hq:=List.mem_range.1 hq;exact yhy hg hn hc hv a h.2 (fun _=>by omega) (by unfold InB;omega)
 |.bin op a b,bnd,p,h,hp,hpi=>ydcg _ _ _
 | .ite x a b,bnd,p,h,hp,hpi=>by
   simp only[Ex.ok,zG]at h;unfold ygr;split
   .exact yhy hg hn hc hv a h.1.2 hp hpi
   .exact yhy hg hn hc hv b h.2 hp hpi
end
end Go.Proofs.YthclbjjgfcgbgaaGreatDoor
