/- Joined. -/
import Derived.Test.YtiejahgklcjhkaaGreatDoorPkG7
import Derived.Test.YtiejahgklcjhkaaGreatDoorPkG8
set_option linter.unusedSimpArgs false
set_option linter.unusedVariables false
set_option maxRecDepth 8000
open List renaming getElem?_eq_getElem→zA,replicate→zC,getElem?_set→zD,mem_of_getElem?→zF,getD→zI,getElem_append_left→zK,range→zL,getElem?_replicate→zM,foldl_append→zN,take_succ_eq_append_getElem→zQ,mem_zipIdx_iff_getElem?→zS,getElem?_zip_eq_some→zT,getElem_append_right→zU,all_eq_true→zV,drop_succ_cons→zX,countP_append→zY,length_cons→zAB,ext_getElem→zAC,take_length→zAD,getElem_mem→zAE,countP_cons→zAF,length_nil→zAH,range_succ→zAI,drop_zero→zAJ,map_cons→zAK,length→zAO
open Nat renaming reduceEqDiff→zB,le_refl→zH,reduceAdd→zJ,lt_trichotomy→zZ,zero_le→zAA,add_zero→zAL,lt_or_ge→zAM
open Int renaming toNat_natCast→zG,eq_ofNat_of_zero_le→zW,natCast_zero→zAG,le_trans→zAN
open Bool renaming and_eq_true→zO
open Go
namespace Go.Proofs.YtiejahgklcjhkaaGreatDoor
section
namespace Sh
open Go Ev
theorem ydlb {g:FuncId}{fn:Func}{sc:SC}{rs:List SR}(hg:Tryz.prog.funcs[g]?=some fn) (hcmp:fn.body.bind (cmp Tryz.prog fn.ntmps)=some sc) (hrs:cmpR Tryz.prog fn.results.toList=some rs)
 {mu:List FuncId}{args:List SV}{Q:SV->Prop}(h:vc ⟨Ct Tryz.prog,Cm Tryz.prog,ItC Tryz.prog,[],mu⟩ sc (retK rs Q) ⟨slots args 0,[]⟩):Ct Tryz.prog g args Q:=by
 obtain⟨c,h1,h2⟩:=bind_some hcmp;exact ycgo mix yrc hg h1 h2 hrs h
theorem ydfv {g:FuncId}{fn:Func}{sc:SC}{rs:List SR}(hg:Tryz.prog.funcs[g]?=some fn) (hcmp:fn.body.bind (cmp Tryz.prog fn.ntmps)=some sc) (hrs:cmpR Tryz.prog fn.results.toList=some rs)
 {pr:List Nm}{mu:List FuncId}{o:Own}{args:List SV}{Q:SV->Own->Prop}(h:vc ⟨Ct Tryz.prog,Cm Tryz.prog,ItC Tryz.prog,pr,mu⟩ sc (retM rs pr Q) ⟨slots args 0,o⟩):Cm Tryz.prog g pr o args Q:=by
 obtain⟨c,h1,h2⟩:=bind_some hcmp;exact ybtb mix yrc hg h1 h2 hrs h
def Fn(g:FuncId)(c:SC)(rs:List SR):Prop:=∀(args:List SV) (Q:SV->Prop),vc ⟨Ct Tryz.prog,Cm Tryz.prog,ItC Tryz.prog,[],[]⟩ c (retK rs Q) ⟨slots args 0,[]⟩->Ct Tryz.prog g args Q
def FnU(g:FuncId)(c:SC)(rs:List SR):Prop:=∀(mu:List FuncId) (args:List SV) (Q:SV->Prop),vc ⟨Ct Tryz.prog,Cm Tryz.prog,ItC Tryz.prog,[],mu⟩ c (retK rs Q) ⟨slots args 0,[]⟩->Ct Tryz.prog g args Q
def FnM(g:FuncId)(c:SC)(rs:List SR):Prop:=∀(pr:List Nm) (mu:List FuncId) (o:Own) (args:List SV) (Q:SV->Own->Prop),vc ⟨Ct Tryz.prog,Cm Tryz.prog,ItC Tryz.prog,pr,mu⟩ c (retM rs pr Q) ⟨slots args 0,o⟩->Cm Tryz.prog g pr o args Q
section
variable {g:FuncId}{fn:Func}{sc:SC}{rs:List SR}(hg:Tryz.prog.funcs[g]?=some fn) (hcmp:fn.body.bind (cmp Tryz.prog fn.ntmps)=some sc) (hrs:cmpR Tryz.prog fn.results.toList=some rs)
include hg hcmp hrs
theorem fn_0:Fn g sc rs:=fun _ _ h=>ydlb hg hcmp hrs h
theorem fn_u:FnU g sc rs:=fun _ _ _ h=>ydlb hg hcmp hrs h
theorem fn_m:FnM g sc rs:=fun _ _ _ _ _ h=>ydfv hg hcmp hrs h
end
def o3(x:SOp)(d a:Nat):SOper:=⟨x,some d,none,a⟩
def o0(x:SOp)(a:Nat):SOper:=⟨x,none,none,a⟩
abbrev LO:=List SOper
def mv'(x d a:Nat):SOper:=⟨.mv (.tmp x),some d,none,a⟩
def bn'(op:BinOp)(x y d a:Nat):SOper:=⟨.bin op (.tmp x) (.tmp y),some d,none,a⟩
def ld'(ag:Bool)(n x d a:Nat):SOper:=⟨.load ag n (.tmp x),some d,none,a⟩
def fa'(o n x d a:Nat):SOper:=⟨.faddr o n (.tmp x),some d,none,a⟩
def ix'(z x k d a:Nat):SOper:=⟨.idx z (.tmp x) (.tmp k),some d,none,a⟩
def ln'(x d a:Nat):SOper:=⟨.len (.tmp x),some d,none,a⟩
def xt'(x k d a:Nat):SOper:=⟨.extract (.tmp x) k,some d,none,a⟩
def cl'(g:FuncId)(xs:List Nat)(d a:Nat):SOper:=⟨.call (.func g) (xs.map .tmp),some d,none,a⟩
def ci'(n:Int):Operand:=.const (.int .i64 n)
attribute [go_sem] o3 o0 mv' bn' ld' fa' ix' ln' xt' cl' ci'
attribute [go_sem] ydpa ydde ycfi ybry ydpt yczt ydgs ydce yccg ydan ycay ybbg yxn ybnw ybey puts ydev
attribute [go_sem] ydmv ydrj ydgx ybaq ybkr ycab yxh ybgj ybnd ybmf ybqm ybhp ycez ybel yceg
attribute [go_sem] yqf Fam.at Prod.mk.injEq yczh ydba ycyx yczr ydcm ydfb ybme oldX oldV yje ymc ybxp ydck gb_x ydqh resX yhq slots ycfq
attribute [go_sem] yccx yboq runO opO ybxp xOp SS.get SS.pget SS.gets SS.lit look lookO SS.put SS.own ycxx ydcd yczf ycfr yccy ycfj ycfb
attribute [go_sem] ycbe yccn ycgi ycfv ybiw simple ynn yui ybck part idxX natX ypn ybnf xbin xun eqL splice fill OB.set ofV fits ycyq ybkj
attribute [go_sem] allP SRec.no SRec.pure clash nmem List.isEmpty_nil List.isEmpty_cons List.drop List.take List.all List.any List.map zAO List.head? List.append
attribute [go_sem] List.nil_append List.append_nil List.cons_append List.all_cons List.all_nil zX zAJ List.take_succ_cons List.take_zero List.drop_nil
attribute [go_sem] List.take_nil zAB zAH zAK List.map_nil List.getElem?_cons_zero List.getElem?_cons_succ List.elem zG Nat.zero_add
attribute [go_sem] zAL if_true if_false ite_true ite_false Option.isNone Option.isNone_none Option.map_some Option.map_none Bool.not_true Bool.not_false Bool.true_or
attribute [go_sem] Bool.or_true Bool.false_or Bool.or_false Bool.and_true Bool.true_and Bool.and_false Bool.false_and Bool.and_self Bool.or_self true_and and_true and_self
attribute [go_sem] true_implies false_implies implies_true forall_const Nat.lt_add_one Nat.one_pos Nat.zero_lt_one Nat.lt_irrefl zH decide_true decide_false Bool.false_eq_true
attribute [go_sem] Bool.true_eq_false forall_eq BEq.rfl beq_self_eq_true decide_eq_true_eq decide_eq_false_iff_not beq_iff_eq beq_eq_false_iff_ne bne_iff_ne bne_eq_false_iff_eq
attribute [go_sem] Bool.not_eq_true Bool.not_eq_false Bool.not_eq_true' Bool.not_eq_false' ydbb ydbi ycyj yceq ycdv ybrq ycds ycar ycfz
attribute [go_sem] ycde ybvi yczn ydmq yczk ycdr ycfm ycaz ycbd ycbs ybve ybwt ybol ybpk ybrh ybye ybvp
attribute [go_sem] ybox ydgi ydhs ydgc ycyc ycys ycaf ydav ycyf ydaj ycxr ydab ydpg ydpe ydpb ydiv ydgn ydfh ydmg ydms ydlx
attribute [go_sem] ydfu ydoo ydlm ydga ydjj ydbl yczj ycbp ycxu ycye yddt ycyk ydcr
attribute [go_sem] yyq ybhi idxF ydhy yss ykv own1 ybkk Tel telL ytw ybed yczg ydao ydcv yceu ycef yceh ycer ycec ycdb
attribute [go_sem] ycel ycdo ydqr ydqv ydrc ydgl ydmp ydoc ydnv ydiw ydlp ydjw ydkr lv nmem rid ygz ydrm ydai ybdn ydng ydek ybcb
attribute [go_sem] yve ybir yclv ydhu ybia ypr ydqn ydpr ydrk ydjf ydkw ydbv ydke ydin ydgv ydju ydii List.any_cons List.any_nil Option.isSome
attribute [go_sem] ydez or_false false_or or_true true_or false_and exists_const exists_false List.not_mem_nil and_false
attribute [go_sem ↓] gb_t gb_f ydqx ydro
end Sh
end
section
namespace Sh
open Go Ev
def ycrr:LO:=[o3 (.mv (ci' 0)) 4 0]
def yctf:LO:=[mv' 0 6 0,ln' 6 7 1,o3 (.mv (ci' 0)) 8 0]
def ycws:LO:=[bn' .lss 8 7 9 0]
def ycja:LO:=[mv' 8 10 0,mv' 10 5 1]
def ycqa:LO:=[mv' 1 11 0,mv' 0 12 0,mv' 5 13 0,ix' 1 12 13 14 6,ld' false 1 14 15 14,bn' .eql 11 15 16 31]
def ycmb:LO:=[mv' 5 17 0,mv' 17 4 1]
def ycka:LO:=[o3 (.bin .add (.tmp 8) (ci' 1)) 18 0,mv' 18 8 1]
def yckn:LO:=[o3 (.mv (.const (.int .i64 (-1)))) 4 0]
def c165:SC:=(.seq (.reg false ycrr) (.seq (.seq (.reg false yctf) (.block 0 (.loop (.seq (.reg false ycws) (.seq (.cond (.tmp 9) .skip (.exit 0)) (.seq (.block 1 (.seq (.reg false ycja) (.seq (.reg false ycqa) (.cond (.tmp 16) (.seq (.reg false ycmb) .ret) .skip)))) (.reg false ycka))))))) (.seq (.reg false yckn) .ret)))
theorem ydbq:Fn 165 c165 [.t 4]:=fn_0 Tryz.func165 (by kernel_rfl) (by kernel_rfl)
def ycph:LO:=[o3 (.mv (ci' 0)) 2 0]
def ycsk:LO:=[mv' 0 5 0,ln' 5 6 1,o3 (.bin .lss (.tmp 6) (ci' 1)) 7 3]
def ycpl:LO:=[o3 (.no) 8 0,o0 (.no) 1]
def ycsg:LO:=[mv' 0 9 0,o3 (.idx 1 (.tmp 9) (ci' 0)) 10 1,ld' false 1 10 11 3,mv' 11 3 7]
def ycso:LO:=[o3 (.mv (ci' 1)) 4 0]
def ycgx:LO:=[mv' 4 12 0,mv' 0 13 0,ln' 13 14 2,bn' .lss 12 14 15 7]
def ycsl:LO:=[mv' 3 18 0,mv' 0 19 0,mv' 4 20 0,ix' 1 19 20 21 6,ld' false 1 21 22 14,o3 (.mm true (.tmp 18) (.tmp 22)) 23 31,mv' 23 3 63]
def ycjd:LO:=[mv' 4 16 0,o3 (.bin .add (.tmp 16) (ci' 1)) 17 1,mv' 17 4 3]
def yckh:LO:=[mv' 3 24 0,mv' 24 2 1]
def c160:SC:=(.seq (.reg false ycph) (.seq (.seq (.reg false ycsk) (.cond (.tmp 7) (.reg false ycpl) .skip)) (.seq (.reg false ycsg) (.seq (.seq (.reg false ycso) (.block 0 (.loop (.seq (.seq (.reg false ycgx) (.cond (.tmp 15) .skip (.exit 0))) (.seq (.block 1 (.reg false ycsl)) (.reg false ycjd)))))) (.seq (.reg false yckh) .ret)))))
theorem ydef:Fn 160 c160 [.t 2]:=fn_0 Tryz.func160 (by kernel_rfl) (by kernel_rfl)
def yclc:LO:=[o3 (.mv (.const (.bool false))) 4 0]
def ycud:LO:=[mv' 0 5 0,mv' 1 6 0,cl' 165 [5,6] 7 3,o3 (.bin .geq (.tmp 7) (ci' 0)) 8 7,mv' 8 4 15]
def c274:SC:=(.seq (.reg false yclc) (.seq (.reg false ycud) .ret))
theorem ydaq:Fn 274 c274 [.t 4]:=fn_0 Tryz.func274 (by kernel_rfl) (by kernel_rfl)
def ycuh:LO:=[o3 (.mv (ci' 0)) 4 0]
def yciy:LO:=[mv' 0 6 0,ln' 6 7 1,o3 (.mv (ci' 0)) 8 0]
def ychw:LO:=[bn' .lss 8 7 9 0]
def ycnk:LO:=[mv' 8 10 0,mv' 10 5 1]
def ycrl:LO:=[mv' 1 11 0,mv' 0 12 0,mv' 5 13 0,ix' 1 12 13 14 6,ld' false 1 14 15 14,o3 (.call (.tmp 11) [(.tmp 15)]) 16 31]
def ychi:LO:=[mv' 5 17 0,mv' 17 4 1]
def ycum:LO:=[o3 (.bin .add (.tmp 8) (ci' 1)) 18 0,mv' 18 8 1]
def ycub:LO:=[o3 (.mv (.const (.int .i64 (-1)))) 4 0]
def c267:SC:=(.seq (.reg false ycuh) (.seq (.seq (.reg false yciy) (.block 0 (.loop (.seq (.reg false ychw) (.seq (.cond (.tmp 9) .skip (.exit 0)) (.seq (.block 1 (.seq (.reg false ycnk) (.seq (.reg false ycrl) (.cond (.tmp 16) (.seq (.reg false ychi) .ret) .skip)))) (.reg false ycum))))))) (.seq (.reg false ycub) .ret)))
theorem ydbg:Fn 267 c267 [.t 4]:=fn_0 Tryz.func267 (by kernel_rfl) (by kernel_rfl)
def ycqg:LO:=[o3 (.mv (ci' 0)) 2 0]
def ycru:LO:=[mv' 0 4 0,o3 (.bin .lss (.tmp 4) (ci' 1)) 5 1,mv' 5 6 3,⟨.mv (.tmp 0),some 7,some (6,false),7⟩,⟨.bin .gtr (.tmp 7) (ci' 43),some 8,some (6,false),15⟩,o3 (.pick (.tmp 6) (.const (.bool true)) (.tmp 8)) 9 31,mv' 9 3 63]
def ycms:LO:=[o3 (.mv (.const (.int .i64 (-1)))) 2 0]
def ycst:LO:=[mv' 0 11 0,o3 (.bin .leq (.tmp 11) (ci' 17)) 12 1,mv' 12 10 3]
def ycvb:LO:=[o3 (.mv (ci' 0)) 2 0]
def ycqi:LO:=[mv' 0 14 0,o3 (.bin .leq (.tmp 14) (ci' 29)) 15 1,mv' 15 13 3]
def ycks:LO:=[o3 (.mv (ci' 1)) 2 0]
def ycvs:LO:=[mv' 0 17 0,o3 (.bin .leq (.tmp 17) (ci' 42)) 18 1,mv' 18 16 3]
def ycoc:LO:=[o3 (.mv (ci' 2)) 2 0]
def ycup:LO:=[o3 (.mv (ci' 3)) 2 0]
def c247:SC:=(.seq (.reg false ycqg) (.seq (.block 0 (.seq (.reg false ycru) (.cond (.tmp 3) (.seq (.reg false ycms) .ret) (.seq (.reg false ycst) (.cond (.tmp 10) (.seq (.reg false ycvb) .ret) (.seq (.reg false ycqi) (.cond (.tmp 13) (.seq (.reg false ycks) .ret) (.seq (.reg false ycvs) (.cond (.tmp 16) (.seq (.reg false ycoc) .ret) .skip))))))))) (.seq (.reg false ycup) .ret)))
theorem ydei:Fn 247 c247 [.t 2]:=fn_0 Tryz.func247 (by kernel_rfl) (by kernel_rfl)
def yckb:LO:=[o3 (.mv (ci' 0)) 4 0]
def ycuj:LO:=[mv' 1 7 0,o3 (.bin .lss (.tmp 7) (ci' 0)) 8 1,mv' 8 9 3,⟨.mv (.tmp 1),some 10,some (9,false),7⟩,⟨.mv (.tmp 0),some 11,some (9,false),7⟩,⟨.len (.tmp 11),some 12,some (9,false),23⟩,⟨.bin .geq (.tmp 10) (.tmp 12),some 13,some (9,false),63⟩,o3 (.pick (.tmp 9) (.const (.bool true)) (.tmp 13)) 14 127]
def ycjy:LO:=[o3 (.mv (.const (.int .i64 (-1)))) 4 0]
def ycoy:LO:=[o3 (.mv (ci' 1)) 5 0]
def ycjt:LO:=[mv' 1 15 0,mv' 0 16 0,ln' 16 17 2,bn' .lss 15 17 18 7]
def ycva:LO:=[mv' 0 21 0,mv' 1 22 0,ix' 2 21 22 23 3,fa' 0 1 23 24 7,ld' false 1 24 25 15,cl' 247 [25] 26 31,mv' 26 6 63]
def ycki:LO:=[mv' 6 27 0,o3 (.bin .lss (.tmp 27) (ci' 0)) 28 1]
def ycia:LO:=[o3 (.mv (.const (.int .i64 (-1)))) 4 0]
def ycmp:LO:=[mv' 5 29 0,mv' 6 30 0,o3 (.bin .sub (.tmp 30) (ci' 1)) 31 2,bn' .add 29 31 32 7,mv' 32 5 15]
def ybts:LO:=[mv' 5 33 0,o3 (.bin .eql (.tmp 33) (ci' 0)) 34 1]
def ybtj:LO:=[mv' 1 35 0,o3 (.bin .add (.tmp 35) (ci' 1)) 36 1,mv' 36 4 3]
def ycvy:LO:=[mv' 1 19 0,o3 (.bin .add (.tmp 19) (ci' 1)) 20 1,mv' 20 1 3]
def ybzd:LO:=[o3 (.mv (.const (.int .i64 (-1)))) 4 0]
def c231:SC:=(.seq (.reg false yckb) (.seq (.seq (.reg false ycuj) (.cond (.tmp 14) (.seq (.reg false ycjy) .ret) .skip)) (.seq (.seq (.reg false ycoy) (.block 0 (.loop (.seq (.seq (.reg false ycjt) (.cond (.tmp 18) .skip (.exit 0))) (.seq (.block 1 (.seq (.reg false ycva) (.seq (.seq (.reg false ycki) (.cond (.tmp 28) (.seq (.reg false ycia) .ret) .skip)) (.seq (.reg false ycmp) (.seq (.reg false ybts) (.cond (.tmp 34) (.seq (.reg false ybtj) .ret) .skip)))))) (.reg false ycvy)))))) (.seq (.reg false ybzd) .ret))))
theorem yddf:Fn 231 c231 [.t 4]:=fn_0 Tryz.func231 (by kernel_rfl) (by kernel_rfl)
def ycqq:LO:=[o3 (.box 27 (.tmp 0)) 3 0,o3 (.mv (ci' 0)) 6 0]
def ycrd:LO:=[fa' 1 1 3 9 0,ld' false 1 9 10 1,mv' 1 11 0,ix' 1 10 11 12 7,ld' false 1 12 13 15,ln' 13 14 31,o3 (.mv (ci' 0)) 15 0]
def ycqz:LO:=[bn' .lss 15 14 16 0]
def ycim:LO:=[mv' 15 17 0,ix' 2 13 15 18 0,ld' true 2 18 19 2,o3 (.alloc 95 1 [.i .i64 0,.i .i64 0]) 8 0,mv' 17 7 15,o0 (.store 2 (.tmp 8) (.tmp 19)) 31]
def ycpv:LO:=[fa' 0 1 8 20 0,ld' false 1 20 21 1,mv' 2 22 0,bn' .eql 21 22 23 7]
def ycle:LO:=[mv' 7 24 0,mv' 24 6 1]
def ycic:LO:=[o3 (.bin .add (.tmp 15) (ci' 1)) 25 0,mv' 25 15 1]
def yclr:LO:=[o3 (.mv (.const (.int .i64 (-1)))) 6 0]
def c170:SC:=(.seq (.reg false ycqq) (.seq (.seq (.reg false ycrd) (.block 0 (.loop (.seq (.reg false ycqz) (.seq (.cond (.tmp 16) .skip (.exit 0)) (.seq (.block 1 (.seq (.reg false ycim) (.seq (.reg false ycpv) (.cond (.tmp 23) (.seq (.reg false ycle) .ret) .skip)))) (.reg false ycic))))))) (.seq (.reg false yclr) .ret)))
theorem ydae:Fn 170 c170 [.t 6]:=fn_0 Tryz.func170 (by kernel_rfl) (by kernel_rfl)
def ycqb:LO:=[o3 (.box 27 (.tmp 0)) 1 0,o3 (.mv (.const (.int .u32 0))) 2 0]
def ycqo:LO:=[fa' 0 1 1 3 0,ld' false 1 3 4 1,ln' 4 5 3,o3 (.bin .shl (.const (.int .u32 1)) (.tmp 5)) 6 7,o3 (.bin .sub (.tmp 6) (.const (.int .u32 1))) 7 15,mv' 7 2 31]
def c109:SC:=(.seq (.reg false ycqb) (.seq (.reg false ycqo) .ret))
theorem yczu:Fn 109 c109 [.t 2]:=fn_0 Tryz.func109 (by kernel_rfl) (by kernel_rfl)
def ycib:LO:=[o3 (.box 27 (.tmp 0)) 2 0,o3 (.mv (.const (.slice none 0 0))) 4 0]
def ycmi:LO:=[fa' 1 1 2 11 0,ld' false 1 11 12 1,ln' 12 13 3,o3 (.mk 3 1 8 [.i .i64 0] (.tmp 13) (.tmp 13)) 14 7,mv' 14 5 15]
def ycwt:LO:=[mv' 5 15 0,ln' 15 16 1,o3 (.mv (ci' 0)) 17 0]
def ybzx:LO:=[bn' .lss 17 16 18 0]
def ycsu:LO:=[mv' 17 19 0,mv' 19 6 1]
def ycxh:LO:=[mv' 5 20 0,mv' 6 21 0,ix' 1 20 21 22 3,o0 (.store 1 (.tmp 22) (.const (.int .i64 (-1)))) 7]
def ycto:LO:=[o3 (.bin .add (.tmp 17) (ci' 1)) 23 0,mv' 23 17 1]
def ycof:LO:=[mv' 5 24 0,mv' 1 25 0,ix' 1 24 25 26 3,o0 (.store 1 (.tmp 26) (ci' 0)) 7]
def ycxb:LO:=[mv' 1 27 0,o3 (.bslice 3 1 1 [.i .i64 0] [(0,1,(.tmp 27))]) 28 1,mv' 28 7 3]
def ybxz:LO:=[mv' 7 29 0,ln' 29 30 1,o3 (.bin .gtr (.tmp 30) (ci' 0)) 31 3]
def ybpc:LO:=[mv' 7 32 0,o3 (.idx 1 (.tmp 32) (ci' 0)) 33 1,ld' false 1 33 34 3,mv' 34 8 7]
def ybux:LO:=[mv' 7 35 0,o3 (.cut 1 (.tmp 35) (some (ci' 1)) none) 36 1,mv' 36 7 3]
def ybxx:LO:=[fa' 1 1 2 37 0,ld' false 1 37 38 1,mv' 8 39 0,ix' 1 38 39 40 7,ld' false 1 40 41 15,ln' 41 42 31,o3 (.mv (ci' 0)) 43 0]
def yyj:LO:=[bn' .lss 43 42 44 0]
def yyd:LO:=[ix' 2 41 43 45 0,ld' true 2 45 46 1,o3 (.alloc 95 1 [.i .i64 0,.i .i64 0]) 10 0,o0 (.store 2 (.tmp 10) (.tmp 46)) 7]
def yxi:LO:=[mv' 5 47 0,fa' 0 1 10 48 0,ld' false 1 48 49 2,ix' 1 47 49 50 7,ld' false 1 50 51 15,o3 (.bin .lss (.tmp 51) (ci' 0)) 52 31]
def yxp:LO:=[mv' 5 53 0,fa' 0 1 10 54 0,ld' false 1 54 55 2,mv' 5 56 0,mv' 8 57 0,ix' 1 56 57 58 24,ld' false 1 58 59 56,o3 (.bin .add (.tmp 59) (ci' 1)) 60 120,ix' 1 53 55 61 255,o0 (.store 1 (.tmp 61) (.tmp 60)) 511]
def ywx:LO:=[mv' 7 62 0,fa' 0 1 10 63 0,ld' false 1 63 64 2,o3 (.bslice 3 1 1 [.i .i64 0] [(0,1,(.tmp 64))]) 65 6,o3 (.app 3 1 8 (.tmp 62) (.tmp 65)) 66 15,mv' 66 7 31]
def yxu:LO:=[o3 (.bin .add (.tmp 43) (ci' 1)) 67 0,mv' 67 43 1]
def ybsy:LO:=[mv' 5 68 0,mv' 68 4 1]
def c139:SC:=(.seq (.reg false ycib) (.seq (.reg false ycmi) (.seq (.seq (.reg false ycwt) (.block 0 (.loop (.seq (.reg false ybzx) (.seq (.cond (.tmp 18) .skip (.exit 0)) (.seq (.block 1 (.seq (.reg false ycsu) (.reg false ycxh))) (.reg false ycto))))))) (.seq (.reg false ycof) (.seq (.reg false ycxb) (.seq (.block 2 (.loop (.seq (.seq (.reg false ybxz) (.cond (.tmp 31) .skip (.exit 2))) (.block 3 (.seq (.reg false ybpc) (.seq (.reg false ybux) (.seq (.reg false ybxx) (.block 4 (.loop (.seq (.reg false yyj) (.seq (.cond (.tmp 44) .skip (.exit 4)) (.seq (.block 5 (.seq (.reg false yyd) (.seq (.reg false yxi) (.cond (.tmp 52) (.seq (.reg true yxp) (.reg false ywx)) .skip)))) (.reg false yxu))))))))))))) (.seq (.reg false ybsy) .ret)))))))
theorem ydep:Fn 139 c139 [.t 4]:=fn_0 Tryz.func139 (by kernel_rfl) (by kernel_rfl)
def ycpn:LO:=[o3 (.mv (ci' 0)) 2 0]
def ycsw:LO:=[o3 (.mv (.const (.int .i64 (-1)))) 3 0]
def ycsm:LO:=[mv' 0 6 0,ln' 6 7 1,o3 (.mv (ci' 0)) 8 0]
def ychz:LO:=[bn' .lss 8 7 9 0]
def ycpm:LO:=[ix' 1 6 8 10 0,ld' false 1 10 11 1,mv' 11 5 3]
def ycwi:LO:=[mv' 3 12 0,mv' 5 13 0,o3 (.mm true (.tmp 12) (.tmp 13)) 14 3,mv' 14 3 7]
def ychx:LO:=[o3 (.bin .add (.tmp 8) (ci' 1)) 15 0,mv' 15 8 1]
def ycoz:LO:=[mv' 3 16 0,mv' 16 2 1]
def c138:SC:=(.seq (.reg false ycpn) (.seq (.reg false ycsw) (.seq (.seq (.reg false ycsm) (.block 0 (.loop (.seq (.reg false ychz) (.seq (.cond (.tmp 9) .skip (.exit 0)) (.seq (.block 1 (.seq (.reg false ycpm) (.reg false ycwi))) (.reg false ychx))))))) (.seq (.reg false ycoz) .ret))))
theorem ydcz:Fn 138 c138 [.t 2]:=fn_0 Tryz.func138 (by kernel_rfl) (by kernel_rfl)
def ycra:LO:=[o3 (.mv (ci' 0)) 2 0]
def yckw:LO:=[mv' 0 3 0]
def ycux:LO:=[o3 (.mv (ci' 1)) 2 0]
def ycuv:LO:=[o3 (.mv (ci' 0)) 2 0]
def c256:SC:=(.seq (.reg false ycra) (.seq (.seq (.reg false yckw) (.cond (.tmp 3) (.seq (.reg false ycux) .ret) .skip)) (.seq (.reg false ycuv) .ret)))
theorem ydeu:Fn 256 c256 [.t 2]:=fn_0 Tryz.func256 (by kernel_rfl) (by kernel_rfl)
def ycii:LO:=[o3 (.mv (ci' 0)) 2 0]
def ycvq:LO:=[mv' 0 3 0,o3 (.mm false (.tmp 3) (ci' 1073741824)) 4 1,o3 (.mm true (.const (.int .i64 (-1073741824))) (.tmp 4)) 5 3,mv' 5 2 7]
def c258:SC:=(.seq (.reg false ycii) (.seq (.reg false ycvq) .ret))
theorem yddl:Fn 258 c258 [.t 2]:=fn_0 Tryz.func258 (by kernel_rfl) (by kernel_rfl)
def ycww:LO:=[o3 (.mv (ci' 0)) 4 0]
def ycrk:LO:=[mv' 0 5 0,o3 (.bin .eql (.tmp 5) (ci' 18)) 6 1]
def ycua:LO:=[mv' 1 7 0,o3 (.un .neg (.tmp 7)) 8 1,mv' 8 4 3]
def ycjv:LO:=[mv' 1 9 0,o3 (.bin .eql (.tmp 9) (ci' 0)) 10 1,cl' 256 [10] 11 3,mv' 11 4 7]
def c237:SC:=(.seq (.reg false ycww) (.seq (.seq (.reg false ycrk) (.cond (.tmp 6) (.seq (.reg false ycua) .ret) .skip)) (.seq (.reg false ycjv) .ret)))
theorem ydem:Fn 237 c237 [.t 4]:=fn_0 Tryz.func237 (by kernel_rfl) (by kernel_rfl)
def ycmf:LO:=[o3 (.mv (ci' 0)) 6 0]
def yciq:LO:=[mv' 0 7 0]
def ycna:LO:=[o3 (.bin .eql (.tmp 7) (ci' 30)) 9 0,mv' 9 8 1]
def ycpx:LO:=[mv' 1 10 0,mv' 2 11 0,bn' .mul 10 11 12 3,cl' 258 [12] 13 7,mv' 13 6 15]
def ycmm:LO:=[o3 (.bin .eql (.tmp 7) (ci' 31)) 15 0,mv' 15 14 1]
def ycsc:LO:=[mv' 1 16 0,mv' 2 17 0,cl' 259 [16,17] 18 3,cl' 258 [18] 19 7,mv' 19 6 15]
def yckm:LO:=[o3 (.bin .eql (.tmp 7) (ci' 32)) 21 0,mv' 21 20 1]
def ycwy:LO:=[mv' 2 22 0,o3 (.bin .eql (.tmp 22) (ci' 0)) 23 1]
def ycqw:LO:=[o3 (.mv (ci' 0)) 6 0]
def ycjr:LO:=[mv' 1 24 0,mv' 2 25 0,mv' 1 26 0,mv' 2 27 0,cl' 259 [26,27] 28 12,bn' .mul 25 28 29 30,bn' .sub 24 29 30 63,cl' 258 [30] 31 127,mv' 31 6 255]
def ybtr:LO:=[o3 (.bin .eql (.tmp 7) (ci' 33)) 33 0,mv' 33 32 1]
def ybxr:LO:=[mv' 1 34 0,mv' 2 35 0,bn' .add 34 35 36 3,cl' 258 [36] 37 7,mv' 37 6 15]
def ybvr:LO:=[o3 (.bin .eql (.tmp 7) (ci' 34)) 39 0,mv' 39 38 1]
def ybzu:LO:=[mv' 1 40 0,mv' 2 41 0,bn' .sub 40 41 42 3,cl' 258 [42] 43 7,mv' 43 6 15]
def ybuz:LO:=[o3 (.bin .eql (.tmp 7) (ci' 41)) 45 0,mv' 45 44 1]
def ybwk:LO:=[mv' 1 46 0,o3 (.bin .neq (.tmp 46) (ci' 0)) 47 1,mv' 47 48 3,⟨.mv (.tmp 2),some 49,some (48,true),7⟩,⟨.bin .neq (.tmp 49) (ci' 0),some 50,some (48,true),15⟩,o3 (.pick (.tmp 48) (.tmp 50) (.const (.bool false))) 51 31,cl' 256 [51] 52 63,mv' 52 6 127]
def ybuo:LO:=[o3 (.bin .eql (.tmp 7) (ci' 42)) 54 0,mv' 54 53 1]
def ybsb:LO:=[mv' 1 55 0,o3 (.bin .neq (.tmp 55) (ci' 0)) 56 1,mv' 56 57 3,⟨.mv (.tmp 2),some 58,some (57,false),7⟩,⟨.bin .neq (.tmp 58) (ci' 0),some 59,some (57,false),15⟩,o3 (.pick (.tmp 57) (.const (.bool true)) (.tmp 59)) 60 31,cl' 256 [60] 61 63,mv' 61 6 127]
def ybsv:LO:=[mv' 0 62 0,mv' 1 63 0,mv' 2 64 0,cl' 260 [62,63,64] 65 7,cl' 256 [65] 66 15,mv' 66 6 31]
def c239:SC:=(.seq (.reg false ycmf) (.seq (.seq (.reg false yciq) (.block 0 (.seq (.reg false ycna) (.cond (.tmp 8) (.seq (.reg false ycpx) .ret) (.seq (.reg false ycmm) (.cond (.tmp 14) (.seq (.reg false ycsc) .ret) (.seq (.reg false yckm) (.cond (.tmp 20) (.seq (.seq (.reg false ycwy) (.cond (.tmp 23) (.seq (.reg false ycqw) .ret) .skip)) (.seq (.reg false ycjr) .ret)) (.seq (.reg false ybtr) (.cond (.tmp 32) (.seq (.reg false ybxr) .ret) (.seq (.reg false ybvr) (.cond (.tmp 38) (.seq (.reg false ybzu) .ret) (.seq (.reg false ybuz) (.cond (.tmp 44) (.seq (.reg false ybwk) .ret) (.seq (.reg false ybuo) (.cond (.tmp 53) (.seq (.reg false ybsb) .ret) .skip)))))))))))))))) (.seq (.reg false ybsv) .ret)))
theorem ydff:Fn 239 c239 [.t 6]:=fn_0 Tryz.func239 (by kernel_rfl) (by kernel_rfl)
def ycvu:LO:=[o3 (.mv (ci' 0)) 4 0]
def ycns:LO:=[mv' 1 6 0,o3 (.bin .eql (.tmp 6) (ci' 0)) 7 1]
def ychq:LO:=[o3 (.mv (ci' 0)) 4 0]
def ycmv:LO:=[mv' 0 8 0,mv' 1 9 0,bn' .quo 8 9 10 3,mv' 10 5 7]
def ycmx:LO:=[mv' 0 11 0,mv' 1 12 0,bn' .rem 11 12 13 3,o3 (.bin .neq (.tmp 13) (ci' 0)) 14 7,mv' 14 15 15,⟨.mv (.tmp 0),some 16,some (15,true),31⟩,⟨.bin .lss (.tmp 16) (ci' 0),some 17,some (15,true),63⟩,⟨.mv (.tmp 1),some 18,some (15,true),31⟩,⟨.bin .lss (.tmp 18) (ci' 0),some 19,some (15,true),159⟩,⟨.beq true (.tmp 17) (.tmp 19),some 20,some (15,true),511⟩,o3 (.pick (.tmp 15) (.tmp 20) (.const (.bool false))) 21 1023]
def ycss:LO:=[mv' 5 22 0,o3 (.bin .sub (.tmp 22) (ci' 1)) 23 1,mv' 23 5 3]
def ycvw:LO:=[mv' 5 24 0,mv' 24 4 1]
def c259:SC:=(.seq (.reg false ycvu) (.seq (.seq (.reg false ycns) (.cond (.tmp 7) (.seq (.reg false ychq) .ret) .skip)) (.seq (.reg false ycmv) (.seq (.seq (.reg false ycmx) (.cond (.tmp 21) (.reg false ycss) .skip)) (.seq (.reg false ycvw) .ret)))))
theorem ydbo:Fn 259 c259 [.t 4]:=fn_0 Tryz.func259 (by kernel_rfl) (by kernel_rfl)
def ycvz:LO:=[o3 (.mv (.const (.bool false))) 6 0]
def ycla:LO:=[mv' 0 7 0]
def ycjp:LO:=[o3 (.bin .eql (.tmp 7) (ci' 35)) 9 0,mv' 9 8 1]
def yclh:LO:=[mv' 1 10 0,mv' 2 11 0,bn' .eql 10 11 12 3,mv' 12 6 7]
def ycnd:LO:=[o3 (.bin .eql (.tmp 7) (ci' 36)) 14 0,mv' 14 13 1]
def ycou:LO:=[mv' 1 15 0,mv' 2 16 0,bn' .neq 15 16 17 3,mv' 17 6 7]
def yctg:LO:=[o3 (.bin .eql (.tmp 7) (ci' 37)) 19 0,mv' 19 18 1]
def ycqf:LO:=[mv' 1 20 0,mv' 2 21 0,bn' .lss 20 21 22 3,mv' 22 6 7]
def yclk:LO:=[o3 (.bin .eql (.tmp 7) (ci' 38)) 24 0,mv' 24 23 1]
def ycvn:LO:=[mv' 1 25 0,mv' 2 26 0,bn' .leq 25 26 27 3,mv' 27 6 7]
def ybwi:LO:=[o3 (.bin .eql (.tmp 7) (ci' 39)) 29 0,mv' 29 28 1]
def ybtn:LO:=[mv' 1 30 0,mv' 2 31 0,bn' .gtr 30 31 32 3,mv' 32 6 7]
def ybth:LO:=[mv' 1 33 0,mv' 2 34 0,bn' .geq 33 34 35 3,mv' 35 6 7]
def c260:SC:=(.seq (.reg false ycvz) (.seq (.seq (.reg false ycla) (.block 0 (.seq (.reg false ycjp) (.cond (.tmp 8) (.seq (.reg false yclh) .ret) (.seq (.reg false ycnd) (.cond (.tmp 13) (.seq (.reg false ycou) .ret) (.seq (.reg false yctg) (.cond (.tmp 18) (.seq (.reg false ycqf) .ret) (.seq (.reg false yclk) (.cond (.tmp 23) (.seq (.reg false ycvn) .ret) (.seq (.reg false ybwi) (.cond (.tmp 28) (.seq (.reg false ybtn) .ret) .skip)))))))))))) (.seq (.reg false ybth) .ret)))
theorem yddj:Fn 260 c260 [.t 6]:=fn_0 Tryz.func260 (by kernel_rfl) (by kernel_rfl)
def ycwo:LO:=[o3 (.mv (ci' 0)) 4 0]
def ycoj:LO:=[mv' 0 15 0]
def ycmq:LO:=[o3 (.bin .eql (.tmp 15) (ci' 20)) 17 0,mv' 17 16 1]
def ycmg:LO:=[mv' 1 18 0,cl' 266 [18] 19 1,mv' 1 20 0,ln' 20 21 4,bn' .eql 19 21 22 15,cl' 256 [22] 23 31,mv' 23 4 63]
def yclb:LO:=[o3 (.bin .eql (.tmp 15) (ci' 21)) 25 0,mv' 25 24 1]
def yckl:LO:=[mv' 1 26 0,cl' 266 [26] 27 1,o3 (.bin .gtr (.tmp 27) (ci' 0)) 28 3,cl' 256 [28] 29 7,mv' 29 4 15]
def ycwe:LO:=[o3 (.bin .eql (.tmp 15) (ci' 22)) 31 0,mv' 31 30 1]
def ycqp:LO:=[mv' 1 32 0,cl' 266 [32] 33 1,mv' 33 4 3]
def ycjo:LO:=[o3 (.bin .eql (.tmp 15) (ci' 23)) 35 0,mv' 35 34 1]
def ycmr:LO:=[mv' 1 36 0,o3 (.call (.func 267) [(.tmp 36),(.func 268)]) 37 1,mv' 37 4 3]
def ybpj:LO:=[o3 (.bin .eql (.tmp 15) (ci' 24)) 39 0,mv' 39 38 1]
def ybyv:LO:=[o3 (.mv (ci' 1073741824)) 5 0]
def yboo:LO:=[mv' 1 40 0,ln' 40 41 1,o3 (.mv (ci' 0)) 42 0]
def ybpw:LO:=[bn' .lss 42 41 43 0]
def ybxf:LO:=[ix' 1 40 42 44 0,ld' false 1 44 45 1,mv' 45 7 3]
def ybwg:LO:=[mv' 5 46 0,mv' 7 47 0,o3 (.mm false (.tmp 46) (.tmp 47)) 48 3,mv' 48 5 7]
def ybwx:LO:=[o3 (.bin .add (.tmp 42) (ci' 1)) 49 0,mv' 49 42 1]
def ybqn:LO:=[mv' 5 50 0,mv' 50 4 1]
def ybrs:LO:=[o3 (.bin .eql (.tmp 15) (ci' 25)) 52 0,mv' 52 51 1]
def ybzj:LO:=[mv' 1 54 0,cl' 269 [54] 55 1,mv' 55 53 3,xt' 53 0 56 7,xt' 53 1 57 7,mv' 56 8 15,mv' 57 9 63]
def ybuj:LO:=[mv' 8 58 0,mv' 58 4 1]
def ybyb:LO:=[o3 (.bin .eql (.tmp 15) (ci' 26)) 60 0,mv' 60 59 1]
def ybvh:LO:=[o3 (.mv (ci' 0)) 10 0]
def ybqa:LO:=[mv' 1 61 0,ln' 61 62 1,o3 (.mv (ci' 0)) 63 0]
def ybwq:LO:=[bn' .lss 63 62 64 0]
def ybut:LO:=[ix' 1 61 63 65 0,ld' false 1 65 66 1,mv' 66 12 3]
def ybxd:LO:=[mv' 10 67 0,mv' 12 68 0,bn' .add 67 68 69 3,mv' 69 10 7]
def ybxv:LO:=[o3 (.bin .add (.tmp 63) (ci' 1)) 70 0,mv' 70 63 1]
def ybsd:LO:=[mv' 10 71 0,cl' 258 [71] 72 1,mv' 72 4 3]
def ybvj:LO:=[o3 (.bin .eql (.tmp 15) (ci' 27)) 74 0,mv' 74 73 1]
def ybrj:LO:=[mv' 1 75 0,cl' 270 [75] 76 1,mv' 76 4 3]
def ybqk:LO:=[o3 (.bin .eql (.tmp 15) (ci' 28)) 78 0,mv' 78 77 1]
def ybwd:LO:=[mv' 1 80 0,cl' 269 [80] 81 1,mv' 81 79 3,xt' 79 0 82 7,xt' 79 1 83 7,mv' 82 13 15,mv' 83 14 63]
def ybzh:LO:=[mv' 14 84 0,mv' 84 4 1]
def ybrr:LO:=[mv' 1 85 0,ln' 85 86 1,o3 (.bin .eql (.tmp 86) (ci' 0)) 87 3]
def ybqd:LO:=[o3 (.mv (ci' 0)) 4 0]
def ybsw:LO:=[mv' 1 88 0,o3 (.idx 1 (.tmp 88) (ci' 0)) 89 1,ld' false 1 89 90 3,mv' 90 4 7]
def c257:SC:=(.seq (.reg false ycwo) (.seq (.seq (.reg false ycoj) (.block 0 (.seq (.reg false ycmq) (.cond (.tmp 16) (.seq (.reg false ycmg) .ret) (.seq (.reg false yclb) (.cond (.tmp 24) (.seq (.reg false yckl) .ret) (.seq (.reg false ycwe) (.cond (.tmp 30) (.seq (.reg false ycqp) .ret) (.seq (.reg false ycjo) (.cond (.tmp 34) (.seq (.reg false ycmr) .ret) (.seq (.reg false ybpj) (.cond (.tmp 38) (.seq (.reg false ybyv) (.seq (.seq (.reg false yboo) (.block 1 (.loop (.seq (.reg false ybpw) (.seq (.cond (.tmp 43) .skip (.exit 1)) (.seq (.block 2 (.seq (.reg false ybxf) (.reg false ybwg))) (.reg false ybwx))))))) (.seq (.reg false ybqn) .ret))) (.seq (.reg false ybrs) (.cond (.tmp 51) (.seq (.reg false ybzj) (.seq (.reg false ybuj) .ret)) (.seq (.reg false ybyb) (.cond (.tmp 59) (.seq (.reg false ybvh) (.seq (.seq (.reg false ybqa) (.block 3 (.loop (.seq (.reg false ybwq) (.seq (.cond (.tmp 64) .skip (.exit 3)) (.seq (.block 4 (.seq (.reg false ybut) (.reg false ybxd))) (.reg false ybxv))))))) (.seq (.reg false ybsd) .ret))) (.seq (.reg false ybvj) (.cond (.tmp 73) (.seq (.reg false ybrj) .ret) (.seq (.reg false ybqk) (.cond (.tmp 77) (.seq (.reg false ybwd) (.seq (.reg false ybzh) .ret)) .skip)))))))))))))))))))) (.seq (.seq (.reg false ybrr) (.cond (.tmp 87) (.seq (.reg false ybqd) .ret) .skip)) (.seq (.reg false ybsw) .ret))))
theorem yddq:Fn 257 c257 [.t 4]:=fn_0 Tryz.func257 (by kernel_rfl) (by kernel_rfl)
def ycnr:LO:=[o3 (.mv (.const (.bool false))) 2 0]
def ycij:LO:=[mv' 0 3 0,o3 (.bin .neq (.tmp 3) (ci' 0)) 4 1,mv' 4 2 3]
def c268:SC:=(.seq (.reg false ycnr) (.seq (.reg false ycij) .ret))
theorem ycya:Fn 268 c268 [.t 2]:=fn_0 Tryz.func268 (by kernel_rfl) (by kernel_rfl)
def ycik:LO:=[o3 (.mv (ci' 0)) 2 0]
def ycoh:LO:=[o3 (.mv (ci' 0)) 3 0]
def ycjh:LO:=[mv' 0 6 0,ln' 6 7 1,o3 (.mv (ci' 0)) 8 0]
def ycjx:LO:=[bn' .lss 8 7 9 0]
def ycvp:LO:=[ix' 1 6 8 10 0,ld' false 1 10 11 1,mv' 11 5 3]
def ycpb:LO:=[mv' 5 12 0,o3 (.bin .neq (.tmp 12) (ci' 0)) 13 1]
def ycmk:LO:=[mv' 3 14 0,o3 (.bin .add (.tmp 14) (ci' 1)) 15 1,mv' 15 3 3]
def ycix:LO:=[o3 (.bin .add (.tmp 8) (ci' 1)) 16 0,mv' 16 8 1]
def ycot:LO:=[mv' 3 17 0,mv' 17 2 1]
def c266:SC:=(.seq (.reg false ycik) (.seq (.reg false ycoh) (.seq (.seq (.reg false ycjh) (.block 0 (.loop (.seq (.reg false ycjx) (.seq (.cond (.tmp 9) .skip (.exit 0)) (.seq (.block 1 (.seq (.reg false ycvp) (.seq (.reg false ycpb) (.cond (.tmp 13) (.reg false ycmk) .skip)))) (.reg false ycix))))))) (.seq (.reg false ycot) .ret))))
theorem ydbw:Fn 266 c266 [.t 2]:=fn_0 Tryz.func266 (by kernel_rfl) (by kernel_rfl)
def ycji:LO:=[o3 (.mv (ci' 0)) 2 0,o3 (.mv (ci' 0)) 3 1]
def ycog:LO:=[o3 (.mv (.const (.int .i64 (-1073741824)))) 2 0,o3 (.mv (.const (.int .i64 (-1073741824)))) 3 1]
def yctw:LO:=[mv' 0 6 0,ln' 6 7 1,o3 (.mv (ci' 0)) 8 0]
def ycgr:LO:=[bn' .lss 8 7 9 0]
def ycwz:LO:=[ix' 1 6 8 10 0,ld' false 1 10 11 1,mv' 11 5 3]
def ycxo:LO:=[mv' 5 12 0,mv' 2 13 0,bn' .gtr 12 13 14 3]
def ycrp:LO:=[mv' 5 15 0,mv' 2 16 0,mv' 15 2 3,mv' 16 3 7]
def ycku:LO:=[mv' 3 17 0,mv' 5 18 0,o3 (.mm true (.tmp 17) (.tmp 18)) 19 3,mv' 19 3 7]
def ycgw:LO:=[o3 (.bin .add (.tmp 8) (ci' 1)) 20 0,mv' 20 8 1]
def ycoo:LO:=[mv' 2 21 0,mv' 3 22 0,mv' 21 2 1,mv' 22 3 7]
def c269:SC:=(.seq (.reg false ycji) (.seq (.reg false ycog) (.seq (.seq (.reg false yctw) (.block 0 (.loop (.seq (.reg false ycgr) (.seq (.cond (.tmp 9) .skip (.exit 0)) (.seq (.block 1 (.seq (.reg false ycwz) (.seq (.reg false ycxo) (.cond (.tmp 14) (.reg false ycrp) (.reg false ycku))))) (.reg false ycgw))))))) (.seq (.reg false ycoo) .ret))))
theorem ydcf:Fn 269 c269 [.t 2,.t 3]:=fn_0 Tryz.func269 (by kernel_rfl) (by kernel_rfl)
def ycvd:LO:=[o3 (.mv (ci' 0)) 2 0]
def yckd:LO:=[o3 (.mv (ci' 0)) 3 0]
def ycve:LO:=[mv' 0 4 0,mv' 3 5 0,cl' 274 [4,5] 6 3]
def ycit:LO:=[mv' 3 7 0,o3 (.bin .add (.tmp 7) (ci' 1)) 8 1,mv' 8 3 3]
def ycqv:LO:=[mv' 3 9 0,mv' 9 2 1]
def c270:SC:=(.seq (.reg false ycvd) (.seq (.reg false yckd) (.seq (.block 0 (.loop (.seq (.seq (.reg false ycve) (.cond (.tmp 6) .skip (.exit 0))) (.block 1 (.reg false ycit))))) (.seq (.reg false ycqv) .ret))))
theorem ycyn:Fn 270 c270 [.t 2]:=fn_0 Tryz.func270 (by kernel_rfl) (by kernel_rfl)
def ycuf:LO:=[o3 (.box 58 (.tmp 0)) 2 0,o3 (.box 27 (.tmp 1)) 3 0,o3 (.mv (.const (.pointer none))) 4 0]
def ycpr:LO:=[ld' true 3 2 10 0,ld' true 2 3 11 0,fa' 1 1 3 12 0,ld' false 1 12 13 4,ln' 13 14 12,o3 (.mk 22 1 24 [.a (.slice none 0 0)] (.tmp 14) (.tmp 14)) 15 28,o3 (.build [.a (.string (ByteArray.mk #[])),.a (.slice none 0 0),.a (.slice none 0 0),.a (.slice none 0 0),.a (.slice none 0 0),.i .i64 0,.a (.slice none 0 0)] [(0,3,(.tmp 10)),(3,2,(.tmp 11)),(6,1,(.tmp 15))]) 16 63,o3 (.box 170 (.tmp 16)) 17 127,mv' 17 5 255]
def ycie:LO:=[fa' 1 1 3 18 0,ld' false 1 18 19 1,ln' 19 20 3,o3 (.mv (ci' 0)) 21 0]
def ycob:LO:=[bn' .lss 21 20 22 0]
def ycri:LO:=[mv' 21 23 0,ix' 1 19 21 24 0,ld' false 1 24 25 2,mv' 23 6 7,mv' 25 7 15]
def ycgz:LO:=[mv' 5 26 0,mv' 5 27 0,o3 (.nilck (.tmp 27)) 28 2,fa' 5 1 28 29 6,ld' false 1 29 30 14,fa' 0 1 3 31 0,ld' false 1 31 32 32,mv' 6 33 0,ix' 1 32 33 34 224,ld' false 1 34 35 480,o3 (.mm true (.tmp 30) (.tmp 35)) 36 1022,o3 (.nilck (.tmp 26)) 37 2047,fa' 5 1 37 38 4095,o0 (.store 1 (.tmp 38) (.tmp 36)) 8191]
def ycoe:LO:=[mv' 7 39 0,ln' 39 40 1,o3 (.mv (ci' 0)) 41 0]
def ycir:LO:=[bn' .lss 41 40 42 0]
def ycxf:LO:=[ix' 2 39 41 43 0,ld' true 2 43 44 1,o3 (.alloc 95 1 [.i .i64 0,.i .i64 0]) 9 0,o0 (.store 2 (.tmp 9) (.tmp 44)) 7]
def ycpo:LO:=[mv' 5 45 0,o3 (.nilck (.tmp 45)) 46 1,fa' 6 1 46 47 3,ld' false 1 47 48 7,mv' 6 49 0,mv' 5 50 0,o3 (.nilck (.tmp 50)) 51 32,fa' 6 1 51 52 96,ld' false 1 52 53 224,mv' 6 54 0,ix' 1 53 54 55 992,ld' false 1 55 56 2016,ld' true 2 3 57 0,fa' 0 1 9 58 0,ld' false 1 58 59 8192,mv' 6 60 0,cl' 170 [57,59,60] 61 61440,o3 (.bslice 3 1 1 [.i .i64 0] [(0,1,(.tmp 61))]) 62 126976,o3 (.app 3 1 8 (.tmp 56) (.tmp 62)) 63 262112,ix' 1 48 49 64 524287,o0 (.store 1 (.tmp 64) (.tmp 63)) 1048575]
def ybzf:LO:=[o3 (.bin .add (.tmp 41) (ci' 1)) 65 0,mv' 65 41 1]
def ybtd:LO:=[o3 (.bin .add (.tmp 21) (ci' 1)) 66 0,mv' 66 21 1]
def ybrp:LO:=[mv' 5 67 0,mv' 67 4 1]
def c143:SC:=(.seq (.reg false ycuf) (.seq (.reg true ycpr) (.seq (.seq (.reg false ycie) (.block 0 (.loop (.seq (.reg false ycob) (.seq (.cond (.tmp 22) .skip (.exit 0)) (.seq (.block 1 (.seq (.reg false ycri) (.seq (.reg true ycgz) (.seq (.reg false ycoe) (.block 2 (.loop (.seq (.reg false ycir) (.seq (.cond (.tmp 42) .skip (.exit 2)) (.seq (.block 3 (.seq (.reg false ycxf) (.reg true ycpo))) (.reg false ybzf)))))))))) (.reg false ybtd))))))) (.seq (.reg false ybrp) .ret))))
theorem yddv:Fn 143 c143 [.t 4]:=fn_0 Tryz.func143 (by kernel_rfl) (by kernel_rfl)
def yctb:LO:=[o3 (.mv (ci' 0)) 8 0]
def ycjc:LO:=[mv' 1 10 0]
def yche:LO:=[o3 (.bin .eql (.tmp 10) (ci' 6)) 12 0,mv' 12 11 1]
def ycnn:LO:=[mv' 0 13 0,o3 (.nilck (.tmp 13)) 14 1,fa' 3 2 14 15 3,fa' 0 1 15 16 7,ld' false 1 16 17 15,ln' 17 18 31,mv' 18 8 63]
def ycuz:LO:=[o3 (.bin .eql (.tmp 10) (ci' 7)) 20 0,mv' 20 19 1]
def ycxl:LO:=[mv' 0 21 0,o3 (.nilck (.tmp 21)) 22 1,fa' 5 1 22 23 3,ld' false 1 23 24 7,mv' 24 8 15]
def ycqn:LO:=[o3 (.bin .eql (.tmp 10) (ci' 8)) 26 0,mv' 26 25 1]
def ycjq:LO:=[mv' 0 27 0,o3 (.nilck (.tmp 27)) 28 1,fa' 3 2 28 29 3,fa' 0 1 29 30 7,ld' false 1 30 31 15,mv' 2 32 0,ix' 1 31 32 33 63,ld' false 1 33 34 127,mv' 34 8 255]
def ycls:LO:=[o3 (.bin .eql (.tmp 10) (ci' 9)) 36 0,mv' 36 35 1]
def ycny:LO:=[mv' 0 37 0,o3 (.nilck (.tmp 37)) 38 1,fa' 3 2 38 39 3,fa' 1 1 39 40 7,ld' false 1 40 41 15,mv' 2 42 0,ix' 1 41 42 43 63,ld' false 1 43 44 127,ln' 44 45 255,mv' 45 8 511]
def ybtt:LO:=[o3 (.bin .eql (.tmp 10) (ci' 10)) 47 0,mv' 47 46 1]
def ybqy:LO:=[mv' 2 48 0,o3 (.bin .eql (.tmp 48) (ci' 0)) 49 1,cl' 256 [49] 50 3,mv' 50 8 7]
def ybti:LO:=[o3 (.bin .eql (.tmp 10) (ci' 11)) 52 0,mv' 52 51 1]
def ybua:LO:=[mv' 3 53 0,mv' 53 8 1]
def ybum:LO:=[mv' 0 54 0,o3 (.nilck (.tmp 54)) 55 1,fa' 3 2 55 56 3,fa' 1 1 56 57 7,ld' false 1 57 58 15,mv' 2 59 0,ix' 1 58 59 60 63,ld' false 1 60 61 127,mv' 3 62 0,ix' 2 61 62 63 511,ld' true 2 63 64 1023,o3 (.alloc 95 1 [.i .i64 0,.i .i64 0]) 9 0,o0 (.store 2 (.tmp 9) (.tmp 64)) 4095]
def ybov:LO:=[mv' 1 65 0]
def ybtu:LO:=[o3 (.bin .eql (.tmp 65) (ci' 13)) 67 0,mv' 67 66 1]
def ycac:LO:=[mv' 0 68 0,o3 (.nilck (.tmp 68)) 69 1,fa' 3 2 69 70 3,fa' 0 1 70 71 7,ld' false 1 71 72 15,fa' 0 1 9 73 0,ld' false 1 73 74 32,ix' 1 72 74 75 127,ld' false 1 75 76 255,mv' 76 8 511]
def ybym:LO:=[o3 (.bin .eql (.tmp 65) (ci' 14)) 78 0,mv' 78 77 1]
def ybrm:LO:=[mv' 0 79 0,o3 (.nilck (.tmp 79)) 80 1,fa' 3 2 80 81 3,fa' 1 1 81 82 7,ld' false 1 82 83 15,fa' 0 1 9 84 0,ld' false 1 84 85 32,ix' 1 83 85 86 127,ld' false 1 86 87 255,ln' 87 88 511,mv' 88 8 1023]
def ybuu:LO:=[o3 (.bin .eql (.tmp 65) (ci' 15)) 90 0,mv' 90 89 1]
def ybpx:LO:=[fa' 0 1 9 91 0,ld' false 1 91 92 1,o3 (.bin .eql (.tmp 92) (ci' 0)) 93 3,cl' 256 [93] 94 7,mv' 94 8 15]
def ybya:LO:=[o3 (.bin .eql (.tmp 65) (ci' 16)) 96 0,mv' 96 95 1]
def ybyy:LO:=[fa' 1 1 9 97 0,ld' false 1 97 98 1,mv' 98 8 3]
def ybwu:LO:=[mv' 0 99 0,o3 (.nilck (.tmp 99)) 100 1,fa' 6 1 100 101 3,ld' false 1 101 102 7,mv' 2 103 0,ix' 1 102 103 104 31,ld' false 1 104 105 63,mv' 3 106 0,ix' 1 105 106 107 255,ld' false 1 107 108 511,mv' 108 8 1023]
def c255:SC:=(.seq (.reg false yctb) (.seq (.seq (.reg false ycjc) (.block 0 (.seq (.reg false yche) (.cond (.tmp 11) (.seq (.reg false ycnn) .ret) (.seq (.reg false ycuz) (.cond (.tmp 19) (.seq (.reg false ycxl) .ret) (.seq (.reg false ycqn) (.cond (.tmp 25) (.seq (.reg false ycjq) .ret) (.seq (.reg false ycls) (.cond (.tmp 35) (.seq (.reg false ycny) .ret) (.seq (.reg false ybtt) (.cond (.tmp 46) (.seq (.reg false ybqy) .ret) (.seq (.reg false ybti) (.cond (.tmp 51) (.seq (.reg false ybua) .ret) .skip)))))))))))))) (.seq (.reg false ybum) (.seq (.seq (.reg false ybov) (.block 1 (.seq (.reg false ybtu) (.cond (.tmp 66) (.seq (.reg true ycac) .ret) (.seq (.reg false ybym) (.cond (.tmp 77) (.seq (.reg true ybrm) .ret) (.seq (.reg false ybuu) (.cond (.tmp 89) (.seq (.reg false ybpx) .ret) (.seq (.reg false ybya) (.cond (.tmp 95) (.seq (.reg false ybyy) .ret) .skip)))))))))) (.seq (.reg false ybwu) .ret)))))
theorem yddh:Fn 255 c255 [.t 8]:=fn_0 Tryz.func255 (by kernel_rfl) (by kernel_rfl)
def ycwv:LO:=[o3 (.mv (ci' 0)) 8 0]
def ycuc:LO:=[mv' 0 12 0,mv' 1 13 0,mv' 2 14 0,mv' 3 15 0,o3 (.build [.a (.pointer none),.a (.slice none 0 0),.i .i64 0,.a (.slice none 0 0)] [(0,1,(.tmp 12)),(1,1,(.tmp 13)),(2,1,(.tmp 14)),(3,1,(.tmp 15))]) 16 15,o3 (.alloc 228 1 [.a (.pointer none),.a (.slice none 0 0),.i .i64 0,.a (.slice none 0 0)]) 9 0,o0 (.store 4 (.tmp 9) (.tmp 16)) 63]
def ycpe:LO:=[o3 (.call (.func 220) [(.tmp 9),(ci' 0),(.const (.int .i64 (-1)))]) 18 0,mv' 18 17 1,xt' 17 0 19 3,xt' 17 1 20 3,mv' 19 10 7,mv' 20 11 31]
def ycgy:LO:=[mv' 10 21 0,mv' 21 8 1]
def c193:SC:=(.seq (.reg false ycwv) (.seq (.reg false ycuc) (.seq (.reg false ycpe) (.seq (.reg false ycgy) .ret))))
theorem ydcg:Fn 193 c193 [.t 8]:=fn_0 Tryz.func193 (by kernel_rfl) (by kernel_rfl)
def ycky:LO:=[o3 (.mv (.const (.bool false))) 8 0]
def ycow:LO:=[mv' 0 9 0,mv' 1 10 0,mv' 2 11 0,mv' 0 12 0,o3 (.nilck (.tmp 12)) 13 8,fa' 0 3 13 14 24,fa' 2 1 14 15 56,ld' false 1 15 16 120,mv' 3 17 0,ix' 3 16 17 18 504,fa' 1 1 18 19 1016,ld' false 1 19 20 2040,cl' 193 [9,10,11,20] 21 4095,o3 (.bin .neq (.tmp 21) (ci' 0)) 22 8191,mv' 22 8 16383]
def c172:SC:=(.seq (.reg false ycky) (.seq (.reg false ycow) .ret))
theorem ycxy:Fn 172 c172 [.t 8]:=fn_0 Tryz.func172 (by kernel_rfl) (by kernel_rfl)
def yvn:LO:=[o3 (.mv (ci' 0)) 6 0,o3 (.mv (ci' 0)) 7 1]
def yvd:LO:=[mv' 0 18 0,o3 (.nilck (.tmp 18)) 19 1,fa' 3 1 19 20 3,ld' false 1 20 21 7,mv' 1 22 0,ix' 2 21 22 23 31,ld' true 2 23 24 63,o3 (.alloc 240 1 [.i .i64 0,.i .i64 0]) 8 0,o0 (.store 2 (.tmp 8) (.tmp 24)) 255]
def yvw:LO:=[fa' 0 1 8 26 0,ld' false 1 26 27 1,o3 (.bin .leq (.tmp 27) (ci' 17)) 28 3,mv' 28 25 7]
def yvl:LO:=[mv' 0 29 0,ld' true 2 8 30 0,mv' 2 31 0,cl' 236 [29,30,31] 32 7,mv' 1 33 0,o3 (.bin .add (.tmp 33) (ci' 1)) 34 16,mv' 32 6 15,mv' 34 7 127]
def yvb:LO:=[fa' 0 1 8 36 0,ld' false 1 36 37 1,o3 (.bin .leq (.tmp 37) (ci' 19)) 38 3,mv' 38 35 7]
def ywt:LO:=[mv' 0 40 0,mv' 1 41 0,o3 (.bin .add (.tmp 41) (ci' 1)) 42 2,mv' 2 43 0,cl' 220 [40,42,43] 44 15,mv' 44 39 31,xt' 39 0 45 63,xt' 39 1 46 63,mv' 45 6 127,mv' 46 7 511]
def yvx:LO:=[fa' 0 1 8 47 0,ld' false 1 47 48 1,mv' 6 49 0,cl' 237 [48,49] 50 7,mv' 7 51 0,mv' 50 6 15,mv' 51 7 63]
def ywc:LO:=[fa' 0 1 8 53 0,ld' false 1 53 54 1,o3 (.bin .leq (.tmp 54) (ci' 29)) 55 3,mv' 55 52 7]
def yvk:LO:=[mv' 0 56 0,fa' 0 1 8 57 0,ld' false 1 57 58 2,mv' 1 59 0,cl' 238 [56,58,59] 60 15,xt' 60 0 61 31,xt' 60 1 62 31,mv' 61 6 127,mv' 62 7 255]
def yvr:LO:=[fa' 0 1 8 64 0,ld' false 1 64 65 1,o3 (.bin .leq (.tmp 65) (ci' 42)) 66 3,mv' 66 63 7]
def yog:LO:=[mv' 0 68 0,mv' 1 69 0,o3 (.bin .add (.tmp 69) (ci' 1)) 70 2,mv' 2 71 0,cl' 220 [68,70,71] 72 15,mv' 72 67 31,xt' 67 0 73 63,xt' 67 1 74 63,mv' 73 9 127,mv' 74 10 511]
def ynq:LO:=[mv' 0 76 0,mv' 10 77 0,mv' 2 78 0,cl' 220 [76,77,78] 79 7,mv' 79 75 15,xt' 75 0 80 31,xt' 75 1 81 31,mv' 80 11 63,mv' 81 12 255]
def yny:LO:=[fa' 0 1 8 82 0,ld' false 1 82 83 1,mv' 9 84 0,mv' 11 85 0,cl' 239 [83,84,85] 86 15,mv' 12 87 0,mv' 86 6 31,mv' 87 7 127]
def ynt:LO:=[mv' 0 89 0,mv' 1 90 0,o3 (.bin .add (.tmp 90) (ci' 1)) 91 2,mv' 2 92 0,cl' 220 [89,91,92] 93 15,mv' 93 88 31,xt' 88 0 94 63,xt' 88 1 95 63,mv' 94 13 127,mv' 95 14 511]
def yoi:LO:=[mv' 0 97 0,mv' 14 98 0,mv' 2 99 0,cl' 220 [97,98,99] 100 7,mv' 100 96 15,xt' 96 0 101 31,xt' 96 1 102 31,mv' 101 15 63,mv' 102 16 255]
def yov:LO:=[mv' 0 104 0,mv' 16 105 0,mv' 2 106 0,cl' 220 [104,105,106] 107 7,mv' 107 103 15,xt' 103 0 108 31,xt' 103 1 109 31,mv' 108 17 63,mv' 109 7 255]
def yom:LO:=[mv' 13 110 0,o3 (.bin .neq (.tmp 110) (ci' 0)) 111 1]
def yns:LO:=[mv' 15 112 0,mv' 7 113 0,mv' 112 6 1,mv' 113 7 7]
def yob:LO:=[mv' 17 114 0,mv' 7 115 0,mv' 114 6 1,mv' 115 7 7]
def c220:SC:=(.seq (.reg false yvn) (.seq (.reg false yvd) (.seq (.block 0 (.seq (.reg false yvw) (.cond (.tmp 25) (.seq (.reg false yvl) .ret) (.seq (.reg false yvb) (.cond (.tmp 35) (.seq (.reg false ywt) (.seq (.reg false yvx) .ret)) (.seq (.reg false ywc) (.cond (.tmp 52) (.seq (.reg false yvk) .ret) (.seq (.reg false yvr) (.cond (.tmp 63) (.seq (.reg false yog) (.seq (.reg false ynq) (.seq (.reg false yny) .ret))) .skip))))))))) (.seq (.reg false ynt) (.seq (.reg false yoi) (.seq (.reg false yov) (.seq (.seq (.reg false yom) (.cond (.tmp 111) (.seq (.reg false yns) .ret) .skip)) (.seq (.reg false yob) .ret))))))))
theorem yue:Fn 220 c220 [.t 6,.t 7]:=fn_0 Tryz.func220 (by kernel_rfl) (by kernel_rfl)
def ycsq:LO:=[o3 (.box 240 (.tmp 1)) 4 0,o3 (.mv (ci' 0)) 6 0]
def yckk:LO:=[fa' 0 1 4 7 0,ld' false 1 7 8 1]
def ycsn:LO:=[o3 (.bin .eql (.tmp 8) (ci' 1)) 10 0,mv' 10 9 1]
def ycha:LO:=[fa' 1 1 4 11 0,ld' false 1 11 12 1,mv' 12 6 3]
def ycin:LO:=[o3 (.bin .eql (.tmp 8) (ci' 2)) 14 0,mv' 14 13 1]
def ycoi:LO:=[o3 (.mv (ci' 1)) 6 0]
def ychp:LO:=[o3 (.bin .eql (.tmp 8) (ci' 3)) 16 0,mv' 16 15 1]
def ycxa:LO:=[o3 (.mv (ci' 0)) 6 0]
def ycvj:LO:=[o3 (.bin .eql (.tmp 8) (ci' 4)) 18 0,mv' 18 17 1]
def ycjf:LO:=[o3 (.mv (.const (.int .i64 (-1)))) 6 0]
def ybqh:LO:=[o3 (.bin .eql (.tmp 8) (ci' 5)) 20 0,mv' 20 19 1]
def ybsc:LO:=[mv' 0 21 0,o3 (.nilck (.tmp 21)) 22 1,fa' 1 1 22 23 3,ld' false 1 23 24 7,mv' 0 25 0,o3 (.nilck (.tmp 25)) 26 16,fa' 2 1 26 27 48,ld' false 1 27 28 112,ix' 1 24 28 29 255,ld' false 1 29 30 511,fa' 1 1 4 31 0,ld' false 1 31 32 1024,ix' 1 30 32 33 4095,ld' false 1 33 34 8191,mv' 34 6 16383]
def ybtw:LO:=[o3 (.bin .eql (.tmp 8) (ci' 12)) 36 0,mv' 36 35 1]
def ybqj:LO:=[mv' 0 37 0,o3 (.nilck (.tmp 37)) 38 1,fa' 1 1 38 39 3,ld' false 1 39 40 7,mv' 0 41 0,o3 (.nilck (.tmp 41)) 42 16,fa' 0 1 42 43 48,ld' false 1 43 44 112,o3 (.nilck (.tmp 44)) 45 240,fa' 3 2 45 46 496,fa' 1 1 46 47 1008,ld' false 1 47 48 2032,mv' 0 49 0,o3 (.nilck (.tmp 49)) 50 4096,fa' 2 1 50 51 12288,ld' false 1 51 52 28672,ix' 1 48 52 53 65520,ld' false 1 53 54 131056,mv' 2 55 0,ix' 2 54 55 56 524272,fa' 0 1 56 57 1048560,ld' false 1 57 58 2097136,ix' 1 40 58 59 4194303,ld' false 1 59 60 8388607,fa' 1 1 4 61 0,ld' false 1 61 62 16777216,ix' 1 60 62 63 67108863,ld' false 1 63 64 134217727,mv' 64 6 268435455]
def ybul:LO:=[mv' 0 65 0,o3 (.nilck (.tmp 65)) 66 1,fa' 0 1 66 67 3,ld' false 1 67 68 7,fa' 0 1 4 69 0,ld' false 1 69 70 16,mv' 0 71 0,o3 (.nilck (.tmp 71)) 72 64,fa' 2 1 72 73 192,ld' false 1 73 74 448,mv' 2 75 0,cl' 255 [68,70,74,75] 76 2047,mv' 76 6 4095]
def c236:SC:=(.seq (.reg false ycsq) (.seq (.seq (.reg false yckk) (.block 0 (.seq (.reg false ycsn) (.cond (.tmp 9) (.seq (.reg false ycha) .ret) (.seq (.reg false ycin) (.cond (.tmp 13) (.seq (.reg false ycoi) .ret) (.seq (.reg false ychp) (.cond (.tmp 15) (.seq (.reg false ycxa) .ret) (.seq (.reg false ycvj) (.cond (.tmp 17) (.seq (.reg false ycjf) .ret) (.seq (.reg false ybqh) (.cond (.tmp 19) (.seq (.reg true ybsc) .ret) (.seq (.reg false ybtw) (.cond (.tmp 35) (.seq (.reg true ybqj) .ret) .skip)))))))))))))) (.seq (.reg true ybul) .ret)))
theorem ydel:Fn 236 c236 [.t 6]:=fn_0 Tryz.func236 (by kernel_rfl) (by kernel_rfl)
def ycnt:LO:=[o3 (.mv (ci' 0)) 6 0,o3 (.mv (ci' 0)) 7 1]
def ycue:LO:=[o3 (.alloc 256 24 [.i .i64 0]) 8 0]
def ycvt:LO:=[mv' 0 11 0,o3 (.nilck (.tmp 11)) 12 1,fa' 0 1 12 13 3,ld' false 1 13 14 7,o3 (.nilck (.tmp 14)) 15 15,fa' 3 2 15 16 31,fa' 1 1 16 17 63,ld' false 1 17 18 127,mv' 0 19 0,o3 (.nilck (.tmp 19)) 20 256,fa' 2 1 20 21 768,ld' false 1 21 22 1792,ix' 1 18 22 23 4095,ld' false 1 23 24 8191,ln' 24 25 16383,mv' 25 9 32767]
def ycmn:LO:=[mv' 9 26 0,o3 (.mv (ci' 0)) 27 0]
def ycvk:LO:=[bn' .lss 27 26 28 0]
def ycht:LO:=[mv' 27 29 0,mv' 29 10 1]
def ycml:LO:=[mv' 10 31 0,mv' 0 32 0,mv' 2 33 0,o3 (.bin .add (.tmp 33) (ci' 1)) 34 4,mv' 10 35 0,cl' 220 [32,34,35] 36 30,mv' 36 30 62,xt' 30 0 37 126,xt' 30 1 38 126,o3 (.idxA 24 1 (.tmp 8) (.tmp 31)) 39 255,o0 (.store 1 (.tmp 39) (.tmp 37)) 767,mv' 38 7 2047]
def ycnp:LO:=[o3 (.bin .add (.tmp 27) (ci' 1)) 40 0,mv' 40 27 1]
def ycqe:LO:=[mv' 9 41 0,o3 (.bin .eql (.tmp 41) (ci' 0)) 42 1]
def ycjj:LO:=[mv' 0 43 0,o3 (.nilck (.tmp 43)) 44 1,fa' 3 1 44 45 3,ld' false 1 45 46 7,mv' 2 47 0,cl' 231 [46,47] 48 31,mv' 48 7 63]
def ybqe:LO:=[mv' 1 49 0,mv' 9 50 0,o3 (.cutA 24 1 (.tmp 8) none (some (.tmp 50))) 51 2,cl' 257 [49,51] 52 7,mv' 7 53 0,mv' 52 6 15,mv' 53 7 63]
def c238:SC:=(.seq (.reg false ycnt) (.seq (.reg false ycue) (.seq (.reg true ycvt) (.seq (.seq (.reg false ycmn) (.block 0 (.loop (.seq (.reg false ycvk) (.seq (.cond (.tmp 28) .skip (.exit 0)) (.seq (.block 1 (.seq (.reg false ycht) (.reg false ycml))) (.reg false ycnp))))))) (.seq (.seq (.reg false ycqe) (.cond (.tmp 42) (.reg false ycjj) .skip)) (.seq (.reg false ybqe) .ret))))))
theorem ydeq:Fn 238 c238 [.t 6,.t 7]:=fn_0 Tryz.func238 (by kernel_rfl) (by kernel_rfl)
end Sh
end
section
def adj(g:Gr)(u v:Nat):Prop:=∃ls,g.ports[u]?=some ls/\∃l∈ls,l.1=(v:Int)
def Walk(g:Gr)(a:Nat):Nat->Nat->Prop
 |0,v=>v=a
 |k+1,v=>∃u,Walk g a k u/\adj g u v
def yya(g:Gr)(a v:Nat)(x:Int):Prop:=(x = -1/\∀k,¬Walk g a k v)\/∃k:Nat,x=k/\Walk g a k v/\∀j,j<k->¬Walk g a j v
def yth(g:Gr)(a:Nat)(D:List Int):Prop:=D.length=g.ports.length/\∀v x,D[v]?=some x->yya g a v x
theorem yya.unique{g:Gr}{a v:Nat}{x y:Int}(h:yya g a v x)(h':yya g a v y):x=y:=by
 rcases h with⟨rfl,h1⟩|⟨k,rfl,h1,h2⟩<;>rcases h' with⟨rfl,h3⟩|⟨j,rfl,h3,h4⟩
 ·rfl
 ·exact absurd h3 (h1 j)
 ·exact absurd h1 (h3 k)
 ·rcases zZ k j with h|h|h
  ·exact absurd h1 (h4 k h)
  ·rw[h]
  ·exact absurd h3 (h2 j h)
theorem yth.unique{g:Gr}{a:Nat}{D D':List Int}(h:yth g a D)(h':yth g a D'):D=D':=by
 apply zAC (by rw[h.1,h'.1])
 intro i h1 h2;exact(h.2 i _ (zA h1)).unique (h'.2 i _ (zA h2))
theorem ybe.link{g:Gr}(h:ybe g){v:Nat}{ls:List (Int×Int)}(hv:g.ports[v]?=some ls){l:Int×Int}(hl:l∈ls):0<=l.1/\l.1<g.ports.length/\l.1≠v/\1<=l.2/\l.2<=15:=by
 obtain⟨hlt,e⟩:=List.getElem?_eq_some_iff.1 hv;have:=(h.2.2.2.2.2.1 ⟨v,hlt⟩).1 l (by simp only[Fin.getElem_fin,e];exact hl)
 unfold ykq at this;simp only at this;omega
theorem ybe.adj_lt{g:Gr}(h:ybe g){u v:Nat}(ha:adj g u v):u<g.ports.length/\v<g.ports.length:=by
 obtain⟨ls,h1,l,hl,e⟩:=ha;have:=h.link h1 hl;exact⟨(List.getElem?_eq_some_iff.1 h1).1,by omega⟩
theorem ybe.adj_symm{g:Gr}(h:ybe g){u v:Nat}(ha:adj g u v):adj g v u:=by
 obtain⟨hu,hv⟩:=h.adj_lt ha;obtain⟨ls,h1,l,hl,e⟩:=ha;obtain⟨hlt,e1⟩:=List.getElem?_eq_some_iff.1 h1;have:=h.2.2.2.2.2.2 ⟨u,hlt⟩ l (by simp only[Fin.getElem_fin,e1];exact hl)
 rw[e,zG]at this;simp only[zI,zA hv,Option.getD_some]at this;exact⟨_,zA hv,_,this,rfl⟩
structure BfsInv(g:Gr)(a:Nat)(R:List Int)(Q:List Nat):Prop where
 len:R.length=g.ports.length
 src:R[a]?=some 0
 val:∀(v:Nat) (x:Int),R[v]?=some x->x = -1\/∃k:Nat,x=k/\Walk g a k v/\∀j,j<k->¬Walk g a j v
 qin:∀q∈Q,∃k:Nat,R[q]?=some (k:Int)
 sorted:Q.Pairwise (fun p q=>∀x y,R[p]?=some x->R[q]?=some y->x<=y/\y<=x+1)
 done:∀(v k:Nat),R[v]?=some (k:Int)->v∉Q->∀u,adj g v u->∃j:Nat,R[u]?=some (j:Int)
structure BfsIn(g:Gr)(a v d:Nat)(ls:List (Int×Int))(i:Nat)(R:List Int)(Q:List Nat):Prop where
 len:R.length=g.ports.length
 src:R[a]?=some 0
 val:∀(v:Nat) (x:Int),R[v]?=some x->x = -1\/∃k:Nat,x=k/\Walk g a k v/\∀j,j<k->¬Walk g a j v
 qin:∀q∈Q,∃k:Nat,R[q]?=some (k:Int)
 sorted:Q.Pairwise (fun p q=>∀x y,R[p]?=some x->R[q]?=some y->x<=y/\y<=x+1)
 rv:R[v]?=some (d:Int)
 low:∀q∈Q,∀y,R[q]?=some y->(d:Int)<=y/\y<=d+1
 done:∀(u k:Nat),R[u]?=some (k:Int)->u∉Q->u≠v->∀t,adj g u t->∃j:Nat,R[t]?=some (j:Int)
 part:∀l∈ls.take i,∃j:Nat,R[l.1.toNat]?=some (j:Int)
theorem BfsInv.start{g:Gr}{a:Nat}(ha:a<g.ports.length):BfsInv g a ((zC g.ports.length (-1)).set a 0) [a] where
 len:=by simp
 src:=by simp[ha]
 val := by
  intro v x h;rw[zD]at h;split at h
  ·rename_i e
   subst e;simp[ha]at h;subst h;exact .inr ⟨0,rfl,rfl,fun j hj=>absurd hj (by omega)⟩
  ·rw[zM]at h;split at h
   ·cases h;exact .inl rfl
   ·cases h
 qin:=by
  intro q hq;obtain rfl:q=a:=by simpa using hq
  exact⟨0,by simp[ha]⟩
 sorted:=by simp
 done:=by
  intro v k h hv u _;rw[zD]at h;split at h
  ·rename_i e
   exact absurd (by simp[e]) hv
  ·rw[zM]at h;split at h
   ·cases h
   ·cases h
theorem BfsInv.pop{g:Gr}{a:Nat}{R:List Int}{v:Nat}{Q:List Nat}(h:BfsInv g a R (v::Q)){d:Nat}(hd:R[v]?=some (d:Int))(ls:List (Int×Int)):BfsIn g a v d ls 0 R Q where
 len:=h.len
 src:=h.src
 val:=h.val
 qin:=fun q hq=>h.qin q (List.mem_cons_of_mem _ hq)
 sorted:=(List.pairwise_cons.1 h.sorted).2
 rv:=hd
 low:=fun q hq y hy=>(List.pairwise_cons.1 h.sorted).1 q hq _ y hd hy
 done:=fun u k hu hq hv t ht=>h.done u k hu (by simp[hq,hv]) t ht
 part:=by simp
theorem BfsIn.finish{g:Gr}{a v d:Nat}{ls:List (Int×Int)}{R:List Int}{Q:List Nat}(h:BfsIn g a v d ls ls.length R Q)(hls:g.ports[v]?=some ls):BfsInv g a R Q where
 len:=h.len
 src:=h.src
 val:=h.val
 qin:=h.qin
 sorted:=h.sorted
 done:=by
  intro u k hu hq t ht
  by_cases e:u=v
  ·subst e;obtain⟨ls',h1,l,hl,e2⟩:=ht;rw[hls]at h1;cases h1
   have:=h.part l (by rw[zAD];exact hl)
   rwa [e2,zG]at this
  ·exact h.done u k hu hq e t ht
theorem BfsIn.skip{g:Gr}{a v d:Nat}{ls:List (Int×Int)}{i:Nat}{R:List Int}{Q:List Nat}(h:BfsIn g a v d ls i R Q)(hi:i<ls.length){j:Nat}(hj:R[ls[i].1.toNat]?=some (j:Int)):BfsIn g a v d ls (i+1) R Q :=
 ⟨h.len,h.src,h.val,h.qin,h.sorted,h.rv,h.low,h.done,by
   intro l hl;rw[take_snoc ls i hi]at hl;rcases List.mem_append.1 hl with hl|hl
   ·exact h.part l hl
   ·obtain rfl:l=ls[i]:=by simpa using hl
    exact⟨j,hj⟩⟩
theorem BfsIn.found{g:Gr}{a v d:Nat}{ls:List (Int×Int)}{i:Nat}{R:List Int}{Q:List Nat}(h:BfsIn g a v d ls i R Q) :
 ∀k,k<=d->∀t,Walk g a k t->∃j:Nat,R[t]?=some (j:Int):=by
 intro k
 induction k with
 |zero=>intro _ t ht;obtain rfl:t=a:=ht;exact⟨0,h.src⟩
 | succ k ih =>
   intro hk t ⟨p,hp,hpt⟩;obtain⟨j,hj⟩:=ih (by omega) p hp
   have hjk:j<=k:=by
    rcases h.val p _ hj with e|⟨k',e,_,hmin⟩
    ·omega
    ·have:j=k':=by omega
     subst this;rcases zAM k j with hlt|hge
     ·exact absurd hp (hmin k hlt)
     ·exact hge
   refine h.done p j hj ?_ ?_ t hpt
   ·intro hq;have:=(h.low p hq _ hj).1;omega
   ·rintro rfl;have e1:=h.rv;rw[hj]at e1;have e2:=Option.some.inj e1;omega
theorem BfsIn.discover{g:Gr}{a v d:Nat}{ls:List (Int×Int)}{i:Nat}{R:List Int}{Q:List Nat}(h:BfsIn g a v d ls i R Q)(hls:g.ports[v]?=some ls)(hi:i<ls.length){u:Nat}(hu:ls[i].1=(u:Int))(hR:R[u]?=some (-1)) :
 BfsIn g a v d ls (i+1) (R.set u ((d:Int)+1)) (Q++[u]):=by
 have hul:u<R.length:=(List.getElem?_eq_some_iff.1 hR).1
 have hne:∀t (k:Nat),R[t]?=some (k:Int)->t≠u:=by
  rintro t k ht rfl;rw[hR]at ht;have:=Option.some.inj ht;omega
 have hset:∀t,t≠u->(R.set u ((d:Int)+1))[t]?=R[t]?:=fun t ht=>by rw[zD,if_neg (by omega)]
 have hsu:(R.set u ((d:Int)+1))[u]?=some ((d:Int)+1):=by rw[zD,if_pos rfl,if_pos hul]
 have keep:∀t:Nat,(∃j:Nat,R[t]?=some (j:Int))->∃j:Nat,(R.set u ((d:Int)+1))[t]?=some (j:Int):=by
  rintro t ⟨j,hj⟩;exact⟨j,by rw[hset t (hne t j hj)];exact hj⟩
 have hadj:adj g v u:=⟨ls,hls,ls[i],zAE hi,hu⟩
 have hnq:u∉Q:=fun hq=>by
  obtain⟨k,hk⟩:=h.qin u hq;exact hne u k hk rfl
 refine⟨by simp[h.len],?_,?_,?_,?_,?_,?_,?_,?_⟩
 ·rw[hset a (hne a 0 h.src)];exact h.src
 ·intro t x hx
  by_cases e:t=u
  ·subst e;rw[hsu]at hx;cases hx
   refine .inr ⟨d+1,by omega,?_,?_⟩
   ·rcases h.val v _ h.rv with e|⟨k,e,hk,_⟩
    ·omega
    ·have:d=k:=by omega
     subst this;exact⟨v,hk,hadj⟩
   ·intro j hj hw;obtain⟨k,hk⟩:=h.found j (by omega) t hw
    exact hne t k hk rfl
  ·rw[hset t e]at hx;exact h.val t x hx
 ·intro q hq;rcases List.mem_append.1 hq with hq|hq
  ·exact keep q (h.qin q hq)
  ·obtain rfl:q=u:=by simpa using hq
   exact⟨d+1,by rw[hsu];rfl⟩
 ·rw[List.pairwise_append];refine⟨?_,by simp,?_⟩
  ·refine(List.Pairwise.and_mem.1 h.sorted).imp ?_;rintro p q ⟨hp,hq,hpq⟩ x y hx hy;rw[hset p (fun e=>hnq (e▸hp))]at hx;rw[hset q (fun e=>hnq (e▸hq))]at hy;exact hpq x y hx hy
  ·intro p hp q hq x y hx hy;obtain rfl:q=u:=by simpa using hq
   rw[hset p (fun e=>hnq (e▸hp))]at hx;rw[hsu]at hy;cases hy
   have:=h.low p hp x hx;omega
 ·rw[hset v (hne v d h.rv)];exact h.rv
 ·intro q hq y hy;rcases List.mem_append.1 hq with hq|hq
  ·rw[hset q (fun e=>hnq (e▸hq))]at hy;exact h.low q hq y hy
  ·obtain rfl:q=u:=by simpa using hq
   rw[hsu]at hy;cases hy
   omega
 ·intro t k ht hq hv s hs;have htu:t≠u:=fun e=>hq (by simp[e])
  rw[hset t htu]at ht;exact keep s (h.done t k ht (fun hh=>hq (List.mem_append_left _ hh)) hv s hs)
 ·intro l hl;rw[take_snoc ls i hi]at hl;rcases List.mem_append.1 hl with hl|hl
  ·exact keep _ (h.part l hl)
  ·obtain rfl:l=ls[i]:=by simpa using hl
   rw[hu,zG];exact⟨d+1,by rw[hsu];rfl⟩
theorem BfsInv.isDist{g:Gr}{a:Nat}{R:List Int}(h:BfsInv g a R []):yth g a R:=by
 have found:∀k t,Walk g a k t->∃j:Nat,R[t]?=some (j:Int):=by
  intro k
  induction k with
  |zero=>intro t ht;obtain rfl:t=a:=ht;exact⟨0,h.src⟩
  | succ k ih =>
    intro t ⟨p,hp,hpt⟩;obtain⟨j,hj⟩:=ih p hp;exact h.done p j hj (by simp) t hpt
 refine⟨h.len,fun v x hx=>?_⟩;rcases h.val v x hx with rfl|h1
 ·refine .inl ⟨rfl,fun k hk=>?_⟩;obtain⟨j,hj⟩:=found k v hk;rw[hx]at hj;have:=Option.some.inj hj;omega
 ·exact .inr h1
def ycl(R:List Int):Nat:=R.countP (fun x=>decide (x<0))
theorem yud{R:List Int}{u:Nat}{x:Int}(hR:R[u]?=some (-1))(hx:0<=x):ycl (R.set u x)+1=ycl R:=by
 obtain⟨hlt,e⟩:=List.getElem?_eq_some_iff.1 hR;have h1:R=R.take u++R[u]::R.drop (u+1):=by rw[List.getElem_cons_drop,List.take_append_drop]
 have h2:R.set u x=R.take u++x::R.drop (u+1):=by rw[List.set_eq_take_append_cons_drop,if_pos hlt]
 have hx':decide (x<0)=false:=by simp;omega
 unfold ycl;rw[h2]
 conv=>rhs;rw[h1]
 rw[zY,zY,zAF,zAF,e,hx'];simp;omega
end
section
def ycfx(R:List Int)(x:Int)(ls:List (Int×Int)):Bool:=ls.any (fun l=>decide (R[l.1.toNat]?=some x))
def yced(g:Gr)(d:Int)(R:List Int)(v:Nat):List Int :=
 if decide (R.getD v 0<0)&&ycfx R (d-1) (g.ports.getD v [])then R.set v d else R
def stepD(g:Gr)(R:List Int)(d:Nat):List Int:=(zL g.ports.length).foldl (yced g d) R
def start(g:Gr)(a:Nat):List Int:=(zC g.ports.length (-1)).set a 0
def ybx(g:Gr)(a:Nat):List Int:=(zL (g.ports.length-1)).foldl (fun R d=>stepD g R (d+1)) (start g a)
def Upto(g:Gr)(a d v:Nat)(x:Int):Prop:=(x = -1/\∀k,k<=d->¬Walk g a k v)\/∃k:Nat,k<=d/\x=k/\Walk g a k v/\∀j,j<k->¬Walk g a j v
theorem Upto.eq{g:Gr}{a d v:Nat}{x:Int}(h:Upto g a d v x){k:Nat}(hk:k<=d):x=k↔Walk g a k v/\∀j,j<k->¬Walk g a j v:=by
 rcases h with⟨rfl,h1⟩|⟨i,hi,rfl,h1,h2⟩
 ·exact⟨fun e=>by omega,fun e=>absurd e.1 (h1 k hk)⟩
 ·constructor
  ·intro e;obtain rfl:i=k:=by omega
   exact⟨h1,h2⟩
  ·rintro⟨h3,h4⟩;rcases zZ i k with h|h|h
   ·exact absurd h1 (h4 i h)
   ·omega
   ·exact absurd h3 (h2 k h)
theorem Upto.more{g:Gr}{a d v:Nat}{x:Int}(h:Upto g a d v x)(hx:0<=x):Upto g a (d+1) v x:=by
 rcases h with⟨rfl,h1⟩|⟨i,hi,rfl,h1,h2⟩
 ·omega
 ·exact .inr ⟨i,by omega,rfl,h1,h2⟩
structure LayerInv(g:Gr)(a d v:Nat)(R:List Int):Prop where
 len:R.length=g.ports.length
 new:∀(u:Nat) (x:Int),R[u]?=some x->u<v->Upto g a (d+1) u x
 old:∀(u:Nat) (x:Int),R[u]?=some x->v<=u->Upto g a d u x
theorem LayerInv.at_{g:Gr}{a d v:Nat}{R:List Int}(h:LayerInv g a d v R){u:Nat}(hu:u<g.ports.length):R[u]?=some (d:Int)↔Walk g a d u/\∀j,j<d->¬Walk g a j u:=by
 have hl:=h.len;have e:R[u]?=some R[u]:=zA (by omega)
 have hx:R[u]=(d:Int)↔Walk g a d u/\∀j,j<d->¬Walk g a j u:=by
  by_cases hv:u<v
  ·exact(h.new u _ e hv).eq (by omega)
  ·exact(h.old u _ e (by omega)).eq (by omega)
 rw[e]
 simpa using hx
theorem LayerInv.step{g:Gr}(hg:ybe g){a d v:Nat}{R:List Int}(h:LayerInv g a d v R)(hv:v<g.ports.length):LayerInv g a d (v+1) (yced g ((d:Int)+1) R v):=by
 have hlen:=h.len;have ev:R[v]?=some R[v]:=zA (by omega)
 have eg:R.getD v 0=R[v]:=by simp[zI,ev]
 have ep:g.ports.getD v []=g.ports[v]:=by simp[zI,zA hv]
 have hhas:ycfx R ((d:Int)+1-1) g.ports[v]=true↔∃u,adj g u v/\Walk g a d u/\∀j,j<d->¬Walk g a j u:=by
  unfold ycfx;rw[List.any_eq_true];constructor
  ·rintro⟨l,hl,h1⟩;have hlk:=hg.link (zA hv) hl;have h1:=of_decide_eq_true h1;rw[show(d:Int)+1-1=d by omega]at h1
   refine⟨l.1.toNat,hg.adj_symm ⟨_,zA hv,l,hl,by omega⟩,?_⟩
   exact(h.at_ (by omega)).1 h1
  ·rintro⟨u,hu,hw⟩;obtain⟨hu1,_⟩:=hg.adj_lt hu;obtain⟨ls,h1,l,hl,e⟩:=hg.adj_symm hu;rw[zA hv]at h1;cases h1
   refine⟨l,hl,decide_eq_true ?_⟩;rw[e,zG,show(d:Int)+1-1=d by omega]
   exact(h.at_ hu1).2 hw
 have hov:=h.old v _ ev (zH _);unfold yced;rw[eg,ep]
 by_cases c1:R[v]<0
 ·have hx:R[v] = -1/\∀k,k<=d->¬Walk g a k v:=by
   rcases hov with h1|⟨k,_,e,_⟩
   ·exact h1
   ·omega
  by_cases c2:ycfx R ((d:Int)+1-1) g.ports[v]=true
  ·rw[if_pos (by rw[zO];exact⟨decide_eq_true c1,c2⟩)]
   obtain⟨p,hp,hw,_⟩:=hhas.1 c2;have hset:∀t,t≠v->(R.set v ((d:Int)+1))[t]?=R[t]?:=fun t ht=>by rw[zD,if_neg (by omega)]
   refine⟨by simp[hlen],fun u x hu huv=>?_,fun u x hu huv=>?_⟩
   ·by_cases e:u=v
    ·subst e;rw[zD,if_pos rfl,if_pos (by omega)]at hu
     cases hu
     exact .inr ⟨d+1,zH _,by omega,⟨p,hw,hp⟩,fun j hj=>hx.2 j (by omega)⟩
    ·rw[hset u e]at hu;exact h.new u x hu (by omega)
   ·rw[hset u (by omega)]at hu
    exact h.old u x hu (by omega)
  ·rw[if_neg (fun e=>c2 (zO _ _▸e).2)];refine⟨hlen,fun u x hu huv=>?_,fun u x hu huv=>h.old u x hu (by omega)⟩
   by_cases e:u=v
   ·subst e;rw[ev]at hu;cases hu
    refine .inl ⟨hx.1,fun k hk hw=>?_⟩;rcases zAM d k with hlt|hge
    ·obtain rfl:k=d+1:=by omega
     obtain⟨p,hp,hpv⟩:=hw;refine c2 (hhas.2 ⟨p,hpv,hp,fun j hj hw'=>hx.2 (j+1) (by omega) ⟨p,hw',hpv⟩⟩)
    ·exact hx.2 k hge hw
   ·exact h.new u x hu (by omega)
 ·rw[if_neg (by simp[c1])]
  refine⟨hlen,fun u x hu huv=>?_,fun u x hu huv=>h.old u x hu (by omega)⟩
  by_cases e:u=v
  ·subst e;exact(h.old u x hu (zH _)).more (by rw[ev]at hu;cases hu;omega)
  ·exact h.new u x hu (by omega)
theorem ywq{g:Gr}(hg:ybe g){a d:Nat}{R:List Int}(h:LayerInv g a d 0 R):∀v,v<=g.ports.length->LayerInv g a d v ((zL v).foldl (yced g ((d:Int)+1)) R)
 |0,_=>h
 | v+1,hv=>by
   rw[zAI,zN];exact(ywq hg h v (by omega)).step hg (by omega)
def yww(g:Gr)(a d:Nat)(R:List Int):Prop:=R.length=g.ports.length/\∀(u:Nat) (x:Int),R[u]?=some x->Upto g a d u x
theorem yboj{g:Gr}{a:Nat}(ha:a<g.ports.length):yww g a 0 (start g a):=by
 refine⟨by simp[start],fun u x hu=>?_⟩
 unfold start at hu;rw[zD]at hu;split at hu
 ·rename_i e
  subst e;simp[ha]at hu;subst hu;exact .inr ⟨0,zH _,rfl,rfl,fun j hj=>absurd hj (by omega)⟩
 ·rename_i e
  rw[zM]at hu;split at hu
  ·cases hu
   refine .inl ⟨rfl,fun k hk hw=>?_⟩;obtain rfl:k=0:=by omega
   exact e hw.symm
  ·cases hu
theorem ybmr{g:Gr}(hg:ybe g){a d:Nat}{R:List Int}(h:yww g a d R):yww g a (d+1) (stepD g R (d+1)):=by
 have h0:LayerInv g a d 0 R:=⟨h.1,fun _ _ _ hu=>absurd hu (by omega),fun u x hu _=>h.2 u x hu⟩
 have h1:=ywq hg h0 g.ports.length (zH _);unfold stepD;rw[show((d+1:Nat):Int)=(d:Int)+1 by omega]
 exact⟨h1.len,fun u x hu=>h1.new u x hu (by rw[<-h1.len];exact(List.getElem?_eq_some_iff.1 hu).1)⟩
theorem ytu{g:Gr}(hg:ybe g){a:Nat}(ha:a<g.ports.length):∀d,yww g a d ((zL d).foldl (fun R d=>stepD g R (d+1)) (start g a))
 |0=>yboj ha
 |d+1=>by rw[zAI,zN];exact ybmr hg (ytu hg ha d)
theorem chain{g:Gr}{a:Nat}:∀k v,Walk g a k v->(∀j,j<k->¬Walk g a j v)->∃f:Nat->Nat,∀j,j<=k->Walk g a j (f j)/\∀i,i<j->¬Walk g a i (f j)
 | 0,v,h,_=>⟨fun _=>v,fun j hj=>by obtain rfl:j=0:=by omega
                                   exact⟨h,fun i hi=>absurd hi (by omega)⟩⟩
 | k + 1,v,h,hm=>by
   obtain⟨p,hp,hpv⟩:=h;obtain⟨f,hf⟩:=chain k p hp (fun j hj hw=>hm (j+1) (by omega) ⟨p,hw,hpv⟩)
   refine⟨fun j=>if j<=k then f j else v,fun j hj=>?_⟩
   by_cases hjk:j<=k
   ·simp only[if_pos hjk];exact hf j hjk
   ·obtain rfl:j=k+1:=by omega
    simp only[if_neg hjk];exact⟨⟨p,hp,hpv⟩,hm⟩
theorem walk_lt{g:Gr}(hg:ybe g){a:Nat}(ha:a<g.ports.length):∀k v,Walk g a k v->v<g.ports.length
 |0,v,h=>by obtain rfl:v=a:=h;exact ha
 |k+1,v,h=>by obtain⟨u,_,hu⟩:=h;exact(hg.adj_lt hu).2
theorem least_walk{g:Gr}{a v:Nat}:∀k,Walk g a k v->∃j,j<=k/\Walk g a j v/\∀i,i<j->¬Walk g a i v:=by
 intro k
 induction k using Nat.strongRecOn with
 | _ k ih =>
   intro hw
   by_cases h:∃j,j<k/\Walk g a j v
   ·obtain⟨j,hj,hwj⟩:=h;obtain⟨i,hi,r⟩:=ih j hj hwj;exact⟨i,by omega,r⟩
   ·exact⟨k,zH _,hw,fun i hi hwi=>h ⟨i,hi,hwi⟩⟩
theorem yuf{g:Gr}(hg:ybe g){a v k:Nat}(ha:a<g.ports.length)(h:Walk g a k v)(hm:∀j,j<k->¬Walk g a j v):k<g.ports.length:=by
 obtain⟨f,hf⟩:=chain k v h hm;have hinj:∀i j,i<j->j<=k->f i≠f j:=fun i j hij hj e=>(hf j hj).2 i hij (by rw[<-e];exact(hf i (by omega)).1)
 have h1:((zL (k+1)).map f).Nodup:=by
  rw[List.Nodup,List.pairwise_map];refine(List.Pairwise.and_mem.1 List.pairwise_lt_range).imp ?_;rintro i j ⟨_,hj,hij⟩;exact hinj i j hij (by simp at hj;omega)
 have h2:(zL (k+1)).map f ⊆ zL g.ports.length:=by
  intro x hx;obtain⟨j,hj,rfl⟩:=List.mem_map.1 hx;simp only[List.mem_range]at hj ⊢;exact walk_lt hg ha j _ (hf j (by omega)).1
 have:=List.Nodup.length_le_of_subset h1 h2;simp at this;omega
theorem yeo{g:Gr}(hg:ybe g){a:Nat}(ha:a<g.ports.length):yth g a (ybx g a):=by
 obtain⟨h1,h2⟩:=ytu hg ha (g.ports.length-1);refine⟨h1,fun v x hx=>?_⟩;rcases h2 v x hx with⟨rfl,h3⟩|⟨k,_,r⟩
 ·refine .inl ⟨rfl,fun k hk=>?_⟩;obtain⟨j,_,hj,hm⟩:=least_walk k hk;have:=yuf hg ha hj hm;exact h3 j (by omega) hj
 ·exact .inr ⟨k,r⟩
theorem yth.bound{g:Gr}(hg:ybe g){a:Nat}(ha:a<g.ports.length){D:List Int}(h:yth g a D):∀x∈D,-1<=x/\x<=24:=by
 intro x hx;obtain⟨v,hv,rfl⟩:=List.mem_iff_getElem.1 hx;rcases h.2 v _ (zA hv)with⟨e,_⟩|⟨k,e,h1,h2⟩
 ·omega
 ·have:=yuf hg ha h1 h2;have:=hg.2.1;omega
end
section
def yfy(g:Gr):Bool:=ygm g&&(ybx g 0).all (fun x=>decide (0<=x))
def ycf(D:List Int):Int:=D.foldl max (-1)
theorem yqd(D:List Int):∀m:Int,m<=D.foldl max m:=by
 induction D with
 |nil=>intro m;exact Int.le_refl _
 |cons x D ih=>intro m;exact zAN (Int.le_max_left m x) (ih _)
theorem yuk(D:List Int)(k:Nat)(hk:k<D.length):ycf (D.take (k+1))=max (ycf (D.take k)) D[k]:=by
 unfold ycf;rw[take_snoc D k hk,zN];rfl
theorem ybcc(D:List Int)(m:Int)(hm:-1<=m)(h:∀x∈D,x<=m):ycf D<=m:=by
 unfold ycf
 suffices ∀a:Int,a<=m->D.foldl max a<=m from this _ hm
 induction D with
 |nil=>intro a ha;exact ha
 |cons x D ih=>intro a ha;exact ih (fun y hy=>h y (by simp[hy])) _ (Int.max_le.2 ⟨ha,h x (by simp)⟩)
theorem ybcy(D:List Int):∀x∈D,x<=ycf D:=by
 unfold ycf
 suffices ∀a:Int,∀x∈D,x<=D.foldl max a from this _
 induction D with
 |nil=>intro a x hx;simp at hx
 | cons y D ih =>
   intro a x hx;rcases List.mem_cons.1 hx with rfl|hx
   ·exact zAN (Int.le_max_right a x) (yqd D _)
   ·exact ih _ x hx
theorem yhk{g:Gr}(hg:ybe g){a:Nat}(ha:a<g.ports.length):(ybx g a).length=g.ports.length:=(yeo hg ha).1
theorem Walk.trans{g:Gr}{a b:Nat}:∀{j:Nat}{c:Nat}{k:Nat},Walk g a k b->Walk g b j c->Walk g a (k+j) c
 |0,c,k,h1,h2=>by obtain rfl:c=b:=h2;exact h1
 | j+1,c,k,h1,h2=>by
   obtain⟨u,hu,huc⟩:=h2;exact⟨u,Walk.trans h1 hu,huc⟩
theorem Walk.one{g:Gr}{a b:Nat}(h:adj g a b):Walk g a 1 b:=⟨a,rfl,h⟩
theorem Walk.symm{g:Gr}(hg:ybe g){a:Nat}:∀{k:Nat}{b:Nat},Walk g a k b->Walk g b k a
 |0,b,h=>by obtain rfl:b=a:=h;exact rfl
 | k+1,b,h=>by
   obtain⟨u,hu,hub⟩:=h;have:=Walk.trans (Walk.one (hg.adj_symm hub)) (Walk.symm hg hu)
   rwa [Nat.add_comm]at this
theorem ybev{g:Gr}(hg:ybe g){a:Nat}(ha:a<g.ports.length):(ybx g a).all (fun x=>decide (0<=x))=true↔∀v,v<g.ports.length->∃k,Walk g a k v:=by
 have hd:=yeo hg ha;rw[zV];constructor
 ·intro h v hv;have hv':v<(ybx g a).length:=by rw[hd.1];exact hv
  rcases hd.2 v _ (zA hv')with⟨e,_⟩|⟨k,_,hk,_⟩
  ·have:=of_decide_eq_true (h _ (zAE hv'));omega
  ·exact⟨k,hk⟩
 ·intro h x hx;obtain⟨v,hv,rfl⟩:=List.mem_iff_getElem.1 hx;obtain⟨k,hk⟩:=h v (by rw[<-hd.1];exact hv)
  rcases hd.2 v _ (zA hv)with⟨e,h1⟩|⟨k,e,_⟩
  ·exact absurd hk (h1 k)
  ·rw[e];simp
theorem ycdp{g:Gr}(hg:ybe g){a b:Nat}(ha:a<g.ports.length)(hb:b<g.ports.length)(h:(ybx g a).all (fun x=>decide (0<=x))=true):(ybx g b).all (fun x=>decide (0<=x))=true:=by
 rw[ybev hg ha]at h;rw[ybev hg hb];intro v hv;obtain⟨k,hk⟩:=h v hv;obtain⟨j,hj⟩:=h b hb;exact⟨_,Walk.trans (Walk.symm hg hj) hk⟩
end
section
abbrev Conf:=List (List Int)
abbrev Bounds:=List (Int×Int)
def ysx(bs:Bounds)(s:List Int):Bool:=decide (s.length=bs.length)&&(bs.zip s).all (fun p=>decide (p.1.1<=p.2)&&decide (p.2<=p.1.2))
def yoy(n:Nat)(bs:Nat->Bounds)(c:Conf):Bool:=decide (c.length=n)&&c.zipIdx.all (fun p=>ysx (bs p.2) p.1)
def yej(bs:Bounds)(s:List Int):Prop:=s.length=bs.length/\∀(i:Nat) b x,bs[i]?=some b->s[i]?=some x->b.1<=x/\x<=b.2
def ybko(n:Nat)(bs:Nat->Bounds)(c:Conf):Prop:=c.length=n/\∀(v:Nat) s,c[v]?=some s->yej (bs v) s
theorem yfc(bs:Bounds)(s:List Int):ysx bs s=true↔yej bs s:=by
 unfold ysx yej;rw[zO,decide_eq_true_iff,zV];refine and_congr_right fun _=>⟨fun h i b x hb hx=>?_,fun h p hp=>?_⟩
 ·have:=h (b,x) (zF (i:=i) (by simp[zT,hb,hx]))
  simpa using this
 ·obtain⟨i,hi⟩:=List.mem_iff_getElem?.1 hp;obtain⟨b,x⟩:=p;rw[zT]at hi
  simpa using h i b x hi.1 hi.2
theorem yew(n:Nat)(bs:Nat->Bounds)(c:Conf):yoy n bs c=true↔ybko n bs c:=by
 unfold yoy ybko;rw[zO,decide_eq_true_iff,zV];refine and_congr_right fun _=>⟨fun h v s hs=>?_,fun h p hp=>?_⟩
 ·refine(yfc _ _).1 (h (s,v) ?_);rw[zS];exact hs
 ·rw[zS]at hp;exact(yfc _ _).2 (h p.2 p.1 hp)
theorem yin{n:Nat}{bs:Nat->Bounds}{c:Conf}(h:¬ybko n bs c):yoy n bs c=false:=by
 cases hb:yoy n bs c with
 |false=>rfl
 |true=>exact absurd ((yew n bs c).1 hb) h
theorem ywm{n:Nat}{bs:Nat->Bounds}{c:Conf}(h:ybko n bs c):yoy n bs c=true:=(yew n bs c).2 h
def ydax(g:Gr)(v:Nat):Nat:=(g.ports.getD v []).length
def ydi(g:Gr)(G:List Int)(v:Nat):Bounds:=G.map (fun h=>if h = -1 then(-1,(ydax g v:Int)-1)else(0,h))
def ybhn(g:Gr):Int:=g.ids.foldl max 0
end
section
open Go.RowKit
end
section
open Go.RowKit
end
section
open Go.RowKit
end
section
end
section
def ybbp(ids:List Int)(k:Nat):Int:=(ids.take k).tail.foldl max (ids.headD 0)
abbrev maxI(ids:List Int):Int:=ybbp ids ids.length
theorem ybsq{ids:List Int}{k:Nat}(h1:1<=k)(hk:k<ids.length):(ids.take (k+1)).tail=(ids.take k).tail++[ids[k]]:=by
 rw[zQ hk,List.tail_append_of_ne_nil];intro h;have:=congrArg zAO h;rw[List.length_take,zAH]at this;omega
theorem ybwh(ids:List Int):ybbp ids 1=ids.headD 0:=by cases ids<;>simp[ybbp]
theorem ybnc{ids:List Int}{k:Nat}(h1:1<=k)(hk:k<ids.length):ybbp ids (k+1)=max (ybbp ids k) ids[k]:=by
 unfold ybbp;rw[ybsq h1 hk,zN];rfl
theorem ybit{ids:List Int}(h0:0<ids.length)(h:∀x∈ids,0<=x):maxI ids=ids.foldl max 0:=by
 cases ids with
 |nil=>simp at h0
 | cons x l =>
   have hx:max 0 x=x:=Int.max_eq_right (h x (by simp))
   simp[maxI,ybbp,hx]
def idxP(ids:List Int)(x:Int):Int:=match ids.findIdx? (fun y=>x==y)with
 |some i=>i
 |none=>-1
theorem ycfu{ids:List Int}{x:Int}{k:Nat}(hk:k<ids.length)(h:x=ids[k])(hn:(ids.take k).findIdx? (fun y=>x==y)=none):idxP ids x=k:=by
 unfold idxP
 have:ids.findIdx? (fun y=>x==y)=some k:=by
  rw[List.findIdx?_eq_some_iff_getElem];refine⟨hk,by simp[h],fun j hj=>?_⟩
  rw[List.findIdx?_eq_none_iff]at hn;simp[hn ids[j] (List.mem_take_iff_getElem.2 ⟨j,by omega,rfl⟩)]
 rw[this]
theorem ybst{ids:List Int}{x:Int}(hn:(ids.take ids.length).findIdx? (fun y=>x==y)=none):idxP ids x = -1:=by
 rw[zAD]at hn;unfold idxP;rw[hn]
theorem ycft{ids:List Int}{x:Int}{k:Nat}(hk:k<ids.length)(h:x≠ids[k])(hn:(ids.take k).findIdx? (fun y=>x==y)=none):(ids.take (k+1)).findIdx? (fun y=>x==y)=none:=by
 rw[zQ hk,List.findIdx?_append,hn];simp[h]
end
section
namespace Sh
open Go Ev
def yw(l:List Int):SV:=.sl 1 l.length (fun k=>[.i .i64 (l.getD k 0)])
def yba(ls:List (Int×Int)):SV:=.sl 2 ls.length (fun j=>[.i .i64 (ls.getD j (0,0)).1,.i .i64 (ls.getD j (0,0)).2])
def yx(ps:List (List (Int×Int))):SV:=.sl 1 ps.length (fun v=>[yba (ps.getD v [])])
def ybl(c:List (List Int)):SV:=.sl 1 c.length (fun v=>[yw (c.getD v [])])
def grV(g:Gr):SV:=.ag [yw g.ids,yx g.ports]
theorem ik{n:Int}(h1:-1000000000000<=n)(h2:n<=1000000000000):inK .i64 n:=by
 unfold inK;simp[IntKind.min,IntKind.max,IntKind.bits,IntKind.signed];omega
theorem ikw{n:Int}(h1:-4611686018427387904<=n)(h2:n<=4611686018427387904):inK .i64 n:=by
 unfold inK;simp[IntKind.min,IntKind.max,IntKind.bits,IntKind.signed];omega
theorem getD_at{α:Type}{l:List α}{k:Nat}{d:α}(h:k<l.length):l.getD k d=l[k]:=by simp[zI,h]
theorem yxx{l:List Int}{i k:Nat}{x:Int}(h:i<l.length):(l.set i x).getD k 0=if k=i then x else l.getD k 0:=by
 simp only[zI,zD]
 by_cases q:i=k
 ·subst q;simp[h]
 ·rw[if_neg q,if_neg (Ne.symm q)]
theorem ybvt(l:List Int)(x:Int)(hl:l.length<=100000):Returns Tryz.prog 165 [yw l,.i .i64 x] (.i .i64 (idxP l x)):=by
 refine Returns.of (ydbq _ _ ?_);simp only[c165,ycrr,yctf,yw,go_sem,zJ,↓reduceIte,reduceCtorEq];refine ybj (σ:=Nat) (fun k=>⟨[(8,.i .i64 k),(0,yw l),(1,.i .i64 x),(7,.i .i64 l.length)],[]⟩) (fun k=>k<=l.length/\(l.take k).findIdx? (fun y=>x==y)=none) (fun k=>l.length-k) 0 ⟨zAA _,by simp⟩ ?_ ?_
 ·refine yh [] [] [] ?_;simp only[yw,allQ,live,yc,zAG,go_sem,zB,↓reduceIte,reduceCtorEq]
 ·intro k ⟨hk,hno⟩;simp only[ycws,ycja,ycqa,ycmb,ycka,yckn,yw,ybb,go_sem,zB,zJ,↓reduceIte,reduceCtorEq];refine⟨fun h=>⟨by omega,fun he=>?_,fun he=>⟨ik (by omega) (by omega),?_⟩⟩,fun h=>?_⟩
  ·have hlt:k<l.length:=by omega
   rw[ycfu hlt (by rw[he,getD_at hlt]) hno]
  ·have hlt:k<l.length:=by omega
   refine yj (k+1) ⟨by omega,ycft hlt (by rw[<-getD_at (d:=0) hlt];exact he) hno⟩ (by omega) ?_
   refine yh [] [] [] ?_;simp only[allQ,live,yc,ybb,go_sem,zB,↓reduceIte,reduceCtorEq];simp
  ·obtain rfl:k=l.length:=by omega
   rw[ybst hno]
theorem yddc(l:List Int)(h0:0<l.length)(hl:l.length<=100000):Returns Tryz.prog 160 [yw l] (.i .i64 (maxI l)):=by
 refine Returns.of (ydef _ _ ?_);simp only[c160,ycph,ycsk,ycpl,ycsg,ycso,yw,go_sem,Int.reduceToNat,zB,zJ,↓reduceIte,reduceCtorEq];refine⟨fun h=>by omega,fun _=>⟨by omega,?_⟩⟩
 refine ybj (σ:=Nat) (fun k=>⟨[(4,.i .i64 k),(3,.i .i64 (ybbp l k)),(0,yw l)],[]⟩) (fun k=>1<=k/\k<=l.length) (fun k=>l.length-k) 1 ⟨by omega,by omega⟩ ?_ ?_
 ·refine yh [] [] [] ?_;simp only[yw,ybwh,allQ,live,yc,ybb,go_sem,zB,↓reduceIte,reduceCtorEq];cases l<;>simp at h0 ⊢
 ·intro k ⟨hk1,hk⟩;simp only[ycgx,ycjd,ycsl,yckh,yw,ybb,go_sem,zB,zJ,↓reduceIte,reduceCtorEq];refine⟨fun h=>⟨by omega,ik (by omega) (by omega),?_⟩,fun h=>?_⟩
  ·refine yj (k+1) ⟨by omega,by omega⟩ (by omega) ?_
   refine yh [] [] [] ?_;have hlt:k<l.length:=by omega
   simp only[ybnc hk1 hlt,getD_at hlt,allQ,live,yc,ybb,go_sem,zB,↓reduceIte,reduceCtorEq];simp
  ·obtain rfl:k=l.length:=by omega
   rfl
theorem ybcr(l:List Int)(hl:l.length<=100000):Returns Tryz.prog 138 [yw l] (.i .i64 (ycf l)):=by
 refine Returns.of (ydcz _ _ ?_);simp only[c138,ycpn,ycsw,ycsm,yw,go_sem,zJ,↓reduceIte,reduceCtorEq];refine ybj (σ:=Nat) (fun k=>⟨[(8,.i .i64 k),(3,.i .i64 (ycf (l.take k))),(6,yw l),(7,.i .i64 l.length)],[]⟩) (fun k=>k<=l.length) (fun k=>l.length-k) 0 (zAA _) ?_ ?_
 ·refine yh [] [] [] ?_;simp only[yw,allQ,live,yc,ybb,zAG,go_sem,zB,↓reduceIte,reduceCtorEq];simp[ycf]
 ·intro k hk;simp only[ychz,ycpm,ycwi,ychx,ycoz,yw,ybb,go_sem,zB,zJ,↓reduceIte,reduceCtorEq];refine⟨fun h=>⟨by omega,ik (by omega) (by omega),?_⟩,fun h=>?_⟩
  ·refine yj (k+1) (by omega) (by omega) ?_
   refine yh [] [] [] ?_;have hlt:k<l.length:=by omega
   simp only[yuk l k hlt,getD_at hlt,allQ,live,yc,ybb,go_sem,zB,↓reduceIte,reduceCtorEq];simp
  ·obtain rfl:k=l.length:=by omega
   simp
end Sh
end
section
namespace Sh
open Go Ev Go.RowKit
def GrI(g:Gr):Prop:=(∀x∈g.ids,I64 x)/\∀ls∈g.ports,∀l∈ls,I64 l.1/\I64 l.2
def ycfy(c:List (List Int)):Prop:=∀s∈c,∀x∈s,I64 x
section
variable {G:AM}{m:Mem}{φ:Phi}{M:AM}{w:World}{u u':Value}
theorem ycgl {α:Type}{z n:Nat}{gg:Nat->List SV}{xs:List α}{E:Elem α}(hG:Le G m.b.get) (hr:RV G om0 (.sl z n gg) u) (hv:VR φ u u') (hR:Rel φ M w) (hs:Sub m M) (hn:xs.length=n)
 (hE:∀k x b o L L',xs[k]?=some x->RVL G om0 (gg k) L->VRL φ L L'->(∀j v,L'[j]?=some v->w.cell? ⟨b,o+j,none⟩=some v)->E w b o x):SlAt z E w u' xs:=by
 rcases hr.sl_inv with⟨rfl,h0⟩|⟨bk,p,cp,T,N,e,zz,L,rfl,g1,g2,g3,g4,g5,g6,g7⟩
 ·have:xs=[]:=List.eq_nil_of_length_eq_zero hn;subst this;rcases h0 with rfl|⟨b,o,c,rfl⟩
  ·have e:=hv.eq_simple rfl;subst e;exact SlAt.nil w
  ·obtain⟨lc,A,c',k1,k2,k3,k4,k5,k6,k7⟩:=hv.slice_inv;subst k3;exact⟨some A,c',rfl,zAA _,k6,fun q=>absurd q (by simp)⟩
 ·obtain⟨lc,A,c',k1,k2,k3,k4,k5,k6,k7⟩:=hv.slice_inv;subst k3;subst hn;refine⟨some A,c',rfl,k4,k6,fun hpos=>?_⟩;rcases k7 with⟨rfl,_⟩|k7
  ·obtain⟨lc',h1,h2⟩:=hR.blk _ _ (hs _ _ (hG _ _ g1));have k1':φ bk=some lc:=k1;rw[k1']at h1;cases h1
   obtain⟨h3,h4,cs,e2,fz2,h0,h5,h6,h7⟩:=h2;refine⟨lc.blk,lc.base+p,rfl,(Array.getElem?_eq_some_iff.1 h5).1,fun k x hx=>?_⟩;have hk:k<xs.length:=(List.getElem?_eq_some_iff.1 hx).1;have hin:=yjd (z:=z) hk;have hcells:∀j v,j<z->(L k)[j]?=some v->∃v',cs[lc.base+(p+k*z+j)]?=some v'/\VR φ v v':=fun j v hj hv=>h7 _ v (by omega) (by rw[g5 k hk j hj];exact hv)
   have hex:∀(l:List Value) (q:Nat),(∀j v,l[j]?=some v->∃v',cs[q+j]?=some v'/\VR φ v v')->∃l',VRL φ l l'/\∀j v,l'[j]?=some v->cs[q+j]?=some v:=by
    intro l
    induction l with
    |nil=>intro q _;exact⟨[],.nil,fun j v h=>by simp at h⟩
    | cons a l ih =>
      intro q h;obtain⟨v',e1,e2⟩:=h 0 a rfl;obtain⟨l',e3,e4⟩:=ih (q+1) (fun j v hv=>by have:=h (j+1) v (by simpa using hv);rw[show q+1+j=q+(j+1)by omega];exact this)
      refine⟨v'::l',.cons e2 e3,fun j v hv=>?_⟩;cases j with
      |zero=>simp at hv;subst hv;exact e1
      |succ j=>have:=e4 j v (by simpa using hv);rw[show q+(j+1)=q+1+j by omega];exact this
   obtain⟨L',r1,r2⟩:=hex (L k) (lc.base+p+k*z) (fun j v hv=>by
    have hj:j<z:=by rw[<-g4 k hk];exact(List.getElem?_eq_some_iff.1 hv).1
    have:=hcells j v hj hv;rw[show lc.base+p+k*z+j=lc.base+(p+k*z+j)by omega]
    exact this)
   exact hE k x _ _ (L k) L' hx (g6 k hk) r1 fun j v hv=>cell_of h5 (by have:=r2 j v hv;exact this)
  ·omega
theorem ints_at{l:List Int}(hG:Le G m.b.get)(hr:RV G om0 (yw l) u)(hv:VR φ u u')(hR:Rel φ M w)(hs:Sub m M)(hI:∀x∈l,I64 x):yko w u' l:=by
 refine ycgl hG hr hv hR hs rfl fun k x b o L L' hx hL hL' hc=>?_;have hk:k<l.length:=(List.getElem?_eq_some_iff.1 hx).1;have hxe:l.getD k 0=x:=by simp[zI,hx]
 rw[hxe]at hL;cases hL with
 | cons a b =>
   cases b
   cases a.int_inv
   obtain⟨v',rfl,hvv⟩:=yfv hL';have:=hvv.eq_simple rfl;subst this;exact⟨hc 0 _ rfl,hI x (zF hx)⟩
theorem ycdw{ls:List (Int×Int)}(hG:Le G m.b.get)(hr:RV G om0 (yba ls) u)(hv:VR φ u u')(hR:Rel φ M w)(hs:Sub m M)(hI:∀l∈ls,I64 l.1/\I64 l.2):ybzs w u' ls:=by
 refine ycgl hG hr hv hR hs rfl fun k x b o L L' hx hL hL' hc=>?_;have hxe:ls.getD k (0,0)=x:=by simp[zI,hx]
 rw[hxe]at hL;cases hL with
 | cons a b =>
   cases b with
   | cons a2 b2 =>
     cases b2
     cases a.int_inv
     cases a2.int_inv
     obtain⟨v1,v2,rfl,h1,h2⟩:=yxo hL';have:=h1.eq_simple rfl;subst this;have:=h2.eq_simple rfl;subst this;exact⟨hc 0 _ rfl,hc 1 _ rfl,hI x (zF hx)⟩
theorem ycbg{ps:List (List (Int×Int))}(hG:Le G m.b.get)(hr:RV G om0 (yx ps) u)(hv:VR φ u u')(hR:Rel φ M w)(hs:Sub m M)(hI:∀ls∈ps,∀l∈ls,I64 l.1/\I64 l.2):yzc w u' ps:=by
 refine ycgl hG hr hv hR hs rfl fun k x b o L L' hx hL hL' hc=>?_;have hxe:ps.getD k []=x:=by simp[zI,hx]
 rw[hxe]at hL;cases hL with
 | cons a b =>
   cases b
   obtain⟨v',rfl,hvv⟩:=yfv hL';exact⟨v',hc 0 _ rfl,ycdw hG a hvv hR hs (hI x (zF hx))⟩
theorem ydcl{c:List (List Int)}(hG:Le G m.b.get)(hr:RV G om0 (ybl c) u)(hv:VR φ u u')(hR:Rel φ M w)(hs:Sub m M)(hI:ycfy c):ycvh w u' c:=by
 refine ycgl hG hr hv hR hs rfl fun k x b o L L' hx hL hL' hc=>?_;have hxe:c.getD k []=x:=by simp[zI,hx]
 rw[hxe]at hL;cases hL with
 | cons a b =>
   cases b
   obtain⟨v',rfl,hvv⟩:=yfv hL';exact⟨v',hc 0 _ rfl,ints_at hG a hvv hR hs (hI x (zF hx))⟩
theorem ydch{g:Gr}(hG:Le G m.b.get)(hr:RV G om0 (grV g) u)(hv:VR φ u u')(hR:Rel φ M w)(hs:Sub m M)(hI:GrI g):GrAt w u' g:=by
 obtain⟨L,rfl,hL⟩:=hr.ag_inv;cases hL with
 | cons a b =>
   cases b with
   | cons a2 b2 =>
     cases b2
     obtain⟨L',rfl,hL'⟩:=hv.agg_inv;obtain⟨v1,v2,rfl,h1,h2⟩:=yxo hL';exact⟨v1,v2,rfl,ints_at hG a h1 hR hs hI.1,ycbg hG a2 h2 hR hs hI.2⟩
end
theorem ybjy {g:FuncId}{args:List SV}{r:SV}{v:Value}(hg:∃fn c,Tryz.prog.funcs[g]?=some fn/\fn.body=some c) (hrv:∀F,RV F om0 r v) (hvr:∀φ,VR φ v v)
 (h:∀(G:AM) (m:Mem) (us:List Value),Le G m.b.get->RVL G om0 args us->∀φ M w us',Rel φ M w->Sub m M->VRL φ us us'->Calls Tryz.prog g us'.toArray w fun e w'=>e = .returned v/\Below w.heap.size w w'):Returns Tryz.prog g args r:=by
 intro G m us hw hle hr;refine⟨v,enterM m,r,ykm yrc hg fun φ M w us' hR hs hv=>(h G m us hle hr φ M w us' hR hs hv).mono ?_,zH _,Le.refl _,rfl,hrv _⟩;rintro e w' ⟨rfl,hb⟩;exact⟨v,rfl,hvr φ,hb⟩
theorem rvl1{F:AM}{ω:Om}{a:SV}{us:List Value}(h:RVL F ω [a] us):∃u,us=[u]/\RV F ω a u:=by
 cases h with|cons x y=>cases y;exact⟨_,rfl,x⟩
theorem rvl2{F:AM}{ω:Om}{a b:SV}{us:List Value}(h:RVL F ω [a,b] us):∃u v,us=[u,v]/\RV F ω a u/\RV F ω b v:=by
 cases h with|cons x y=>obtain⟨v,rfl,q⟩:=rvl1 y;exact⟨_,v,rfl,x,q⟩
end Sh
end
section
open Go.RowKit
theorem ybue(n k:Nat)(hk:k<n):(zC k (-1:Int)++zC (n-k) 0).set k (-1)=zC (k+1) (-1)++zC (n-(k+1)) 0:=by
 apply zAC
 ·simp;omega
 ·intro i h1 h2;rw[List.getElem_set];split
  ·subst_vars
   rw[zK (by simp)]
   simp
  ·by_cases hi:i<k
   ·rw[zK (by simpa using hi),zK (by simp;omega)];simp
   ·rw[zU (by simp;omega),zU (by simp;omega)];simp
theorem ynd(g:Gr)(a:Nat)(h:g.ports.length<=24):1+ycl (start g a)<=30:=by
 have h1:=List.countP_le_length (p:=fun x:Int=>decide (x<0)) (l:=start g a);have h2:(start g a).length=g.ports.length:=by simp[start]
 unfold ycl;omega
set_option maxHeartbeats 2000000 in
theorem ybnh(gv:Value)(g:Gr)(a:Nat)(w:World)(hg:GrAt w gv g)(hgood:ybe g)(ha:a<g.ports.length) :
 Calls Tryz.prog 139 #[gv,.int .i64 a] w (ydbm (ybx g a) w):=by
 have hn24:=hgood.2.1;have Hgood:=Lib.hid hgood
 clear hgood
 obtain⟨i,p,rfl,hi,hp⟩:=hg;obtain⟨A2,c2,rfl,hB1,hB2⟩:=yca hp;have Hp:=Lib.hid hp
 clear hi hp
 have hmk:=ybbc g.ports.length (by omega)
 go_enter Tryz.func139,Tryz.ntmps139
 go_wp2
 go_loopg [17] g.ports.length (fun q t wr=>∃k:Nat,q+k=g.ports.length/\t = .int .i64 k/\Hid (Below (w.heap.size+1) (w.alloc (.cells #[i,.slice A2 g.ports.length c2] 27)) wr)/\Hid (IBlk wr (w.heap.size+1) (zC k (-1)++zC (g.ports.length-k) 0)))
 case atStart =>
  refine⟨0,by omega,rfl,Lib.hid ((Below.refl _ _).alloc (by simp) _),Lib.hid ?_⟩
  have:=IBlk.new (w.alloc (.cells #[i,.slice A2 g.ports.length c2] 27)) (zC g.ports.length (0:Int))
  simpa using this
 case round =>
  obtain⟨k,hq,rfl,hbel,hblk⟩:=hrel
  by_cases hlt:k<g.ports.length
  ·obtain⟨x,hx⟩:∃x,wr.cell? ⟨w.heap.size+1,k,none⟩=some (.int .i64 x):=⟨_,hblk.out.cell (by simp;omega)⟩
   have hf:=hblk.out.frozen k
   go_wp2
   go_roundg (gk-1)
   case measure=>omega
   case rel =>
    refine⟨k+1,by omega,by go_num,Lib.hid (hbel.out.setCell (by simp) _),Lib.hid ?_⟩
    have:=hblk.out.set_ k (-1)
    rwa [ybue _ _ hlt]at this
  ·obtain rfl:k=g.ports.length:=by omega
   have hblk0:IBlk wr (w.heap.size+1) (zC g.ports.length (-1)):=by simpa using hblk.out
   obtain⟨x,hx⟩:∃x,wr.cell? ⟨w.heap.size+1,a,none⟩=some (.int .i64 x):=⟨_,hblk0.cell (by simpa using ha)⟩
   have hf:=hblk0.frozen a;have Hb0:=Lib.hid hblk0
   clear hblk0 hblk hmk
   go_wp2
   go_loopg [7] (1+ycl (start g a)) (fun q t wr=>∃R Q,q=Q.length+ycl R/\q<=30/\Hid (Below (w.heap.size+1) (w.alloc (.cells #[i,.slice A2 g.ports.length c2] 27)) wr)/\Hid (IBlk wr (w.heap.size+1) R)/\Hid (BfsInv g a R Q)/\Hid (Owns wr (w.heap.size+2) 3 1 t Q.length (Q.map (fun q:Nat=>Value.int .i64 (q:Int)))))
   case atStart =>
    refine⟨start g a,[a],rfl,ynd g a hn24,Lib.hid ((hbel.out.setCell (by simp) _).alloc (by have:=hbel.out.size;simp at this ⊢;omega) _),Lib.hid ((Hb0.out.set_ a 0).alloc _),Lib.hid (BfsInv.start ha),Lib.hid ?_⟩
    refine⟨rfl,.inr ⟨_,0,1,#[.int .i64 (a:Int)],rfl,?_,?_,zH _,by simp[maxLen],by simp,?_⟩⟩
    ·have:=Hb0.out.lt;simp;omega
    ·have:=heap_alloc_new (wr.setCell ⟨w.heap.size+1,a,none⟩ (.int .i64 0)) (.cells #[.int .i64 (a:Int)] 3);simpa using this
    ·intro j u hu
     simpa using hu
   case round =>
    clear hbel Hb0 hx hf
    obtain⟨R,Q,hq,hq30,hbel,hblk,hinv,hown⟩:=hrel;obtain⟨AQ,cQ,rfl⟩:=hown.out.val;cases Q with
    | nil =>
      have Hd:=Lib.hid (hinv.out.isDist.unique (yeo Hgood.out ha))
      go_wp2
      go_ret
      have h:=hblk.out.ints (fun x hx=>by have:=hinv.out.isDist.bound Hgood.out ha x hx;unfold I64;omega) (by rw[hinv.out.len];omega)
      rw[hinv.out.len,Hd.out]at h;exact⟨_,rfl,h,(box2 hbel.out).2.2.1⟩
    | cons v Q =>
      obtain⟨gQ,oQ,cap,hv,hg1,hg2,hg3,hg4,hcell⟩:=hown.out.form (by simp)
      cases hv
      have hc0:=hcell 0 (.int .i64 (v:Int)) rfl;simp only[zAL]at hc0;have Hcell:=Lib.hid hcell;obtain⟨d,hd⟩:=hinv.out.qin v (by simp)
      have hvl:v<g.ports.length:=by rw[<-hinv.out.len];exact(List.getElem?_eq_some_iff.1 hd).1
      obtain⟨q0,q1,hbw,hsz⟩:=box2 hbel.out;obtain⟨b2,off2,lv,rfl,hb2,hclw,hls⟩:=yna Hp.out (zA hvl);have hcl:=yjo hbw _ _ hclw
      clear hclw
      obtain⟨A3,c3,rfl,hl1,hl2⟩:=yca hls;obtain⟨ls,hle⟩:∃ls,g.ports[v]=ls:=⟨_,rfl⟩;have Hlp:=Lib.hid (show g.ports[v]?=some ls by rw[zA hvl,hle])
      rw[hle]at hls hcl hl1;have Hls:=Lib.hid hls;have Hin:=Lib.hid (hinv.out.pop hd ls);have Hbw:=Lib.hid hbw
      clear hle hls hbw hcell hinv hd
      simp only[zAB]at hq hg3 hown hc0;obtain⟨i0,hi0,hz0,hz1,hz2⟩:=info_parts ybjx;obtain⟨vQ,hsl,hoQ,hobQ⟩:=ycau (P:=Tryz.prog) Tryz.underlying22 hi0 hz1 hown.out (k:=1) (by simp) (by simp)
      simp only[Nat.add_sub_cancel,Nat.mul_one,zAK,zX,zAJ]at hoQ;have hsl':∀W,(Instr.slice 22 (.slice (some ⟨gQ,oQ,none⟩) (Q.length+1) cQ) (some (.int .i64 1)) none none).run Tryz.prog W = .ok vQ W:=fun W=>by simpa using hsl W
      have HoQ:=Lib.hid hoQ;have Hi0:=Lib.hid (show _/\_/\_/\_ from⟨hi0,hz0,hz1,hz2⟩)
      clear hoQ hown hsl hobQ hi0 hz0 hz1 hz2
      unfold maxLen at hg4
      go_wp2
      clear hsl'
      obtain⟨go,rfl⟩:∃go,go=gk:=⟨_,rfl⟩
      go_loopg [43,7] ls.length (fun q t tq wr=>∃(k:Nat) (R:List Int) (Q:List Nat),q+k=ls.length/\t = .int .i64 k/\Hid (go=Q.length+1+ycl R)/\Hid (Below (w.heap.size+1) (w.alloc (.cells #[i,.slice (some ⟨b2,off2,none⟩) g.ports.length c2] 27)) wr)/\Hid (IBlk wr (w.heap.size+1) R)/\Hid (BfsIn g a v d ls k R Q)/\Hid (Owns wr (w.heap.size+2) 3 1 tq Q.length (Q.map (fun q:Nat=>Value.int .i64 (q:Int)))))
      case atStart=>exact⟨0,R,Q,by omega,rfl,Lib.hid (by omega),hbel,hblk,Hin,HoQ⟩
      case round =>
       clear hbel hblk Hin HoQ hq hcl q0 q1 Hbw hsz
       obtain⟨k,R,Q,hq,rfl,Hgk,hbel,hblk,Hin,HoQ⟩:=hrel
       by_cases hlt:k<ls.length
       ·obtain⟨q0,q1,hbw,hsz⟩:=box2 hbel.out;have Hbw:=Lib.hid hbw;obtain⟨A4,c4,e4,_,_,hE⟩:=Hls.out.below Stable.link hbw;cases e4
        obtain⟨b3,off3,rfl,hb3,hE⟩:=hE (by omega)
        obtain⟨⟨l1,wt⟩,hle⟩:∃l,ls[k]=l:=⟨_,rfl⟩;have hl?:ls[k]?=some (l1,wt):=by rw[zA hlt,hle]
        obtain⟨hx1,hx2,⟨hr1,hr2⟩,⟨hr3,hr4⟩⟩:=hE k _ hl?;obtain⟨k1,k2,k3,k4,k5⟩:=Hgood.out.link Hlp.out (zF hl?);simp only at k1 k2 k3 k4 k5 hx1 hx2 hr1 hr2 hr3 hr4;obtain⟨u,rfl⟩:=zW k1;have hul:u<R.length:=by rw[Hin.out.len];omega
        have hvR:v<R.length:=by rw[Hin.out.len];omega
        have hRv:R[v]?=some (d:Int):=Hin.out.rv;have hcv:=hblk.out.cell hvR;rw[show R[v]=(d:Int)by have:=zA hvR;rw[hRv]at this;exact(Option.some.inj this).symm]at hcv
        have hcu:=hblk.out.cell hul;have hfu:=hblk.out.frozen u
        have hd24:d<g.ports.length:=by
         rcases Hin.out.val v _ hRv with e|⟨k',e,h1,h2⟩
         ·omega
         ·obtain rfl:d=k':=by omega
          exact yuf Hgood.out ha h1 h2
        have hle1:ls[k].1=(u:Int):=by rw[hle]
        have hRu:R[u]?=some R[u]:=zA hul;have hB:w.heap.size+1<wr.heap.size:=hblk.out.lt
        clear hE hl? hle hbw k1 k3 hRv
        by_cases hneg:R[u]<0
        ·have hRm:R[u]?=some (-1):=by
          rcases Hin.out.val u _ hRu with e|⟨k',e,_⟩
          ·exact hRu.trans (congrArg some e)
          ·exact absurd e (by omega)
         have Hd:=Lib.hid (Hin.out.discover Hlp.out hlt hle1 hRm);have Hun:=Lib.hid (yud (R:=R) (u:=u) (x:=(d:Int)+1) hRm (by omega))
         clear hRu hRm hle1
         go_wp2
         go_region
         go_wp2_with (at_builtin;refine ymz _ rfl _ _ 22 rfl (w.heap.size+2) 3 i0 (.int .i64 0) 1 8 Tryz.underlying22 Hi0.out.1 Hi0.out.2.1 Hi0.out.2.2.1 Hi0.out.2.2.2 rfl (by decide) u7 Q.length (Q.map (fun q:Nat=>Value.int .i64 (q:Int))) (by rfl) ?hown _ 1 1 [.int .i64 (u:Int)] (by rfl) rfl ?c1 ?c2 ?c3 ?c4 ?c5 ?_)
         case hown=>exact(((HoQ.out.low (p:=⟨w.heap.size+1,u,none⟩) (by simp) _).alloc _).alloc _).drew
         case c1=>exact ycgm (by simp)
         case c2=>simp[Value.oneCell']
         case c3=>have:=Hgk.out;simp only[maxLen];omega
         case c4=>have:=Hgk.out;omega
         case c5=>simp;omega
         intro vQ' w' hown' hgr hob;have hgo:=Hgk.out;have Hown:=Lib.hid hown';have Hgr:=Lib.hid hgr
         clear hown' hgr hob
         go_wp2
         go_roundg (gk-1)
         case measure=>omega
         case rel =>
          have hb1:=(((hbel.out.setCell (p:=⟨w.heap.size+1,u,none⟩) (by simp) (.int .i64 ((d:Int)+1))).alloc (by simp;omega) (.cells #[.int .i64 (u:Int),.int .i64 wt] 95)).alloc (by simp;omega) (.cells #[.int .i64 (u:Int)] 3)).drew
          have hk1:=((((hblk.out.set_ u ((d:Int)+1)).alloc (.cells #[.int .i64 (u:Int),.int .i64 wt] 95)).alloc (.cells #[.int .i64 (u:Int)] 3)).drew);refine⟨k+1,R.set u ((d:Int)+1),Q++[u],by omega,by go_num,Lib.hid ?_,Lib.hid (hb1.grown Hgr.out (by simp;omega) (fun x hx=>?_)),Lib.hid (hk1.grown Hgr.out (fun e=>?_)),Hd,Lib.hid ?_⟩
          ·have:=Hun.out;simp;omega
          ·have:=(HoQ.out.lt hx).1;omega
          ·have:=(HoQ.out.lt e.symm).1;omega
          ·have:=Hown.out
           simpa using this
        ·have hpos:0<=R[u]:=by omega
         obtain⟨j,hj⟩:=zW hpos;have Hsk:=Lib.hid (Hin.out.skip hlt (j:=j) (by rw[hle1,zG,hRu,hj]))
         clear hRu hle1 hj
         go_wp2
         have hgo:=Hgk.out
         go_roundg (gk-1)
         case measure=>omega
         case rel=>exact⟨k+1,R,Q,by omega,by go_num,Hgk,Lib.hid (hbel.out.alloc (by omega) _),Lib.hid (hblk.out.alloc _),Hsk,Lib.hid (HoQ.out.alloc _)⟩
       ·obtain rfl:k=ls.length:=by omega
        go_wp2
        have hgo:=Hgk.out
        go_roundg (Q.length+ycl R)
        case measure=>omega
        case rel=>exact⟨R,Q,rfl,by omega,hbel,hblk,Lib.hid (Hin.out.finish Hlp.out),HoQ⟩
end
end Go.Proofs.YtiejahgklcjhkaaGreatDoor
