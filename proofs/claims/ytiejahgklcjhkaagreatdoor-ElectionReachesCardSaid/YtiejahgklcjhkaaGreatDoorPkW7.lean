/- Joined. -/
import Derived.Test.YtiejahgklcjhkaaGreatDoorPkW3
import Derived.Test.YtiejahgklcjhkaaGreatDoorPkW4
set_option linter.unusedSimpArgs false
set_option linter.unusedVariables false
set_option maxRecDepth 8000
open Go.Lib renaming hid->zA
open List renaming getElem?_eq_getElem->zB,mem_of_getElem?->zG,getD->zH,replicate->zL,getElem?_set->zN,getD_eq_getElem?_getD->zO,getElem_mem->zQ,foldl_append->zS,range->zT,take_length->zU,getElem?_replicate->zV,all_eq_true->zW,getElem_append_left->zY,take_succ_eq_append_getElem->zZ,getElem?_eq_none->zAB,mem_cons_of_mem->zAC,range_succ->zAD,mem_zipIdx_iff_getElem?->zAF,mem_cons_self->zAH,getElem?_zip_eq_some->zAJ,getElem_append_right->zAK,mem_append_left->zAN,drop_succ_cons->zAP,countP_append->zAQ,length_cons->zBC,ext_getElem->zBD,countP_cons->zBE,any_eq_true->zBF,length_drop->zBG,length_nil->zBH,drop_zero->zBJ,map_cons->zBL,length->zBT
open Go.Proofs.Tryz renaming prog->zC,func96->zAG,underlying22->zAI,ntmps96->zAL,ntmps134->zAO,func134->zAS,ntmps85->zAT,func137->zAV,func102->zAW,ntmps84->zAX,zeroCells195->zAZ,func85->zBA,func84->zBB,ntmps137->zBN,ntmps102->zBO,func139->zBQ,func141->zBS,func28->zBV
open Nat renaming reduceEqDiff->zD,le_refl->zF,reduceAdd->zM,zero_le->zX,reduceLT->zAE,reduceLeDiff->zAM,add_sub_cancel->zAU,lt_trichotomy->zAY,add_zero->zBP,lt_or_ge->zBR,mul_one->zBU
open Int renaming toNat_natCast->zI,eq_ofNat_of_zero_le->zK,natCast_zero->zAA,le_trans->zAR,reduceToNat->zBI
open Bool renaming and_eq_true->zJ,and_false->zBK,false_or->zBM
open Go
namespace Go.Proofs.YtiejahgklcjhkaaGreatDoor
section
namespace Sh
open Go Ev
theorem ydqx {g:FuncId}{fn:Func}{sc:SC}{rs:List SR}(hg:Tryz.prog.funcs[g]?=some fn) (hcmp:fn.body.bind (cmp zC fn.ntmps)=some sc) (hrs:cmpR zC fn.results.toList=some rs)
 {mu:List FuncId}{args:List SV}{Q:SV->Prop}(h:vc ⟨Ct zC,Cm zC,ItC zC,[],mu⟩ sc (retK rs Q) ⟨slots args 0,[]⟩):Ct zC g args Q:=by
 obtain⟨c,h1,h2⟩:=bind_some hcmp;exact ychg mix ysb hg h1 h2 hrs h
theorem ydsc {g:FuncId}{fn:Func}{sc:SC}{rs:List SR}(hg:Tryz.prog.funcs[g]?=some fn) (hcmp:fn.body.bind (cmp zC fn.ntmps)=some sc) (hrs:cmpR zC fn.results.toList=some rs)
 {pr:List Nm}{mu:List FuncId}{o:Own}{args:List SV}{Q:SV->Own->Prop}(h:vc ⟨Ct zC,Cm zC,ItC zC,pr,mu⟩ sc (retM rs pr Q) ⟨slots args 0,o⟩):Cm zC g pr o args Q:=by
 obtain⟨c,h1,h2⟩:=bind_some hcmp;exact ybum mix ysb hg h1 h2 hrs h
def Fn(g:FuncId)(c:SC)(rs:List SR):Prop:=∀(args:List SV) (Q:SV->Prop),vc ⟨Ct zC,Cm zC,ItC zC,[],[]⟩ c (retK rs Q) ⟨slots args 0,[]⟩->Ct zC g args Q
def FnU(g:FuncId)(c:SC)(rs:List SR):Prop:=∀(mu:List FuncId) (args:List SV) (Q:SV->Prop),vc ⟨Ct zC,Cm zC,ItC zC,[],mu⟩ c (retK rs Q) ⟨slots args 0,[]⟩->Ct zC g args Q
def FnM(g:FuncId)(c:SC)(rs:List SR):Prop:=∀(pr:List Nm) (mu:List FuncId) (o:Own) (args:List SV) (Q:SV->Own->Prop),vc ⟨Ct zC,Cm zC,ItC zC,pr,mu⟩ c (retM rs pr Q) ⟨slots args 0,o⟩->Cm zC g pr o args Q
section
variable {g:FuncId}{fn:Func}{sc:SC}{rs:List SR}(hg:Tryz.prog.funcs[g]?=some fn) (hcmp:fn.body.bind (cmp zC fn.ntmps)=some sc) (hrs:cmpR zC fn.results.toList=some rs)
include hg hcmp hrs
theorem fn_0:Fn g sc rs:=fun _ _ h=>ydqx hg hcmp hrs h
theorem fn_u:FnU g sc rs:=fun _ _ _ h=>ydqx hg hcmp hrs h
theorem fn_m:FnM g sc rs:=fun _ _ _ _ _ h=>ydsc hg hcmp hrs h
end
def o3(x:SOp)(d a:Nat):SOper:=⟨x,some d,none,a⟩
def o0(x:SOp)(a:Nat):SOper:=⟨x,none,none,a⟩
abbrev LO:=List SOper
def mv'(x d a:Nat):SOper:=⟨.mv (.tmp x),some d,none,a⟩
def bn'(op:BinOp)(x y d a:Nat):SOper:=⟨.bin op (.tmp x) (.tmp y),some d,none,a⟩
def ld'(ag:Bool)(n x d a:Nat):SOper:=⟨.load ag n (.tmp x),some d,none,a⟩
def fa'(o n x d a:Nat):SOper:=⟨.faddr o n (.tmp x),some d,none,a⟩
def ix'(z x k d a:Nat):SOper:=⟨.idx z (.tmp x) (.tmp k),some d,none,a⟩
def ln'(x d a:Nat):SOper:=⟨.len (.tmp x),some d,none,a⟩
def xt'(x k d a:Nat):SOper:=⟨.extract (.tmp x) k,some d,none,a⟩
def cl'(g:FuncId)(xs:List Nat)(d a:Nat):SOper:=⟨.call (.func g) (xs.map .tmp),some d,none,a⟩
def ci'(n:Int):Operand:=.const (.int .i64 n)
attribute [go_sem] o3 o0 mv' bn' ld' fa' ix' ln' xt' cl' ci'
attribute [go_sem] ydvb ydea yces ybvi yduq ydbo ydja ydej ycga ydgn ychm ybdl ybak ybps ybgk puts ydbb
attribute [go_sem] ydjj ydup ydps ybem ybpa ybtg yzy ybjf ybna ybpo ybzt ybgr yccy ybhc ycix
attribute [go_sem] yrj Fam.at Prod.mk.injEq ydcu ydei ydfu ydfm yddu ydil ybqb oldX oldV yjv ynt ybwa ydhx gb_x ydul resX yid slots ycdm
attribute [go_sem] yceb ybyo runO opO ybwa xOp SS.get SS.pget SS.gets SS.lit look lookO SS.put SS.own ydew ydbr ydbd ychs ycje ycig ychp
attribute [go_sem] ycgu ycgv ycem ycim ybka simple ynu ywf ybbj part idxX natX yrq ybnz xbin xun eqL splice fill OB.set ofV fits ydfd ybkk
attribute [go_sem] allP SRec.no SRec.pure clash nmem List.isEmpty_nil List.isEmpty_cons List.drop List.take List.all List.any List.map zBT List.head? List.append
attribute [go_sem] List.nil_append List.append_nil List.cons_append List.all_cons List.all_nil zAP zBJ List.take_succ_cons List.take_zero List.drop_nil
attribute [go_sem] List.take_nil zBC zBH zBL List.map_nil List.getElem?_cons_zero List.getElem?_cons_succ List.elem zI Nat.zero_add
attribute [go_sem] zBP if_true if_false ite_true ite_false Option.isNone Option.isNone_none Option.map_some Option.map_none Bool.not_true Bool.not_false Bool.true_or
attribute [go_sem] Bool.or_true zBM Bool.or_false Bool.and_true Bool.true_and zBK Bool.false_and Bool.and_self Bool.or_self true_and and_true and_self
attribute [go_sem] true_implies false_implies implies_true forall_const Nat.lt_add_one Nat.one_pos Nat.zero_lt_one Nat.lt_irrefl zF decide_true decide_false Bool.false_eq_true
attribute [go_sem] Bool.true_eq_false forall_eq BEq.rfl beq_self_eq_true decide_eq_true_eq decide_eq_false_iff_not beq_iff_eq beq_eq_false_iff_ne bne_iff_ne bne_eq_false_iff_eq
attribute [go_sem] Bool.not_eq_true Bool.not_eq_false Bool.not_eq_true' Bool.not_eq_false' ydhb ydfr yddd ycge ycex ybxn yceg ycei ycgi
attribute [go_sem] ychu ybze ydax ydsa ydcy ycfk ycdp ycir ychk ycio ybwz ycbh ybnn ycam ybzo ybvq ycap
attribute [go_sem] ybtd ydra ydqd ydky ydgj ydfg ycdn ydcj yddw ydef yden ydeo ydur ydtm ydtb ydmn ydmm ydhm ydqr ydok ydom
attribute [go_sem] ydku ydml ydmv ydlw ydmu ydbl ydcq ycet yddq ydff ydfj yddk ydfn
attribute [go_sem] yze ybfr idxF ydln yuc yma own1 ybmj Tel telL yuw ybgz ydhv ydia ydiu ycfs ycie ycct yceo ycen ycgq
attribute [go_sem] ycdz ycja ydtu ydtj ydtg ydkx ydqc ydkt ydqg ydqw ydob ydjh ydlj lv nmem rid yhm ydtz ydgu ybek ydmy ydar ybcp
attribute [go_sem] yya ybmc ycqw ydkn yblu yqy ydta ydue yduk ydro ydjw ydbc ydjf ydrt ydpj ydnp ydre List.any_cons List.any_nil Option.isSome
attribute [go_sem] ydco or_false false_or or_true true_or false_and exists_const exists_false List.not_mem_nil and_false
attribute [go_sem ↓] gb_t gb_f ydsp ydsr
end Sh
end
section
namespace Sh
open Go Ev
def ycvi:LO:=[o3 (.mv (ci' 0)) 4 0]
def ycmi:LO:=[mv' 0 6 0,ln' 6 7 1,o3 (.mv (ci' 0)) 8 0]
def ycwg:LO:=[bn' .lss 8 7 9 0]
def yczj:LO:=[mv' 8 10 0,mv' 10 5 1]
def ycyl:LO:=[mv' 1 11 0,mv' 0 12 0,mv' 5 13 0,ix' 1 12 13 14 6,ld' false 1 14 15 14,bn' .eql 11 15 16 31]
def ycjj:LO:=[mv' 5 17 0,mv' 17 4 1]
def ycwd:LO:=[o3 (.bin .add (.tmp 8) (ci' 1)) 18 0,mv' 18 8 1]
def ycvc:LO:=[o3 (.mv (.const (.int .i64 (-1)))) 4 0]
def c165:SC:=(.seq (.reg false ycvi) (.seq (.seq (.reg false ycmi) (.block 0 (.loop (.seq (.reg false ycwg) (.seq (.cond (.tmp 9) .skip (.exit 0)) (.seq (.block 1 (.seq (.reg false yczj) (.seq (.reg false ycyl) (.cond (.tmp 16) (.seq (.reg false ycjj) .ret) .skip)))) (.reg false ycwd))))))) (.seq (.reg false ycvc) .ret)))
theorem ydha:Fn 165 c165 [.t 4]:=fn_0 Tryz.func165 (by kernel_rfl) (by kernel_rfl)
def ycjq:LO:=[o3 (.mv (ci' 0)) 2 0]
def ycsm:LO:=[mv' 0 5 0,ln' 5 6 1,o3 (.bin .lss (.tmp 6) (ci' 1)) 7 3]
def ycry:LO:=[o3 (.no) 8 0,o0 (.no) 1]
def ycqv:LO:=[mv' 0 9 0,o3 (.idx 1 (.tmp 9) (ci' 0)) 10 1,ld' false 1 10 11 3,mv' 11 3 7]
def ycxo:LO:=[o3 (.mv (ci' 1)) 4 0]
def ycot:LO:=[mv' 4 12 0,mv' 0 13 0,ln' 13 14 2,bn' .lss 12 14 15 7]
def yclw:LO:=[mv' 3 18 0,mv' 0 19 0,mv' 4 20 0,ix' 1 19 20 21 6,ld' false 1 21 22 14,o3 (.mm true (.tmp 18) (.tmp 22)) 23 31,mv' 23 3 63]
def ycko:LO:=[mv' 4 16 0,o3 (.bin .add (.tmp 16) (ci' 1)) 17 1,mv' 17 4 3]
def ycqu:LO:=[mv' 3 24 0,mv' 24 2 1]
def c160:SC:=(.seq (.reg false ycjq) (.seq (.seq (.reg false ycsm) (.cond (.tmp 7) (.reg false ycry) .skip)) (.seq (.reg false ycqv) (.seq (.seq (.reg false ycxo) (.block 0 (.loop (.seq (.seq (.reg false ycot) (.cond (.tmp 15) .skip (.exit 0))) (.seq (.block 1 (.reg false yclw)) (.reg false ycko)))))) (.seq (.reg false ycqu) .ret)))))
theorem ydeb:Fn 160 c160 [.t 2]:=fn_0 Tryz.func160 (by kernel_rfl) (by kernel_rfl)
def ycve:LO:=[o3 (.mv (.const (.bool false))) 4 0]
def ycus:LO:=[mv' 0 5 0,mv' 1 6 0,cl' 165 [5,6] 7 3,o3 (.bin .geq (.tmp 7) (ci' 0)) 8 7,mv' 8 4 15]
def c274:SC:=(.seq (.reg false ycve) (.seq (.reg false ycus) .ret))
theorem ydfw:Fn 274 c274 [.t 4]:=fn_0 Tryz.func274 (by kernel_rfl) (by kernel_rfl)
def ycuy:LO:=[o3 (.mv (ci' 0)) 4 0]
def ycob:LO:=[mv' 0 6 0,ln' 6 7 1,o3 (.mv (ci' 0)) 8 0]
def yclt:LO:=[bn' .lss 8 7 9 0]
def ycmr:LO:=[mv' 8 10 0,mv' 10 5 1]
def ycsq:LO:=[mv' 1 11 0,mv' 0 12 0,mv' 5 13 0,ix' 1 12 13 14 6,ld' false 1 14 15 14,o3 (.call (.tmp 11) [(.tmp 15)]) 16 31]
def ycoq:LO:=[mv' 5 17 0,mv' 17 4 1]
def ycxk:LO:=[o3 (.bin .add (.tmp 8) (ci' 1)) 18 0,mv' 18 8 1]
def ycmg:LO:=[o3 (.mv (.const (.int .i64 (-1)))) 4 0]
def c267:SC:=(.seq (.reg false ycuy) (.seq (.seq (.reg false ycob) (.block 0 (.loop (.seq (.reg false yclt) (.seq (.cond (.tmp 9) .skip (.exit 0)) (.seq (.block 1 (.seq (.reg false ycmr) (.seq (.reg false ycsq) (.cond (.tmp 16) (.seq (.reg false ycoq) .ret) .skip)))) (.reg false ycxk))))))) (.seq (.reg false ycmg) .ret)))
theorem ydiq:Fn 267 c267 [.t 4]:=fn_0 Tryz.func267 (by kernel_rfl) (by kernel_rfl)
def ycln:LO:=[o3 (.mv (ci' 0)) 2 0]
def ycoh:LO:=[mv' 0 4 0,o3 (.bin .lss (.tmp 4) (ci' 1)) 5 1,mv' 5 6 3,⟨.mv (.tmp 0),some 7,some (6,false),7⟩,⟨.bin .gtr (.tmp 7) (ci' 43),some 8,some (6,false),15⟩,o3 (.pick (.tmp 6) (.const (.bool true)) (.tmp 8)) 9 31,mv' 9 3 63]
def ycyg:LO:=[o3 (.mv (.const (.int .i64 (-1)))) 2 0]
def ycmh:LO:=[mv' 0 11 0,o3 (.bin .leq (.tmp 11) (ci' 17)) 12 1,mv' 12 10 3]
def ycsx:LO:=[o3 (.mv (ci' 0)) 2 0]
def ycsu:LO:=[mv' 0 14 0,o3 (.bin .leq (.tmp 14) (ci' 29)) 15 1,mv' 15 13 3]
def ycqz:LO:=[o3 (.mv (ci' 1)) 2 0]
def ycxe:LO:=[mv' 0 17 0,o3 (.bin .leq (.tmp 17) (ci' 42)) 18 1,mv' 18 16 3]
def ycst:LO:=[o3 (.mv (ci' 2)) 2 0]
def ycrp:LO:=[o3 (.mv (ci' 3)) 2 0]
def c247:SC:=(.seq (.reg false ycln) (.seq (.block 0 (.seq (.reg false ycoh) (.cond (.tmp 3) (.seq (.reg false ycyg) .ret) (.seq (.reg false ycmh) (.cond (.tmp 10) (.seq (.reg false ycsx) .ret) (.seq (.reg false ycsu) (.cond (.tmp 13) (.seq (.reg false ycqz) .ret) (.seq (.reg false ycxe) (.cond (.tmp 16) (.seq (.reg false ycst) .ret) .skip))))))))) (.seq (.reg false ycrp) .ret)))
theorem yder:Fn 247 c247 [.t 2]:=fn_0 Tryz.func247 (by kernel_rfl) (by kernel_rfl)
def ycmq:LO:=[o3 (.mv (ci' 0)) 4 0]
def ycrf:LO:=[mv' 1 7 0,o3 (.bin .lss (.tmp 7) (ci' 0)) 8 1,mv' 8 9 3,⟨.mv (.tmp 1),some 10,some (9,false),7⟩,⟨.mv (.tmp 0),some 11,some (9,false),7⟩,⟨.len (.tmp 11),some 12,some (9,false),23⟩,⟨.bin .geq (.tmp 10) (.tmp 12),some 13,some (9,false),63⟩,o3 (.pick (.tmp 9) (.const (.bool true)) (.tmp 13)) 14 127]
def ycum:LO:=[o3 (.mv (.const (.int .i64 (-1)))) 4 0]
def ycpg:LO:=[o3 (.mv (ci' 1)) 5 0]
def ycwl:LO:=[mv' 1 15 0,mv' 0 16 0,ln' 16 17 2,bn' .lss 15 17 18 7]
def ycjg:LO:=[mv' 0 21 0,mv' 1 22 0,ix' 2 21 22 23 3,fa' 0 1 23 24 7,ld' false 1 24 25 15,cl' 247 [25] 26 31,mv' 26 6 63]
def ycui:LO:=[mv' 6 27 0,o3 (.bin .lss (.tmp 27) (ci' 0)) 28 1]
def ycon:LO:=[o3 (.mv (.const (.int .i64 (-1)))) 4 0]
def yczt:LO:=[mv' 5 29 0,mv' 6 30 0,o3 (.bin .sub (.tmp 30) (ci' 1)) 31 2,bn' .add 29 31 32 7,mv' 32 5 15]
def ybxg:LO:=[mv' 5 33 0,o3 (.bin .eql (.tmp 33) (ci' 0)) 34 1]
def ybrg:LO:=[mv' 1 35 0,o3 (.bin .add (.tmp 35) (ci' 1)) 36 1,mv' 36 4 3]
def ycol:LO:=[mv' 1 19 0,o3 (.bin .add (.tmp 19) (ci' 1)) 20 1,mv' 20 1 3]
def ybtp:LO:=[o3 (.mv (.const (.int .i64 (-1)))) 4 0]
def c231:SC:=(.seq (.reg false ycmq) (.seq (.seq (.reg false ycrf) (.cond (.tmp 14) (.seq (.reg false ycum) .ret) .skip)) (.seq (.seq (.reg false ycpg) (.block 0 (.loop (.seq (.seq (.reg false ycwl) (.cond (.tmp 18) .skip (.exit 0))) (.seq (.block 1 (.seq (.reg false ycjg) (.seq (.seq (.reg false ycui) (.cond (.tmp 28) (.seq (.reg false ycon) .ret) .skip)) (.seq (.reg false yczt) (.seq (.reg false ybxg) (.cond (.tmp 34) (.seq (.reg false ybrg) .ret) .skip)))))) (.reg false ycol)))))) (.seq (.reg false ybtp) .ret))))
theorem ydeg:Fn 231 c231 [.t 4]:=fn_0 Tryz.func231 (by kernel_rfl) (by kernel_rfl)
def ycpf:LO:=[o3 (.box 27 (.tmp 0)) 3 0,o3 (.mv (ci' 0)) 6 0]
def ycsr:LO:=[fa' 1 1 3 9 0,ld' false 1 9 10 1,mv' 1 11 0,ix' 1 10 11 12 7,ld' false 1 12 13 15,ln' 13 14 31,o3 (.mv (ci' 0)) 15 0]
def ycvq:LO:=[bn' .lss 15 14 16 0]
def ycki:LO:=[mv' 15 17 0,ix' 2 13 15 18 0,ld' true 2 18 19 2,o3 (.alloc 95 1 [.i .i64 0,.i .i64 0]) 8 0,mv' 17 7 15,o0 (.store 2 (.tmp 8) (.tmp 19)) 31]
def ycmv:LO:=[fa' 0 1 8 20 0,ld' false 1 20 21 1,mv' 2 22 0,bn' .eql 21 22 23 7]
def ycmy:LO:=[mv' 7 24 0,mv' 24 6 1]
def ycow:LO:=[o3 (.bin .add (.tmp 15) (ci' 1)) 25 0,mv' 25 15 1]
def yclx:LO:=[o3 (.mv (.const (.int .i64 (-1)))) 6 0]
def c170:SC:=(.seq (.reg false ycpf) (.seq (.seq (.reg false ycsr) (.block 0 (.loop (.seq (.reg false ycvq) (.seq (.cond (.tmp 16) .skip (.exit 0)) (.seq (.block 1 (.seq (.reg false ycki) (.seq (.reg false ycmv) (.cond (.tmp 23) (.seq (.reg false ycmy) .ret) .skip)))) (.reg false ycow))))))) (.seq (.reg false yclx) .ret)))
theorem ydes:Fn 170 c170 [.t 6]:=fn_0 Tryz.func170 (by kernel_rfl) (by kernel_rfl)
def ycli:LO:=[o3 (.box 27 (.tmp 0)) 1 0,o3 (.mv (.const (.int .u32 0))) 2 0]
def ycsa:LO:=[fa' 0 1 1 3 0,ld' false 1 3 4 1,ln' 4 5 3,o3 (.bin .shl (.const (.int .u32 1)) (.tmp 5)) 6 7,o3 (.bin .sub (.tmp 6) (.const (.int .u32 1))) 7 15,mv' 7 2 31]
def c109:SC:=(.seq (.reg false ycli) (.seq (.reg false ycsa) .ret))
theorem ydiv:Fn 109 c109 [.t 2]:=fn_0 Tryz.func109 (by kernel_rfl) (by kernel_rfl)
def ycuf:LO:=[o3 (.box 27 (.tmp 0)) 2 0,o3 (.mv (.const (.slice none 0 0))) 4 0]
def ycnv:LO:=[fa' 1 1 2 11 0,ld' false 1 11 12 1,ln' 12 13 3,o3 (.mk 3 1 8 [.i .i64 0] (.tmp 13) (.tmp 13)) 14 7,mv' 14 5 15]
def ycyz:LO:=[mv' 5 15 0,ln' 15 16 1,o3 (.mv (ci' 0)) 17 0]
def ybxi:LO:=[bn' .lss 17 16 18 0]
def ycjz:LO:=[mv' 17 19 0,mv' 19 6 1]
def ydad:LO:=[mv' 5 20 0,mv' 6 21 0,ix' 1 20 21 22 3,o0 (.store 1 (.tmp 22) (.const (.int .i64 (-1)))) 7]
def ycvw:LO:=[o3 (.bin .add (.tmp 17) (ci' 1)) 23 0,mv' 23 17 1]
def ycrz:LO:=[mv' 5 24 0,mv' 1 25 0,ix' 1 24 25 26 3,o0 (.store 1 (.tmp 26) (ci' 0)) 7]
def ycru:LO:=[mv' 1 27 0,o3 (.bslice 3 1 1 [.i .i64 0] [(0,1,(.tmp 27))]) 28 1,mv' 28 7 3]
def ybqu:LO:=[mv' 7 29 0,ln' 29 30 1,o3 (.bin .gtr (.tmp 30) (ci' 0)) 31 3]
def ybwt:LO:=[mv' 7 32 0,o3 (.idx 1 (.tmp 32) (ci' 0)) 33 1,ld' false 1 33 34 3,mv' 34 8 7]
def ycah:LO:=[mv' 7 35 0,o3 (.cut 1 (.tmp 35) (some (ci' 1)) none) 36 1,mv' 36 7 3]
def ybzb:LO:=[fa' 1 1 2 37 0,ld' false 1 37 38 1,mv' 8 39 0,ix' 1 38 39 40 7,ld' false 1 40 41 15,ln' 41 42 31,o3 (.mv (ci' 0)) 43 0]
def ybbd:LO:=[bn' .lss 43 42 44 0]
def yzv:LO:=[ix' 2 41 43 45 0,ld' true 2 45 46 1,o3 (.alloc 95 1 [.i .i64 0,.i .i64 0]) 10 0,o0 (.store 2 (.tmp 10) (.tmp 46)) 7]
def ybal:LO:=[mv' 5 47 0,fa' 0 1 10 48 0,ld' false 1 48 49 2,ix' 1 47 49 50 7,ld' false 1 50 51 15,o3 (.bin .lss (.tmp 51) (ci' 0)) 52 31]
def yzn:LO:=[mv' 5 53 0,fa' 0 1 10 54 0,ld' false 1 54 55 2,mv' 5 56 0,mv' 8 57 0,ix' 1 56 57 58 24,ld' false 1 58 59 56,o3 (.bin .add (.tmp 59) (ci' 1)) 60 120,ix' 1 53 55 61 255,o0 (.store 1 (.tmp 61) (.tmp 60)) 511]
def ybay:LO:=[mv' 7 62 0,fa' 0 1 10 63 0,ld' false 1 63 64 2,o3 (.bslice 3 1 1 [.i .i64 0] [(0,1,(.tmp 64))]) 65 6,o3 (.app 3 1 8 (.tmp 62) (.tmp 65)) 66 15,mv' 66 7 31]
def yyy:LO:=[o3 (.bin .add (.tmp 43) (ci' 1)) 67 0,mv' 67 43 1]
def ybuw:LO:=[mv' 5 68 0,mv' 68 4 1]
def c139:SC:=(.seq (.reg false ycuf) (.seq (.reg false ycnv) (.seq (.seq (.reg false ycyz) (.block 0 (.loop (.seq (.reg false ybxi) (.seq (.cond (.tmp 18) .skip (.exit 0)) (.seq (.block 1 (.seq (.reg false ycjz) (.reg false ydad))) (.reg false ycvw))))))) (.seq (.reg false ycrz) (.seq (.reg false ycru) (.seq (.block 2 (.loop (.seq (.seq (.reg false ybqu) (.cond (.tmp 31) .skip (.exit 2))) (.block 3 (.seq (.reg false ybwt) (.seq (.reg false ycah) (.seq (.reg false ybzb) (.block 4 (.loop (.seq (.reg false ybbd) (.seq (.cond (.tmp 44) .skip (.exit 4)) (.seq (.block 5 (.seq (.reg false yzv) (.seq (.reg false ybal) (.cond (.tmp 52) (.seq (.reg true yzn) (.reg false ybay)) .skip)))) (.reg false yyy))))))))))))) (.seq (.reg false ybuw) .ret)))))))
theorem ydde:Fn 139 c139 [.t 4]:=fn_0 zBQ (by kernel_rfl) (by kernel_rfl)
def ycno:LO:=[o3 (.mv (ci' 0)) 2 0]
def ycvk:LO:=[o3 (.mv (.const (.int .i64 (-1)))) 3 0]
def ycvf:LO:=[mv' 0 6 0,ln' 6 7 1,o3 (.mv (ci' 0)) 8 0]
def ycrk:LO:=[bn' .lss 8 7 9 0]
def ycqn:LO:=[ix' 1 6 8 10 0,ld' false 1 10 11 1,mv' 11 5 3]
def ycnz:LO:=[mv' 3 12 0,mv' 5 13 0,o3 (.mm true (.tmp 12) (.tmp 13)) 14 3,mv' 14 3 7]
def yctc:LO:=[o3 (.bin .add (.tmp 8) (ci' 1)) 15 0,mv' 15 8 1]
def ycwc:LO:=[mv' 3 16 0,mv' 16 2 1]
def c138:SC:=(.seq (.reg false ycno) (.seq (.reg false ycvk) (.seq (.seq (.reg false ycvf) (.block 0 (.loop (.seq (.reg false ycrk) (.seq (.cond (.tmp 9) .skip (.exit 0)) (.seq (.block 1 (.seq (.reg false ycqn) (.reg false ycnz))) (.reg false yctc))))))) (.seq (.reg false ycwc) .ret))))
theorem ydbp:Fn 138 c138 [.t 2]:=fn_0 Tryz.func138 (by kernel_rfl) (by kernel_rfl)
def ycrt:LO:=[o3 (.mv (ci' 0)) 2 0]
def ycqd:LO:=[mv' 0 3 0]
def ydam:LO:=[o3 (.mv (ci' 1)) 2 0]
def ycsl:LO:=[o3 (.mv (ci' 0)) 2 0]
def c256:SC:=(.seq (.reg false ycrt) (.seq (.seq (.reg false ycqd) (.cond (.tmp 3) (.seq (.reg false ydam) .ret) .skip)) (.seq (.reg false ycsl) .ret)))
theorem ydhs:Fn 256 c256 [.t 2]:=fn_0 Tryz.func256 (by kernel_rfl) (by kernel_rfl)
def ycyq:LO:=[o3 (.mv (ci' 0)) 2 0]
def ycps:LO:=[mv' 0 3 0,o3 (.mm false (.tmp 3) (ci' 1073741824)) 4 1,o3 (.mm true (.const (.int .i64 (-1073741824))) (.tmp 4)) 5 3,mv' 5 2 7]
def c258:SC:=(.seq (.reg false ycyq) (.seq (.reg false ycps) .ret))
theorem ydem:Fn 258 c258 [.t 2]:=fn_0 Tryz.func258 (by kernel_rfl) (by kernel_rfl)
def ycrx:LO:=[o3 (.mv (ci' 0)) 4 0]
def yctr:LO:=[mv' 0 5 0,o3 (.bin .eql (.tmp 5) (ci' 18)) 6 1]
def ycuz:LO:=[mv' 1 7 0,o3 (.un .neg (.tmp 7)) 8 1,mv' 8 4 3]
def ycwk:LO:=[mv' 1 9 0,o3 (.bin .eql (.tmp 9) (ci' 0)) 10 1,cl' 256 [10] 11 3,mv' 11 4 7]
def c237:SC:=(.seq (.reg false ycrx) (.seq (.seq (.reg false yctr) (.cond (.tmp 6) (.seq (.reg false ycuz) .ret) .skip)) (.seq (.reg false ycwk) .ret)))
theorem ydbn:Fn 237 c237 [.t 4]:=fn_0 Tryz.func237 (by kernel_rfl) (by kernel_rfl)
def ycws:LO:=[o3 (.mv (ci' 0)) 6 0]
def ycly:LO:=[mv' 0 7 0]
def ycys:LO:=[o3 (.bin .eql (.tmp 7) (ci' 30)) 9 0,mv' 9 8 1]
def yczc:LO:=[mv' 1 10 0,mv' 2 11 0,bn' .mul 10 11 12 3,cl' 258 [12] 13 7,mv' 13 6 15]
def ycky:LO:=[o3 (.bin .eql (.tmp 7) (ci' 31)) 15 0,mv' 15 14 1]
def yctd:LO:=[mv' 1 16 0,mv' 2 17 0,cl' 259 [16,17] 18 3,cl' 258 [18] 19 7,mv' 19 6 15]
def ycts:LO:=[o3 (.bin .eql (.tmp 7) (ci' 32)) 21 0,mv' 21 20 1]
def ycmn:LO:=[mv' 2 22 0,o3 (.bin .eql (.tmp 22) (ci' 0)) 23 1]
def ycnr:LO:=[o3 (.mv (ci' 0)) 6 0]
def ycwe:LO:=[mv' 1 24 0,mv' 2 25 0,mv' 1 26 0,mv' 2 27 0,cl' 259 [26,27] 28 12,bn' .mul 25 28 29 30,bn' .sub 24 29 30 63,cl' 258 [30] 31 127,mv' 31 6 255]
def ybrz:LO:=[o3 (.bin .eql (.tmp 7) (ci' 33)) 33 0,mv' 33 32 1]
def ycbk:LO:=[mv' 1 34 0,mv' 2 35 0,bn' .add 34 35 36 3,cl' 258 [36] 37 7,mv' 37 6 15]
def ybxx:LO:=[o3 (.bin .eql (.tmp 7) (ci' 34)) 39 0,mv' 39 38 1]
def ycbj:LO:=[mv' 1 40 0,mv' 2 41 0,bn' .sub 40 41 42 3,cl' 258 [42] 43 7,mv' 43 6 15]
def ybxy:LO:=[o3 (.bin .eql (.tmp 7) (ci' 41)) 45 0,mv' 45 44 1]
def ycbo:LO:=[mv' 1 46 0,o3 (.bin .neq (.tmp 46) (ci' 0)) 47 1,mv' 47 48 3,⟨.mv (.tmp 2),some 49,some (48,true),7⟩,⟨.bin .neq (.tmp 49) (ci' 0),some 50,some (48,true),15⟩,o3 (.pick (.tmp 48) (.tmp 50) (.const (.bool false))) 51 31,cl' 256 [51] 52 63,mv' 52 6 127]
def ybre:LO:=[o3 (.bin .eql (.tmp 7) (ci' 42)) 54 0,mv' 54 53 1]
def ybwi:LO:=[mv' 1 55 0,o3 (.bin .neq (.tmp 55) (ci' 0)) 56 1,mv' 56 57 3,⟨.mv (.tmp 2),some 58,some (57,false),7⟩,⟨.bin .neq (.tmp 58) (ci' 0),some 59,some (57,false),15⟩,o3 (.pick (.tmp 57) (.const (.bool true)) (.tmp 59)) 60 31,cl' 256 [60] 61 63,mv' 61 6 127]
def ybto:LO:=[mv' 0 62 0,mv' 1 63 0,mv' 2 64 0,cl' 260 [62,63,64] 65 7,cl' 256 [65] 66 15,mv' 66 6 31]
def c239:SC:=(.seq (.reg false ycws) (.seq (.seq (.reg false ycly) (.block 0 (.seq (.reg false ycys) (.cond (.tmp 8) (.seq (.reg false yczc) .ret) (.seq (.reg false ycky) (.cond (.tmp 14) (.seq (.reg false yctd) .ret) (.seq (.reg false ycts) (.cond (.tmp 20) (.seq (.seq (.reg false ycmn) (.cond (.tmp 23) (.seq (.reg false ycnr) .ret) .skip)) (.seq (.reg false ycwe) .ret)) (.seq (.reg false ybrz) (.cond (.tmp 32) (.seq (.reg false ycbk) .ret) (.seq (.reg false ybxx) (.cond (.tmp 38) (.seq (.reg false ycbj) .ret) (.seq (.reg false ybxy) (.cond (.tmp 44) (.seq (.reg false ycbo) .ret) (.seq (.reg false ybre) (.cond (.tmp 53) (.seq (.reg false ybwi) .ret) .skip)))))))))))))))) (.seq (.reg false ybto) .ret)))
theorem ydhq:Fn 239 c239 [.t 6]:=fn_0 Tryz.func239 (by kernel_rfl) (by kernel_rfl)
def ydag:LO:=[o3 (.mv (ci' 0)) 4 0]
def ydae:LO:=[mv' 1 6 0,o3 (.bin .eql (.tmp 6) (ci' 0)) 7 1]
def ycoj:LO:=[o3 (.mv (ci' 0)) 4 0]
def ycmp:LO:=[mv' 0 8 0,mv' 1 9 0,bn' .quo 8 9 10 3,mv' 10 5 7]
def ycwu:LO:=[mv' 0 11 0,mv' 1 12 0,bn' .rem 11 12 13 3,o3 (.bin .neq (.tmp 13) (ci' 0)) 14 7,mv' 14 15 15,⟨.mv (.tmp 0),some 16,some (15,true),31⟩,⟨.bin .lss (.tmp 16) (ci' 0),some 17,some (15,true),63⟩,⟨.mv (.tmp 1),some 18,some (15,true),31⟩,⟨.bin .lss (.tmp 18) (ci' 0),some 19,some (15,true),159⟩,⟨.beq true (.tmp 17) (.tmp 19),some 20,some (15,true),511⟩,o3 (.pick (.tmp 15) (.tmp 20) (.const (.bool false))) 21 1023]
def yckr:LO:=[mv' 5 22 0,o3 (.bin .sub (.tmp 22) (ci' 1)) 23 1,mv' 23 5 3]
def ycpj:LO:=[mv' 5 24 0,mv' 24 4 1]
def c259:SC:=(.seq (.reg false ydag) (.seq (.seq (.reg false ydae) (.cond (.tmp 7) (.seq (.reg false ycoj) .ret) .skip)) (.seq (.reg false ycmp) (.seq (.seq (.reg false ycwu) (.cond (.tmp 21) (.reg false yckr) .skip)) (.seq (.reg false ycpj) .ret)))))
theorem yddt:Fn 259 c259 [.t 4]:=fn_0 Tryz.func259 (by kernel_rfl) (by kernel_rfl)
def ycjw:LO:=[o3 (.mv (.const (.bool false))) 6 0]
def ycpt:LO:=[mv' 0 7 0]
def ycoy:LO:=[o3 (.bin .eql (.tmp 7) (ci' 35)) 9 0,mv' 9 8 1]
def ycym:LO:=[mv' 1 10 0,mv' 2 11 0,bn' .eql 10 11 12 3,mv' 12 6 7]
def ycjk:LO:=[o3 (.bin .eql (.tmp 7) (ci' 36)) 14 0,mv' 14 13 1]
def yczs:LO:=[mv' 1 15 0,mv' 2 16 0,bn' .neq 15 16 17 3,mv' 17 6 7]
def ycjr:LO:=[o3 (.bin .eql (.tmp 7) (ci' 37)) 19 0,mv' 19 18 1]
def ycqh:LO:=[mv' 1 20 0,mv' 2 21 0,bn' .lss 20 21 22 3,mv' 22 6 7]
def ycnl:LO:=[o3 (.bin .eql (.tmp 7) (ci' 38)) 24 0,mv' 24 23 1]
def ycmx:LO:=[mv' 1 25 0,mv' 2 26 0,bn' .leq 25 26 27 3,mv' 27 6 7]
def yccl:LO:=[o3 (.bin .eql (.tmp 7) (ci' 39)) 29 0,mv' 29 28 1]
def ybys:LO:=[mv' 1 30 0,mv' 2 31 0,bn' .gtr 30 31 32 3,mv' 32 6 7]
def ycck:LO:=[mv' 1 33 0,mv' 2 34 0,bn' .geq 33 34 35 3,mv' 35 6 7]
def c260:SC:=(.seq (.reg false ycjw) (.seq (.seq (.reg false ycpt) (.block 0 (.seq (.reg false ycoy) (.cond (.tmp 8) (.seq (.reg false ycym) .ret) (.seq (.reg false ycjk) (.cond (.tmp 13) (.seq (.reg false yczs) .ret) (.seq (.reg false ycjr) (.cond (.tmp 18) (.seq (.reg false ycqh) .ret) (.seq (.reg false ycnl) (.cond (.tmp 23) (.seq (.reg false ycmx) .ret) (.seq (.reg false yccl) (.cond (.tmp 28) (.seq (.reg false ybys) .ret) .skip)))))))))))) (.seq (.reg false ycck) .ret)))
theorem yddj:Fn 260 c260 [.t 6]:=fn_0 Tryz.func260 (by kernel_rfl) (by kernel_rfl)
def yctp:LO:=[o3 (.mv (ci' 0)) 4 0]
def ycxq:LO:=[mv' 0 15 0]
def ycvx:LO:=[o3 (.bin .eql (.tmp 15) (ci' 20)) 17 0,mv' 17 16 1]
def yclr:LO:=[mv' 1 18 0,cl' 266 [18] 19 1,mv' 1 20 0,ln' 20 21 4,bn' .eql 19 21 22 15,cl' 256 [22] 23 31,mv' 23 4 63]
def ydaj:LO:=[o3 (.bin .eql (.tmp 15) (ci' 21)) 25 0,mv' 25 24 1]
def ycpp:LO:=[mv' 1 26 0,cl' 266 [26] 27 1,o3 (.bin .gtr (.tmp 27) (ci' 0)) 28 3,cl' 256 [28] 29 7,mv' 29 4 15]
def ycuj:LO:=[o3 (.bin .eql (.tmp 15) (ci' 22)) 31 0,mv' 31 30 1]
def yckk:LO:=[mv' 1 32 0,cl' 266 [32] 33 1,mv' 33 4 3]
def ycmt:LO:=[o3 (.bin .eql (.tmp 15) (ci' 23)) 35 0,mv' 35 34 1]
def yczn:LO:=[mv' 1 36 0,o3 (.call (.func 267) [(.tmp 36),(.func 268)]) 37 1,mv' 37 4 3]
def ybyx:LO:=[o3 (.bin .eql (.tmp 15) (ci' 24)) 39 0,mv' 39 38 1]
def ybqx:LO:=[o3 (.mv (ci' 1073741824)) 5 0]
def ybzs:LO:=[mv' 1 40 0,ln' 40 41 1,o3 (.mv (ci' 0)) 42 0]
def ycad:LO:=[bn' .lss 42 41 43 0]
def ybwo:LO:=[ix' 1 40 42 44 0,ld' false 1 44 45 1,mv' 45 7 3]
def ybvu:LO:=[mv' 5 46 0,mv' 7 47 0,o3 (.mm false (.tmp 46) (.tmp 47)) 48 3,mv' 48 5 7]
def ybye:LO:=[o3 (.bin .add (.tmp 42) (ci' 1)) 49 0,mv' 49 42 1]
def ybsa:LO:=[mv' 5 50 0,mv' 50 4 1]
def ycbi:LO:=[o3 (.bin .eql (.tmp 15) (ci' 25)) 52 0,mv' 52 51 1]
def ybwf:LO:=[mv' 1 54 0,cl' 269 [54] 55 1,mv' 55 53 3,xt' 53 0 56 7,xt' 53 1 57 7,mv' 56 8 15,mv' 57 9 63]
def ybsc:LO:=[mv' 8 58 0,mv' 58 4 1]
def ycch:LO:=[o3 (.bin .eql (.tmp 15) (ci' 26)) 60 0,mv' 60 59 1]
def ybtt:LO:=[o3 (.mv (ci' 0)) 10 0]
def ybwq:LO:=[mv' 1 61 0,ln' 61 62 1,o3 (.mv (ci' 0)) 63 0]
def ybxk:LO:=[bn' .lss 63 62 64 0]
def ybun:LO:=[ix' 1 61 63 65 0,ld' false 1 65 66 1,mv' 66 12 3]
def yccs:LO:=[mv' 10 67 0,mv' 12 68 0,bn' .add 67 68 69 3,mv' 69 10 7]
def ycci:LO:=[o3 (.bin .add (.tmp 63) (ci' 1)) 70 0,mv' 70 63 1]
def ybuu:LO:=[mv' 10 71 0,cl' 258 [71] 72 1,mv' 72 4 3]
def ybxu:LO:=[o3 (.bin .eql (.tmp 15) (ci' 27)) 74 0,mv' 74 73 1]
def ybzx:LO:=[mv' 1 75 0,cl' 270 [75] 76 1,mv' 76 4 3]
def ybxl:LO:=[o3 (.bin .eql (.tmp 15) (ci' 28)) 78 0,mv' 78 77 1]
def ybvp:LO:=[mv' 1 80 0,cl' 269 [80] 81 1,mv' 81 79 3,xt' 79 0 82 7,xt' 79 1 83 7,mv' 82 13 15,mv' 83 14 63]
def ycbp:LO:=[mv' 14 84 0,mv' 84 4 1]
def ybvy:LO:=[mv' 1 85 0,ln' 85 86 1,o3 (.bin .eql (.tmp 86) (ci' 0)) 87 3]
def ybvz:LO:=[o3 (.mv (ci' 0)) 4 0]
def ybqt:LO:=[mv' 1 88 0,o3 (.idx 1 (.tmp 88) (ci' 0)) 89 1,ld' false 1 89 90 3,mv' 90 4 7]
def c257:SC:=(.seq (.reg false yctp) (.seq (.seq (.reg false ycxq) (.block 0 (.seq (.reg false ycvx) (.cond (.tmp 16) (.seq (.reg false yclr) .ret) (.seq (.reg false ydaj) (.cond (.tmp 24) (.seq (.reg false ycpp) .ret) (.seq (.reg false ycuj) (.cond (.tmp 30) (.seq (.reg false yckk) .ret) (.seq (.reg false ycmt) (.cond (.tmp 34) (.seq (.reg false yczn) .ret) (.seq (.reg false ybyx) (.cond (.tmp 38) (.seq (.reg false ybqx) (.seq (.seq (.reg false ybzs) (.block 1 (.loop (.seq (.reg false ycad) (.seq (.cond (.tmp 43) .skip (.exit 1)) (.seq (.block 2 (.seq (.reg false ybwo) (.reg false ybvu))) (.reg false ybye))))))) (.seq (.reg false ybsa) .ret))) (.seq (.reg false ycbi) (.cond (.tmp 51) (.seq (.reg false ybwf) (.seq (.reg false ybsc) .ret)) (.seq (.reg false ycch) (.cond (.tmp 59) (.seq (.reg false ybtt) (.seq (.seq (.reg false ybwq) (.block 3 (.loop (.seq (.reg false ybxk) (.seq (.cond (.tmp 64) .skip (.exit 3)) (.seq (.block 4 (.seq (.reg false ybun) (.reg false yccs))) (.reg false ycci))))))) (.seq (.reg false ybuu) .ret))) (.seq (.reg false ybxu) (.cond (.tmp 73) (.seq (.reg false ybzx) .ret) (.seq (.reg false ybxl) (.cond (.tmp 77) (.seq (.reg false ybvp) (.seq (.reg false ycbp) .ret)) .skip)))))))))))))))))))) (.seq (.seq (.reg false ybvy) (.cond (.tmp 87) (.seq (.reg false ybvz) .ret) .skip)) (.seq (.reg false ybqt) .ret))))
theorem ydis:Fn 257 c257 [.t 4]:=fn_0 Tryz.func257 (by kernel_rfl) (by kernel_rfl)
def ycut:LO:=[o3 (.mv (.const (.bool false))) 2 0]
def ycqq:LO:=[mv' 0 3 0,o3 (.bin .neq (.tmp 3) (ci' 0)) 4 1,mv' 4 2 3]
def c268:SC:=(.seq (.reg false ycut) (.seq (.reg false ycqq) .ret))
theorem ydcc:Fn 268 c268 [.t 2]:=fn_0 Tryz.func268 (by kernel_rfl) (by kernel_rfl)
def ycom:LO:=[o3 (.mv (ci' 0)) 2 0]
def yczr:LO:=[o3 (.mv (ci' 0)) 3 0]
def yczg:LO:=[mv' 0 6 0,ln' 6 7 1,o3 (.mv (ci' 0)) 8 0]
def ycnc:LO:=[bn' .lss 8 7 9 0]
def yclg:LO:=[ix' 1 6 8 10 0,ld' false 1 10 11 1,mv' 11 5 3]
def ycnf:LO:=[mv' 5 12 0,o3 (.bin .neq (.tmp 12) (ci' 0)) 13 1]
def ycoa:LO:=[mv' 3 14 0,o3 (.bin .add (.tmp 14) (ci' 1)) 15 1,mv' 15 3 3]
def ycud:LO:=[o3 (.bin .add (.tmp 8) (ci' 1)) 16 0,mv' 16 8 1]
def ycpn:LO:=[mv' 3 17 0,mv' 17 2 1]
def c266:SC:=(.seq (.reg false ycom) (.seq (.reg false yczr) (.seq (.seq (.reg false yczg) (.block 0 (.loop (.seq (.reg false ycnc) (.seq (.cond (.tmp 9) .skip (.exit 0)) (.seq (.block 1 (.seq (.reg false yclg) (.seq (.reg false ycnf) (.cond (.tmp 13) (.reg false ycoa) .skip)))) (.reg false ycud))))))) (.seq (.reg false ycpn) .ret))))
theorem ydbz:Fn 266 c266 [.t 2]:=fn_0 Tryz.func266 (by kernel_rfl) (by kernel_rfl)
def ycqr:LO:=[o3 (.mv (ci' 0)) 2 0,o3 (.mv (ci' 0)) 3 1]
def ycwa:LO:=[o3 (.mv (.const (.int .i64 (-1073741824)))) 2 0,o3 (.mv (.const (.int .i64 (-1073741824)))) 3 1]
def ycoz:LO:=[mv' 0 6 0,ln' 6 7 1,o3 (.mv (ci' 0)) 8 0]
def yctn:LO:=[bn' .lss 8 7 9 0]
def yckd:LO:=[ix' 1 6 8 10 0,ld' false 1 10 11 1,mv' 11 5 3]
def ycyk:LO:=[mv' 5 12 0,mv' 2 13 0,bn' .gtr 12 13 14 3]
def ycub:LO:=[mv' 5 15 0,mv' 2 16 0,mv' 15 2 3,mv' 16 3 7]
def yczw:LO:=[mv' 3 17 0,mv' 5 18 0,o3 (.mm true (.tmp 17) (.tmp 18)) 19 3,mv' 19 3 7]
def ycrd:LO:=[o3 (.bin .add (.tmp 8) (ci' 1)) 20 0,mv' 20 8 1]
def ycsw:LO:=[mv' 2 21 0,mv' 3 22 0,mv' 21 2 1,mv' 22 3 7]
def c269:SC:=(.seq (.reg false ycqr) (.seq (.reg false ycwa) (.seq (.seq (.reg false ycoz) (.block 0 (.loop (.seq (.reg false yctn) (.seq (.cond (.tmp 9) .skip (.exit 0)) (.seq (.block 1 (.seq (.reg false yckd) (.seq (.reg false ycyk) (.cond (.tmp 14) (.reg false ycub) (.reg false yczw))))) (.reg false ycrd))))))) (.seq (.reg false ycsw) .ret))))
theorem ydeu:Fn 269 c269 [.t 2,.t 3]:=fn_0 Tryz.func269 (by kernel_rfl) (by kernel_rfl)
def ycwo:LO:=[o3 (.mv (ci' 0)) 2 0]
def ycrs:LO:=[o3 (.mv (ci' 0)) 3 0]
def ycpa:LO:=[mv' 0 4 0,mv' 3 5 0,cl' 274 [4,5] 6 3]
def ycvt:LO:=[mv' 3 7 0,o3 (.bin .add (.tmp 7) (ci' 1)) 8 1,mv' 8 3 3]
def ycnj:LO:=[mv' 3 9 0,mv' 9 2 1]
def c270:SC:=(.seq (.reg false ycwo) (.seq (.reg false ycrs) (.seq (.block 0 (.loop (.seq (.seq (.reg false ycpa) (.cond (.tmp 6) .skip (.exit 0))) (.block 1 (.reg false ycvt))))) (.seq (.reg false ycnj) .ret))))
theorem ydhi:Fn 270 c270 [.t 2]:=fn_0 Tryz.func270 (by kernel_rfl) (by kernel_rfl)
def ycna:LO:=[o3 (.box 58 (.tmp 0)) 2 0,o3 (.box 27 (.tmp 1)) 3 0,o3 (.mv (.const (.pointer none))) 4 0]
def ycnh:LO:=[ld' true 3 2 10 0,ld' true 2 3 11 0,fa' 1 1 3 12 0,ld' false 1 12 13 4,ln' 13 14 12,o3 (.mk 22 1 24 [.a (.slice none 0 0)] (.tmp 14) (.tmp 14)) 15 28,o3 (.build [.a (.string (ByteArray.mk #[])),.a (.slice none 0 0),.a (.slice none 0 0),.a (.slice none 0 0),.a (.slice none 0 0),.i .i64 0,.a (.slice none 0 0)] [(0,3,(.tmp 10)),(3,2,(.tmp 11)),(6,1,(.tmp 15))]) 16 63,o3 (.box 170 (.tmp 16)) 17 127,mv' 17 5 255]
def ycsj:LO:=[fa' 1 1 3 18 0,ld' false 1 18 19 1,ln' 19 20 3,o3 (.mv (ci' 0)) 21 0]
def ycmu:LO:=[bn' .lss 21 20 22 0]
def yctx:LO:=[mv' 21 23 0,ix' 1 19 21 24 0,ld' false 1 24 25 2,mv' 23 6 7,mv' 25 7 15]
def ycll:LO:=[mv' 5 26 0,mv' 5 27 0,o3 (.nilck (.tmp 27)) 28 2,fa' 5 1 28 29 6,ld' false 1 29 30 14,fa' 0 1 3 31 0,ld' false 1 31 32 32,mv' 6 33 0,ix' 1 32 33 34 224,ld' false 1 34 35 480,o3 (.mm true (.tmp 30) (.tmp 35)) 36 1022,o3 (.nilck (.tmp 26)) 37 2047,fa' 5 1 37 38 4095,o0 (.store 1 (.tmp 38) (.tmp 36)) 8191]
def ycnm:LO:=[mv' 7 39 0,ln' 39 40 1,o3 (.mv (ci' 0)) 41 0]
def ycrm:LO:=[bn' .lss 41 40 42 0]
def ycrh:LO:=[ix' 2 39 41 43 0,ld' true 2 43 44 1,o3 (.alloc 95 1 [.i .i64 0,.i .i64 0]) 9 0,o0 (.store 2 (.tmp 9) (.tmp 44)) 7]
def ycls:LO:=[mv' 5 45 0,o3 (.nilck (.tmp 45)) 46 1,fa' 6 1 46 47 3,ld' false 1 47 48 7,mv' 6 49 0,mv' 5 50 0,o3 (.nilck (.tmp 50)) 51 32,fa' 6 1 51 52 96,ld' false 1 52 53 224,mv' 6 54 0,ix' 1 53 54 55 992,ld' false 1 55 56 2016,ld' true 2 3 57 0,fa' 0 1 9 58 0,ld' false 1 58 59 8192,mv' 6 60 0,cl' 170 [57,59,60] 61 61440,o3 (.bslice 3 1 1 [.i .i64 0] [(0,1,(.tmp 61))]) 62 126976,o3 (.app 3 1 8 (.tmp 56) (.tmp 62)) 63 262112,ix' 1 48 49 64 524287,o0 (.store 1 (.tmp 64) (.tmp 63)) 1048575]
def ybud:LO:=[o3 (.bin .add (.tmp 41) (ci' 1)) 65 0,mv' 65 41 1]
def ycaf:LO:=[o3 (.bin .add (.tmp 21) (ci' 1)) 66 0,mv' 66 21 1]
def ybrq:LO:=[mv' 5 67 0,mv' 67 4 1]
def c143:SC:=(.seq (.reg false ycna) (.seq (.reg true ycnh) (.seq (.seq (.reg false ycsj) (.block 0 (.loop (.seq (.reg false ycmu) (.seq (.cond (.tmp 22) .skip (.exit 0)) (.seq (.block 1 (.seq (.reg false yctx) (.seq (.reg true ycll) (.seq (.reg false ycnm) (.block 2 (.loop (.seq (.reg false ycrm) (.seq (.cond (.tmp 42) .skip (.exit 2)) (.seq (.block 3 (.seq (.reg false ycrh) (.reg true ycls))) (.reg false ybud)))))))))) (.reg false ycaf))))))) (.seq (.reg false ybrq) .ret))))
theorem ydaw:Fn 143 c143 [.t 4]:=fn_0 Tryz.func143 (by kernel_rfl) (by kernel_rfl)
def yckw:LO:=[o3 (.mv (ci' 0)) 8 0]
def ycvb:LO:=[mv' 1 10 0]
def yclq:LO:=[o3 (.bin .eql (.tmp 10) (ci' 6)) 12 0,mv' 12 11 1]
def ycza:LO:=[mv' 0 13 0,o3 (.nilck (.tmp 13)) 14 1,fa' 3 2 14 15 3,fa' 0 1 15 16 7,ld' false 1 16 17 15,ln' 17 18 31,mv' 18 8 63]
def ycxf:LO:=[o3 (.bin .eql (.tmp 10) (ci' 7)) 20 0,mv' 20 19 1]
def ycro:LO:=[mv' 0 21 0,o3 (.nilck (.tmp 21)) 22 1,fa' 5 1 22 23 3,ld' false 1 23 24 7,mv' 24 8 15]
def ycrv:LO:=[o3 (.bin .eql (.tmp 10) (ci' 8)) 26 0,mv' 26 25 1]
def ycuk:LO:=[mv' 0 27 0,o3 (.nilck (.tmp 27)) 28 1,fa' 3 2 28 29 3,fa' 0 1 29 30 7,ld' false 1 30 31 15,mv' 2 32 0,ix' 1 31 32 33 63,ld' false 1 33 34 127,mv' 34 8 255]
def ycnx:LO:=[o3 (.bin .eql (.tmp 10) (ci' 9)) 36 0,mv' 36 35 1]
def yctu:LO:=[mv' 0 37 0,o3 (.nilck (.tmp 37)) 38 1,fa' 3 2 38 39 3,fa' 1 1 39 40 7,ld' false 1 40 41 15,mv' 2 42 0,ix' 1 41 42 43 63,ld' false 1 43 44 127,ln' 44 45 255,mv' 45 8 511]
def ybsd:LO:=[o3 (.bin .eql (.tmp 10) (ci' 10)) 47 0,mv' 47 46 1]
def ycbg:LO:=[mv' 2 48 0,o3 (.bin .eql (.tmp 48) (ci' 0)) 49 1,cl' 256 [49] 50 3,mv' 50 8 7]
def ycat:LO:=[o3 (.bin .eql (.tmp 10) (ci' 11)) 52 0,mv' 52 51 1]
def ybwr:LO:=[mv' 3 53 0,mv' 53 8 1]
def ycan:LO:=[mv' 0 54 0,o3 (.nilck (.tmp 54)) 55 1,fa' 3 2 55 56 3,fa' 1 1 56 57 7,ld' false 1 57 58 15,mv' 2 59 0,ix' 1 58 59 60 63,ld' false 1 60 61 127,mv' 3 62 0,ix' 2 61 62 63 511,ld' true 2 63 64 1023,o3 (.alloc 95 1 [.i .i64 0,.i .i64 0]) 9 0,o0 (.store 2 (.tmp 9) (.tmp 64)) 4095]
def ycba:LO:=[mv' 1 65 0]
def ybxs:LO:=[o3 (.bin .eql (.tmp 65) (ci' 13)) 67 0,mv' 67 66 1]
def ycbq:LO:=[mv' 0 68 0,o3 (.nilck (.tmp 68)) 69 1,fa' 3 2 69 70 3,fa' 0 1 70 71 7,ld' false 1 71 72 15,fa' 0 1 9 73 0,ld' false 1 73 74 32,ix' 1 72 74 75 127,ld' false 1 75 76 255,mv' 76 8 511]
def ycbt:LO:=[o3 (.bin .eql (.tmp 65) (ci' 14)) 78 0,mv' 78 77 1]
def ybtb:LO:=[mv' 0 79 0,o3 (.nilck (.tmp 79)) 80 1,fa' 3 2 80 81 3,fa' 1 1 81 82 7,ld' false 1 82 83 15,fa' 0 1 9 84 0,ld' false 1 84 85 32,ix' 1 83 85 86 127,ld' false 1 86 87 255,ln' 87 88 511,mv' 88 8 1023]
def ybwk:LO:=[o3 (.bin .eql (.tmp 65) (ci' 15)) 90 0,mv' 90 89 1]
def ybuj:LO:=[fa' 0 1 9 91 0,ld' false 1 91 92 1,o3 (.bin .eql (.tmp 92) (ci' 0)) 93 3,cl' 256 [93] 94 7,mv' 94 8 15]
def ybzq:LO:=[o3 (.bin .eql (.tmp 65) (ci' 16)) 96 0,mv' 96 95 1]
def ybvd:LO:=[fa' 1 1 9 97 0,ld' false 1 97 98 1,mv' 98 8 3]
def ycaj:LO:=[mv' 0 99 0,o3 (.nilck (.tmp 99)) 100 1,fa' 6 1 100 101 3,ld' false 1 101 102 7,mv' 2 103 0,ix' 1 102 103 104 31,ld' false 1 104 105 63,mv' 3 106 0,ix' 1 105 106 107 255,ld' false 1 107 108 511,mv' 108 8 1023]
def c255:SC:=(.seq (.reg false yckw) (.seq (.seq (.reg false ycvb) (.block 0 (.seq (.reg false yclq) (.cond (.tmp 11) (.seq (.reg false ycza) .ret) (.seq (.reg false ycxf) (.cond (.tmp 19) (.seq (.reg false ycro) .ret) (.seq (.reg false ycrv) (.cond (.tmp 25) (.seq (.reg false ycuk) .ret) (.seq (.reg false ycnx) (.cond (.tmp 35) (.seq (.reg false yctu) .ret) (.seq (.reg false ybsd) (.cond (.tmp 46) (.seq (.reg false ycbg) .ret) (.seq (.reg false ycat) (.cond (.tmp 51) (.seq (.reg false ybwr) .ret) .skip)))))))))))))) (.seq (.reg false ycan) (.seq (.seq (.reg false ycba) (.block 1 (.seq (.reg false ybxs) (.cond (.tmp 66) (.seq (.reg true ycbq) .ret) (.seq (.reg false ycbt) (.cond (.tmp 77) (.seq (.reg true ybtb) .ret) (.seq (.reg false ybwk) (.cond (.tmp 89) (.seq (.reg false ybuj) .ret) (.seq (.reg false ybzq) (.cond (.tmp 95) (.seq (.reg false ybvd) .ret) .skip)))))))))) (.seq (.reg false ycaj) .ret)))))
theorem ydcn:Fn 255 c255 [.t 8]:=fn_0 Tryz.func255 (by kernel_rfl) (by kernel_rfl)
def yclp:LO:=[o3 (.mv (ci' 0)) 8 0]
def ycoi:LO:=[mv' 0 12 0,mv' 1 13 0,mv' 2 14 0,mv' 3 15 0,o3 (.build [.a (.pointer none),.a (.slice none 0 0),.i .i64 0,.a (.slice none 0 0)] [(0,1,(.tmp 12)),(1,1,(.tmp 13)),(2,1,(.tmp 14)),(3,1,(.tmp 15))]) 16 15,o3 (.alloc 228 1 [.a (.pointer none),.a (.slice none 0 0),.i .i64 0,.a (.slice none 0 0)]) 9 0,o0 (.store 4 (.tmp 9) (.tmp 16)) 63]
def ycnp:LO:=[o3 (.call (.func 220) [(.tmp 9),(ci' 0),(.const (.int .i64 (-1)))]) 18 0,mv' 18 17 1,xt' 17 0 19 3,xt' 17 1 20 3,mv' 19 10 7,mv' 20 11 31]
def ycto:LO:=[mv' 10 21 0,mv' 21 8 1]
def c193:SC:=(.seq (.reg false yclp) (.seq (.reg false ycoi) (.seq (.reg false ycnp) (.seq (.reg false ycto) .ret))))
theorem ydhd:Fn 193 c193 [.t 8]:=fn_0 Tryz.func193 (by kernel_rfl) (by kernel_rfl)
def ycti:LO:=[o3 (.mv (.const (.bool false))) 8 0]
def ycuu:LO:=[mv' 0 9 0,mv' 1 10 0,mv' 2 11 0,mv' 0 12 0,o3 (.nilck (.tmp 12)) 13 8,fa' 0 3 13 14 24,fa' 2 1 14 15 56,ld' false 1 15 16 120,mv' 3 17 0,ix' 3 16 17 18 504,fa' 1 1 18 19 1016,ld' false 1 19 20 2040,cl' 193 [9,10,11,20] 21 4095,o3 (.bin .neq (.tmp 21) (ci' 0)) 22 8191,mv' 22 8 16383]
def c172:SC:=(.seq (.reg false ycti) (.seq (.reg false ycuu) .ret))
theorem ydcg:Fn 172 c172 [.t 8]:=fn_0 Tryz.func172 (by kernel_rfl) (by kernel_rfl)
def yyl:LO:=[o3 (.mv (ci' 0)) 6 0,o3 (.mv (ci' 0)) 7 1]
def yyk:LO:=[mv' 0 18 0,o3 (.nilck (.tmp 18)) 19 1,fa' 3 1 19 20 3,ld' false 1 20 21 7,mv' 1 22 0,ix' 2 21 22 23 31,ld' true 2 23 24 63,o3 (.alloc 240 1 [.i .i64 0,.i .i64 0]) 8 0,o0 (.store 2 (.tmp 8) (.tmp 24)) 255]
def ywt:LO:=[fa' 0 1 8 26 0,ld' false 1 26 27 1,o3 (.bin .leq (.tmp 27) (ci' 17)) 28 3,mv' 28 25 7]
def ywq:LO:=[mv' 0 29 0,ld' true 2 8 30 0,mv' 2 31 0,cl' 236 [29,30,31] 32 7,mv' 1 33 0,o3 (.bin .add (.tmp 33) (ci' 1)) 34 16,mv' 32 6 15,mv' 34 7 127]
def yxx:LO:=[fa' 0 1 8 36 0,ld' false 1 36 37 1,o3 (.bin .leq (.tmp 37) (ci' 19)) 38 3,mv' 38 35 7]
def yym:LO:=[mv' 0 40 0,mv' 1 41 0,o3 (.bin .add (.tmp 41) (ci' 1)) 42 2,mv' 2 43 0,cl' 220 [40,42,43] 44 15,mv' 44 39 31,xt' 39 0 45 63,xt' 39 1 46 63,mv' 45 6 127,mv' 46 7 511]
def yxk:LO:=[fa' 0 1 8 47 0,ld' false 1 47 48 1,mv' 6 49 0,cl' 237 [48,49] 50 7,mv' 7 51 0,mv' 50 6 15,mv' 51 7 63]
def yyj:LO:=[fa' 0 1 8 53 0,ld' false 1 53 54 1,o3 (.bin .leq (.tmp 54) (ci' 29)) 55 3,mv' 55 52 7]
def yxh:LO:=[mv' 0 56 0,fa' 0 1 8 57 0,ld' false 1 57 58 2,mv' 1 59 0,cl' 238 [56,58,59] 60 15,xt' 60 0 61 31,xt' 60 1 62 31,mv' 61 6 127,mv' 62 7 255]
def yyb:LO:=[fa' 0 1 8 64 0,ld' false 1 64 65 1,o3 (.bin .leq (.tmp 65) (ci' 42)) 66 3,mv' 66 63 7]
def yqc:LO:=[mv' 0 68 0,mv' 1 69 0,o3 (.bin .add (.tmp 69) (ci' 1)) 70 2,mv' 2 71 0,cl' 220 [68,70,71] 72 15,mv' 72 67 31,xt' 67 0 73 63,xt' 67 1 74 63,mv' 73 9 127,mv' 74 10 511]
def yqk:LO:=[mv' 0 76 0,mv' 10 77 0,mv' 2 78 0,cl' 220 [76,77,78] 79 7,mv' 79 75 15,xt' 75 0 80 31,xt' 75 1 81 31,mv' 80 11 63,mv' 81 12 255]
def yqh:LO:=[fa' 0 1 8 82 0,ld' false 1 82 83 1,mv' 9 84 0,mv' 11 85 0,cl' 239 [83,84,85] 86 15,mv' 12 87 0,mv' 86 6 31,mv' 87 7 127]
def yoy:LO:=[mv' 0 89 0,mv' 1 90 0,o3 (.bin .add (.tmp 90) (ci' 1)) 91 2,mv' 2 92 0,cl' 220 [89,91,92] 93 15,mv' 93 88 31,xt' 88 0 94 63,xt' 88 1 95 63,mv' 94 13 127,mv' 95 14 511]
def ypp:LO:=[mv' 0 97 0,mv' 14 98 0,mv' 2 99 0,cl' 220 [97,98,99] 100 7,mv' 100 96 15,xt' 96 0 101 31,xt' 96 1 102 31,mv' 101 15 63,mv' 102 16 255]
def yph:LO:=[mv' 0 104 0,mv' 16 105 0,mv' 2 106 0,cl' 220 [104,105,106] 107 7,mv' 107 103 15,xt' 103 0 108 31,xt' 103 1 109 31,mv' 108 17 63,mv' 109 7 255]
def ypz:LO:=[mv' 13 110 0,o3 (.bin .neq (.tmp 110) (ci' 0)) 111 1]
def yqd:LO:=[mv' 15 112 0,mv' 7 113 0,mv' 112 6 1,mv' 113 7 7]
def ypu:LO:=[mv' 17 114 0,mv' 7 115 0,mv' 114 6 1,mv' 115 7 7]
def c220:SC:=(.seq (.reg false yyl) (.seq (.reg false yyk) (.seq (.block 0 (.seq (.reg false ywt) (.cond (.tmp 25) (.seq (.reg false ywq) .ret) (.seq (.reg false yxx) (.cond (.tmp 35) (.seq (.reg false yym) (.seq (.reg false yxk) .ret)) (.seq (.reg false yyj) (.cond (.tmp 52) (.seq (.reg false yxh) .ret) (.seq (.reg false yyb) (.cond (.tmp 63) (.seq (.reg false yqc) (.seq (.reg false yqk) (.seq (.reg false yqh) .ret))) .skip))))))))) (.seq (.reg false yoy) (.seq (.reg false ypp) (.seq (.reg false yph) (.seq (.seq (.reg false ypz) (.cond (.tmp 111) (.seq (.reg false yqd) .ret) .skip)) (.seq (.reg false ypu) .ret))))))))
theorem yvq:Fn 220 c220 [.t 6,.t 7]:=fn_0 Tryz.func220 (by kernel_rfl) (by kernel_rfl)
def ycmk:LO:=[o3 (.box 240 (.tmp 1)) 4 0,o3 (.mv (ci' 0)) 6 0]
def ycur:LO:=[fa' 0 1 4 7 0,ld' false 1 7 8 1]
def ycuc:LO:=[o3 (.bin .eql (.tmp 8) (ci' 1)) 10 0,mv' 10 9 1]
def ycwz:LO:=[fa' 1 1 4 11 0,ld' false 1 11 12 1,mv' 12 6 3]
def ycmz:LO:=[o3 (.bin .eql (.tmp 8) (ci' 2)) 14 0,mv' 14 13 1]
def ycxs:LO:=[o3 (.mv (ci' 1)) 6 0]
def yclv:LO:=[o3 (.bin .eql (.tmp 8) (ci' 3)) 16 0,mv' 16 15 1]
def yczz:LO:=[o3 (.mv (ci' 0)) 6 0]
def ycqa:LO:=[o3 (.bin .eql (.tmp 8) (ci' 4)) 18 0,mv' 18 17 1]
def ycpr:LO:=[o3 (.mv (.const (.int .i64 (-1)))) 6 0]
def ybss:LO:=[o3 (.bin .eql (.tmp 8) (ci' 5)) 20 0,mv' 20 19 1]
def ybuo:LO:=[mv' 0 21 0,o3 (.nilck (.tmp 21)) 22 1,fa' 1 1 22 23 3,ld' false 1 23 24 7,mv' 0 25 0,o3 (.nilck (.tmp 25)) 26 16,fa' 2 1 26 27 48,ld' false 1 27 28 112,ix' 1 24 28 29 255,ld' false 1 29 30 511,fa' 1 1 4 31 0,ld' false 1 31 32 1024,ix' 1 30 32 33 4095,ld' false 1 33 34 8191,mv' 34 6 16383]
def ybrj:LO:=[o3 (.bin .eql (.tmp 8) (ci' 12)) 36 0,mv' 36 35 1]
def ybrw:LO:=[mv' 0 37 0,o3 (.nilck (.tmp 37)) 38 1,fa' 1 1 38 39 3,ld' false 1 39 40 7,mv' 0 41 0,o3 (.nilck (.tmp 41)) 42 16,fa' 0 1 42 43 48,ld' false 1 43 44 112,o3 (.nilck (.tmp 44)) 45 240,fa' 3 2 45 46 496,fa' 1 1 46 47 1008,ld' false 1 47 48 2032,mv' 0 49 0,o3 (.nilck (.tmp 49)) 50 4096,fa' 2 1 50 51 12288,ld' false 1 51 52 28672,ix' 1 48 52 53 65520,ld' false 1 53 54 131056,mv' 2 55 0,ix' 2 54 55 56 524272,fa' 0 1 56 57 1048560,ld' false 1 57 58 2097136,ix' 1 40 58 59 4194303,ld' false 1 59 60 8388607,fa' 1 1 4 61 0,ld' false 1 61 62 16777216,ix' 1 60 62 63 67108863,ld' false 1 63 64 134217727,mv' 64 6 268435455]
def yccp:LO:=[mv' 0 65 0,o3 (.nilck (.tmp 65)) 66 1,fa' 0 1 66 67 3,ld' false 1 67 68 7,fa' 0 1 4 69 0,ld' false 1 69 70 16,mv' 0 71 0,o3 (.nilck (.tmp 71)) 72 64,fa' 2 1 72 73 192,ld' false 1 73 74 448,mv' 2 75 0,cl' 255 [68,70,74,75] 76 2047,mv' 76 6 4095]
def c236:SC:=(.seq (.reg false ycmk) (.seq (.seq (.reg false ycur) (.block 0 (.seq (.reg false ycuc) (.cond (.tmp 9) (.seq (.reg false ycwz) .ret) (.seq (.reg false ycmz) (.cond (.tmp 13) (.seq (.reg false ycxs) .ret) (.seq (.reg false yclv) (.cond (.tmp 15) (.seq (.reg false yczz) .ret) (.seq (.reg false ycqa) (.cond (.tmp 17) (.seq (.reg false ycpr) .ret) (.seq (.reg false ybss) (.cond (.tmp 19) (.seq (.reg true ybuo) .ret) (.seq (.reg false ybrj) (.cond (.tmp 35) (.seq (.reg true ybrw) .ret) .skip)))))))))))))) (.seq (.reg true yccp) .ret)))
theorem ydfz:Fn 236 c236 [.t 6]:=fn_0 Tryz.func236 (by kernel_rfl) (by kernel_rfl)
def ycxr:LO:=[o3 (.mv (ci' 0)) 6 0,o3 (.mv (ci' 0)) 7 1]
def yckb:LO:=[o3 (.alloc 256 24 [.i .i64 0]) 8 0]
def ycxm:LO:=[mv' 0 11 0,o3 (.nilck (.tmp 11)) 12 1,fa' 0 1 12 13 3,ld' false 1 13 14 7,o3 (.nilck (.tmp 14)) 15 15,fa' 3 2 15 16 31,fa' 1 1 16 17 63,ld' false 1 17 18 127,mv' 0 19 0,o3 (.nilck (.tmp 19)) 20 256,fa' 2 1 20 21 768,ld' false 1 21 22 1792,ix' 1 18 22 23 4095,ld' false 1 23 24 8191,ln' 24 25 16383,mv' 25 9 32767]
def ycpl:LO:=[mv' 9 26 0,o3 (.mv (ci' 0)) 27 0]
def yclh:LO:=[bn' .lss 27 26 28 0]
def ycsy:LO:=[mv' 27 29 0,mv' 29 10 1]
def ycrq:LO:=[mv' 10 31 0,mv' 0 32 0,mv' 2 33 0,o3 (.bin .add (.tmp 33) (ci' 1)) 34 4,mv' 10 35 0,cl' 220 [32,34,35] 36 30,mv' 36 30 62,xt' 30 0 37 126,xt' 30 1 38 126,o3 (.idxA 24 1 (.tmp 8) (.tmp 31)) 39 255,o0 (.store 1 (.tmp 39) (.tmp 37)) 767,mv' 38 7 2047]
def ycqb:LO:=[o3 (.bin .add (.tmp 27) (ci' 1)) 40 0,mv' 40 27 1]
def ycou:LO:=[mv' 9 41 0,o3 (.bin .eql (.tmp 41) (ci' 0)) 42 1]
def ycup:LO:=[mv' 0 43 0,o3 (.nilck (.tmp 43)) 44 1,fa' 3 1 44 45 3,ld' false 1 45 46 7,mv' 2 47 0,cl' 231 [46,47] 48 31,mv' 48 7 63]
def ybyq:LO:=[mv' 1 49 0,mv' 9 50 0,o3 (.cutA 24 1 (.tmp 8) none (some (.tmp 50))) 51 2,cl' 257 [49,51] 52 7,mv' 7 53 0,mv' 52 6 15,mv' 53 7 63]
def c238:SC:=(.seq (.reg false ycxr) (.seq (.reg false yckb) (.seq (.reg true ycxm) (.seq (.seq (.reg false ycpl) (.block 0 (.loop (.seq (.reg false yclh) (.seq (.cond (.tmp 28) .skip (.exit 0)) (.seq (.block 1 (.seq (.reg false ycsy) (.reg false ycrq))) (.reg false ycqb))))))) (.seq (.seq (.reg false ycou) (.cond (.tmp 42) (.reg false ycup) .skip)) (.seq (.reg false ybyq) .ret))))))
theorem ydic:Fn 238 c238 [.t 6,.t 7]:=fn_0 Tryz.func238 (by kernel_rfl) (by kernel_rfl)
end Sh
end
section
def adj(g:Gr)(u v:Nat):Prop:=∃ls,g.ports[u]?=some ls/\∃l∈ls,l.1=(v:Int)
def Walk(g:Gr)(a:Nat):Nat->Nat->Prop
 |0,v=>v=a
 |k+1,v=>∃u,Walk g a k u/\adj g u v
def yyq(g:Gr)(a v:Nat)(x:Int):Prop:=(x = -1/\∀k,¬Walk g a k v)\/∃k:Nat,x=k/\Walk g a k v/\∀j,j<k->¬Walk g a j v
def yuq(g:Gr)(a:Nat)(D:List Int):Prop:=D.length=g.ports.length/\∀v x,D[v]?=some x->yyq g a v x
theorem yyq.unique{g:Gr}{a v:Nat}{x y:Int}(h:yyq g a v x)(h':yyq g a v y):x=y:=by
 rcases h with⟨rfl,h1⟩|⟨k,rfl,h1,h2⟩<;>rcases h' with⟨rfl,h3⟩|⟨j,rfl,h3,h4⟩
 .rfl
 .exact absurd h3 (h1 j)
 .exact absurd h1 (h3 k)
 .rcases zAY k j with h|h|h
  .exact absurd h1 (h4 k h)
  .rw[h]
  .exact absurd h3 (h2 j h)
theorem yuq.unique{g:Gr}{a:Nat}{D D':List Int}(h:yuq g a D)(h':yuq g a D'):D=D':=by
 apply zBD (by rw[h.1,h'.1])
 intro i h1 h2;exact(h.2 i _ (zB h1)).unique (h'.2 i _ (zB h2))
theorem ybe.link{g:Gr}(h:ybe g){v:Nat}{ls:List (Int×Int)}(hv:g.ports[v]?=some ls){l:Int×Int}(hl:l∈ls):0<=l.1/\l.1<g.ports.length/\l.1≠v/\1<=l.2/\l.2<=15:=by
 obtain⟨hlt,e⟩:=List.getElem?_eq_some_iff.1 hv;have:=(h.2.2.2.2.2.1 ⟨v,hlt⟩).1 l (by simp only[Fin.getElem_fin,e];exact hl)
 unfold yiu at this;simp only at this;omega
theorem ybe.adj_lt{g:Gr}(h:ybe g){u v:Nat}(ha:adj g u v):u<g.ports.length/\v<g.ports.length:=by
 obtain⟨ls,h1,l,hl,e⟩:=ha;have:=h.link h1 hl;exact⟨(List.getElem?_eq_some_iff.1 h1).1,by omega⟩
theorem ybe.adj_symm{g:Gr}(h:ybe g){u v:Nat}(ha:adj g u v):adj g v u:=by
 obtain⟨hu,hv⟩:=h.adj_lt ha;obtain⟨ls,h1,l,hl,e⟩:=ha;obtain⟨hlt,e1⟩:=List.getElem?_eq_some_iff.1 h1;have:=h.2.2.2.2.2.2 ⟨u,hlt⟩ l (by simp only[Fin.getElem_fin,e1];exact hl)
 rw[e,zI]at this;simp only[zH,zB hv,Option.getD_some]at this;exact⟨_,zB hv,_,this,rfl⟩
structure BfsInv(g:Gr)(a:Nat)(R:List Int)(Q:List Nat):Prop where
 len:R.length=g.ports.length
 src:R[a]?=some 0
 val:∀(v:Nat) (x:Int),R[v]?=some x->x = -1\/∃k:Nat,x=k/\Walk g a k v/\∀j,j<k->¬Walk g a j v
 qin:∀q∈Q,∃k:Nat,R[q]?=some (k:Int)
 sorted:Q.Pairwise (fun p q=>∀x y,R[p]?=some x->R[q]?=some y->x<=y/\y<=x+1)
 done:∀(v k:Nat),R[v]?=some (k:Int)->v∉Q->∀u,adj g v u->∃j:Nat,R[u]?=some (j:Int)
structure BfsIn(g:Gr)(a v d:Nat)(ls:List (Int×Int))(i:Nat)(R:List Int)(Q:List Nat):Prop where
 len:R.length=g.ports.length
 src:R[a]?=some 0
 val:∀(v:Nat) (x:Int),R[v]?=some x->x = -1\/∃k:Nat,x=k/\Walk g a k v/\∀j,j<k->¬Walk g a j v
 qin:∀q∈Q,∃k:Nat,R[q]?=some (k:Int)
 sorted:Q.Pairwise (fun p q=>∀x y,R[p]?=some x->R[q]?=some y->x<=y/\y<=x+1)
 rv:R[v]?=some (d:Int)
 low:∀q∈Q,∀y,R[q]?=some y->(d:Int)<=y/\y<=d+1
 done:∀(u k:Nat),R[u]?=some (k:Int)->u∉Q->u≠v->∀t,adj g u t->∃j:Nat,R[t]?=some (j:Int)
 part:∀l∈ls.take i,∃j:Nat,R[l.1.toNat]?=some (j:Int)
theorem BfsInv.start{g:Gr}{a:Nat}(ha:a<g.ports.length):BfsInv g a ((zL g.ports.length (-1)).set a 0) [a] where
 len:=by simp
 src:=by simp[ha]
 val := by
  intro v x h;rw[zN]at h;split at h
  .rename_i e
   subst e;simp[ha]at h;subst h;exact .inr ⟨0,rfl,rfl,fun j hj=>absurd hj (by omega)⟩
  .rw[zV]at h;split at h
   .cases h;exact .inl rfl
   .cases h
 qin:=by
  intro q hq;obtain rfl:q=a:=by simpa using hq
  exact⟨0,by simp[ha]⟩
 sorted:=by simp
 done:=by
  intro v k h hv u _;rw[zN]at h;split at h
  .rename_i e
   exact absurd (by simp[e]) hv
  .rw[zV]at h;split at h
   .cases h
   .cases h
theorem BfsInv.pop{g:Gr}{a:Nat}{R:List Int}{v:Nat}{Q:List Nat}(h:BfsInv g a R (v::Q)){d:Nat}(hd:R[v]?=some (d:Int))(ls:List (Int×Int)):BfsIn g a v d ls 0 R Q where
 len:=h.len
 src:=h.src
 val:=h.val
 qin:=fun q hq=>h.qin q (zAC _ hq)
 sorted:=(List.pairwise_cons.1 h.sorted).2
 rv:=hd
 low:=fun q hq y hy=>(List.pairwise_cons.1 h.sorted).1 q hq _ y hd hy
 done:=fun u k hu hq hv t ht=>h.done u k hu (by simp[hq,hv]) t ht
 part:=by simp
theorem BfsIn.finish{g:Gr}{a v d:Nat}{ls:List (Int×Int)}{R:List Int}{Q:List Nat}(h:BfsIn g a v d ls ls.length R Q)(hls:g.ports[v]?=some ls):BfsInv g a R Q where
 len:=h.len
 src:=h.src
 val:=h.val
 qin:=h.qin
 sorted:=h.sorted
 done:=by
  intro u k hu hq t ht
  by_cases e:u=v
  .subst e;obtain⟨ls',h1,l,hl,e2⟩:=ht;rw[hls]at h1;cases h1
   have:=h.part l (by rw[zU];exact hl)
   rwa [e2,zI]at this
  .exact h.done u k hu hq e t ht
theorem BfsIn.skip{g:Gr}{a v d:Nat}{ls:List (Int×Int)}{i:Nat}{R:List Int}{Q:List Nat}(h:BfsIn g a v d ls i R Q)(hi:i<ls.length){j:Nat}(hj:R[ls[i].1.toNat]?=some (j:Int)):BfsIn g a v d ls (i+1) R Q :=
 ⟨h.len,h.src,h.val,h.qin,h.sorted,h.rv,h.low,h.done,by
   intro l hl;rw[take_snoc ls i hi]at hl;rcases List.mem_append.1 hl with hl|hl
   .exact h.part l hl
   .obtain rfl:l=ls[i]:=by simpa using hl
    exact⟨j,hj⟩⟩
theorem BfsIn.found{g:Gr}{a v d:Nat}{ls:List (Int×Int)}{i:Nat}{R:List Int}{Q:List Nat}(h:BfsIn g a v d ls i R Q) :
 ∀k,k<=d->∀t,Walk g a k t->∃j:Nat,R[t]?=some (j:Int):=by
 intro k
 induction k with
 |zero=>intro _ t ht;obtain rfl:t=a:=ht;exact⟨0,h.src⟩
 | succ k ih =>
   intro hk t ⟨p,hp,hpt⟩;obtain⟨j,hj⟩:=ih (by omega) p hp
   have hjk:j<=k:=by
    rcases h.val p _ hj with e|⟨k',e,_,hmin⟩
    .omega
    .have:j=k':=by omega
     subst this;rcases zBR k j with hlt|hge
     .exact absurd hp (hmin k hlt)
     .exact hge
   refine h.done p j hj ?_ ?_ t hpt
   .intro hq;have:=(h.low p hq _ hj).1;omega
   .rintro rfl;have e1:=h.rv;rw[hj]at e1;have e2:=Option.some.inj e1;omega
theorem BfsIn.discover{g:Gr}{a v d:Nat}{ls:List (Int×Int)}{i:Nat}{R:List Int}{Q:List Nat}(h:BfsIn g a v d ls i R Q)(hls:g.ports[v]?=some ls)(hi:i<ls.length){u:Nat}(hu:ls[i].1=(u:Int))(hR:R[u]?=some (-1)) :
 BfsIn g a v d ls (i+1) (R.set u ((d:Int)+1)) (Q++[u]):=by
 have hul:u<R.length:=(List.getElem?_eq_some_iff.1 hR).1
 have hne:∀t (k:Nat),R[t]?=some (k:Int)->t≠u:=by
  rintro t k ht rfl;rw[hR]at ht;have:=Option.some.inj ht;omega
 have hset:∀t,t≠u->(R.set u ((d:Int)+1))[t]?=R[t]?:=fun t ht=>by rw[zN,if_neg (by omega)]
 have hsu:(R.set u ((d:Int)+1))[u]?=some ((d:Int)+1):=by rw[zN,if_pos rfl,if_pos hul]
 have keep:∀t:Nat,(∃j:Nat,R[t]?=some (j:Int))->∃j:Nat,(R.set u ((d:Int)+1))[t]?=some (j:Int):=by
  rintro t ⟨j,hj⟩;exact⟨j,by rw[hset t (hne t j hj)];exact hj⟩
 have hadj:adj g v u:=⟨ls,hls,ls[i],zQ hi,hu⟩
 have hnq:u∉Q:=fun hq=>by
  obtain⟨k,hk⟩:=h.qin u hq;exact hne u k hk rfl
 refine⟨by simp[h.len],?_,?_,?_,?_,?_,?_,?_,?_⟩
 .rw[hset a (hne a 0 h.src)];exact h.src
 .intro t x hx
  by_cases e:t=u
  .subst e;rw[hsu]at hx;cases hx
   refine .inr ⟨d+1,by omega,?_,?_⟩
   .rcases h.val v _ h.rv with e|⟨k,e,hk,_⟩
    .omega
    .have:d=k:=by omega
     subst this;exact⟨v,hk,hadj⟩
   .intro j hj hw;obtain⟨k,hk⟩:=h.found j (by omega) t hw
    exact hne t k hk rfl
  .rw[hset t e]at hx;exact h.val t x hx
 .intro q hq;rcases List.mem_append.1 hq with hq|hq
  .exact keep q (h.qin q hq)
  .obtain rfl:q=u:=by simpa using hq
   exact⟨d+1,by rw[hsu];rfl⟩
 .rw[List.pairwise_append];refine⟨?_,by simp,?_⟩
  .refine(List.Pairwise.and_mem.1 h.sorted).imp ?_;rintro p q ⟨hp,hq,hpq⟩ x y hx hy;rw[hset p (fun e=>hnq (e▸hp))]at hx;rw[hset q (fun e=>hnq (e▸hq))]at hy;exact hpq x y hx hy
  .intro p hp q hq x y hx hy;obtain rfl:q=u:=by simpa using hq
   rw[hset p (fun e=>hnq (e▸hp))]at hx;rw[hsu]at hy;cases hy
   have:=h.low p hp x hx;omega
 .rw[hset v (hne v d h.rv)];exact h.rv
 .intro q hq y hy;rcases List.mem_append.1 hq with hq|hq
  .rw[hset q (fun e=>hnq (e▸hq))]at hy;exact h.low q hq y hy
  .obtain rfl:q=u:=by simpa using hq
   rw[hsu]at hy;cases hy
   omega
 .intro t k ht hq hv s hs;have htu:t≠u:=fun e=>hq (by simp[e])
  rw[hset t htu]at ht;exact keep s (h.done t k ht (fun hh=>hq (zAN _ hh)) hv s hs)
 .intro l hl;rw[take_snoc ls i hi]at hl;rcases List.mem_append.1 hl with hl|hl
  .exact keep _ (h.part l hl)
  .obtain rfl:l=ls[i]:=by simpa using hl
   rw[hu,zI];exact⟨d+1,by rw[hsu];rfl⟩
theorem BfsInv.isDist{g:Gr}{a:Nat}{R:List Int}(h:BfsInv g a R []):yuq g a R:=by
 have found:∀k t,Walk g a k t->∃j:Nat,R[t]?=some (j:Int):=by
  intro k
  induction k with
  |zero=>intro t ht;obtain rfl:t=a:=ht;exact⟨0,h.src⟩
  | succ k ih =>
    intro t ⟨p,hp,hpt⟩;obtain⟨j,hj⟩:=ih p hp;exact h.done p j hj (by simp) t hpt
 refine⟨h.len,fun v x hx=>?_⟩;rcases h.val v x hx with rfl|h1
 .refine .inl ⟨rfl,fun k hk=>?_⟩;obtain⟨j,hj⟩:=found k v hk;rw[hx]at hj;have:=Option.some.inj hj;omega
 .exact .inr h1
def ycp(R:List Int):Nat:=R.countP (fun x=>decide (x<0))
theorem yvk{R:List Int}{u:Nat}{x:Int}(hR:R[u]?=some (-1))(hx:0<=x):ycp (R.set u x)+1=ycp R:=by
 obtain⟨hlt,e⟩:=List.getElem?_eq_some_iff.1 hR;have h1:R=R.take u++R[u]::R.drop (u+1):=by rw[List.getElem_cons_drop,List.take_append_drop]
 have h2:R.set u x=R.take u++x::R.drop (u+1):=by rw[List.set_eq_take_append_cons_drop,if_pos hlt]
 have hx':decide (x<0)=false:=by simp;omega
 unfold ycp;rw[h2]
 conv=>rhs;rw[h1]
 rw[zAQ,zAQ,zBE,zBE,e,hx'];simp;omega
end
section
def yll(R:List Int)(x:Int)(ls:List (Int×Int)):Bool:=ls.any (fun l=>decide (R[l.1.toNat]?=some x))
def yry(g:Gr)(d:Int)(R:List Int)(v:Nat):List Int :=
 if decide (R.getD v 0<0)&&yll R (d-1) (g.ports.getD v [])then R.set v d else R
def stepD(g:Gr)(R:List Int)(d:Nat):List Int:=(zT g.ports.length).foldl (yry g d) R
def start(g:Gr)(a:Nat):List Int:=(zL g.ports.length (-1)).set a 0
def ybt(g:Gr)(a:Nat):List Int:=(zT (g.ports.length-1)).foldl (fun R d=>stepD g R (d+1)) (start g a)
def Upto(g:Gr)(a d v:Nat)(x:Int):Prop:=(x = -1/\∀k,k<=d->¬Walk g a k v)\/∃k:Nat,k<=d/\x=k/\Walk g a k v/\∀j,j<k->¬Walk g a j v
theorem Upto.eq{g:Gr}{a d v:Nat}{x:Int}(h:Upto g a d v x){k:Nat}(hk:k<=d):x=k↔Walk g a k v/\∀j,j<k->¬Walk g a j v:=by
 rcases h with⟨rfl,h1⟩|⟨i,hi,rfl,h1,h2⟩
 .exact⟨fun e=>by omega,fun e=>absurd e.1 (h1 k hk)⟩
 .constructor
  .intro e;obtain rfl:i=k:=by omega
   exact⟨h1,h2⟩
  .rintro⟨h3,h4⟩;rcases zAY i k with h|h|h
   .exact absurd h1 (h4 i h)
   .omega
   .exact absurd h3 (h2 k h)
theorem Upto.more{g:Gr}{a d v:Nat}{x:Int}(h:Upto g a d v x)(hx:0<=x):Upto g a (d+1) v x:=by
 rcases h with⟨rfl,h1⟩|⟨i,hi,rfl,h1,h2⟩
 .omega
 .exact .inr ⟨i,by omega,rfl,h1,h2⟩
structure LayerInv(g:Gr)(a d v:Nat)(R:List Int):Prop where
 len:R.length=g.ports.length
 new:∀(u:Nat) (x:Int),R[u]?=some x->u<v->Upto g a (d+1) u x
 old:∀(u:Nat) (x:Int),R[u]?=some x->v<=u->Upto g a d u x
theorem LayerInv.at_{g:Gr}{a d v:Nat}{R:List Int}(h:LayerInv g a d v R){u:Nat}(hu:u<g.ports.length):R[u]?=some (d:Int)↔Walk g a d u/\∀j,j<d->¬Walk g a j u:=by
 have hl:=h.len;have e:R[u]?=some R[u]:=zB (by omega)
 have hx:R[u]=(d:Int)↔Walk g a d u/\∀j,j<d->¬Walk g a j u:=by
  by_cases hv:u<v
  .exact(h.new u _ e hv).eq (by omega)
  .exact(h.old u _ e (by omega)).eq (by omega)
 rw[e]
 simpa using hx
theorem LayerInv.step{g:Gr}(hg:ybe g){a d v:Nat}{R:List Int}(h:LayerInv g a d v R)(hv:v<g.ports.length):LayerInv g a d (v+1) (yry g ((d:Int)+1) R v):=by
 have hlen:=h.len;have ev:R[v]?=some R[v]:=zB (by omega)
 have eg:R.getD v 0=R[v]:=by simp[zH,ev]
 have ep:g.ports.getD v []=g.ports[v]:=by simp[zH,zB hv]
 have hhas:yll R ((d:Int)+1-1) g.ports[v]=true↔∃u,adj g u v/\Walk g a d u/\∀j,j<d->¬Walk g a j u:=by
  unfold yll;rw[zBF];constructor
  .rintro⟨l,hl,h1⟩;have hlk:=hg.link (zB hv) hl;have h1:=of_decide_eq_true h1;rw[show(d:Int)+1-1=d by omega]at h1
   refine⟨l.1.toNat,hg.adj_symm ⟨_,zB hv,l,hl,by omega⟩,?_⟩
   exact(h.at_ (by omega)).1 h1
  .rintro⟨u,hu,hw⟩;obtain⟨hu1,_⟩:=hg.adj_lt hu;obtain⟨ls,h1,l,hl,e⟩:=hg.adj_symm hu;rw[zB hv]at h1;cases h1
   refine⟨l,hl,decide_eq_true ?_⟩;rw[e,zI,show(d:Int)+1-1=d by omega]
   exact(h.at_ hu1).2 hw
 have hov:=h.old v _ ev (zF _);unfold yry;rw[eg,ep]
 by_cases c1:R[v]<0
 .have hx:R[v] = -1/\∀k,k<=d->¬Walk g a k v:=by
   rcases hov with h1|⟨k,_,e,_⟩
   .exact h1
   .omega
  by_cases c2:yll R ((d:Int)+1-1) g.ports[v]=true
  .rw[if_pos (by rw[zJ];exact⟨decide_eq_true c1,c2⟩)]
   obtain⟨p,hp,hw,_⟩:=hhas.1 c2;have hset:∀t,t≠v->(R.set v ((d:Int)+1))[t]?=R[t]?:=fun t ht=>by rw[zN,if_neg (by omega)]
   refine⟨by simp[hlen],fun u x hu huv=>?_,fun u x hu huv=>?_⟩
   .by_cases e:u=v
    .subst e;rw[zN,if_pos rfl,if_pos (by omega)]at hu
     cases hu
     exact .inr ⟨d+1,zF _,by omega,⟨p,hw,hp⟩,fun j hj=>hx.2 j (by omega)⟩
    .rw[hset u e]at hu;exact h.new u x hu (by omega)
   .rw[hset u (by omega)]at hu
    exact h.old u x hu (by omega)
  .rw[if_neg (fun e=>c2 (zJ _ _▸e).2)];refine⟨hlen,fun u x hu huv=>?_,fun u x hu huv=>h.old u x hu (by omega)⟩
   by_cases e:u=v
   .subst e;rw[ev]at hu;cases hu
    refine .inl ⟨hx.1,fun k hk hw=>?_⟩;rcases zBR d k with hlt|hge
    .obtain rfl:k=d+1:=by omega
     obtain⟨p,hp,hpv⟩:=hw;refine c2 (hhas.2 ⟨p,hpv,hp,fun j hj hw'=>hx.2 (j+1) (by omega) ⟨p,hw',hpv⟩⟩)
    .exact hx.2 k hge hw
   .exact h.new u x hu (by omega)
 .rw[if_neg (by simp[c1])]
  refine⟨hlen,fun u x hu huv=>?_,fun u x hu huv=>h.old u x hu (by omega)⟩
  by_cases e:u=v
  .subst e;exact(h.old u x hu (zF _)).more (by rw[ev]at hu;cases hu;omega)
  .exact h.new u x hu (by omega)
theorem yxm{g:Gr}(hg:ybe g){a d:Nat}{R:List Int}(h:LayerInv g a d 0 R):∀v,v<=g.ports.length->LayerInv g a d v ((zT v).foldl (yry g ((d:Int)+1)) R)
 |0,_=>h
 | v+1,hv=>by
   rw[zAD,zS];exact(yxm hg h v (by omega)).step hg (by omega)
def yzz(g:Gr)(a d:Nat)(R:List Int):Prop:=R.length=g.ports.length/\∀(u:Nat) (x:Int),R[u]?=some x->Upto g a d u x
theorem ybqr{g:Gr}{a:Nat}(ha:a<g.ports.length):yzz g a 0 (start g a):=by
 refine⟨by simp[start],fun u x hu=>?_⟩
 unfold start at hu;rw[zN]at hu;split at hu
 .rename_i e
  subst e;simp[ha]at hu;subst hu;exact .inr ⟨0,zF _,rfl,rfl,fun j hj=>absurd hj (by omega)⟩
 .rename_i e
  rw[zV]at hu;split at hu
  .cases hu
   refine .inl ⟨rfl,fun k hk hw=>?_⟩;obtain rfl:k=0:=by omega
   exact e hw.symm
  .cases hu
theorem ybpf{g:Gr}(hg:ybe g){a d:Nat}{R:List Int}(h:yzz g a d R):yzz g a (d+1) (stepD g R (d+1)):=by
 have h0:LayerInv g a d 0 R:=⟨h.1,fun _ _ _ hu=>absurd hu (by omega),fun u x hu _=>h.2 u x hu⟩
 have h1:=yxm hg h0 g.ports.length (zF _);unfold stepD;rw[show((d+1:Nat):Int)=(d:Int)+1 by omega]
 exact⟨h1.len,fun u x hu=>h1.new u x hu (by rw[<-h1.len];exact(List.getElem?_eq_some_iff.1 hu).1)⟩
theorem ytw{g:Gr}(hg:ybe g){a:Nat}(ha:a<g.ports.length):∀d,yzz g a d ((zT d).foldl (fun R d=>stepD g R (d+1)) (start g a))
 |0=>ybqr ha
 |d+1=>by rw[zAD,zS];exact ybpf hg (ytw hg ha d)
theorem chain{g:Gr}{a:Nat}:∀k v,Walk g a k v->(∀j,j<k->¬Walk g a j v)->∃f:Nat->Nat,∀j,j<=k->Walk g a j (f j)/\∀i,i<j->¬Walk g a i (f j)
 | 0,v,h,_=>⟨fun _=>v,fun j hj=>by obtain rfl:j=0:=by omega
                                   exact⟨h,fun i hi=>absurd hi (by omega)⟩⟩
 | k + 1,v,h,hm=>by
   obtain⟨p,hp,hpv⟩:=h;obtain⟨f,hf⟩:=chain k p hp (fun j hj hw=>hm (j+1) (by omega) ⟨p,hw,hpv⟩)
   refine⟨fun j=>if j<=k then f j else v,fun j hj=>?_⟩
   by_cases hjk:j<=k
   .simp only[if_pos hjk];exact hf j hjk
   .obtain rfl:j=k+1:=by omega
    simp only[if_neg hjk];exact⟨⟨p,hp,hpv⟩,hm⟩
theorem walk_lt{g:Gr}(hg:ybe g){a:Nat}(ha:a<g.ports.length):∀k v,Walk g a k v->v<g.ports.length
 |0,v,h=>by obtain rfl:v=a:=h;exact ha
 |k+1,v,h=>by obtain⟨u,_,hu⟩:=h;exact(hg.adj_lt hu).2
theorem least_walk{g:Gr}{a v:Nat}:∀k,Walk g a k v->∃j,j<=k/\Walk g a j v/\∀i,i<j->¬Walk g a i v:=by
 intro k
 induction k using Nat.strongRecOn with
 | _ k ih =>
   intro hw
   by_cases h:∃j,j<k/\Walk g a j v
   .obtain⟨j,hj,hwj⟩:=h;obtain⟨i,hi,r⟩:=ih j hj hwj;exact⟨i,by omega,r⟩
   .exact⟨k,zF _,hw,fun i hi hwi=>h ⟨i,hi,hwi⟩⟩
theorem yuj{g:Gr}(hg:ybe g){a v k:Nat}(ha:a<g.ports.length)(h:Walk g a k v)(hm:∀j,j<k->¬Walk g a j v):k<g.ports.length:=by
 obtain⟨f,hf⟩:=chain k v h hm;have hinj:∀i j,i<j->j<=k->f i≠f j:=fun i j hij hj e=>(hf j hj).2 i hij (by rw[<-e];exact(hf i (by omega)).1)
 have h1:((zT (k+1)).map f).Nodup:=by
  rw[List.Nodup,List.pairwise_map];refine(List.Pairwise.and_mem.1 List.pairwise_lt_range).imp ?_;rintro i j ⟨_,hj,hij⟩;exact hinj i j hij (by simp at hj;omega)
 have h2:(zT (k+1)).map f ⊆ zT g.ports.length:=by
  intro x hx;obtain⟨j,hj,rfl⟩:=List.mem_map.1 hx;simp only[List.mem_range]at hj ⊢;exact walk_lt hg ha j _ (hf j (by omega)).1
 have:=List.Nodup.length_le_of_subset h1 h2;simp at this;omega
theorem ydw{g:Gr}(hg:ybe g){a:Nat}(ha:a<g.ports.length):yuq g a (ybt g a):=by
 obtain⟨h1,h2⟩:=ytw hg ha (g.ports.length-1);refine⟨h1,fun v x hx=>?_⟩;rcases h2 v x hx with⟨rfl,h3⟩|⟨k,_,r⟩
 .refine .inl ⟨rfl,fun k hk=>?_⟩;obtain⟨j,_,hj,hm⟩:=least_walk k hk;have:=yuj hg ha hj hm;exact h3 j (by omega) hj
 .exact .inr ⟨k,r⟩
theorem yuq.bound{g:Gr}(hg:ybe g){a:Nat}(ha:a<g.ports.length){D:List Int}(h:yuq g a D):∀x∈D,-1<=x/\x<=24:=by
 intro x hx;obtain⟨v,hv,rfl⟩:=List.mem_iff_getElem.1 hx;rcases h.2 v _ (zB hv)with⟨e,_⟩|⟨k,e,h1,h2⟩
 .omega
 .have:=yuj hg ha h1 h2;have:=hg.2.1;omega
end
section
def yed(g:Gr):Bool:=yco g&&(ybt g 0).all (fun x=>decide (0<=x))
def ybs(D:List Int):Int:=D.foldl max (-1)
def yru(g:Gr)(v:Int):List Int:=if yco g=true/\0<=v/\v<g.ports.length then ybt g v.toNat else[]
def eccP(g:Gr)(v:Int):Int:=if yed g=true/\0<=v/\v<g.ports.length then ybs (ybt g v.toNat)else -1
def ydj(D:List Int):Int:=if D.all (fun x=>decide (0<=x))=true then ybs D else -1
theorem yqz(D:List Int):∀m:Int,m<=D.foldl max m:=by
 induction D with
 |nil=>intro m;exact Int.le_refl _
 |cons x D ih=>intro m;exact zAR (Int.le_max_left m x) (ih _)
theorem ylv(D:List Int)(k:Nat)(hk:k<D.length):ybs (D.take (k+1))=max (ybs (D.take k)) D[k]:=by
 unfold ybs;rw[take_snoc D k hk,zS];rfl
theorem ybfk(D:List Int)(m:Int)(hm:-1<=m)(h:∀x∈D,x<=m):ybs D<=m:=by
 unfold ybs
 suffices ∀a:Int,a<=m->D.foldl max a<=m from this _ hm
 induction D with
 |nil=>intro a ha;exact ha
 |cons x D ih=>intro a ha;exact ih (fun y hy=>h y (by simp[hy])) _ (Int.max_le.2 ⟨ha,h x (by simp)⟩)
theorem yrf(D:List Int):∀x∈D,x<=ybs D:=by
 unfold ybs
 suffices ∀a:Int,∀x∈D,x<=D.foldl max a from this _
 induction D with
 |nil=>intro a x hx;simp at hx
 | cons y D ih =>
   intro a x hx;rcases List.mem_cons.1 hx with rfl|hx
   .exact zAR (Int.le_max_right a x) (yqz D _)
   .exact ih _ x hx
theorem ygb{g:Gr}(hg:ybe g){a:Nat}(ha:a<g.ports.length):(ybt g a).length=g.ports.length:=(ydw hg ha).1
theorem Walk.trans{g:Gr}{a b:Nat}:∀{j:Nat}{c:Nat}{k:Nat},Walk g a k b->Walk g b j c->Walk g a (k+j) c
 |0,c,k,h1,h2=>by obtain rfl:c=b:=h2;exact h1
 | j+1,c,k,h1,h2=>by
   obtain⟨u,hu,huc⟩:=h2;exact⟨u,Walk.trans h1 hu,huc⟩
theorem Walk.one{g:Gr}{a b:Nat}(h:adj g a b):Walk g a 1 b:=⟨a,rfl,h⟩
theorem Walk.symm{g:Gr}(hg:ybe g){a:Nat}:∀{k:Nat}{b:Nat},Walk g a k b->Walk g b k a
 |0,b,h=>by obtain rfl:b=a:=h;exact rfl
 | k+1,b,h=>by
   obtain⟨u,hu,hub⟩:=h;have:=Walk.trans (Walk.one (hg.adj_symm hub)) (Walk.symm hg hu)
   rwa [Nat.add_comm]at this
theorem ybin{g:Gr}(hg:ybe g){a:Nat}(ha:a<g.ports.length):(ybt g a).all (fun x=>decide (0<=x))=true↔∀v,v<g.ports.length->∃k,Walk g a k v:=by
 have hd:=ydw hg ha;rw[zW];constructor
 .intro h v hv;have hv':v<(ybt g a).length:=by rw[hd.1];exact hv
  rcases hd.2 v _ (zB hv')with⟨e,_⟩|⟨k,_,hk,_⟩
  .have:=of_decide_eq_true (h _ (zQ hv'));omega
  .exact⟨k,hk⟩
 .intro h x hx;obtain⟨v,hv,rfl⟩:=List.mem_iff_getElem.1 hx;obtain⟨k,hk⟩:=h v (by rw[<-hd.1];exact hv)
  rcases hd.2 v _ (zB hv)with⟨e,h1⟩|⟨k,e,_⟩
  .exact absurd hk (h1 k)
  .rw[e];simp
theorem yzg{g:Gr}(hg:ybe g){a b:Nat}(ha:a<g.ports.length)(hb:b<g.ports.length)(h:(ybt g a).all (fun x=>decide (0<=x))=true):(ybt g b).all (fun x=>decide (0<=x))=true:=by
 rw[ybin hg ha]at h;rw[ybin hg hb];intro v hv;obtain⟨k,hk⟩:=h v hv;obtain⟨j,hj⟩:=h b hb;exact⟨_,Walk.trans (Walk.symm hg hj) hk⟩
theorem yvu{g:Gr}(hv:yco g=true){v:Int}(h1:0<=v)(h2:v<g.ports.length):yru g v=ybt g v.toNat:=if_pos ⟨hv,h1,h2⟩
theorem ykw{g:Gr}{v:Int}(h:¬(yco g=true/\0<=v/\v<g.ports.length)):yru g v=[]:=if_neg h
theorem ykf:ydj [] = -1:=rfl
theorem ybmz(g:Gr):decide (0<=ydj (yru g 0))=yed g:=by
 unfold yed;cases hv:yco g with
 | false =>
   rw[ykw (by simp[hv]),ykf]
   rfl
 | true =>
   have hg:=(ych g).1 hv;have hn:=hg.1;rw[yvu hv (by omega) (by omega)]
   unfold ydj;simp only[Int.toNat_zero];cases ha:(ybt g 0).all (fun x=>decide (0<=x))with
   |false=>simp
   | true =>
     have hl:=ygb hg (a:=0) (by omega)
     have h0:(0:Int)<=ybs (ybt g 0):=by
      have hm:(ybt g 0)[0]'(by omega)∈ybt g 0:=zQ _
      exact zAR (of_decide_eq_true (List.all_eq_true.1 ha _ hm)) (yrf _ _ hm)
     simp[h0]
theorem ybsn(g:Gr)(v:Int):ydj (yru g v)=eccP g v:=by
 unfold eccP yed
 by_cases hr:yco g=true/\0<=v/\v<g.ports.length
 .obtain⟨hv,h1,h2⟩:=hr;have hg:=(ych g).1 hv;rw[yvu hv h1 h2,hv];unfold ydj;cases ha:(ybt g v.toNat).all (fun x=>decide (0<=x))with
  | true =>
    have:=yzg hg (a:=v.toNat) (b:=0) (by omega) (by omega) ha
    simp[this,h1,h2]
  | false =>
    have:(ybt g 0).all (fun x=>decide (0<=x))=false:=by
     cases h0:(ybt g 0).all (fun x=>decide (0<=x))with
     |false=>rfl
     | true =>
       have:=yzg hg (a:=0) (b:=v.toNat) (by omega) (by omega) h0
       rw[ha]at this;cases this
    simp[this]
 .rw[ykw hr,ykf,if_neg];intro h;exact hr ⟨(zJ _ _▸h.1).1,h.2⟩
end
section
abbrev Conf:=List (List Int)
abbrev Bounds:=List (Int×Int)
def yvd(bs:Bounds)(s:List Int):Bool:=decide (s.length=bs.length)&&(bs.zip s).all (fun p=>decide (p.1.1<=p.2)&&decide (p.2<=p.1.2))
def yqi(n:Nat)(bs:Nat->Bounds)(c:Conf):Bool:=decide (c.length=n)&&c.zipIdx.all (fun p=>yvd (bs p.2) p.1)
def yeq(bs:Bounds)(s:List Int):Prop:=s.length=bs.length/\∀(i:Nat) b x,bs[i]?=some b->s[i]?=some x->b.1<=x/\x<=b.2
def ybjr(n:Nat)(bs:Nat->Bounds)(c:Conf):Prop:=c.length=n/\∀(v:Nat) s,c[v]?=some s->yeq (bs v) s
theorem yfm(bs:Bounds)(s:List Int):yvd bs s=true↔yeq bs s:=by
 unfold yvd yeq;rw[zJ,decide_eq_true_iff,zW];refine and_congr_right fun _=>⟨fun h i b x hb hx=>?_,fun h p hp=>?_⟩
 .have:=h (b,x) (zG (i:=i) (by simp[zAJ,hb,hx]))
  simpa using this
 .obtain⟨i,hi⟩:=List.mem_iff_getElem?.1 hp;obtain⟨b,x⟩:=p;rw[zAJ]at hi
  simpa using h i b x hi.1 hi.2
theorem yfd(n:Nat)(bs:Nat->Bounds)(c:Conf):yqi n bs c=true↔ybjr n bs c:=by
 unfold yqi ybjr;rw[zJ,decide_eq_true_iff,zW];refine and_congr_right fun _=>⟨fun h v s hs=>?_,fun h p hp=>?_⟩
 .refine(yfm _ _).1 (h (s,v) ?_);rw[zAF];exact hs
 .rw[zAF]at hp;exact(yfm _ _).2 (h p.2 p.1 hp)
theorem yjc{n:Nat}{bs:Nat->Bounds}{c:Conf}(h:¬ybjr n bs c):yqi n bs c=false:=by
 cases hb:yqi n bs c with
 |false=>rfl
 |true=>exact absurd ((yfd n bs c).1 hb) h
theorem yxb{n:Nat}{bs:Nat->Bounds}{c:Conf}(h:ybjr n bs c):yqi n bs c=true:=(yfd n bs c).2 h
def ydio(g:Gr)(v:Nat):Nat:=(g.ports.getD v []).length
def ydq(g:Gr)(G:List Int)(v:Nat):Bounds:=G.map (fun h=>if h = -1 then(-1,(ydio g v:Int)-1)else(0,h))
def ybfv(g:Gr):Int:=g.ids.foldl max 0
end
section
open Go.RowKit
theorem In_t(v lo hi:Int)(w:World)(h1:lo<=v)(h2:v<=hi) :
 Calls zC 134 #[.int .i64 v,.int .i64 lo,.int .i64 hi] w fun e w'=>e = .returned (.bool true)/\w=w':=by
 go_enter zAS,zAO
 go_wp2
 go_ret
 exact⟨rfl,rfl⟩
theorem In_f(v lo hi:Int)(w:World)(h:v<lo\/hi<v) :
 Calls zC 134 #[.int .i64 v,.int .i64 lo,.int .i64 hi] w fun e w'=>e = .returned (.bool false)/\w=w':=by
 by_cases h1:lo<=v
 .have h2:hi<v:=by omega
  go_enter zAS,zAO
  go_wp2
  go_ret
  exact⟨ybj (by simp;omega),rfl⟩
 .go_enter zAS,zAO
  go_wp2
  go_ret
  exact⟨rfl,rfl⟩
theorem yzs(gv:Value)(g:Gr)(v:Nat)(ls:List (Int×Int))(u:Int)(w:World)(hg:GrAt w gv g)(hv:g.ports[v]?=some ls) :
 Calls zC 62 #[gv,.int .i64 v,.int .i64 u] w fun e w'=>e = .returned (.int .i64 (yhh ls u))/\Below w.heap.size w w':=by
 obtain⟨i,p,rfl,_,A,c,rfl,hc1,hc2,hp⟩:=hg;have hvlt:v<g.ports.length:=(List.getElem?_eq_some_iff.1 hv).1;obtain⟨b,off,rfl,hb,hP⟩:=hp (by omega)
 obtain⟨lv,hcell,A2,c2,rfl,hl1,hl2,hL⟩:=hP v ls hv;simp only[zBU]at hcell;have HL:=zA hL;have HP:=zA hP;have Hv:=zA hv
 clear hL hP hv hp
 go_enter Tryz.func62,Tryz.ntmps62
 go_wp2
 go_loop [7] (fun t=>∃k:Nat,k<=ls.length/\t = .int .i64 k/\Hid ((ls.take k).findIdx? (fun l=>l.1==u)=none)) (fun t=>ls.length-(intOf t).toNat)
 case atStart=>exact⟨0,by omega,rfl,zA (by simp)⟩
 case round =>
  obtain⟨k,hk,rfl,hnone⟩:=hrel
  by_cases hlt:k<ls.length
  .obtain⟨b2,off2,rfl,hb2,hE⟩:=HL.out (by omega)
   obtain⟨e1,e2,hw1,hw2⟩:=hE k ls[k] (zB hlt);have HE:=zA hE
   clear hE
   by_cases heq:ls[k].1=u
   .have heq':(ls[k].1==u)=true:=by simp[heq]
    have Hr:=zA (ypk ls u k hlt heq hnone.out)
    clear heq
    go_wp2
    go_ret
    exact⟨yur Hr.out.symm,(Below.refl _ _).alloc (zF _) _⟩
   .have heq':(ls[k].1==u)=false:=by simp[heq]
    have Hr:=zA (yrp ls u k hlt heq hnone.out)
    clear heq
    go_wp2
    go_round
    case rel=>exact⟨k+1,by omega,by go_num,Hr⟩
    case measure=>simp[intOf];omega
  .have hkl:k=ls.length:=by omega
   subst hkl;have Hr:=zA (yus ls u hnone.out)
   go_wp2
   go_ret
   exact⟨yur Hr.out.symm,(Below.refl _ _).alloc (zF _) _⟩
theorem yic(lv:Value)(ls:List (Int×Int))(v n:Int)(w:World)(hl:ybgg w lv ls)(hn:0<=n/\n<=1000) :
 Calls zC 135 #[lv,.int .i64 v,.int .i64 n] w fun e w'=>e = .returned (.bool (ynm ls v n))/\∃m,w'=w.drewN m:=by
 obtain⟨hn1,hn2⟩:=hn;obtain⟨A,c,rfl,hc1,hc2,hL⟩:=hl;have HL:=zA hL
 clear hL
 go_enter Tryz.func135,Tryz.ntmps135
 go_wp2
 go_loopw [7] (fun t wr=>∃k m:Nat,k<=ls.length/\t = .int .i64 k/\wr=w.drewN m/\Hid (ycg (ls.take k) v n)) (fun t _=>ls.length-(intOf t).toNat)
 case atStart=>exact⟨0,0,by omega,rfl,rfl,zA ⟨by simp,by simp⟩⟩
 case round =>
  obtain⟨k,m,hk,rfl,rfl,hok⟩:=hrel
  by_cases hlt:k<ls.length
  .obtain⟨b2,off2,rfl,hb2,hE⟩:=HL.out (by omega)
   obtain⟨e1,e2,⟨hw1,hw1'⟩,⟨hw2,hw2'⟩⟩:=hE k ls[k] (zB hlt);have HE:=zA hE
   clear hE
   have Hsn:=zA (yqs ls v n k hlt);have Hbad:=zA (fun h=>yvv ls v n (k+1) h)
   by_cases c1:0<=ls[k].1/\ls[k].1<=n-1
   .obtain⟨c1a,c1b⟩:=c1
    by_cases c2:ls[k].1=v
    .have c2':(ls[k].1==v)=true:=by simp[c2]
     have Hf:=zA (Hbad.out (fun h=>((Hsn.out.1 h).2.1).2.2.1 c2))
     clear c2
     go_wp2_with (first|(go_at_call 134;refine(In_t _ _ _ _ (by omega) (by omega)).mono ?_;rintro e w' ⟨rfl,rfl⟩))
     go_ret
     exact⟨ybj Hf.out.symm,m,rfl⟩
    .have c2':(ls[k].1==v)=false:=by simp[c2]
     by_cases c3:1<=ls[k].2/\ls[k].2<=15
     .obtain⟨c3a,c3b⟩:=c3;have Hlk:=zA (show yiu v n ls[k]from⟨c1a,c1b,c2,c3a,c3b⟩)
      clear c2
      go_wp2_with (first|(go_at_call 134;refine(In_t _ _ _ _ (by omega) (by omega)).mono ?_;rintro e w' ⟨rfl,rfl⟩))
      go_loopw [8] (fun t wr=>∃j m2:Nat,j<=k/\t = .int .i64 j/\wr=w.drewN m2/\Hid (∀i (hi:i<j) (hj:j<=k),ls[i].1≠ls[k].1)) (fun t _=>k-(intOf t).toNat)
      case atStart=>exact⟨0,m,by omega,rfl,rfl,zA (fun i hi=>absurd hi (by omega))⟩
      case round =>
       obtain⟨j,m2,hj,rfl,rfl,hne⟩:=hrel
       by_cases hjk:j<k
       .obtain⟨f1,f2,_,_⟩:=HE.out j ls[j] (zB (by omega))
        by_cases c4:ls[j].1=ls[k].1
        .have c4':(ls[j].1==ls[k].1)=true:=by simp[c4]
         have Hf:=zA (Hbad.out (fun h=>(Hsn.out.1 h).2.2 j hjk c4))
         clear c4
         go_wp2
         go_quiet (fail)
         go_wp2
         go_ret
         exact⟨ybj Hf.out.symm,_,World.drewN_drewN _ _ _⟩
        .have c4':(ls[j].1==ls[k].1)=false:=by simp[c4]
         have Hc4:=zA c4
         clear c4
         go_wp2
         go_quiet (fail)
         go_wp2
         go_roundw
         case rel =>
          refine⟨j+1,_,by omega,by go_num,rfl,zA (fun i hi hj'=>?_)⟩
          by_cases hij:i<j
          .exact hne.out i hij hj
          .obtain rfl:i=j:=by omega
           exact Hc4.out
         case measure=>simp[intOf];omega
       .obtain rfl:j=k:=by omega
        go_wp2
        go_roundw
        case rel=>exact⟨j+1,_,by omega,by go_num,rfl,zA (Hsn.out.2 ⟨hok.out,Hlk.out,fun i hi=>hne.out i hi (zF _)⟩)⟩
        case measure=>simp[intOf];omega
     .have Hf:=zA (Hbad.out (fun h=>c3 ⟨((Hsn.out.1 h).2.1).2.2.2.1,((Hsn.out.1 h).2.1).2.2.2.2⟩))
      clear c2
      have c3':ls[k].2<1\/15<ls[k].2:=by omega
      clear c3
      go_wp2_with (first|(go_at_call 134;refine(In_t _ _ _ _ (by omega) (by omega)).mono ?_;rintro e w' ⟨rfl,rfl⟩)|(go_at_call 134;refine(In_f _ _ _ _ (by omega)).mono ?_;rintro e w' ⟨rfl,rfl⟩))
      go_ret
      exact⟨ybj Hf.out.symm,m,rfl⟩
   .have Hf:=zA (Hbad.out (fun h=>c1 ⟨((Hsn.out.1 h).2.1).1,((Hsn.out.1 h).2.1).2.1⟩));have c1':ls[k].1<0\/n-1<ls[k].1:=by omega
    clear c1
    go_wp2_with (first|(go_at_call 134;refine(In_f _ _ _ _ (by omega)).mono ?_;rintro e w' ⟨rfl,rfl⟩))
    go_ret
    exact⟨ybj Hf.out.symm,m,rfl⟩
  .obtain rfl:k=ls.length:=by omega
   have Ht:=zA (ywc ls v n hok.out)
   go_wp2
   go_ret
   exact⟨ybj Ht.out.symm,m,rfl⟩
end
section
open Go.RowKit
set_option maxHeartbeats 2000000 in
theorem yhy(gv:Value)(g:Gr)(w:World)(hg:GrAt w gv g) :
 Calls zC 85 #[gv] w fun e w'=>e = .returned (.bool (yco g))/\Below w.heap.size w w':=by
 have hg0:=zA hg;obtain⟨i,p,rfl,hi,hp⟩:=hg;obtain⟨A,c,rfl,hA1,hA2⟩:=ybp hi;obtain⟨A2,c2,rfl,hB1,hB2⟩:=ybp hp;have Hi:=zA hi;have Hp:=zA hp
 clear hi hp
 by_cases n1:1<=g.ports.length/\g.ports.length<=24
 .obtain⟨n1a,n1b⟩ := n1
  by_cases n2:g.ids.length=g.ports.length
  .have n2':((g.ids.length:Int)!=(g.ports.length:Int))=false:=by simp[n2]
   have Hn2:=zA n2;have n2a:g.ids.length<=g.ports.length:=by omega
   have n2b:g.ports.length<=g.ids.length:=by omega
   clear n2
   go_enter zBA,zAT
   go_wp2_with (first|(go_at_call 134;refine(In_t _ _ _ _ (by omega) (by omega)).mono ?_;rintro e w' ⟨rfl,rfl⟩))
   go_loopw [4] (fun t wr=>∃k:Nat,k<=g.ports.length/\t = .int .i64 k/\Hid (Below (w.heap.size+1) (w.alloc (.cells #[.slice A g.ids.length c,.slice A2 g.ports.length c2] 27)) wr)/\Hid (∀v,v<k->V2 g v)) (fun t _=>g.ports.length-(intOf t).toNat)
   case atStart=>exact⟨0,by omega,rfl,zA (Below.refl _ _),zA (fun v hv=>absurd hv (by omega))⟩
   case round =>
    obtain⟨k,hk,rfl,hbel,hv2⟩:=hrel;obtain⟨q0,q1,hbw,hsz⟩:=box2 hbel.out;have Hbw:=zA hbw
    clear hbw
    by_cases hlt:k<g.ports.length
    .obtain⟨b,off,rfl,hb,hcid,hr⟩:=yft (Hi.out.below Stable.int Hbw.out) (show k<g.ids.length by omega)
     obtain⟨b2,off2,lv,rfl,hb2,hcl,hls⟩:=yfv (Hp.out.below (Stable.sl Stable.link) Hbw.out) (zB hlt);obtain⟨A3,c3,rfl,hl1,hl2⟩:=ybp hls;have Hls:=zA hls
     clear hls
     obtain⟨x,hx⟩:∃x,g.ids[k]?=some x:=⟨_,zB (by omega)⟩
     have hxe:g.ids[k]=x:=by have:=zB (l:=g.ids) (i:=k) (by omega);rw[hx]at this;exact(Option.some.inj this).symm
     simp only[hxe]at hcid hr;obtain⟨ls,hle⟩:∃ls,g.ports[k]=ls:=⟨_,rfl⟩;have hlp:g.ports[k]?=some ls:=by rw[zB hlt,hle]
     simp only[hle]at hcl hl1 Hls;have Hx:=zA hx;have Hlp:=zA hlp
     clear hx hxe hle hlp
     obtain⟨hr1,hr2⟩:=hr;have Hbad:=zA (fun h=>yuu (g:=g) (v:=k) hlt h)
     by_cases c1:0<=x/\x<=255
     .obtain⟨c1a,c1b⟩:=c1
      by_cases c2:ls.length<g.ports.length
      .have c2d:decide (g.ports.length<=ls.length)=false:=by simp;omega
       by_cases c3:ynm ls (k:Int) (g.ports.length:Int)=true
       .go_wp2_with (first|(go_at_call 134;refine(In_t _ _ _ _ (by omega) (by omega)).mono ?_;rintro e w' ⟨rfl,rfl⟩)|(go_at_call 135;refine(yic _ ls _ _ _ Hls.out ⟨by omega,by omega⟩).mono ?_;rintro e w' ⟨rfl,m,rfl⟩))
        obtain⟨w2,hw2⟩:∃w2,w2=wr.drewN m:=⟨_,rfl⟩;rw[<-hw2];have Hb2:=zA (ywo hbel.out hw2)
        clear hw2
        go_loopw [5] (fun t wq=>∃j m2:Nat,j<=k/\t = .int .i64 j/\wq=w2.drewN m2/\Hid (∀u y,u<j->g.ids[u]?=some y->y≠x)) (fun t _=>k-(intOf t).toNat)
        case atStart=>exact⟨0,0,by omega,rfl,rfl,zA (fun u y hu=>absurd hu (by omega))⟩
        case round =>
         obtain⟨j,m2,hj,rfl,rfl,hne⟩:=hrel;obtain⟨q0,q1,hbw,hsz⟩:=box2 Hb2.out;have Hbw2:=zA hbw;obtain⟨b',off',e',hb',hcid,_⟩:=yft (Hi.out.below Stable.int Hbw2.out) (show k<g.ids.length by omega)
         cases e'
         clear hbw
         have hkx:g.ids[k]=x:=by have:=zB (l:=g.ids) (i:=k) (by omega);rw[Hx.out]at this;exact(Option.some.inj this).symm
         rw[hkx]at hcid
         clear hkx
         by_cases hjk:j<k
         .obtain⟨b',off',e',hb',hcj,_⟩:=yft (Hi.out.below Stable.int Hbw2.out) (show j<g.ids.length by omega)
          cases e'
          by_cases c4:g.ids[j]=x
          .have c4':(g.ids[j]==x)=true:=by simp[c4]
           have Hf:=zA (Hbad.out (fun h=>(h x ls Hx.out Hlp.out).2.2.2 j _ hjk (zB (by omega)) c4))
           clear c4
           go_wp2
           go_quiet (fail)
           go_wp2
           go_ret
           exact⟨ybj Hf.out.symm,below_drewN (below_drewN (box2 Hb2.out).2.2.1 _) _⟩
          .have c4':(g.ids[j]==x)=false:=by simp[c4]
           have Hc4:=zA c4
           clear c4
           go_wp2
           go_quiet (fail)
           go_wp2
           go_roundw
           case rel =>
            refine⟨j+1,_,by omega,by go_num,rfl,zA (fun u y hu hy=>?_)⟩
            by_cases huj:u<j
            .exact hne.out u y huj hy
            .obtain rfl:u=j:=by omega
             rw[zB (by omega)]at hy
             cases hy
             exact Hc4.out
           case measure=>simp[intOf];omega
         .obtain rfl:j=k:=by omega
          go_wp2
          go_roundw
          case rel =>
           refine⟨j+1,by omega,by go_num,zA (below_drewN Hb2.out _),zA (fun v hv=>?_)⟩
           by_cases hvj:v<j
           .exact hv2.out v hvj
           .obtain rfl:v=j:=by omega
            intro x' ls' hx' hls';rw[Hx.out]at hx';rw[Hlp.out]at hls';cases hx'
            cases hls'
            exact⟨⟨c1a,c1b⟩,c2,c3,hne.out⟩
          case measure=>simp[intOf];omega
       .have c3':ynm ls (k:Int) (g.ports.length:Int)=false:=by simpa using c3
        have Hf:=zA (Hbad.out (fun h=>c3 (h x ls Hx.out Hlp.out).2.2.1))
        clear c3
        go_wp2_with (first|(go_at_call 134;refine(In_t _ _ _ _ (by omega) (by omega)).mono ?_;rintro e w' ⟨rfl,rfl⟩)|(go_at_call 135;refine(yic _ ls _ _ _ Hls.out ⟨by omega,by omega⟩).mono ?_;rintro e w' ⟨rfl,m,rfl⟩))
        go_ret
        exact⟨ybj Hf.out.symm,below_drewN Hbw.out _⟩
      .have c2d:decide (g.ports.length<=ls.length)=true:=by simp;omega
       have Hf:=zA (Hbad.out (fun h=>c2 (h x ls Hx.out Hlp.out).2.1))
       go_wp2_with (first|(go_at_call 134;refine(In_t _ _ _ _ (by omega) (by omega)).mono ?_;rintro e w' ⟨rfl,rfl⟩)|(go_at_call 135;refine(yic _ ls _ _ _ Hls.out ⟨by omega,by omega⟩).mono ?_;rintro e w' ⟨rfl,m,rfl⟩))
       go_ret
       exact⟨ybj Hf.out.symm,Hbw.out⟩
     .have Hf:=zA (Hbad.out (fun h=>c1 (h x ls Hx.out Hlp.out).1));have c1':x<0\/255<x:=by omega
      clear c1
      go_wp2_with (first|(go_at_call 134;refine(In_f _ _ _ _ (by omega)).mono ?_;rintro e w' ⟨rfl,rfl⟩))
      go_ret
      exact⟨ybj Hf.out.symm,Hbw.out⟩
    .obtain rfl:k=g.ports.length:=by omega
     go_wp2
     go_loopw [6] (fun t wr=>∃k:Nat,k<=g.ports.length/\t = .int .i64 k/\Hid (Below (w.heap.size+1) (w.alloc (.cells #[.slice A g.ids.length c,.slice A2 g.ports.length c2] 27)) wr)/\Hid (∀v i,v<k->V3 g v i)) (fun t _=>g.ports.length-(intOf t).toNat)
     case atStart=>exact⟨0,by omega,rfl,hbel,zA (fun v i hv=>absurd hv (by omega))⟩
     case round =>
      clear hbel Hbw q0 q1 hsz
      obtain⟨k,hk,rfl,hbel,hv3⟩:=hrel;obtain⟨q0,q1,hbw,hsz⟩:=box2 hbel.out;have Hbw:=zA hbw
      clear hbw
      by_cases hlt:k<g.ports.length
      .obtain⟨ls,hle⟩:∃ls,g.ports[k]=ls:=⟨_,rfl⟩;have hlp:g.ports[k]?=some ls:=by rw[zB hlt,hle]
       have Hlp:=zA hlp
       clear hle hlp
       have Hlk:=zA (show ∀l∈ls,yiu k g.ports.length l by
        have:=(hv2.out k hlt _ ls (zB (by omega)) Hlp.out).2.2.1
        exact fun l hl=>(of_decide_eq_true this).1 l hl)
       have Hbad:=zA (fun i h=>ytv (g:=g) (v:=k) (i:=i) hlt h)
       go_wp2
       go_loopw [7] (fun t wr=>∃i:Nat,i<=ls.length/\t = .int .i64 i/\Hid (Below (w.heap.size+1) (w.alloc (.cells #[.slice A g.ids.length c,.slice A2 g.ports.length c2] 27)) wr)/\Hid (∀j,j<i->V3 g k j)) (fun t _=>ls.length-(intOf t).toNat)
       case atStart=>exact⟨0,by omega,rfl,hbel,zA (fun j hj=>absurd hj (by omega))⟩
       case round =>
        clear hbel Hbw q0 q1 hsz
        obtain⟨i,hi,rfl,hbel,hv3'⟩:=hrel;obtain⟨q0,q1,hbw,hsz⟩:=box2 hbel.out;have Hbw:=zA hbw;obtain⟨b2,off2,lv,rfl,hb2,hcl,hls⟩:=yfv (Hp.out.below (Stable.sl Stable.link) Hbw.out) Hlp.out;obtain⟨A3,c3,rfl,hl1,hl2⟩:=ybp hls
        by_cases hil:i<ls.length
        .obtain⟨A4,c4,e4,_,_,hE⟩:=hls;cases e4
         obtain⟨b3,off3,rfl,hb3,hE⟩:=hE (by omega)
         obtain⟨⟨l1,wt⟩,hle⟩:∃l,ls[i]=l:=⟨_,rfl⟩;have hl?:ls[i]?=some (l1,wt):=by rw[zB hil,hle]
         obtain⟨hx1,hx2,⟨hr1,hr2⟩,⟨hr3,hr4⟩⟩:=hE i _ hl?;have hlk:=Hlk.out (l1,wt) (zG hl?);unfold yiu at hlk;obtain⟨k1,k2,k3,k4,k5⟩:=hlk;simp only at k1 k2 k3 k4 k5 hx1 hx2 hr1 hr2 hr3 hr4;obtain⟨t,rfl⟩:=zK k1;have htl:t<g.ports.length:=by omega
         obtain⟨b',off',lv',e',hb',hcl',hls'⟩:=yfv (Hp.out.below (Stable.sl Stable.link) Hbw.out) (zB htl);cases e'
         obtain⟨A5,c5,rfl,hm1,hm2⟩:=ybp hls';obtain⟨ls',hle'⟩:∃ls',g.ports[t]=ls':=⟨_,rfl⟩;have Hlp':=zA (show g.ports[t]?=some ls' by rw[zB htl,hle'])
         rw[hle']at hls' hcl' hm1;have Hl?:=zA hl?;have HE:=zA hE;have Hls':=zA hls';have Hbb:=zA (Hbad.out i)
         clear hle hle' hl? hE hls' k1 k3 hbw
         have Hgr:=zA (hg0.out.below Hbw.out);rcases ynh (ls:=ls') (u:=(k:Int))with hpt|⟨q,hpt,hq⟩
         .have Hpt:=zA hpt
          clear hpt
          have Hf:=zA (Hbb.out (fun h=>by
           obtain⟨ls2,q2,l2,f1,f2,_⟩:=h ls _ Hlp.out Hl?.out;rw[zI,Hlp'.out]at f1;cases f1
           rw[Hpt.out]at f2;omega))
          go_wp2_with fail
          refine(yzs _ g t ls' k _ (Hgr.out.below ((Below.refl _ _).alloc (zF _) _)) Hlp'.out).mono ?_;rintro e w3 ⟨rfl,hb3w⟩;rw[Hpt.out];have d0:=keepA hb3w _ _ q0;have d1:=keepA hb3w _ _ q1;have d2:=keepA hb3w _ _ hcl';obtain⟨d3,d4⟩:=ybgc hb3w;have Hb3:=zA (ylp hb3w);have hz3:wr.heap.size<w3.heap.size:=by have:=hb3w.size;simp at this;omega
          clear hb3w
          go_wp2
          go_quiet (fail)
          go_wp2
          go_ret
          exact⟨ybj Hf.out.symm,below_drewN (Hbw.out.trans (Hb3.out.mono Hbw.out.size)) _⟩
         .have Hpt:=zA hpt
          clear hpt
          obtain⟨A6,c6,e6,_,_,hE6⟩:=Hls'.out;cases e6
          obtain⟨b6,off6,rfl,hb6,hE6⟩:=hE6 (by omega)
          obtain⟨⟨y1,y2⟩,hqe⟩:∃l,ls'[q]=l:=⟨_,rfl⟩;have hq?:ls'[q]?=some (y1,y2):=by rw[zB hq,hqe]
          obtain⟨_,hx4,_,_⟩:=hE6 q _ hq?;simp only at hx4;have Hq?:=zA hq?
          clear hqe hq? hE6
          by_cases c7:y2=wt
          .have c7':(y2 != wt)=false:=by simp[c7]
           have Hv:=zA (show V3 g k i from fun ls2 l2 f1 f2=>by
            rw[Hlp.out]at f1;cases f1
            rw[Hl?.out]at f2;cases f2
            exact⟨ls',q,(y1,y2),by rw[zI];exact Hlp'.out,Hpt.out,Hq?.out,c7⟩)
           clear c7
           go_wp2_with fail
           refine(yzs _ g t ls' k _ (Hgr.out.below ((Below.refl _ _).alloc (zF _) _)) Hlp'.out).mono ?_;rintro e w3 ⟨rfl,hb3w⟩;rw[Hpt.out];have d0:=keepA hb3w _ _ q0;have d1:=keepA hb3w _ _ q1;have d2:=keepA hb3w _ _ hcl';obtain⟨d3,d4⟩:=ybgc hb3w;have Hb3:=zA (ylp hb3w);have hz3:wr.heap.size<w3.heap.size:=by have:=hb3w.size;simp at this;omega
           clear hb3w
           have d5:=(Hb3.out.cell hb6).trans hx4
           go_wp2
           go_quiet (fail)
           go_wp2
           go_roundw
           case rel =>
            refine⟨i+1,by omega,by go_num,zA (below_drewN (hbel.out.trans (Hb3.out.mono (by have:=hbel.out.size;simp at this;omega))) _),zA (fun j hj=>?_)⟩
            by_cases hji:j<i
            .exact hv3'.out j hji
            .obtain rfl:j=i:=by omega
             exact Hv.out
           case measure=>simp[intOf];omega
          .have c7':(y2 != wt)=true:=by simp[c7]
           have Hf:=zA (Hbb.out (fun h=>by
            obtain⟨ls2,q2,l2,f1,f2,f3,f4⟩:=h ls _ Hlp.out Hl?.out;rw[zI,Hlp'.out]at f1;cases f1
            rw[Hpt.out]at f2;obtain rfl:q=q2:=by omega
            rw[Hq?.out]at f3;cases f3
            exact c7 f4))
           clear c7
           go_wp2_with fail
           refine(yzs _ g t ls' k _ (Hgr.out.below ((Below.refl _ _).alloc (zF _) _)) Hlp'.out).mono ?_;rintro e w3 ⟨rfl,hb3w⟩;rw[Hpt.out];have d0:=keepA hb3w _ _ q0;have d1:=keepA hb3w _ _ q1;have d2:=keepA hb3w _ _ hcl';obtain⟨d3,d4⟩:=ybgc hb3w;have Hb3:=zA (ylp hb3w);have hz3:wr.heap.size<w3.heap.size:=by have:=hb3w.size;simp at this;omega
           clear hb3w
           have d5:=(Hb3.out.cell hb6).trans hx4
           go_wp2
           go_quiet (fail)
           go_wp2
           go_ret
           exact⟨ybj Hf.out.symm,below_drewN (Hbw.out.trans (Hb3.out.mono Hbw.out.size)) _⟩
        .obtain rfl:i=ls.length:=by omega
         have HE:=zA hls
         clear hls hbw
         go_wp2
         go_roundw
         case rel =>
          refine⟨k+1,by omega,by go_num,hbel,zA (fun v j hv=>?_)⟩
          by_cases hvk:v<k
          .exact hv3.out v j hvk
          .obtain rfl:v=k:=by omega
           by_cases hj:j<ls.length
           .exact hv3'.out j hj
           .intro ls2 l2 f1 f2;rw[Hlp.out]at f1;cases f1
            rw[zAB (by omega)]at f2
            cases f2
         case measure=>simp[intOf];omega
      .obtain rfl:k=g.ports.length:=by omega
       have Ht:=zA (show yco g=true from decide_eq_true (ybe.of n1a n1b Hn2.out hv2.out (fun v i hv=>hv3.out v i hv)))
       go_wp2
       go_ret
       exact⟨ybj Ht.out.symm,Hbw.out⟩
  .have n2':((g.ids.length:Int)!=(g.ports.length:Int))=true:=by simp;omega
   have Hf:=zA (yej (g:=g) (fun h=>n2 h.2.2))
   clear n2
   go_enter zBA,zAT
   go_wp2_with (first|(go_at_call 134;refine(In_t _ _ _ _ (by omega) (by omega)).mono ?_;rintro e w' ⟨rfl,rfl⟩))
   go_ret
   exact⟨ybj Hf.out.symm,(Below.refl _ _).alloc (zF _) _⟩
 .have Hf:=zA (yej (g:=g) (fun h=>n1 ⟨h.1,h.2.1⟩));have n1':g.ports.length<1\/24<g.ports.length:=by omega
  clear n1
  go_enter zBA,zAT
  go_wp2_with (first|(go_at_call 134;refine(In_f _ _ _ _ (by omega)).mono ?_;rintro e w' ⟨rfl,rfl⟩))
  go_ret
  exact⟨ybj Hf.out.symm,(Below.refl _ _).alloc (zF _) _⟩
end
section
open Go.RowKit
end
section
end
section
def ybbw(ids:List Int)(k:Nat):Int:=(ids.take k).tail.foldl max (ids.headD 0)
abbrev maxI(ids:List Int):Int:=ybbw ids ids.length
theorem ycce{ids:List Int}{k:Nat}(h1:1<=k)(hk:k<ids.length):(ids.take (k+1)).tail=(ids.take k).tail++[ids[k]]:=by
 rw[zZ hk,List.tail_append_of_ne_nil];intro h;have:=congrArg zBT h;rw[List.length_take,zBH]at this;omega
theorem yccb(ids:List Int):ybbw ids 1=ids.headD 0:=by cases ids<;>simp[ybbw]
theorem ybnk{ids:List Int}{k:Nat}(h1:1<=k)(hk:k<ids.length):ybbw ids (k+1)=max (ybbw ids k) ids[k]:=by
 unfold ybbw;rw[ycce h1 hk,zS];rfl
theorem ybjw{ids:List Int}(h0:0<ids.length)(h:∀x∈ids,0<=x):maxI ids=ids.foldl max 0:=by
 cases ids with
 |nil=>simp at h0
 | cons x l =>
   have hx:max 0 x=x:=Int.max_eq_right (h x (by simp))
   simp[maxI,ybbw,hx]
def idxP(ids:List Int)(x:Int):Int:=match ids.findIdx? (fun y=>x==y)with
 |some i=>i
 |none=>-1
theorem yccx{ids:List Int}{x:Int}{k:Nat}(hk:k<ids.length)(h:x=ids[k])(hn:(ids.take k).findIdx? (fun y=>x==y)=none):idxP ids x=k:=by
 unfold idxP
 have:ids.findIdx? (fun y=>x==y)=some k:=by
  rw[List.findIdx?_eq_some_iff_getElem];refine⟨hk,by simp[h],fun j hj=>?_⟩
  rw[List.findIdx?_eq_none_iff]at hn;simp[hn ids[j] (List.mem_take_iff_getElem.2 ⟨j,by omega,rfl⟩)]
 rw[this]
theorem ybvj{ids:List Int}{x:Int}(hn:(ids.take ids.length).findIdx? (fun y=>x==y)=none):idxP ids x = -1:=by
 rw[zU]at hn;unfold idxP;rw[hn]
theorem yccz{ids:List Int}{x:Int}{k:Nat}(hk:k<ids.length)(h:x≠ids[k])(hn:(ids.take k).findIdx? (fun y=>x==y)=none):(ids.take (k+1)).findIdx? (fun y=>x==y)=none:=by
 rw[zZ hk,List.findIdx?_append,hn];simp[h]
end
section
namespace Sh
open Go Ev
def yu(l:List Int):SV:=.sl 1 l.length (fun k=>[.i .i64 (l.getD k 0)])
def ybc(ls:List (Int×Int)):SV:=.sl 2 ls.length (fun j=>[.i .i64 (ls.getD j (0,0)).1,.i .i64 (ls.getD j (0,0)).2])
def yx(ps:List (List (Int×Int))):SV:=.sl 1 ps.length (fun v=>[ybc (ps.getD v [])])
def ybm(c:List (List Int)):SV:=.sl 1 c.length (fun v=>[yu (c.getD v [])])
def grV(g:Gr):SV:=.ag [yu g.ids,yx g.ports]
theorem ik{n:Int}(h1:-1000000000000<=n)(h2:n<=1000000000000):inK .i64 n:=by
 unfold inK;simp[IntKind.min,IntKind.max,IntKind.bits,IntKind.signed];omega
theorem ikw{n:Int}(h1:-4611686018427387904<=n)(h2:n<=4611686018427387904):inK .i64 n:=by
 unfold inK;simp[IntKind.min,IntKind.max,IntKind.bits,IntKind.signed];omega
theorem getD_at{α:Type}{l:List α}{k:Nat}{d:α}(h:k<l.length):l.getD k d=l[k]:=by simp[zH,h]
theorem yzm{l:List Int}{i k:Nat}{x:Int}(h:i<l.length):(l.set i x).getD k 0=if k=i then x else l.getD k 0:=by
 simp only[zH,zN]
 by_cases q:i=k
 .subst q;simp[h]
 .rw[if_neg q,if_neg (Ne.symm q)]
theorem ybvh(l:List Int)(x:Int)(hl:l.length<=100000):Returns zC 165 [yu l,.i .i64 x] (.i .i64 (idxP l x)):=by
 refine Returns.of (ydha _ _ ?_);simp only[c165,ycvi,ycmi,yu,go_sem,zM,↓reduceIte,reduceCtorEq];refine ybk (σ:=Nat) (fun k=>⟨[(8,.i .i64 k),(0,yu l),(1,.i .i64 x),(7,.i .i64 l.length)],[]⟩) (fun k=>k<=l.length/\(l.take k).findIdx? (fun y=>x==y)=none) (fun k=>l.length-k) 0 ⟨zX _,by simp⟩ ?_ ?_
 .refine yh [] [] [] ?_;simp only[yu,allQ,live,yc,zAA,go_sem,zD,↓reduceIte,reduceCtorEq]
 .intro k ⟨hk,hno⟩;simp only[ycwg,yczj,ycyl,ycjj,ycwd,ycvc,yu,ybb,go_sem,zD,zM,↓reduceIte,reduceCtorEq];refine⟨fun h=>⟨by omega,fun he=>?_,fun he=>⟨ik (by omega) (by omega),?_⟩⟩,fun h=>?_⟩
  .have hlt:k<l.length:=by omega
   rw[yccx hlt (by rw[he,getD_at hlt]) hno]
  .have hlt:k<l.length:=by omega
   refine yj (k+1) ⟨by omega,yccz hlt (by rw[<-getD_at (d:=0) hlt];exact he) hno⟩ (by omega) ?_
   refine yh [] [] [] ?_;simp only[allQ,live,yc,ybb,go_sem,zD,↓reduceIte,reduceCtorEq];simp
  .obtain rfl:k=l.length:=by omega
   rw[ybvj hno]
theorem ydbm(l:List Int)(h0:0<l.length)(hl:l.length<=100000):Returns zC 160 [yu l] (.i .i64 (maxI l)):=by
 refine Returns.of (ydeb _ _ ?_);simp only[c160,ycjq,ycsm,ycry,ycqv,ycxo,yu,go_sem,zBI,zD,zM,↓reduceIte,reduceCtorEq];refine⟨fun h=>by omega,fun _=>⟨by omega,?_⟩⟩
 refine ybk (σ:=Nat) (fun k=>⟨[(4,.i .i64 k),(3,.i .i64 (ybbw l k)),(0,yu l)],[]⟩) (fun k=>1<=k/\k<=l.length) (fun k=>l.length-k) 1 ⟨by omega,by omega⟩ ?_ ?_
 .refine yh [] [] [] ?_;simp only[yu,yccb,allQ,live,yc,ybb,go_sem,zD,↓reduceIte,reduceCtorEq];cases l<;>simp at h0 ⊢
 .intro k ⟨hk1,hk⟩;simp only[ycot,ycko,yclw,ycqu,yu,ybb,go_sem,zD,zM,↓reduceIte,reduceCtorEq];refine⟨fun h=>⟨by omega,ik (by omega) (by omega),?_⟩,fun h=>?_⟩
  .refine yj (k+1) ⟨by omega,by omega⟩ (by omega) ?_
   refine yh [] [] [] ?_;have hlt:k<l.length:=by omega
   simp only[ybnk hk1 hlt,getD_at hlt,allQ,live,yc,ybb,go_sem,zD,↓reduceIte,reduceCtorEq];simp
  .obtain rfl:k=l.length:=by omega
   rfl
theorem ybec(l:List Int)(hl:l.length<=100000):Returns zC 138 [yu l] (.i .i64 (ybs l)):=by
 refine Returns.of (ydbp _ _ ?_);simp only[c138,ycno,ycvk,ycvf,yu,go_sem,zM,↓reduceIte,reduceCtorEq];refine ybk (σ:=Nat) (fun k=>⟨[(8,.i .i64 k),(3,.i .i64 (ybs (l.take k))),(6,yu l),(7,.i .i64 l.length)],[]⟩) (fun k=>k<=l.length) (fun k=>l.length-k) 0 (zX _) ?_ ?_
 .refine yh [] [] [] ?_;simp only[yu,allQ,live,yc,ybb,zAA,go_sem,zD,↓reduceIte,reduceCtorEq];simp[ybs]
 .intro k hk;simp only[ycrk,ycqn,ycnz,yctc,ycwc,yu,ybb,go_sem,zD,zM,↓reduceIte,reduceCtorEq];refine⟨fun h=>⟨by omega,ik (by omega) (by omega),?_⟩,fun h=>?_⟩
  .refine yj (k+1) (by omega) (by omega) ?_
   refine yh [] [] [] ?_;have hlt:k<l.length:=by omega
   simp only[ylv l k hlt,getD_at hlt,allQ,live,yc,ybb,go_sem,zD,↓reduceIte,reduceCtorEq];simp
  .obtain rfl:k=l.length:=by omega
   simp
end Sh
end
section
namespace Sh
open Go Ev Go.RowKit
def GrI(g:Gr):Prop:=(∀x∈g.ids,I64 x)/\∀ls∈g.ports,∀l∈ls,I64 l.1/\I64 l.2
def ycfl(c:List (List Int)):Prop:=∀s∈c,∀x∈s,I64 x
section
variable {G:AM}{m:Mem}{φ:Phi}{M:AM}{w:World}{u u':Value}
theorem ycfo {α:Type}{z n:Nat}{gg:Nat->List SV}{xs:List α}{E:Elem α}(hG:Le G m.b.get) (hr:RV G om0 (.sl z n gg) u) (hv:VR φ u u') (hR:Rel φ M w) (hs:Sub m M) (hn:xs.length=n)
 (hE:∀k x b o L L',xs[k]?=some x->RVL G om0 (gg k) L->VRL φ L L'->(∀j v,L'[j]?=some v->w.cell? ⟨b,o+j,none⟩=some v)->E w b o x):SlAt z E w u' xs:=by
 rcases hr.sl_inv with⟨rfl,h0⟩|⟨bk,p,cp,T,N,e,zz,L,rfl,g1,g2,g3,g4,g5,g6,g7⟩
 .have:xs=[]:=List.eq_nil_of_length_eq_zero hn;subst this;rcases h0 with rfl|⟨b,o,c,rfl⟩
  .have e:=hv.eq_simple rfl;subst e;exact SlAt.nil w
  .obtain⟨lc,A,c',k1,k2,k3,k4,k5,k6,k7⟩:=hv.slice_inv;subst k3;exact⟨some A,c',rfl,zX _,k6,fun q=>absurd q (by simp)⟩
 .obtain⟨lc,A,c',k1,k2,k3,k4,k5,k6,k7⟩:=hv.slice_inv;subst k3;subst hn;refine⟨some A,c',rfl,k4,k6,fun hpos=>?_⟩;rcases k7 with⟨rfl,_⟩|k7
  .obtain⟨lc',h1,h2⟩:=hR.blk _ _ (hs _ _ (hG _ _ g1));have k1':φ bk=some lc:=k1;rw[k1']at h1;cases h1
   obtain⟨h3,h4,cs,e2,fz2,h0,h5,h6,h7⟩:=h2;refine⟨lc.blk,lc.base+p,rfl,(Array.getElem?_eq_some_iff.1 h5).1,fun k x hx=>?_⟩;have hk:k<xs.length:=(List.getElem?_eq_some_iff.1 hx).1;have hin:=yjo (z:=z) hk;have hcells:∀j v,j<z->(L k)[j]?=some v->∃v',cs[lc.base+(p+k*z+j)]?=some v'/\VR φ v v':=fun j v hj hv=>h7 _ v (by omega) (by rw[g5 k hk j hj];exact hv)
   have hex:∀(l:List Value) (q:Nat),(∀j v,l[j]?=some v->∃v',cs[q+j]?=some v'/\VR φ v v')->∃l',VRL φ l l'/\∀j v,l'[j]?=some v->cs[q+j]?=some v:=by
    intro l
    induction l with
    |nil=>intro q _;exact⟨[],.nil,fun j v h=>by simp at h⟩
    | cons a l ih =>
      intro q h;obtain⟨v',e1,e2⟩:=h 0 a rfl;obtain⟨l',e3,e4⟩:=ih (q+1) (fun j v hv=>by have:=h (j+1) v (by simpa using hv);rw[show q+1+j=q+(j+1)by omega];exact this)
      refine⟨v'::l',.cons e2 e3,fun j v hv=>?_⟩;cases j with
      |zero=>simp at hv;subst hv;exact e1
      |succ j=>have:=e4 j v (by simpa using hv);rw[show q+(j+1)=q+1+j by omega];exact this
   obtain⟨L',r1,r2⟩:=hex (L k) (lc.base+p+k*z) (fun j v hv=>by
    have hj:j<z:=by rw[<-g4 k hk];exact(List.getElem?_eq_some_iff.1 hv).1
    have:=hcells j v hj hv;rw[show lc.base+p+k*z+j=lc.base+(p+k*z+j)by omega]
    exact this)
   exact hE k x _ _ (L k) L' hx (g6 k hk) r1 fun j v hv=>cell_of h5 (by have:=r2 j v hv;exact this)
  .omega
theorem ints_at{l:List Int}(hG:Le G m.b.get)(hr:RV G om0 (yu l) u)(hv:VR φ u u')(hR:Rel φ M w)(hs:Sub m M)(hI:∀x∈l,I64 x):yki w u' l:=by
 refine ycfo hG hr hv hR hs rfl fun k x b o L L' hx hL hL' hc=>?_;have hk:k<l.length:=(List.getElem?_eq_some_iff.1 hx).1;have hxe:l.getD k 0=x:=by simp[zH,hx]
 rw[hxe]at hL;cases hL with
 | cons a b =>
   cases b
   cases a.int_inv
   obtain⟨v',rfl,hvv⟩:=yfa hL';have:=hvv.eq_simple rfl;subst this;exact⟨hc 0 _ rfl,hI x (zG hx)⟩
theorem ycdh{ls:List (Int×Int)}(hG:Le G m.b.get)(hr:RV G om0 (ybc ls) u)(hv:VR φ u u')(hR:Rel φ M w)(hs:Sub m M)(hI:∀l∈ls,I64 l.1/\I64 l.2):ybgg w u' ls:=by
 refine ycfo hG hr hv hR hs rfl fun k x b o L L' hx hL hL' hc=>?_;have hxe:ls.getD k (0,0)=x:=by simp[zH,hx]
 rw[hxe]at hL;cases hL with
 | cons a b =>
   cases b with
   | cons a2 b2 =>
     cases b2
     cases a.int_inv
     cases a2.int_inv
     obtain⟨v1,v2,rfl,h1,h2⟩:=yvf hL';have:=h1.eq_simple rfl;subst this;have:=h2.eq_simple rfl;subst this;exact⟨hc 0 _ rfl,hc 1 _ rfl,hI x (zG hx)⟩
theorem ycdc{ps:List (List (Int×Int))}(hG:Le G m.b.get)(hr:RV G om0 (yx ps) u)(hv:VR φ u u')(hR:Rel φ M w)(hs:Sub m M)(hI:∀ls∈ps,∀l∈ls,I64 l.1/\I64 l.2):ybaq w u' ps:=by
 refine ycfo hG hr hv hR hs rfl fun k x b o L L' hx hL hL' hc=>?_;have hxe:ps.getD k []=x:=by simp[zH,hx]
 rw[hxe]at hL;cases hL with
 | cons a b =>
   cases b
   obtain⟨v',rfl,hvv⟩:=yfa hL';exact⟨v',hc 0 _ rfl,ycdh hG a hvv hR hs (hI x (zG hx))⟩
theorem ydek{c:List (List Int)}(hG:Le G m.b.get)(hr:RV G om0 (ybm c) u)(hv:VR φ u u')(hR:Rel φ M w)(hs:Sub m M)(hI:ycfl c):ycjl w u' c:=by
 refine ycfo hG hr hv hR hs rfl fun k x b o L L' hx hL hL' hc=>?_;have hxe:c.getD k []=x:=by simp[zH,hx]
 rw[hxe]at hL;cases hL with
 | cons a b =>
   cases b
   obtain⟨v',rfl,hvv⟩:=yfa hL';exact⟨v',hc 0 _ rfl,ints_at hG a hvv hR hs (hI x (zG hx))⟩
theorem ybpq{g:Gr}(hG:Le G m.b.get)(hr:RV G om0 (grV g) u)(hv:VR φ u u')(hR:Rel φ M w)(hs:Sub m M)(hI:GrI g):GrAt w u' g:=by
 obtain⟨L,rfl,hL⟩:=hr.ag_inv;cases hL with
 | cons a b =>
   cases b with
   | cons a2 b2 =>
     cases b2
     obtain⟨L',rfl,hL'⟩:=hv.agg_inv;obtain⟨v1,v2,rfl,h1,h2⟩:=yvf hL';exact⟨v1,v2,rfl,ints_at hG a h1 hR hs hI.1,ycdc hG a2 h2 hR hs hI.2⟩
end
theorem ytq {g:FuncId}{args:List SV}{r:SV}{v:Value}(hg:∃fn c,Tryz.prog.funcs[g]?=some fn/\fn.body=some c) (hrv:∀F,RV F om0 r v) (hvr:∀φ,VR φ v v)
 (h:∀(G:AM) (m:Mem) (us:List Value),Le G m.b.get->RVL G om0 args us->∀φ M w us',Rel φ M w->Sub m M->VRL φ us us'->Calls zC g us'.toArray w fun e w'=>e = .returned v/\Below w.heap.size w w'):Returns zC g args r:=by
 intro G m us hw hle hr;refine⟨v,enterM m,r,ylq ysb hg fun φ M w us' hR hs hv=>(h G m us hle hr φ M w us' hR hs hv).mono ?_,zF _,Le.refl _,rfl,hrv _⟩;rintro e w' ⟨rfl,hb⟩;exact⟨v,rfl,hvr φ,hb⟩
theorem rvl1{F:AM}{ω:Om}{a:SV}{us:List Value}(h:RVL F ω [a] us):∃u,us=[u]/\RV F ω a u:=by
 cases h with|cons x y=>cases y;exact⟨_,rfl,x⟩
theorem rvl2{F:AM}{ω:Om}{a b:SV}{us:List Value}(h:RVL F ω [a,b] us):∃u v,us=[u,v]/\RV F ω a u/\RV F ω b v:=by
 cases h with|cons x y=>obtain⟨v,rfl,q⟩:=rvl1 y;exact⟨_,v,rfl,x,q⟩
end Sh
end
section
open Go.RowKit
theorem ybwb(n k:Nat)(hk:k<n):(zL k (-1:Int)++zL (n-k) 0).set k (-1)=zL (k+1) (-1)++zL (n-(k+1)) 0:=by
 apply zBD
 .simp;omega
 .intro i h1 h2;rw[List.getElem_set];split
  .subst_vars
   rw[zY (by simp)]
   simp
  .by_cases hi:i<k
   .rw[zY (by simpa using hi),zY (by simp;omega)];simp
   .rw[zAK (by simp;omega),zAK (by simp;omega)];simp
theorem ymx(g:Gr)(a:Nat)(h:g.ports.length<=24):1+ycp (start g a)<=30:=by
 have h1:=List.countP_le_length (p:=fun x:Int=>decide (x<0)) (l:=start g a);have h2:(start g a).length=g.ports.length:=by simp[start]
 unfold ycp;omega
set_option maxHeartbeats 2000000 in
theorem ybpc(gv:Value)(g:Gr)(a:Nat)(w:World)(hg:GrAt w gv g)(hgood:ybe g)(ha:a<g.ports.length) :
 Calls zC 139 #[gv,.int .i64 a] w (ybtl (ybt g a) w):=by
 have hn24:=hgood.2.1;have Hgood:=zA hgood
 clear hgood
 obtain⟨i,p,rfl,hi,hp⟩:=hg;obtain⟨A2,c2,rfl,hB1,hB2⟩:=ybp hp;have Hp:=zA hp
 clear hi hp
 have hmk:=ybbq g.ports.length (by omega)
 go_enter zBQ,Tryz.ntmps139
 go_wp2
 go_loopg [17] g.ports.length (fun q t wr=>∃k:Nat,q+k=g.ports.length/\t = .int .i64 k/\Hid (Below (w.heap.size+1) (w.alloc (.cells #[i,.slice A2 g.ports.length c2] 27)) wr)/\Hid (IBlk wr (w.heap.size+1) (zL k (-1)++zL (g.ports.length-k) 0)))
 case atStart =>
  refine⟨0,by omega,rfl,zA ((Below.refl _ _).alloc (by simp) _),zA ?_⟩
  have:=IBlk.new (w.alloc (.cells #[i,.slice A2 g.ports.length c2] 27)) (zL g.ports.length (0:Int))
  simpa using this
 case round =>
  obtain⟨k,hq,rfl,hbel,hblk⟩:=hrel
  by_cases hlt:k<g.ports.length
  .obtain⟨x,hx⟩:∃x,wr.cell? ⟨w.heap.size+1,k,none⟩=some (.int .i64 x):=⟨_,hblk.out.cell (by simp;omega)⟩
   have hf:=hblk.out.frozen k
   go_wp2
   go_roundg (gk-1)
   case measure=>omega
   case rel =>
    refine⟨k+1,by omega,by go_num,zA (hbel.out.setCell (by simp) _),zA ?_⟩
    have:=hblk.out.set_ k (-1)
    rwa [ybwb _ _ hlt]at this
  .obtain rfl:k=g.ports.length:=by omega
   have hblk0:IBlk wr (w.heap.size+1) (zL g.ports.length (-1)):=by simpa using hblk.out
   obtain⟨x,hx⟩:∃x,wr.cell? ⟨w.heap.size+1,a,none⟩=some (.int .i64 x):=⟨_,hblk0.cell (by simpa using ha)⟩
   have hf:=hblk0.frozen a;have Hb0:=zA hblk0
   clear hblk0 hblk hmk
   go_wp2
   go_loopg [7] (1+ycp (start g a)) (fun q t wr=>∃R Q,q=Q.length+ycp R/\q<=30/\Hid (Below (w.heap.size+1) (w.alloc (.cells #[i,.slice A2 g.ports.length c2] 27)) wr)/\Hid (IBlk wr (w.heap.size+1) R)/\Hid (BfsInv g a R Q)/\Hid (Owns wr (w.heap.size+2) 3 1 t Q.length (Q.map (fun q:Nat=>Value.int .i64 (q:Int)))))
   case atStart =>
    refine⟨start g a,[a],rfl,ymx g a hn24,zA ((hbel.out.setCell (by simp) _).alloc (by have:=hbel.out.size;simp at this ⊢;omega) _),zA ((Hb0.out.set_ a 0).alloc _),zA (BfsInv.start ha),zA ?_⟩
    refine⟨rfl,.inr ⟨_,0,1,#[.int .i64 (a:Int)],rfl,?_,?_,zF _,by simp[maxLen],by simp,?_⟩⟩
    .have:=Hb0.out.lt;simp;omega
    .have:=heap_alloc_new (wr.setCell ⟨w.heap.size+1,a,none⟩ (.int .i64 0)) (.cells #[.int .i64 (a:Int)] 3);simpa using this
    .intro j u hu
     simpa using hu
   case round =>
    clear hbel Hb0 hx hf
    obtain⟨R,Q,hq,hq30,hbel,hblk,hinv,hown⟩:=hrel;obtain⟨AQ,cQ,rfl⟩:=hown.out.val;cases Q with
    | nil =>
      have Hd:=zA (hinv.out.isDist.unique (ydw Hgood.out ha))
      go_wp2
      go_ret
      have h:=hblk.out.ints (fun x hx=>by have:=hinv.out.isDist.bound Hgood.out ha x hx;unfold I64;omega) (by rw[hinv.out.len];omega)
      rw[hinv.out.len,Hd.out]at h;exact⟨_,rfl,h,(box2 hbel.out).2.2.1⟩
    | cons v Q =>
      obtain⟨gQ,oQ,cap,hv,hg1,hg2,hg3,hg4,hcell⟩:=hown.out.form (by simp)
      cases hv
      have hc0:=hcell 0 (.int .i64 (v:Int)) rfl;simp only[zBP]at hc0;have Hcell:=zA hcell;obtain⟨d,hd⟩:=hinv.out.qin v (by simp)
      have hvl:v<g.ports.length:=by rw[<-hinv.out.len];exact(List.getElem?_eq_some_iff.1 hd).1
      obtain⟨q0,q1,hbw,hsz⟩:=box2 hbel.out;obtain⟨b2,off2,lv,rfl,hb2,hclw,hls⟩:=yfv Hp.out (zB hvl);have hcl:=yhk hbw _ _ hclw
      clear hclw
      obtain⟨A3,c3,rfl,hl1,hl2⟩:=ybp hls;obtain⟨ls,hle⟩:∃ls,g.ports[v]=ls:=⟨_,rfl⟩;have Hlp:=zA (show g.ports[v]?=some ls by rw[zB hvl,hle])
      rw[hle]at hls hcl hl1;have Hls:=zA hls;have Hin:=zA (hinv.out.pop hd ls);have Hbw:=zA hbw
      clear hle hls hbw hcell hinv hd
      simp only[zBC]at hq hg3 hown hc0;obtain⟨i0,hi0,hz0,hz1,hz2⟩:=info_parts yzj;obtain⟨vQ,hsl,hoQ,hobQ⟩:=ychw (P:=zC) zAI hi0 hz1 hown.out (k:=1) (by simp) (by simp)
      simp only[zAU,zBU,zBL,zAP,zBJ]at hoQ;have hsl':∀W,(Instr.slice 22 (.slice (some ⟨gQ,oQ,none⟩) (Q.length+1) cQ) (some (.int .i64 1)) none none).run zC W = .ok vQ W:=fun W=>by simpa using hsl W
      have HoQ:=zA hoQ;have Hi0:=zA (show _/\_/\_/\_ from⟨hi0,hz0,hz1,hz2⟩)
      clear hoQ hown hsl hobQ hi0 hz0 hz1 hz2
      unfold maxLen at hg4
      go_wp2
      clear hsl'
      obtain⟨go,rfl⟩:∃go,go=gk:=⟨_,rfl⟩
      go_loopg [43,7] ls.length (fun q t tq wr=>∃(k:Nat) (R:List Int) (Q:List Nat),q+k=ls.length/\t = .int .i64 k/\Hid (go=Q.length+1+ycp R)/\Hid (Below (w.heap.size+1) (w.alloc (.cells #[i,.slice (some ⟨b2,off2,none⟩) g.ports.length c2] 27)) wr)/\Hid (IBlk wr (w.heap.size+1) R)/\Hid (BfsIn g a v d ls k R Q)/\Hid (Owns wr (w.heap.size+2) 3 1 tq Q.length (Q.map (fun q:Nat=>Value.int .i64 (q:Int)))))
      case atStart=>exact⟨0,R,Q,by omega,rfl,zA (by omega),hbel,hblk,Hin,HoQ⟩
      case round =>
       clear hbel hblk Hin HoQ hq hcl q0 q1 Hbw hsz
       obtain⟨k,R,Q,hq,rfl,Hgk,hbel,hblk,Hin,HoQ⟩:=hrel
       by_cases hlt:k<ls.length
       .obtain⟨q0,q1,hbw,hsz⟩:=box2 hbel.out;have Hbw:=zA hbw;obtain⟨A4,c4,e4,_,_,hE⟩:=Hls.out.below Stable.link hbw;cases e4
        obtain⟨b3,off3,rfl,hb3,hE⟩:=hE (by omega)
        obtain⟨⟨l1,wt⟩,hle⟩:∃l,ls[k]=l:=⟨_,rfl⟩;have hl?:ls[k]?=some (l1,wt):=by rw[zB hlt,hle]
        obtain⟨hx1,hx2,⟨hr1,hr2⟩,⟨hr3,hr4⟩⟩:=hE k _ hl?;obtain⟨k1,k2,k3,k4,k5⟩:=Hgood.out.link Hlp.out (zG hl?);simp only at k1 k2 k3 k4 k5 hx1 hx2 hr1 hr2 hr3 hr4;obtain⟨u,rfl⟩:=zK k1;have hul:u<R.length:=by rw[Hin.out.len];omega
        have hvR:v<R.length:=by rw[Hin.out.len];omega
        have hRv:R[v]?=some (d:Int):=Hin.out.rv;have hcv:=hblk.out.cell hvR;rw[show R[v]=(d:Int)by have:=zB hvR;rw[hRv]at this;exact(Option.some.inj this).symm]at hcv
        have hcu:=hblk.out.cell hul;have hfu:=hblk.out.frozen u
        have hd24:d<g.ports.length:=by
         rcases Hin.out.val v _ hRv with e|⟨k',e,h1,h2⟩
         .omega
         .obtain rfl:d=k':=by omega
          exact yuj Hgood.out ha h1 h2
        have hle1:ls[k].1=(u:Int):=by rw[hle]
        have hRu:R[u]?=some R[u]:=zB hul;have hB:w.heap.size+1<wr.heap.size:=hblk.out.lt
        clear hE hl? hle hbw k1 k3 hRv
        by_cases hneg:R[u]<0
        .have hRm:R[u]?=some (-1):=by
          rcases Hin.out.val u _ hRu with e|⟨k',e,_⟩
          .exact hRu.trans (congrArg some e)
          .exact absurd e (by omega)
         have Hd:=zA (Hin.out.discover Hlp.out hlt hle1 hRm);have Hun:=zA (yvk (R:=R) (u:=u) (x:=(d:Int)+1) hRm (by omega))
         clear hRu hRm hle1
         go_wp2
         go_region
         go_wp2_with (at_builtin;refine yhs _ rfl _ _ 22 rfl (w.heap.size+2) 3 i0 (.int .i64 0) 1 8 zAI Hi0.out.1 Hi0.out.2.1 Hi0.out.2.2.1 Hi0.out.2.2.2 rfl (by decide) u7 Q.length (Q.map (fun q:Nat=>Value.int .i64 (q:Int))) (by rfl) ?hown _ 1 1 [.int .i64 (u:Int)] (by rfl) rfl ?c1 ?c2 ?c3 ?c4 ?c5 ?_)
         case hown=>exact(((HoQ.out.low (p:=⟨w.heap.size+1,u,none⟩) (by simp) _).alloc _).alloc _).drew
         case c1=>exact ybml (by simp)
         case c2=>simp[Value.oneCell']
         case c3=>have:=Hgk.out;simp only[maxLen];omega
         case c4=>have:=Hgk.out;omega
         case c5=>simp;omega
         intro vQ' w' hown' hgr hob;have hgo:=Hgk.out;have Hown:=zA hown';have Hgr:=zA hgr
         clear hown' hgr hob
         go_wp2
         go_roundg (gk-1)
         case measure=>omega
         case rel =>
          have hb1:=(((hbel.out.setCell (p:=⟨w.heap.size+1,u,none⟩) (by simp) (.int .i64 ((d:Int)+1))).alloc (by simp;omega) (.cells #[.int .i64 (u:Int),.int .i64 wt] 95)).alloc (by simp;omega) (.cells #[.int .i64 (u:Int)] 3)).drew
          have hk1:=((((hblk.out.set_ u ((d:Int)+1)).alloc (.cells #[.int .i64 (u:Int),.int .i64 wt] 95)).alloc (.cells #[.int .i64 (u:Int)] 3)).drew);refine⟨k+1,R.set u ((d:Int)+1),Q++[u],by omega,by go_num,zA ?_,zA (hb1.grown Hgr.out (by simp;omega) (fun x hx=>?_)),zA (hk1.grown Hgr.out (fun e=>?_)),Hd,zA ?_⟩
          .have:=Hun.out;simp;omega
          .have:=(HoQ.out.lt hx).1;omega
          .have:=(HoQ.out.lt e.symm).1;omega
          .have:=Hown.out
           simpa using this
        .have hpos:0<=R[u]:=by omega
         obtain⟨j,hj⟩:=zK hpos;have Hsk:=zA (Hin.out.skip hlt (j:=j) (by rw[hle1,zI,hRu,hj]))
         clear hRu hle1 hj
         go_wp2
         have hgo:=Hgk.out
         go_roundg (gk-1)
         case measure=>omega
         case rel=>exact⟨k+1,R,Q,by omega,by go_num,Hgk,zA (hbel.out.alloc (by omega) _),zA (hblk.out.alloc _),Hsk,zA (HoQ.out.alloc _)⟩
       .obtain rfl:k=ls.length:=by omega
        go_wp2
        have hgo:=Hgk.out
        go_roundg (Q.length+ycp R)
        case measure=>omega
        case rel=>exact⟨R,Q,rfl,by omega,hbel,hblk,zA (Hin.out.finish Hlp.out),HoQ⟩
end
section
open Go.RowKit
theorem ybdn:zAZ=Array.replicate 256 (.bool false):=by kernel_rfl
def Seen(w:World)(g:Nat)(S:List Int):Prop:=∃cur,w.heap[g]?=some (.cells cur 195 (0,0))/\cur.size=256/\∀i:Nat,i<256->cur[i]?=some (.bool (decide ((i:Int)∈S)))
theorem Seen.cell{w:World}{g:Nat}{S:List Int}(h:Seen w g S){i:Nat}(hi:i<256):w.cell? ⟨g,i,none⟩=some (.bool (decide ((i:Int)∈S))):=by
 obtain⟨cur,h1,h2,h3⟩:=h;simp[World.cell?,h1,h3 i hi]
theorem Seen.frozen{w:World}{g:Nat}{S:List Int}(h:Seen w g S)(i:Nat):w.frozen? ⟨g,i,none⟩=false:=by
 obtain⟨cur,h1,h2,h3⟩:=h;simp[World.frozen?,h1]
theorem Seen.set_{w:World}{g:Nat}{S:List Int}(h:Seen w g S){i:Nat}:Seen (w.setCell ⟨g,i,none⟩ (.bool true)) g (S++[(i:Int)]):=by
 obtain⟨cur,h1,h2,h3⟩:=h;refine⟨cur.setIfInBounds i (.bool true),by simp[World.setCell,Array.getElem?_modify,h1],by simp[h2],fun j hj=>?_⟩
 rw[Array.getElem?_setIfInBounds];split
 .subst_vars
  rw[if_pos (by omega)]
  simp
 .rw[h3 j hj];congr 3;simp;omega
theorem Seen.start(w:World):Seen (w.alloc (.cells zAZ 195)) w.heap.size []:=by
 refine⟨_,heap_alloc_new w _,by rw[ybdn];simp,fun i hi=>?_⟩
 rw[ybdn];simp[hi]
def ybhx(ids:List Int):Bool:=decide ((∀x∈ids,0<=x/\x<=255)/\ids.Nodup)
def ytz(ids:List Int)(k:Nat):Prop:=(∀x∈ids.take k,0<=x/\x<=255)/\(ids.take k).Nodup
theorem ybrf{ids:List Int}{k:Nat}(hk:k<ids.length):ytz ids (k+1)↔ytz ids k/\(0<=ids[k]/\ids[k]<=255)/\ids[k]∉ids.take k:=by
 unfold ytz;rw[take_snoc ids k hk,List.nodup_append];constructor
 .rintro⟨h1,h2,_,h3⟩;exact⟨⟨fun x hx=>h1 x (zAN _ hx),h2⟩,h1 _ (List.mem_append_right _ (by simp)),fun hm=>h3 _ hm _ (by simp) rfl⟩
 .rintro⟨⟨h1,h2⟩,h3,h4⟩;refine⟨fun x hx=>?_,h2,by simp,fun a ha b hb e=>?_⟩
  .rcases List.mem_append.1 hx with hx|hx
   .exact h1 x hx
   .simp at hx;subst hx;exact h3
  .simp at hb;subst hb e;exact h4 ha
theorem ybir{ids:List Int}{k:Nat}(h:¬ytz ids k):ybhx ids=false:=by
 unfold ybhx;rw[decide_eq_false_iff_not];exact fun hd=>h ⟨fun x hx=>hd.1 x (List.mem_of_mem_take hx),hd.2.sublist (List.take_sublist _ _)⟩
theorem ybni{ids:List Int}(h:ytz ids ids.length):ybhx ids=true:=by
 unfold ytz at h;rw[zU]at h;exact decide_eq_true h
set_option maxRecDepth 100000 in
set_option maxHeartbeats 1000000 in
theorem ysa(iv:Value)(ids:List Int)(w:World)(hi:yki w iv ids) :
 Calls zC 152 #[iv] w fun e w'=>e = .returned (.bool (ybhx ids))/\Below w.heap.size w w':=by
 obtain⟨A,c,rfl,hA1,hA2⟩:=ybp hi;have Hi:=zA hi
 clear hi
 go_enter Tryz.func152,Tryz.ntmps152
 go_wp2
 go_loopg [8] ids.length (fun q t wr=>∃k:Nat,q+k=ids.length/\t = .int .i64 k/\Hid (Below w.heap.size w wr)/\Hid (Seen wr w.heap.size (ids.take k))/\Hid (ytz ids k))
 case atStart=>exact⟨0,by omega,rfl,zA ((Below.refl _ _).alloc (zF _) _),zA (Seen.start w),zA ⟨by simp,by simp⟩⟩
 case round =>
  obtain⟨k,hq,rfl,hbel,hseen,hok⟩:=hrel
  by_cases hlt:k<ids.length
  .obtain⟨b,off,rfl,hb,hcid,hr⟩:=yft (Hi.out.below Stable.int hbel.out) hlt;obtain⟨x,hx⟩:∃x,ids[k]=x:=⟨_,rfl⟩;have Hsn:=zA (ybrf hlt);rw[hx]at hcid hr Hsn;obtain⟨hr1,hr2⟩:=hr;have Hbad:=zA (fun h=>ybir (ids:=ids) (k:=k+1) h);have Hts:=zA (take_snoc ids k hlt);rw[hx]at Hts
   clear hx
   by_cases c1:0<=x/\x<=255
   .obtain⟨c1a,c1b⟩:=c1;obtain⟨n,rfl⟩:=zK c1a;have hcs:=hseen.out.cell (i:=n) (by omega)
    have hfs:=hseen.out.frozen n
    by_cases c2:(n:Int)∈ids.take k
    .rw[decide_eq_true c2]at hcs;have Hf:=zA (Hbad.out (fun h=>(Hsn.out.1 h).2.2 c2))
     clear c2
     go_wp2
     go_ret
     exact⟨ybj Hf.out.symm,hbel.out⟩
    .rw[decide_eq_false c2]at hcs;have Hn:=zA (Hsn.out.2 ⟨hok.out,⟨by omega,by omega⟩,c2⟩)
     clear c2
     go_wp2
     go_roundg (gk-1)
     case measure=>omega
     case rel =>
      refine⟨k+1,by omega,by go_num,zA (hbel.out.setCell (zF _) _),zA ?_,Hn⟩
      rw[Hts.out];exact hseen.out.set_
   .have Hf:=zA (Hbad.out (fun h=>c1 (Hsn.out.1 h).2.1))
    by_cases c3:x<0
    .clear c1
     go_wp2
     go_ret
     exact⟨ybj Hf.out.symm,hbel.out⟩
    .have c4:255<x:=by omega
     clear c1
     go_wp2
     go_ret
     exact⟨ybj Hf.out.symm,hbel.out⟩
  .obtain rfl:k=ids.length:=by omega
   have Ht:=zA (ybni hok.out)
   go_wp2
   go_ret
   exact⟨ybj Ht.out.symm,hbel.out⟩
theorem ybxe(g:Gr)(h1:1<=g.ids.length)(h2:g.ids.length<=24)(h3:g.ports.length=g.ids.length):yco g=(ybhx g.ids&&symB g.ports):=by
 unfold yco ybhx symB;rw[<-Bool.decide_and];congr 1;apply propext;unfold ybe ycdw;constructor
 .rintro⟨_,_,_,h4,h5,h6,h7⟩;exact⟨⟨h4,h5⟩,h6,h7⟩
 .rintro⟨⟨h4,h5⟩,h6,h7⟩;exact⟨by omega,by omega,by omega,h4,h5,h6,h7⟩
set_option maxHeartbeats 1000000 in
theorem ytl(gv:Value)(g:Gr)(w:World)(hg:GrAt w gv g) :
 Calls zC 96 #[gv] w fun e w'=>e = .returned (.bool (yco g))/\Below w.heap.size w w':=by
 obtain⟨i,p,rfl,hi,hp⟩:=hg;obtain⟨A,c,rfl,hA1,hA2⟩:=ybp hi;obtain⟨A2,c2,rfl,hB1,hB2⟩:=ybp hp;have Hi:=zA hi;have Hp:=zA hp
 clear hi hp
 by_cases n1:1<=g.ids.length
 .by_cases n2:g.ids.length<=24
  .by_cases n3:g.ports.length=g.ids.length
   .have n3':((g.ports.length:Int)!=(g.ids.length:Int))=false:=by simp[n3]
    have He:=zA (ybxe g n1 n2 n3);have n3a:g.ports.length<=24:=by omega
    clear n3
    go_enter zAG,zAL
    go_wp2_with fail
    refine(ysa _ g.ids _ (Hi.out.below Stable.int ((Below.refl _ _).alloc (zF _) _))).mono ?_;rintro e w1 ⟨rfl,hb1⟩;have Hb1:=zA (ylp hb1);obtain⟨q0,q1⟩:=ybgc hb1
    clear hb1
    cases hd:ybhx g.ids with
    | false =>
      have Hv:=zA (show yco g=false by rw[He.out,hd];rfl)
      go_wp2_with fail
      go_ret
      exact⟨ybj Hv.out.symm,Hb1.out⟩
    | true =>
      have Hv:=zA (show yco g=symB g.ports by rw[He.out,hd];rfl)
      go_wp2_with fail
      refine(ymq _ g.ports _ (Hp.out.below (Stable.sl Stable.link) Hb1.out) (by omega)).mono ?_
      rintro e w2 ⟨rfl,hb2⟩
      go_wp2_with fail
      go_ret
      exact⟨ybj Hv.out.symm,Hb1.out.trans (hb2.mono Hb1.out.size)⟩
   .have n3':((g.ports.length:Int)!=(g.ids.length:Int))=true:=by simp;omega
    have Hf:=zA (yej (g:=g) (fun h=>n3 h.2.2.symm))
    clear n3
    go_enter zAG,zAL
    go_wp2
    go_ret
    exact⟨ybj Hf.out.symm,(Below.refl _ _).alloc (zF _) _⟩
  .have Hf:=zA (yej (g:=g) (fun h=>n2 (by omega)))
   go_enter zAG,zAL
   go_wp2
   go_ret
   exact⟨ybj Hf.out.symm,(Below.refl _ _).alloc (zF _) _⟩
 .have Hf:=zA (yej (g:=g) (fun h=>n1 (by omega)))
  go_enter zAG,zAL
  go_wp2
  go_ret
  exact⟨ybj Hf.out.symm,(Below.refl _ _).alloc (zF _) _⟩
end
section
namespace Sh
open Go Ev Go.RowKit
theorem yfi{x:Int}(h:-4611686018427387904<=x/\x<=4611686018427387904):I64 x:=by
 unfold I64;omega
theorem ydbf{g:Gr}(hg:ybe g):GrI g:=by
 obtain⟨h1,h2,h3,h4,h5,h6,h7⟩:=hg;refine⟨fun x hx=>yfi (by have:=h4 x hx;omega),fun ls hls l hl=>?_⟩
 obtain⟨v,hv,rfl⟩:=List.getElem_of_mem hls;obtain⟨a1,a2,a3,a4,a5⟩:=(h6 ⟨v,hv⟩).1 l hl;exact⟨yfi (by omega),yfi (by omega)⟩
theorem ywy{g:Gr}(hI:GrI g):Returns zC 96 [grV g] (.b (yco g)):=by
 refine ytq ⟨_,_,zAG,rfl⟩ (fun _=>.b) (fun _=>.simple rfl) fun G m us hG hr φ M w us' hR hs hv=>?_;obtain⟨u,rfl,h1⟩:=rvl1 hr;obtain⟨u',rfl,h2⟩:=yfa hv;exact ytl u' g w (ybpq hG h1 h2 hR hs hI)
end Sh
end
section
namespace Sh
open Go Ev
def ydjq:LO:=[o3 (.alloc 87 1 [.a (.string (ByteArray.mk #[])),.i .i64 0,.i .i64 0,.i .i64 0,.i .i64 0,.i .i64 0]) 8 0]
def ydsh:LO:=[mv' 0 9 0,mv' 1 10 0,mv' 2 11 0,mv' 3 12 0,o3 (.build [.a (.string (ByteArray.mk #[])),.i .i64 0,.i .i64 0,.i .i64 0,.i .i64 0,.i .i64 0] [(0,1,(.tmp 9)),(1,1,(ci' 1)),(3,1,(.tmp 10)),(4,1,(.tmp 11)),(5,1,(.tmp 12))]) 13 15,o0 (.store 6 (.tmp 8) (.tmp 13)) 31]
def c79:SC:=(.seq (.reg false ydjq) (.seq (.reg false ydsh) .ret))
theorem ydnb:Fn 79 c79 [.c 8 true 6]:=fn_0 Tryz.func79 (by kernel_rfl) (by kernel_rfl)
end Sh
end
section
structure VarR where
 name:ByteArray
 kind:Int
 lo:Int
 hi:Int
 perNode:Int
 perID:Int
def varE:Elem VarR:=fun w b o x=>w.cell? ⟨b,o,none⟩=some (.string x.name)/\w.cell? ⟨b,o+1,none⟩=some (.int .i64 x.kind)/\w.cell? ⟨b,o+2,none⟩=some (.int .i64 x.lo)/\w.cell? ⟨b,o+3,none⟩=some (.int .i64 x.hi) /\
 w.cell? ⟨b,o+4,none⟩=some (.int .i64 x.perNode)/\w.cell? ⟨b,o+5,none⟩=some (.int .i64 x.perID)
theorem Stable.var:Stable varE:=fun _ _ _ _ _ h _ hx=>⟨h _ _ hx.1,h _ _ hx.2.1,h _ _ hx.2.2.1,h _ _ hx.2.2.2.1,h _ _ hx.2.2.2.2.1,h _ _ hx.2.2.2.2.2⟩
theorem ybne(ids:List Int)(k:Nat)(hk:k<ids.length):(ids.take (k+1)).foldl max 0=max ((ids.take k).foldl max 0) ids[k]:=by
 rw[take_snoc ids k hk,zS];rfl
theorem ybdm(D:List Int)(m:Int)(h:∀x∈D,x<=m):∀a:Int,a<=m->D.foldl max a<=m:=by
 induction D with
 |nil=>intro a ha;exact ha
 |cons x D ih=>intro a ha;exact ih (fun y hy=>h y (by simp[hy])) _ (Int.max_le.2 ⟨ha,h x (by simp)⟩)
theorem yvg{g:Gr}(hg:ybe g):0<=ybfv g/\ybfv g<=255:=⟨yqz _ _,ybdm _ _ (fun x hx=>(hg.2.2.2.1 x hx).2) _ (by omega)⟩
end
section
abbrev Tm:=Int×Int
structure SetR where
 var:Int
 val:List Tm
structure RuleR where
 name:ByteArray
 guard:List Tm
 sets:List SetR
structure ProgR where
 name:ByteArray
 vars:List VarR
 rules:List RuleR
instance:Inhabited VarR:=⟨⟨.empty,0,0,0,0,0⟩⟩
instance:Inhabited SetR:=⟨⟨0,[]⟩⟩
instance:Inhabited RuleR:=⟨⟨.empty,[],[]⟩⟩
inductive Ex where
 |leaf (op arg:Int)
 |un (op:Int) (a:Ex)
 |agg (op:Int) (a:Ex)
 |bin (op:Int) (a b:Ex)
 |ite (c a b:Ex)
def Ex.ser:Ex->List Tm
 |.leaf op arg=>[(op,arg)]
 |.un op a=>(op,0)::a.ser
 |.agg op a=>(op,0)::a.ser
 |.bin op a b=>(op,0)::(a.ser++b.ser)
 |.ite c a b=>(43,0)::(c.ser++(a.ser++b.ser))
def satP(a:Int):Int:=max (-1073741824) (min a 1073741824)
def ybu(b:Bool):Int:=if b then 1 else 0
def yvw(a b:Int):Int:=if b=0 then 0 else if a.tmod b≠0/\(decide (a<0)≠decide (b<0))then a.tdiv b-1 else a.tdiv b
def unP(op a:Int):Int:=if op=18 then -a else ybu (a==0)
def cmpP(op a b:Int):Bool:=if op=35 then a==b else if op=36 then a != b else if op=37 then decide (a<b)else if op=38 then decide (a<=b)else if op=39 then decide (a>b)else decide (a>=b)
def binP(op a b:Int):Int :=
 if op=30 then satP (a*b)else if op=31 then satP (yvw a b)else if op=32 then(if b=0 then 0 else satP (a-b*yvw a b))else if op=33 then satP (a+b)else if op=34 then satP (a-b)
 else if op=41 then ybu (a != 0&&b != 0)else if op=42 then ybu (a != 0||b != 0)else ybu (cmpP op a b)
def countP(l:List Int):Int:=((l.filter (· != 0)).length:Int)
def yre(l:List Int):Int:=l.foldl min 1073741824
def ydo(l:List Int):Int×Int:=l.foldl (fun p a=>if a>p.1 then(a,p.1)else(p.1,max p.2 a)) (-1073741824,-1073741824)
def yvy(l:List Int):Nat->Int->Int
 |0,r=>r
 |n+1,r=>if l.elem r then yvy l n (r+1)else r
def mexP(l:List Int):Int:=yvy l (l.length+1) 0
def yfy(l:List Int):Int:=match l.findIdx? (· != 0)with|some i=>i|none=>-1
def yhf(op:Int)(l:List Int):Int :=
 if op=20 then ybu (countP l==l.length)else if op=21 then ybu (decide (countP l>0))else if op=22 then countP l else if op=23 then yfy l else if op=24 then yre l else if op=25 then(ydo l).1
 else if op=26 then satP l.sum else if op=27 then mexP l else if op=28 then(ydo l).2 else l.headD 0
structure Sc where
 g:Gr
 c:Conf
def ycm(g:Gr)(v port:Nat):Int×Int:=(g.ports.getD v []).getD port (0,0)
def ykp(g:Gr)(v:Nat):List Int:=(g.ports.getD v []).map fun l=>yhh (g.ports.getD l.1.toNat []) v
def ymt(g:Gr)(op:Int)(v:Nat)(port:Int):Int :=
 if op=6 then g.ids.length else if op=7 then ybfv g else if op=8 then g.ids.getD v 0 else if op=9 then((g.ports.getD v []).length:Int)else if op=10 then ybu ((v:Int)==0)else if op=11 then port
 else(let l:=ycm g v port.toNat
  if op=13 then g.ids.getD l.1.toNat 0 else if op=14 then((g.ports.getD l.1.toNat []).length:Int)else if op=15 then ybu (l.1==0)else if op=16 then l.2 else(ykp g v).getD port.toNat 0)
def yvr(g:Gr)(c:Conf)(op arg:Int)(v:Nat)(port:Int):Int :=
 if op=1 then arg else if op=2 then 1 else if op=3 then 0 else if op=4 then -1 else if op=5 then(c.getD v []).getD arg.toNat 0 else if op=12 then(c.getD (ycm g v port.toNat).1.toNat []).getD arg.toNat 0
 else ymt g op v port
def yda(g:Gr)(c:Conf)(v:Nat):Ex->Int->Int
 |.leaf op arg,p=>yvr g c op arg v p
 |.un op a,p=>unP op (yda g c v a p)
 |.agg op a,_=>yhf op ((zT (g.ports.getD v []).length).map fun(q:Nat)=>yda g c v a (q:Int))
 |.bin op a b,p=>binP op (yda g c v a p) (yda g c v b p)
 |.ite x a b,p=>if yda g c v x p≠0 then yda g c v a p else yda g c v b p
def Ex.ok(nv:Int)(bnd:Bool):Ex->Bool
 |.leaf op arg=>decide (1<=op/\op<=17)&&(if op=1 then decide (0<=arg/\arg<=1073741824)else if op=5\/op=12 then decide (0<=arg/\arg<nv)else true)&&(if 11<=op then bnd else true)
 |.un op a=>decide (op=18\/op=19)&&a.ok nv bnd
 |.agg op a=>decide (20<=op/\op<=29)&&a.ok nv true
 |.bin op a b=>decide (30<=op/\op<=42)&&a.ok nv bnd&&b.ok nv bnd
 |.ite x a b=>x.ok nv bnd&&a.ok nv bnd&&b.ok nv bnd
def InB(x:Int):Prop:=-1073741824<=x/\x<=1073741824
theorem yql(a:Int):InB (satP a):=by unfold InB satP;omega
theorem yfu(b:Bool):InB (ybu b):=by unfold InB ybu;cases b<;>simp
theorem ydqs{op a:Int}(h:InB a):InB (unP op a):=by
 unfold unP;split
 .unfold InB at *;omega
 .exact yfu _
theorem yddn(op a b:Int):InB (binP op a b):=by
 unfold binP;split;· exact yql _
 split;· exact yql _
 split
 .split
  .unfold InB;omega
  .exact yql _
 split;· exact yql _
 split;· exact yql _
 split;· exact yfu _
 split;· exact yfu _
 exact yfu _
theorem countP_le(l:List Int):0<=countP l/\countP l<=l.length:=by
 unfold countP;have:=List.length_filter_le (· != 0) l;omega
theorem ybtm(l:List Int)(h:∀x∈l,InB x):InB (yre l):=by
 unfold yre
 have:∀(l:List Int) (a:Int),InB a->(∀x∈l,InB x)->InB (l.foldl min a):=by
  intro l
  induction l with
  |nil=>intro a ha _;exact ha
  | cons x l ih =>
    intro a ha hl;refine ih _ ?_ fun y hy=>hl y (zAC _ hy);have:=hl x zAH;unfold InB at *;omega
 exact this l _ (by unfold InB;omega) h
theorem yyf(l:List Int)(h:∀x∈l,InB x):InB (ydo l).1/\InB (ydo l).2:=by
 unfold ydo
 have:∀(l:List Int) (p:Int×Int),InB p.1/\InB p.2->(∀x∈l,InB x)->InB (l.foldl (fun p a=>if a>p.1 then(a,p.1)else(p.1,max p.2 a)) p).1/\InB (l.foldl (fun p a=>if a>p.1 then(a,p.1)else(p.1,max p.2 a)) p).2:=by
  intro l
  induction l with
  |nil=>intro p hp _;exact hp
  | cons x l ih =>
    intro p hp hl;refine ih _ ?_ fun y hy=>hl y (zAC _ hy);have:=hl x zAH;unfold InB at *
    dsimp only
    split<;>dsimp only<;>omega
 exact this l _ (by unfold InB;simp) h
theorem yblm(l:List Int):∀(n:Nat) (r:Int),r<=yvy l n r/\yvy l n r<=r+n
 |0,r=>by unfold yvy;omega
 | n+1,r=>by
   unfold yvy;have:=yblm l n (r+1);split<;>omega
theorem ybey(l:List Int):-1<=yfy l/\yfy l<l.length\/yfy l = -1:=by
 unfold yfy;split
 .rename_i i hi
  obtain⟨h,_⟩:=List.findIdx?_eq_some_iff_getElem.1 hi;left;omega
 .exact .inr rfl
theorem ycds{op:Int}{l:List Int}(hl:l.length<=1000)(h:∀x∈l,InB x):InB (yhf op l):=by
 have hc:=countP_le l;unfold yhf;split;· exact yfu _
 split;· exact yfu _
 split;· unfold InB;omega
 split;· have:=ybey l;unfold InB;omega
 split;· exact ybtm l h
 split;· exact(yyf l h).1
 split;· exact yql _
 split;· have:=yblm l (l.length+1) 0;unfold mexP InB;omega
 split;· exact(yyf l h).2
 cases l with
 |nil=>unfold InB;simp
 |cons x l=>exact h x zAH
structure ConfIn(n nv:Nat)(c:Conf):Prop where
 len:c.length=n
 row:∀s∈c,s.length=nv/\∀x∈s,InB x
theorem ConfIn.at_{n nv:Nat}{c:Conf}(h:ConfIn n nv c){v:Nat}(hv:v<n):(c.getD v []).length=nv/\∀k,InB ((c.getD v []).getD k 0):=by
 have hlt:v<c.length:=by rw[h.len];exact hv
 have e:c.getD v []=c[v]:=by simp[zH,hlt]
 obtain⟨h1,h2⟩:=h.row c[v] (zQ hlt);rw[e];refine⟨h1,fun k=>?_⟩;rw[zO];cases hk:c[v][k]? with
 |none=>simp;unfold InB;omega
 |some x=>simp;exact h2 x (zG hk)
theorem ybe.ycm{g:Gr}(hg:ybe g){v p:Nat}(hv:v<g.ports.length)(hp:p<(g.ports.getD v []).length):0<=(ycm g v p).1/\(ycm g v p).1<g.ports.length/\1<=(ycm g v p).2/\(ycm g v p).2<=15:=by
 have e:g.ports.getD v []=g.ports[v]:=by simp[zH,hv]
 have h1:=hg.2.2.2.2.2.1 ⟨v,hv⟩;rw[e]at hp;have hm:(g.ports[v])[p]∈g.ports[v]:=zQ hp;have h2:=h1.1 _ hm;unfold yiu at h2;have e2:Go.Proofs.YtiejahgklcjhkaaGreatDoor.ycm g v p=(g.ports[v])[p]:=by unfold Go.Proofs.YtiejahgklcjhkaaGreatDoor.ycm;rw[e];simp[zH,hp]
 rw[e2];omega
theorem ybe.deg_lt{g:Gr}(hg:ybe g){v:Nat}:(g.ports.getD v []).length<24:=by
 by_cases hv:v<g.ports.length
 .have h1:=hg.2.2.2.2.2.1 ⟨v,hv⟩;have:=ytp hv h1;have e:g.ports.getD v []=g.ports[v]:=by simp[zH,hv]
  rw[e];have:=hg.2.1;have h3:g.ports[(⟨v,hv⟩:Fin g.ports.length)].length=g.ports[v].length:=rfl;omega
 .rw[zO,zAB (by omega)]
  simp
theorem ybe.id_in{g:Gr}(hg:ybe g)(v:Nat):0<=g.ids.getD v 0/\g.ids.getD v 0<=255:=by
 rw[zO];cases h:g.ids[v]? with
 |none=>simp
 |some x=>exact hg.2.2.2.1 x (zG h)
theorem ycgd{g:Gr}{c:Conf}{n nv:Nat}(hg:ybe g)(hn:g.ports.length=n)(hc:ConfIn n nv c){op arg:Int}{bnd:Bool}(ho:(Ex.leaf op arg).ok nv bnd=true){v:Nat}(hv:v<n){p:Int}(hp:bnd=true->0<=p/\p<(g.ports.getD v []).length)(hpi:InB p):InB (yvr g c op arg v p):=by
 subst hn;have h24:=hg.2.1;have hd:=hg.deg_lt (v:=v);unfold yvr;simp only[Ex.ok,zJ,decide_eq_true_eq]at ho;obtain⟨⟨ho1,ho2⟩,ho3⟩:=ho;split
 .rename_i h;rw[if_pos h]at ho2;simp at ho2;unfold InB;omega
 split;· unfold InB;omega
 split;· unfold InB;omega
 split;· unfold InB;omega
 split;· exact(hc.at_ hv).2 _
 split
 .rename_i h
  rw[if_pos (by omega)]at ho3
  obtain⟨q1,q2⟩:=hp ho3;have hl:=hg.ycm hv (p:=p.toNat) (by omega)
  exact(hc.at_ (v:=(ycm g v p.toNat).1.toNat) (by omega)).2 _
 .unfold ymt;split;· rw[hg.2.2.1];unfold InB;omega
  split;· have:=yvg hg;unfold InB;omega
  split;· have:=hg.id_in v;unfold InB;omega
  split;· unfold InB;omega
  split;· exact yfu _
  split;· exact hpi
  rename_i h6 h7 h8 h9 h10 h11
  rw[if_pos (by omega)]at ho3
  obtain⟨q1,q2⟩:=hp ho3;have hl:=hg.ycm hv (p:=p.toNat) (by omega)
  simp only;split;· have:=hg.id_in (ycm g v p.toNat).1.toNat;unfold InB;omega
  split;· have:=hg.deg_lt (v:=(ycm g v p.toNat).1.toNat);unfold InB;omega
  split;· exact yfu _
  split;· unfold InB;omega
  .unfold ykp;rw[zO,List.getElem?_map];cases hk:(g.ports.getD v [])[p.toNat]? with
   |none=>simp;unfold InB;omega
   | some l =>
     simp;have hd2:=hg.deg_lt (v:=l.1.toNat);rcases ynh (ls:=g.ports.getD l.1.toNat []) (u:=(v:Int))with e|⟨k,e,hk⟩
     .simp at e;rw[e];unfold InB;omega
     .simp at e hk hd2;rw[e];unfold InB;omega
theorem yhr{g:Gr}{c:Conf}{n nv:Nat}(hg:ybe g)(hn:g.ports.length=n)(hc:ConfIn n nv c){v:Nat}(hv:v<n):∀(x:Ex) {bnd:Bool}{p:Int},x.ok nv bnd=true->(bnd=true->0<=p/\p<(g.ports.getD v []).length)->InB p->InB (yda g c v x p)
 |.leaf op arg,bnd,p,h,hp,hpi=>ycgd hg hn hc h hv hp hpi
 | .un op a,bnd,p,h,hp,hpi=>by
   simp only[Ex.ok,zJ]at h;exact ydqs (yhr hg hn hc hv a h.2 hp hpi)
 | .agg op a,bnd,p,h,hp,hpi=>by
   simp only[Ex.ok,zJ]at h;have:=hg.deg_lt (v:=v);refine ycds (by simp;simp at this;omega) fun x hx=>?_
   obtain⟨q,hq,rfl⟩:=List.mem_map.1 hx;have hq:=List.mem_range.1 hq;exact yhr hg hn hc hv a h.2 (fun _=>by omega) (by unfold InB;omega)
 |.bin op a b,bnd,p,h,hp,hpi=>yddn _ _ _
 | .ite x a b,bnd,p,h,hp,hpi=>by
   simp only[Ex.ok,zJ]at h;unfold yda;split
   .exact yhr hg hn hc hv a h.1.2 hp hpi
   .exact yhr hg hn hc hv b h.2 hp hpi
end
section
namespace Sh
open Go Ev
def varC(x:VarR):List SV:=[.a (.string x.name),.i .i64 x.kind,.i .i64 x.lo,.i .i64 x.hi,.i .i64 x.perNode,.i .i64 x.perID]
def ydm(l:List VarR):SV:=.sl 6 l.length (fun k=>varC (l.getD k default))
def yim(l:List SetR):SV:=.sl 2 l.length (fun k=>[.i .i64 (l.getD k default).var,ybc (l.getD k default).val])
def ydg(l:List RuleR):SV:=.sl 3 l.length (fun k=>[.a (.string (l.getD k default).name),ybc (l.getD k default).guard,yim (l.getD k default).sets])
def yna(p:ProgR):List SV:=[.a (.string p.name),ydm p.vars,ydg p.rules]
def ydy(g:Gr):SV:=.sl 1 g.ports.length (fun v=>[yu (ykp g v)])
def yfs(p:ProgR)(g:Gr):List SV:=[.a (.string p.name),ydm p.vars,ydg p.rules,yu g.ids,yx g.ports,.i .i64 (ybfv g),ydy g]
def yjh(p:ProgR)(g:Gr)(c:Conf)(v:Nat)(e:List Tm):List SV:=[.rf (yfs p g),ybm c,.i .i64 v,ybc e]
theorem ybqc(l:List Int):one1 (yu l)=true:=rfl
theorem ybhl{n:Nat}(l:List Int):owned (n+1) (yu l)=false:=rfl
theorem ybbe{n:Nat}(l:List Int):scalar (n+1) (yu l)=false:=rfl
theorem ybow{n:Nat}(o:Own)(l:List Int):view o (n+1) (yu l)=yu l:=rfl
theorem ybwc{n:Nat}(o:Own)(l:List Int):vok o (n+1) (yu l)=True:=rfl
theorem ybzu{n:Nat}(h:Nm->Nm)(l:List Int):ren h (n+1) (yu l)=yu l:=rfl
theorem ybrh{n:Nat}(L:Nm->Bool)(l:List Int):cln L (n+1) (yu l)=true:=rfl
theorem ybjb(l:List (Int×Int)):one1 (ybc l)=true:=rfl
theorem ybcn{n:Nat}(l:List (Int×Int)):owned (n+1) (ybc l)=false:=rfl
theorem ybat{n:Nat}(l:List (Int×Int)):scalar (n+1) (ybc l)=false:=rfl
theorem ybgj{n:Nat}(o:Own)(l:List (Int×Int)):view o (n+1) (ybc l)=ybc l:=rfl
theorem ybqd{n:Nat}(o:Own)(l:List (Int×Int)):vok o (n+1) (ybc l)=True:=rfl
theorem yboz{n:Nat}(h:Nm->Nm)(l:List (Int×Int)):ren h (n+1) (ybc l)=ybc l:=rfl
theorem ybmo{n:Nat}(L:Nm->Bool)(l:List (Int×Int)):cln L (n+1) (ybc l)=true:=rfl
theorem ybgu(l:List (List (Int×Int))):one1 (yx l)=true:=rfl
theorem ybdu{n:Nat}(l:List (List (Int×Int))):owned (n+1) (yx l)=false:=rfl
theorem ybab{n:Nat}(l:List (List (Int×Int))):scalar (n+1) (yx l)=false:=rfl
theorem ybgw{n:Nat}(o:Own)(l:List (List (Int×Int))):view o (n+1) (yx l)=yx l:=rfl
theorem ybqq{n:Nat}(o:Own)(l:List (List (Int×Int))):vok o (n+1) (yx l)=True:=rfl
theorem ybnh{n:Nat}(h:Nm->Nm)(l:List (List (Int×Int))):ren h (n+1) (yx l)=yx l:=rfl
theorem ybon{n:Nat}(L:Nm->Bool)(l:List (List (Int×Int))):cln L (n+1) (yx l)=true:=rfl
theorem ybpp(l:List (List Int)):one1 (ybm l)=true:=rfl
theorem ybjk{n:Nat}(l:List (List Int)):owned (n+1) (ybm l)=false:=rfl
theorem ybdv{n:Nat}(l:List (List Int)):scalar (n+1) (ybm l)=false:=rfl
theorem ybqg{n:Nat}(o:Own)(l:List (List Int)):view o (n+1) (ybm l)=ybm l:=rfl
theorem ybzh{n:Nat}(o:Own)(l:List (List Int)):vok o (n+1) (ybm l)=True:=rfl
theorem ybtv{n:Nat}(h:Nm->Nm)(l:List (List Int)):ren h (n+1) (ybm l)=ybm l:=rfl
theorem ybur{n:Nat}(L:Nm->Bool)(l:List (List Int)):cln L (n+1) (ybm l)=true:=rfl
theorem ybph(l:List VarR):one1 (ydm l)=true:=rfl
theorem ybif{n:Nat}(l:List VarR):owned (n+1) (ydm l)=false:=rfl
theorem ybbx{n:Nat}(l:List VarR):scalar (n+1) (ydm l)=false:=rfl
theorem ybpy{n:Nat}(o:Own)(l:List VarR):view o (n+1) (ydm l)=ydm l:=rfl
theorem ybxp{n:Nat}(o:Own)(l:List VarR):vok o (n+1) (ydm l)=True:=rfl
theorem ybty{n:Nat}(h:Nm->Nm)(l:List VarR):ren h (n+1) (ydm l)=ydm l:=rfl
theorem ycao{n:Nat}(L:Nm->Bool)(l:List VarR):cln L (n+1) (ydm l)=true:=rfl
theorem ybqj(l:List SetR):one1 (yim l)=true:=rfl
theorem ybhn{n:Nat}(l:List SetR):owned (n+1) (yim l)=false:=rfl
theorem ybdz{n:Nat}(l:List SetR):scalar (n+1) (yim l)=false:=rfl
theorem ybpu{n:Nat}(o:Own)(l:List SetR):view o (n+1) (yim l)=yim l:=rfl
theorem ybyi{n:Nat}(o:Own)(l:List SetR):vok o (n+1) (yim l)=True:=rfl
theorem ycar{n:Nat}(h:Nm->Nm)(l:List SetR):ren h (n+1) (yim l)=yim l:=rfl
theorem ybya{n:Nat}(L:Nm->Bool)(l:List SetR):cln L (n+1) (yim l)=true:=rfl
theorem ybix(l:List RuleR):one1 (ydg l)=true:=rfl
theorem ybfh{n:Nat}(l:List RuleR):owned (n+1) (ydg l)=false:=rfl
theorem ybaa{n:Nat}(l:List RuleR):scalar (n+1) (ydg l)=false:=rfl
theorem ybiy{n:Nat}(o:Own)(l:List RuleR):view o (n+1) (ydg l)=ydg l:=rfl
theorem ybny{n:Nat}(o:Own)(l:List RuleR):vok o (n+1) (ydg l)=True:=rfl
theorem yboq{n:Nat}(h:Nm->Nm)(l:List RuleR):ren h (n+1) (ydg l)=ydg l:=rfl
theorem ybmy{n:Nat}(L:Nm->Bool)(l:List RuleR):cln L (n+1) (ydg l)=true:=rfl
theorem ybim(l:Gr):one1 (ydy l)=true:=rfl
theorem ybcg{n:Nat}(l:Gr):owned (n+1) (ydy l)=false:=rfl
theorem yzq{n:Nat}(l:Gr):scalar (n+1) (ydy l)=false:=rfl
theorem ybgf{n:Nat}(o:Own)(l:Gr):view o (n+1) (ydy l)=ydy l:=rfl
theorem ybqo{n:Nat}(o:Own)(l:Gr):vok o (n+1) (ydy l)=True:=rfl
theorem ybqk{n:Nat}(h:Nm->Nm)(l:Gr):ren h (n+1) (ydy l)=ydy l:=rfl
theorem ybqe{n:Nat}(L:Nm->Bool)(l:Gr):cln L (n+1) (ydy l)=true:=rfl
theorem ybgl{n:Nat}(fr:List Nm)(o:Own)(l:List Int):ydk fr o (n+1) (yu l)=yu l:=rfl
theorem ybwu{n:Nat}(fr:List Nm)(o:Own)(l:List Int):pok fr o (n+1) (yu l)=True:=rfl
theorem ybbn{n:Nat}(fr:List Nm)(o:Own)(l:List (Int×Int)):ydk fr o (n+1) (ybc l)=ybc l:=rfl
theorem ybqa{n:Nat}(fr:List Nm)(o:Own)(l:List (Int×Int)):pok fr o (n+1) (ybc l)=True:=rfl
theorem ybex{n:Nat}(fr:List Nm)(o:Own)(l:List (List (Int×Int))):ydk fr o (n+1) (yx l)=yx l:=rfl
theorem ybmp{n:Nat}(fr:List Nm)(o:Own)(l:List (List (Int×Int))):pok fr o (n+1) (yx l)=True:=rfl
theorem ybhj{n:Nat}(fr:List Nm)(o:Own)(l:List (List Int)):ydk fr o (n+1) (ybm l)=ybm l:=rfl
theorem ybzr{n:Nat}(fr:List Nm)(o:Own)(l:List (List Int)):pok fr o (n+1) (ybm l)=True:=rfl
theorem ybiz{n:Nat}(fr:List Nm)(o:Own)(l:List VarR):ydk fr o (n+1) (ydm l)=ydm l:=rfl
theorem ybut{n:Nat}(fr:List Nm)(o:Own)(l:List VarR):pok fr o (n+1) (ydm l)=True:=rfl
theorem ybfn{n:Nat}(fr:List Nm)(o:Own)(l:List SetR):ydk fr o (n+1) (yim l)=yim l:=rfl
theorem ybyc{n:Nat}(fr:List Nm)(o:Own)(l:List SetR):pok fr o (n+1) (yim l)=True:=rfl
theorem ybbh{n:Nat}(fr:List Nm)(o:Own)(l:List RuleR):ydk fr o (n+1) (ydg l)=ydg l:=rfl
theorem ybob{n:Nat}(fr:List Nm)(o:Own)(l:List RuleR):pok fr o (n+1) (ydg l)=True:=rfl
theorem ybce{n:Nat}(fr:List Nm)(o:Own)(l:Gr):ydk fr o (n+1) (ydy l)=ydy l:=rfl
theorem ybnf{n:Nat}(fr:List Nm)(o:Own)(l:Gr):pok fr o (n+1) (ydy l)=True:=rfl
theorem ybjm(l:List Int):SV.cells (yu l)=[yu l]:=rfl
theorem ybdt(l:List (Int×Int)):SV.cells (ybc l)=[ybc l]:=rfl
theorem ybdf(l:List (List (Int×Int))):SV.cells (yx l)=[yx l]:=rfl
theorem ybho(l:List (List Int)):SV.cells (ybm l)=[ybm l]:=rfl
theorem ybgh(l:List VarR):SV.cells (ydm l)=[ydm l]:=rfl
theorem ybga(l:List SetR):SV.cells (yim l)=[yim l]:=rfl
theorem ybev(l:List RuleR):SV.cells (ydg l)=[ydg l]:=rfl
theorem ybcw(l:Gr):SV.cells (ydy l)=[ydy l]:=rfl
attribute [go_sem] ybqc ybhl ybbe ybow ybwc ybzu ybrh ybjb ybcn ybat ybgj ybqd yboz ybmo
attribute [go_sem] ybgu ybdu ybab ybgw ybqq ybnh ybon ybpp ybjk ybdv ybqg ybzh ybtv
attribute [go_sem] ybur ybph ybif ybbx ybpy ybxp ybty ycao ybqj ybhn ybdz ybpu ybyi ycar
attribute [go_sem] ybya ybix ybfh ybaa ybiy ybny yboq ybmy ybim ybcg yzq ybgf ybqo
attribute [go_sem] ybqk ybqe ybgl ybwu ybbn ybqa ybex ybmp ybhj ybzr ybiz ybut ybfn ybyc
attribute [go_sem] ybbh ybob ybce ybnf ybjm ybdt ybdf ybho ybgh ybga ybev ybcw
end Sh
end
section
open Go.RowKit
theorem ybag(gv:Value)(g:Gr)(w:World)(hg:GrAt w gv g) :
 Calls zC 137 #[gv] w fun e w'=>e = .returned (.bool (yed g))/\Below w.heap.size w w':=by
 have hg0:=zA hg;obtain⟨i,p,rfl,hi,hp⟩:=hg
 clear hi hp
 cases hv:yco g with
 | false =>
   have Hf:=zA (show yed g=false by unfold yed;rw[hv];rfl)
   go_enter zAV,zBN
   go_wp2_with fail
   refine(ytl _ g _ (hg0.out.below ((Below.refl _ _).alloc (zF _) _))).mono ?_;rintro e w1 ⟨rfl,hb1⟩
   go_wp2_with fail
   go_ret
   exact⟨ybj Hf.out.symm,ylp hb1⟩
 | true =>
   have hgood:=(ych g).1 hv;have hn1:=hgood.1;have hn24:=hgood.2.1;have Hgood:=zA hgood;have Hd:=zA (ygb hgood (a:=0) (by omega))
   have Hc:=zA (show yed g=(ybt g 0).all (fun x=>decide (0<=x))by unfold yed;rw[hv];rfl)
   clear hgood
   go_enter zAV,zBN
   go_wp2_with fail
   refine(ytl _ g _ (hg0.out.below ((Below.refl _ _).alloc (zF _) _))).mono ?_;rintro e w1 ⟨rfl,hb1⟩;obtain⟨q0,q1⟩:=ybgc hb1;have Hb1:=zA (ylp hb1)
   clear hb1
   go_wp2_with fail
   refine(ybpc _ g 0 _ (hg0.out.below Hb1.out) Hgood.out (by omega)).mono ?_
   rintro e w2 ⟨v,rfl,hv2,hb2⟩;have Hb2:=zA (Hb1.out.trans (hb2.mono Hb1.out.size));obtain⟨A,c,rfl,hA1,hA2⟩:=ybp hv2;have Hv2:=zA hv2
   clear hb2 hv2
   obtain⟨D,hD⟩:∃D,ybt g 0=D:=⟨_,rfl⟩;rw[hD]at Hv2 Hd hA1 Hc ⊢
   clear hD
   go_wp2
   go_loopg [11] D.length (fun q t wr=>∃k:Nat,q+k=D.length/\t = .int .i64 k/\wr=w2/\Hid (∀j (hj:j<D.length),j<k->0<=D[j]))
   case atStart=>exact⟨0,by omega,rfl,rfl,zA (fun j _ hj=>absurd hj (by omega))⟩
   case round =>
    obtain⟨k,hq,rfl,rfl,hall⟩:=hrel
    by_cases hlt:k<D.length
    .obtain⟨b,off,rfl,hb,hc,hr⟩:=yft Hv2.out hlt
     by_cases c1:D[k]<0
     .have Hf:=zA (show yed g=false by
       rw[Hc.out,List.all_eq_false];exact⟨D[k],zQ hlt,by simp;omega⟩)
      go_wp2
      go_ret
      exact⟨ybj Hf.out.symm,Hb2.out⟩
     .go_wp2
      go_roundg (gk-1)
      case measure=>omega
      case rel =>
       refine⟨k+1,by omega,by go_num,rfl,zA (fun j hj hjk=>?_)⟩
       by_cases e:j=k
       .subst e;omega
       .exact hall.out j hj (by omega)
    .obtain rfl:k=D.length:=by omega
     have Ht:=zA (show yed g=true by
      rw[Hc.out,zW];intro x hx;obtain⟨j,hj,rfl⟩:=List.mem_iff_getElem.1 hx;exact decide_eq_true (hall.out j hj hj))
     go_wp2
     go_ret
     exact⟨ybj Ht.out.symm,Hb2.out⟩
theorem ygx{g:Gr}(h:yed g=true):yco g=true:=(zJ _ _▸h).1
end
section
namespace Sh
open Ev Go.RowKit
theorem ydvk{α:Type}(l:List α)(x d:α)(i:Nat):(l++[x]).getD i d=if i<l.length then l.getD i d else if i=l.length then x else d:=by
 by_cases h:i<l.length
 .simp[zH,List.getElem?_append_left h,h]
 .by_cases e:i=l.length
  .subst e;simp[zH]
  .rw[if_neg h,if_neg e,zH,zAB (by simp;omega)]
   rfl
theorem ydsw(k i:Nat)(hi:i≠k):(if i<k+1 then(-1:Int)else 0)=if i<k then -1 else 0:=by
 by_cases h:i<k
 .rw[if_pos h,if_pos (by omega)]
 .rw[if_neg h,if_neg (by omega)]
theorem yboy(g:Gr)(a i:Nat)(ha:a<g.ports.length)(hi:i<g.ports.length):(start g a).getD i 0=if i=a then 0 else -1:=by
 unfold start;rw[yzm (by simpa using ha)]
 split
 .rfl
 .rw[zO,zV,if_pos hi];rfl
theorem ybnw{g:Gr}(hg:ybe g){a:Nat}(ha:a<g.ports.length):Returns zC 139 [grV g,.i .i64 a] (yu (ybt g a)):=by
 refine Returns.of (ydde _ _ ?_);obtain⟨n,hn⟩:∃n,g.ports.length=n:=⟨_,rfl⟩;have h24:=hg.2.1;have h1:=hg.1;rw[hn]at h24 h1 ha;obtain⟨PV,hPV⟩:∃P,yx g.ports=P:=⟨_,rfl⟩;simp only[c139,ycuf,ycnv,ycyz,grV,yx,hn,go_sem,zD,zM,zAE,↓reduceIte,reduceCtorEq];refine⟨by omega,?_⟩
 refine ybk (σ:=Nat) (fun k=>⟨[(17,.i .i64 k),(16,.i .i64 n),(5,.os (14,0) 0 n true),(2,.pt (2,0) 0 0),(1,.i .i64 a)],
  [(2,.one (some ⟨27,true,2,1,fun _=>[yu g.ids,yx g.ports]⟩)),(14,.one (some ⟨3,false,1,n,fun i=>[.i .i64 (if i<k then -1 else 0)]⟩))]⟩) (fun k=>k<=n) (fun k=>n-k) 0 (zX _) ?_ ?_
 .refine yh [] [] [] ?_;simp only[yx,hn,allQ,live,yc,ybb,zAA,go_sem,zD,↓reduceIte,reduceCtorEq];exact fun i _=>by rw[if_neg (by omega)]
 .intro k hk
  by_cases hlt:k<n
  .have ht:decide ((k:Int)<(n:Int))=true:=decide_eq_true (by omega)
   simp only[ybxi,ycjz,ydad,ycvw,ht,splice,and_false,go_sem,zD,zM,↓reduceIte,reduceCtorEq];refine⟨by omega,by omega,ikw (by omega) (by omega),?_⟩
   refine yj (k+1) (by omega) (by omega) ?_
   refine yh [] [] [] ?_;simp only[go_sem,allQ,live,yc,ybb,go_sem,zD,↓reduceIte,reduceCtorEq];refine⟨by omega,fun i hi=>?_⟩
   by_cases q:i=k
   .subst q;simp only[if_pos (Nat.lt_succ_self i)];simp only[live,yc,go_sem,↓reduceIte,reduceCtorEq]
   .simp only[if_neg q,ydsw k i q];simp only[live,yc,go_sem,reduceCtorEq]
  .obtain rfl:k=n:=by omega
   have ht:decide ((k:Int)<(k:Int))=false:=decide_eq_false (by omega)
   simp only[ybxi,ycrz,ycru,ht,splice,and_false,go_sem,zD,zM,zAE,↓reduceIte,reduceCtorEq];refine⟨⟨by omega,by omega⟩,by omega,?_⟩
   refine ybk (σ:=List Int×List Nat×Nat) (fun q=>⟨[(7,.os (128,0) q.2.2 (q.2.1.length-q.2.2) true),(5,.os (14,0) 0 k true),(2,.pt (2,0) 0 0)],
    [(2,.one (some ⟨27,true,2,1,fun _=>[yu g.ids,yx g.ports]⟩)),(14,.one (some ⟨3,false,1,k,fun i=>[.i .i64 (q.1.getD i 0)]⟩)),(128,.one (some ⟨3,false,1,q.2.1.length,fun i=>[.i .i64 (q.2.1.getD i 0:Nat)]⟩))]⟩)
    (fun q=>q.2.2<=q.2.1.length/\BfsInv g a q.1 (q.2.1.drop q.2.2)/\q.2.1.length-q.2.2+ycp q.1<=30/\q.2.1.length<=31) (fun q=>q.2.1.length-q.2.2+ycp q.1) (start g a,[a],0) ⟨zX _,BfsInv.start (by omega),ymx g a (by omega),by simp⟩ ?_ ?_
   .refine yh [(128,fun i=>(28,i))] [] [] ?_;simp only[go_sem,allQ,live,yc,go_sem,zD,↓reduceIte,reduceCtorEq];refine⟨fun i hi=>?_,fun i hi=>?_⟩
    .rw[yboy g a i (by omega) (by omega),if_pos hi]
     by_cases q:i=a
     .simp only[if_pos q];simp only[live,yc,go_sem,reduceCtorEq]
     .simp only[if_neg q];simp only[live,yc,go_sem,reduceCtorEq]
    .obtain rfl:i=0:=by omega
     simp only[List.getD_cons_zero,live,yc,go_sem,reduceCtorEq]
   .rintro⟨R,W,o⟩ ⟨ho,hinv,hm30,hw31⟩;have ho:o<=W.length:=ho;have hinv:BfsInv g a R (W.drop o):=hinv;have hm30:W.length-o+ycp R<=30:=hm30;have hw31:W.length<=31:=hw31;obtain⟨m,hm⟩:∃m,W.length=m:=⟨_,rfl⟩;rw[hm]at ho hm30 hw31
    by_cases hlt2:o<m
    .have hQ : W.drop o=W[o]::W.drop (o+1):=(List.drop_eq_getElem_cons (by omega))
     obtain⟨v,hv⟩:∃v,W.getD o 0=v:=⟨_,rfl⟩;have hv':W[o]=v:=by rw[<-hv,getD_at (show o<W.length by omega)]
     rw[hv']at hQ;rw[hQ]at hinv;obtain⟨d,hd⟩:=hinv.qin v (by simp)
     have hvl:v<g.ports.length:=by rw[<-hinv.len];exact(List.getElem?_eq_some_iff.1 hd).1
     obtain⟨ls,hls⟩:∃ls,g.ports.getD v []=ls:=⟨_,rfl⟩;have hls?:g.ports[v]?=some ls:=by rw[<-hls];simp[zH,hvl]
     have hin:=hinv.pop hd ls;have hls24:ls.length<24:=by rw[<-hls];exact hg.deg_lt
     have ht2:decide (((m-o:Nat):Int)>0)=true:=decide_eq_true (by omega)
     simp only[ybqu,ybwt,ycah,ybzb,ht2,hm,hv,yx,ybc,hls,hn,go_sem,zBI,zD,zM,↓reduceIte,reduceCtorEq];refine⟨⟨by omega,by omega⟩,hlt2,⟨by omega,by omega,by omega⟩,⟨by omega,by omega⟩,?_⟩
     refine ybk (σ:=Nat×List Int×List Nat×Nat) (fun q=>⟨[(43,.i .i64 q.1),(42,.i .i64 ls.length),(41,ybc ls),(8,.i .i64 v),(7,.os (128,0) q.2.2.2 (q.2.2.1.length-q.2.2.2) true),(5,.os (14,0) 0 k true),(2,.pt (2,0) 0 0)],
      [(2,.one (some ⟨27,true,2,1,fun _=>[yu g.ids,yx g.ports]⟩)),(14,.one (some ⟨3,false,1,k,fun i=>[.i .i64 (q.2.1.getD i 0)]⟩)),(128,.one (some ⟨3,false,1,q.2.2.1.length,fun i=>[.i .i64 (q.2.2.1.getD i 0:Nat)]⟩))]⟩)
      (fun q=>q.1<=ls.length/\q.2.2.2<=q.2.2.1.length/\BfsIn g a v d ls q.1 q.2.1 (q.2.2.1.drop q.2.2.2)/\q.2.2.1.length-q.2.2.2+1+ycp q.2.1=m-o+ycp R/\q.2.2.1.length<=31) (fun q=>ls.length-q.1) (0,R,W,o+1) ⟨zX _,by show o+1<=W.length;omega,hin,by show W.length-(o+1)+1+ycp R=_;omega,by show W.length<=31;omega⟩ ?_ ?_
     .refine yh [] [] [] ?_;simp only[yx,ybc,hn,hm,Nat.sub_sub,allQ,live,yc,zAA,go_sem,zD,↓reduceIte,reduceCtorEq]
     .rintro⟨j,R',W',o'⟩ ⟨hj,ho',hin',hun',hw'⟩;have hj:j<=ls.length:=hj;have ho':o'<=W'.length:=ho';have hin':BfsIn g a v d ls j R' (W'.drop o'):=hin';have hun':W'.length-o'+1+ycp R'=m-o+ycp R:=hun';have hw':W'.length<=31:=hw';obtain⟨m',hm'⟩:∃m,W'.length=m:=⟨_,rfl⟩;rw[hm']at ho' hun' hw'
      by_cases hjl:j<ls.length
      .have ht3:decide ((j:Int)<(ls.length:Int))=true:=decide_eq_true (by omega)
       obtain⟨l,hl⟩:∃l,ls.getD j (0,0)=l:=⟨_,rfl⟩;have hl':ls[j]=l:=by rw[<-hl,getD_at hjl]
       have hlm:l∈ls:=by rw[<-hl'];exact zQ _
       obtain⟨k1,k2,k3,k4,k5⟩:=hg.link hls? hlm;obtain⟨u,hu⟩:=zK k1;have hul:u<R'.length:=by rw[hin'.len];omega
       have hRv:R'.getD v 0=(d:Int):=by have:=hin'.rv;simp[zH,this]
       have hd24:d<g.ports.length:=by
        rcases hin'.val v _ hin'.rv with e|⟨k',e,h1,h2⟩
        .omega
        .obtain rfl:d=k':=by omega
         exact yuj hg (by omega) h1 h2
       have hRu:R'[u]?=some (R'.getD u 0):=by rw[getD_at hul];exact zB hul
       by_cases hneg:R'.getD u 0<0
       .have ht4:decide (R'.getD u 0<0)=true:=decide_eq_true hneg;simp only[ybbd,yzv,ybal,yzn,ybay,yyy,ybc,hl,hu,ht3,ht4,hm',hRv,splice,and_false,go_sem,zD,zM,zAM,zAE,↓reduceIte,reduceCtorEq];refine⟨⟨by omega,by omega⟩,⟨by omega,by omega⟩,by omega,⟨by omega,by omega⟩,by omega,ikw (by omega) (by omega),⟨by omega,by omega⟩,by omega,by decide,⟨by omega,by omega,by omega⟩,ikw (by omega) (by omega),?_⟩
        have hRm:R'[u]?=some (-1):=by
         rcases hin'.val u _ hRu with e|⟨k',e,_⟩
         .rw[hRu,e]
         .omega
        have hdis:=hin'.discover hls? hjl (u:=u) (by rw[hl'];exact hu) hRm
        have hunf:=yvk (R:=R') (u:=u) (x:=(d:Int)+1) hRm (by omega)
        have hlen:(W'.drop o'++[u]).length=m'-o'+1:=by rw[List.length_append,zBG,hm'];rfl
        refine yj (j+1,R'.set u ((d:Int)+1),W'.drop o'++[u],0) ⟨by show j+1<=_;omega,zX _,hdis,by show(W'.drop o'++[u]).length-0+1+ycp (R'.set u ((d:Int)+1))=_;omega,by show(W'.drop o'++[u]).length<=31;omega⟩ (by show ls.length-(j+1)<ls.length-j;omega) ?_
        refine yh [(128,fun i=>(66,i))] [] [] ?_;simp only[yx,ybc,hn,hlen,allQ,live,yc,ybb,go_sem,zD,↓reduceIte,reduceCtorEq];refine⟨⟨by omega,Sim.refl _⟩,fun i hi=>?_,fun i hi=>?_⟩
        .rw[yzm hul]
         by_cases q:i=u
         .simp only[if_pos q];simp only[live,yc,go_sem,reduceCtorEq]
         .simp only[if_neg q];simp only[live,yc,go_sem,reduceCtorEq]
        .rw[ydvk,zBG,hm']
         by_cases q:i<m'-o'
         .have e:(W'.drop o').getD i 0=W'.getD (o'+i) 0:=by simp[zH,List.getElem?_drop]
          simp only[if_pos q,e];simp only[live,yc,go_sem,reduceCtorEq]
         .obtain rfl:i=m'-o':=by omega
          simp only[if_neg q,Nat.sub_self,Nat.zero_mul,↓reduceIte];simp only[live,yc,go_sem,reduceCtorEq]
       .have ht4:decide (R'.getD u 0<0)=false:=decide_eq_false hneg;simp only[ybbd,yzv,ybal,yzn,ybay,yyy,ybc,hl,hu,ht3,ht4,hm',splice,go_sem,zD,zM,zAM,zAE,↓reduceIte,reduceCtorEq];refine⟨⟨by omega,by omega⟩,⟨by omega,by omega⟩,by omega,ikw (by omega) (by omega),?_⟩
        obtain⟨y,hy⟩:=zK (show 0<=R'.getD u 0 by omega)
        have hsk:=hin'.skip hjl (j:=y) (by rw[hl',hu,zI,hRu,hy])
        refine yj (j+1,R',W',o') ⟨by show j+1<=_;omega,by show o'<=W'.length;omega,hsk,by show W'.length-o'+1+ycp R'=_;omega,by show W'.length<=31;omega⟩ (by show ls.length-(j+1)<ls.length-j;omega) ?_
        refine yh [] [] [] ?_;simp only[yx,ybc,hn,hm',allQ,live,yc,ybb,go_sem,zD,↓reduceIte,reduceCtorEq];omega
      .obtain rfl:j=ls.length:=by omega
       have ht3:decide ((ls.length:Int)<(ls.length:Int))=false:=decide_eq_false (by omega)
       simp only[ybbd,yzv,ybal,yzn,ybay,yyy,ht3,go_sem,zD,↓reduceIte];refine yj (R',W',o') ⟨by show o'<=W'.length;omega,hin'.finish hls?,by show W'.length-o'+ycp R'<=30;omega,by show W'.length<=31;omega⟩ (by show W'.length-o'+ycp R'<m-o+ycp R;omega) ?_
       refine yh [] [] [] ?_;simp only[yx,ybc,hn,hm',allQ,live,yc,go_sem,zD,↓reduceIte,reduceCtorEq]
    .obtain rfl:o=m:=by omega
     have ht2:decide (((o-o:Nat):Int)>0)=false:=decide_eq_false (by omega)
     rw[List.drop_eq_nil_of_le (by omega)]at hinv
     have hdist:=hinv.isDist.unique (ydw hg (by omega))
     subst hdist;have hlen:=hinv.len;simp only[ybqu,ybuw,ht2,hm,yx,ybc,hn,go_sem,zD,zM,↓reduceIte,reduceCtorEq];have e:(ybt g a).length=k:=by omega
     unfold yu;rw[e];exact Sim.refl _
theorem ybcv{g:Gr}(hI:GrI g):Returns zC 137 [grV g] (.b (yed g)):=by
 refine ytq ⟨_,_,zAV,rfl⟩ (fun _=>.b) (fun _=>.simple rfl) fun G m us hG hr φ M w us' hRl hs hv=>?_;obtain⟨u,rfl,h1⟩:=rvl1 hr;obtain⟨u',rfl,h2⟩:=yfa hv;exact ybag u' g w (ybpq hG h1 h2 hRl hs hI)
end Sh
end
section
open Go.RowKit
theorem yly(g:Gr)(G:List Int)(v:Nat):(ydq g G v).length=G.length:=by simp[ydq]
set_option maxHeartbeats 2000000 in
theorem ypf(gv cv Gv:Value)(g:Gr)(c:Conf)(G:List Int)(w:World)(hg:GrAt w gv g)(hc:ycjl w cv c)(hG:yki w Gv G)(hgood:ybe g) :
 Calls zC 102 #[gv,cv,Gv] w fun e w'=>e = .returned (.bool (yqi g.ports.length (ydq g G) c))/\Below w.heap.size w w':=by
 have hn24:=hgood.2.1;have hid:=hgood.2.2.1;have Hid':=zA hid
 clear hgood
 obtain⟨i,p,rfl,hi,hp⟩:=hg;obtain⟨A,c0,rfl,hA1,hA2⟩:=ybp hi;obtain⟨A2,c2,rfl,hB1,hB2⟩:=ybp hp;obtain⟨A3,c3,rfl,hC1,hC2⟩:=ybp hc;obtain⟨A4,c4,rfl,hD1,hD2⟩:=ybp hG;have Hp:=zA hp;have Hc:=zA hc;have HG:=zA hG
 clear hi hp hc hG
 by_cases n1:c.length=g.ids.length
 .have n1':((c.length:Int)!=(g.ids.length:Int))=false:=by simp[n1]
  have Hn:=zA (n1.trans hid);have hcn:c.length<=24:=by omega
  clear n1 hid
  go_enter zAW,zBO
  go_wp2
  obtain⟨W1,hW1⟩:∃W,W=w.alloc (.cells #[.slice A g.ids.length c0,.slice A2 g.ports.length c2] 27):=⟨_,rfl⟩;have hbox:W1.cell? ⟨w.heap.size,1,none⟩=some (.slice A2 g.ports.length c2):=by subst hW1;simp
  have HbW:=zA (show Below w.heap.size w W1 by subst hW1;exact(Below.refl _ _).alloc (zF _) _)
  rw[<-hW1]
  clear hW1
  go_loopg [21] c.length (fun q t wr=>∃v n:Nat,q+v=c.length/\t = .int .i64 v/\wr=W1.drewN n/\Hid (∀(u:Nat) s,u<v->c[u]?=some s->yeq (ydq g G u) s))
  case atStart=>exact⟨0,0,by omega,rfl,rfl,zA (fun u s hu=>absurd hu (by omega))⟩
  case round =>
   obtain⟨v,n,hq,rfl,rfl,hok⟩:=hrel
   by_cases hlt:v<c.length
   .obtain⟨b3,off3,sv,rfl,hb3,hcs,hs⟩:=yfv (Hc.out.below (Stable.sl Stable.int) HbW.out) (zB hlt);obtain⟨A5,c5,rfl,hE1,hE2⟩:=ybp hs;obtain⟨s,hse⟩:∃s,c[v]=s:=⟨_,rfl⟩;have Hs?:=zA (show c[v]?=some s by rw[zB hlt,hse])
    rw[hse]at hs hcs hE1;have Hbad:=zA (show ¬yeq (ydq g G v) s->yqi g.ports.length (ydq g G) c=false from fun h=>yjc (fun hc=>h (hc.2 v s Hs?.out)))
    have Hs:=zA hs
    clear hs hse
    by_cases c1:s.length=G.length
    .have c1':((s.length:Int)!=(G.length:Int))=false:=by simp[c1]
     have Hsl:=zA c1
     clear c1
     have hvp:v<g.ports.length:=by rw[<-Hn.out];exact hlt
     go_wp2
     obtain⟨go,rfl⟩:∃go,go=gk:=⟨_,rfl⟩
     go_loopg [33] s.length (fun q t wr=>∃x n:Nat,q+x=s.length/\t = .int .i64 x/\wr=W1.drewN n/\Hid (∀(j:Nat) b z,j<x->(ydq g G v)[j]?=some b->s[j]?=some z->b.1<=z/\z<=b.2))
     case atStart=>exact⟨0,n,by omega,rfl,rfl,zA (fun j b z hj=>absurd hj (by omega))⟩
     case round =>
      obtain⟨x,n,hqx,rfl,rfl,hst⟩:=hrel
      by_cases hxl:x<s.length
      .have hxG:x<G.length:=by rw[<-Hsl.out];exact hxl
       obtain⟨b5,o5,rfl,hb5,hc5,hr5⟩:=yft (Hs.out) hxl;obtain⟨b6,o6,rfl,hb6,hc6,hr6⟩:=yft (HG.out.below Stable.int HbW.out) hxG;obtain⟨b7,o7,lv,rfl,hb7,hc7,hl7⟩:=yfv (Hp.out.below (Stable.sl Stable.link) HbW.out) (zB hvp);obtain⟨A8,c8,rfl,hF1,hF2⟩:=ybp hl7;obtain⟨ds,hds⟩:∃ds,g.ports[v]=ds:=⟨_,rfl⟩;have hdeg:ydio g v=ds.length:=by simp[ydio,zH,zB hvp,hds]
       rw[hds]at hc7 hF1;obtain⟨y,hy⟩:∃y,s[x]=y:=⟨_,rfl⟩;obtain⟨h,hh⟩:∃h,G[x]=h:=⟨_,rfl⟩;have Hy?:=zA (show s[x]?=some y by rw[zB hxl,hy])
       have hb?:(ydq g G v)[x]?=some (if h = -1 then(-1,(ds.length:Int)-1)else(0,h)):=by
        simp[ydq,hxG,hh,hdeg]
       rw[hy]at hc5 hr5;rw[hh]at hc6 hr6;obtain⟨hr5a,hr5b⟩:=hr5;obtain⟨hr6a,hr6b⟩:=hr6
       clear hl7 hds hdeg hy hh
       by_cases c2:h = -1
       .have c2':(h == -1)=true:=by simp[c2]
        rw[if_pos c2]at hb?;have Hb?:=zA hb?
        clear hb? c2
        by_cases c3:y < -1
        .have Hf:=zA (Hbad.out (fun h=>by have:=h.2 x _ y Hb?.out Hy?.out;simp only at this;omega))
         go_wp2
         go_quiet (fail)
         go_wp2
         go_quiet (fail)
         go_wp2
         go_ret
         exact⟨ybj Hf.out.symm,below_drewN HbW.out _⟩
        .by_cases c4:(ds.length:Int)-1<y
         .have Hf:=zA (Hbad.out (fun h=>by have:=h.2 x _ y Hb?.out Hy?.out;simp only at this;omega))
          go_wp2
          go_quiet (fail)
          go_wp2
          go_quiet (fail)
          go_wp2
          go_ret
          exact⟨ybj Hf.out.symm,below_drewN HbW.out _⟩
         .have c4d:decide ((ds.length:Int)-1<y)=false:=by simp;omega
          go_wp2
          go_quiet (fail)
          go_wp2
          go_quiet (fail)
          go_wp2
          go_roundg (gk-1)
          case measure=>omega
          case rel =>
           refine⟨x+1,_,by omega,by go_num,rfl,zA (fun j b z hj hb hz=>?_)⟩
           by_cases hjx:j<x
           .exact hst.out j b z hjx hb hz
           .obtain rfl:j=x:=by omega
            rw[Hb?.out]at hb;rw[Hy?.out]at hz;cases hb
            cases hz
            simp only;omega
       .have c2':(h == -1)=false:=by simp[c2]
        rw[if_neg c2]at hb?;have Hb?:=zA hb?
        clear hb? c2
        by_cases c3:y<0
        .have Hf:=zA (Hbad.out (fun h=>by have:=h.2 x _ y Hb?.out Hy?.out;simp only at this;omega))
         go_wp2
         go_quiet (fail)
         go_wp2
         go_ret
         exact⟨ybj Hf.out.symm,below_drewN HbW.out _⟩
        .by_cases c4:h<y
         .have Hf:=zA (Hbad.out (fun h=>by have:=h.2 x _ y Hb?.out Hy?.out;simp only at this;omega))
          go_wp2
          go_quiet (fail)
          go_wp2
          go_ret
          exact⟨ybj Hf.out.symm,below_drewN HbW.out _⟩
         .have c4d:decide (h<y)=false:=by simp;omega
          go_wp2
          go_quiet (fail)
          go_wp2
          go_roundg (gk-1)
          case measure=>omega
          case rel =>
           refine⟨x+1,_,by omega,by go_num,rfl,zA (fun j b z hj hb hz=>?_)⟩
           by_cases hjx:j<x
           .exact hst.out j b z hjx hb hz
           .obtain rfl:j=x:=by omega
            rw[Hb?.out]at hb;rw[Hy?.out]at hz;cases hb
            cases hz
            simp only;omega
      .obtain rfl:x=s.length:=by omega
       go_wp2
       go_roundg (go-1)
       case measure=>omega
       case rel =>
        refine⟨v+1,_,by omega,by go_num,rfl,zA (fun u s' hu hs'=>?_)⟩
        by_cases huv:u<v
        .exact hok.out u s' huv hs'
        .obtain rfl:u=v:=by omega
         rw[Hs?.out]at hs';cases hs'
         refine⟨by rw[yly,Hsl.out],fun j b z hb hz=>hst.out j b z (List.getElem?_eq_some_iff.1 hz).1 hb hz⟩
    .have c1':((s.length:Int)!=(G.length:Int))=true:=by simp;omega
     have Hf:=zA (Hbad.out (fun h=>c1 (by rw[h.1,yly])))
     clear c1
     go_wp2
     go_ret
     exact⟨ybj Hf.out.symm,below_drewN HbW.out _⟩
   .obtain rfl:v=c.length:=by omega
    have Ht:=zA (yxb (n:=g.ports.length) (bs:=ydq g G) (c:=c) ⟨Hn.out,fun v s hs=>hok.out v s (List.getElem?_eq_some_iff.1 hs).1 hs⟩)
    go_wp2
    go_ret
    exact⟨ybj Ht.out.symm,below_drewN HbW.out _⟩
 .have n1':((c.length:Int)!=(g.ids.length:Int))=true:=by simp;omega
  have Hf:=zA (yjc (n:=g.ports.length) (bs:=ydq g G) (c:=c) (fun h=>n1 (h.1.trans hid.symm)))
  clear n1 hid
  go_enter zAW,zBO
  go_wp2
  go_ret
  exact⟨ybj Hf.out.symm,(Below.refl _ _).alloc (zF _) _⟩
end
section
namespace Sh
open Ev Go.RowKit
def clmV(kind:Int)(fair silent:Bool)(rounds moves:Int):List SV:=[.i .i64 kind,.b fair,.b silent,.i .i64 rounds,.i .i64 moves]
theorem ycdo{g:Gr}(hg:ybe g){c:Conf}(hR:ycfl c){G:List Int}(hG:∀x∈G,I64 x):Returns zC 102 [grV g,ybm c,yu G] (.b (yqi g.ports.length (ydq g G) c)):=by
 refine ytq ⟨_,_,zAW,rfl⟩ (fun _=>.b) (fun _=>.simple rfl) fun H m us hH hr φ M w us' hRl hs hv=>?_
 obtain⟨u,us2,rfl,h1,h2⟩:∃u us2,us=u::us2/\RV H om0 (grV g) u/\RVL H om0 [ybm c,yu G] us2:=by
  cases hr with|cons x y=>exact⟨_,_,rfl,x,y⟩
 obtain⟨u2,u3,rfl,h3,h4⟩:=rvl2 h2
 obtain⟨u',us3,rfl,h5,h6⟩:∃u' us3,us'=u'::us3/\VR φ u u'/\VRL φ [u2,u3] us3:=by
  cases hv with|cons x y=>exact⟨_,_,rfl,x,y⟩
 obtain⟨u2',u3',rfl,h7,h8⟩:=yvf h6;exact ypf u' u2' u3' g c G w (ybpq hH h1 h5 hRl hs (ydbf hg)) (ydek hH h3 h7 hRl hs hR) (ints_at hH h4 h8 hRl hs hG) hg
end Sh
end
section
open Go.RowKit
theorem yxf(R:List Int)(x:Int)(ls:List (Int×Int))(i:Nat)(hi:i<ls.length):yll R x (ls.take (i+1))=(yll R x (ls.take i)||decide (R[ls[i].1.toNat]?=some x)):=by
 unfold yll;rw[take_snoc ls i hi,List.any_append];simp
def layers(g:Gr)(a D:Nat):List Int:=(zT (D-1)).foldl (fun R d=>stepD g R (d+1)) (start g a)
theorem ybgx(g:Gr)(a:Nat){D:Nat}(hD:1<=D):layers g a (D+1)=stepD g (layers g a D) D:=by
 obtain⟨k,rfl⟩:∃k,D=k+1:=⟨D-1,by omega⟩
 unfold layers;rw[zAU,zAD,zS];rfl
def yui(g:Gr)(R:List Int)(D v:Nat):List Int:=(zT v).foldl (yry g D) R
theorem ybdr(g:Gr)(R:List Int)(D v:Nat):yui g R D (v+1)=yry g D (yui g R D v) v:=by
 unfold yui;rw[zAD,zS];rfl
theorem ytr(R:List Int)(k:Nat)(x:Int):(R.map (Value.int .i64)).set k (.int .i64 x)=(R.set k x).map (Value.int .i64):=by rw[List.map_set]
theorem ybgn(g:Gr)(a:Nat):((zL g.ports.length (-1:Int)).map (Value.int .i64)).set a (.int .i64 0)=(start g a).map (Value.int .i64):=by rw[ytr];rfl
set_option maxHeartbeats 4000000 in
theorem yjq(gv:Value)(g:Gr)(v:Int)(w:World)(hg:GrAt w gv g)(hv64:I64 v) :
 Calls zC 84 #[gv,.int .i64 v] w (ybtl (yru g v) w):=by
 have hg0:=zA hg;obtain⟨i,p,rfl,hi,hp⟩:=hg;obtain⟨A2,c2,rfl,hB1,hB2⟩:=ybp hp;have Hp:=zA hp
 clear hi hp
 cases hc:yco g with
 | false =>
   have Hf:=zA (show yru g v=[]from ykw (by simp[hc]))
   go_enter zBB,zAX
   go_wp2_with fail
   refine(yhy _ g _ (hg0.out.below ((Below.refl _ _).alloc (zF _) _))).mono ?_;rintro e w1 ⟨rfl,hb1⟩
   go_wp2_with fail
   go_ret
   exact⟨_,rfl,by rw[Hf.out];exact SlAt.nil _,ylp hb1⟩
 | true =>
   have hgood:=(ych g).1 hc;have hn1:=hgood.1;have hn24:=hgood.2.1;have Hgood:=zA hgood
   clear hgood
   obtain⟨hv1,hv2⟩:=hv64
   by_cases c2:0<=v/\v<g.ports.length
   .obtain⟨c2a,c2b⟩ := c2;obtain⟨a,rfl⟩:=zK c2a;have Hf:=zA (show yru g a=ybt g a from yvu hc (by omega) c2b)
    have ha:a<g.ports.length:=by omega
    go_enter zBB,zAX
    go_wp2_with fail
    refine(yhy _ g _ (hg0.out.below ((Below.refl _ _).alloc (zF _) _))).mono ?_;rintro e w1 ⟨rfl,hb1⟩;obtain⟨q0,q1⟩:=ybgc hb1;have Hb1:=zA hb1
    clear hb1
    go_wp2_with fail
    refine(In_t _ _ _ _ (by omega) (by omega)).mono ?_
    rintro e w1' ⟨rfl,rfl⟩
    go_wp2_with fail
    obtain⟨i0,hi0,hz0,hz1,hz2⟩:=info_parts yzj;have Hi0:=zA (show _/\_/\_/\_ from⟨hi0,hz0,hz1,hz2⟩)
    clear hi0 hz0 hz1 hz2
    obtain⟨W1,hW1⟩:∃W,W=w.alloc (.cells #[i,.slice A2 g.ports.length c2] 27):=⟨_,rfl⟩;have HB:=zA (show ∀wr,Below (w.heap.size+1) W1 wr->wr.cell? ⟨w.heap.size,0,none⟩=some i/\wr.cell? ⟨w.heap.size,1,none⟩=some (.slice A2 g.ports.length c2)/\Below w.heap.size w wr/\w.heap.size<wr.heap.size by subst hW1;exact fun wr h=>box2 h)
    have Hb1':=zA (show Below (w.heap.size+1) W1 w1 by subst hW1;simpa using Hb1.out)
    clear hW1 Hb1
    go_loopg [6,7] g.ports.length (fun q t6 t wr=>∃k:Nat,q+k=g.ports.length/\t = .int .i64 k/\Hid (Below (w.heap.size+1) W1 wr)/\Hid (Owns wr (w.heap.size+1) 3 1 t6 k ((zL k (-1:Int)).map (Value.int .i64))))
    case atStart=>exact⟨0,by omega,rfl,Hb1',zA (Owns.nil _ _ _ _)⟩
    case round =>
     clear q0 q1 Hb1'
     obtain⟨k,hq,rfl,hbel,hown⟩:=hrel;have hsz:=(HB.out _ hbel.out).2.2.2
     by_cases hlt:k<g.ports.length
     .go_wp2_with (at_builtin;refine yhs _ rfl _ _ 22 rfl (w.heap.size+1) 3 i0 (.int .i64 0) 1 8 zAI Hi0.out.1 Hi0.out.2.1 Hi0.out.2.2.1 Hi0.out.2.2.2 rfl (by decide) u6 k ((zL k (-1:Int)).map (Value.int .i64)) (by rfl) (hown.out.alloc _) _ 1 1 [.int .i64 (-1)] (by rfl) rfl (ybml rfl) (by simp[Value.oneCell']) (by simp only[maxLen];omega) (by omega) (by simp;omega) ?_;intro v' w' hown' hgr hob)
      have Hown:=zA hown';have Hgr:=zA hgr
      clear hown' hgr hob
      go_wp2
      go_roundg (gk-1)
      case measure=>omega
      case rel =>
       refine⟨k+1,by omega,by go_num,zA ((hbel.out.alloc (by omega) _).grown Hgr.out (by simp;omega) (fun x hx=>(hown.out.lt hx).1)),zA ?_⟩
       have:=Hown.out
       rwa [<-List.map_singleton (f:=Value.int .i64),<-List.map_append,<-List.replicate_succ']at this
     .obtain rfl:k=g.ports.length:=by omega
      obtain⟨gO,oO,cO,rfl,hO1,hO2,hO3,hO4,hO5⟩:=hown.out.form (by omega)
      unfold maxLen at hO4;have hca:=hO5 a (.int .i64 (-1)) (by simp[ha])
      have hfa:=hown.out.frozen (oO+a)
      clear hO5
      go_wp2
      go_loopg [8] (g.ports.length-1) (fun q t wr=>∃D:Nat,1<=D/\q+D=g.ports.length/\t = .int .i64 D/\Hid (Below (w.heap.size+1) W1 wr)/\Hid (Owns wr (w.heap.size+1) 3 1 (.slice (some ⟨gO,oO,none⟩) g.ports.length cO) g.ports.length ((layers g a D).map (Value.int .i64))))
      case atStart =>
       refine⟨1,zF _,by omega,rfl,zA (hbel.out.setCell (by simp;omega) _),zA ?_⟩
       have:=hown.out.store1 ha (.int .i64 0);rw[ybgn]at this;exact this
      case round =>
       clear hbel hown hca hfa hsz hO2
       obtain⟨D,hD1,hq,rfl,hbel,hown⟩:=hrel
       by_cases hlt:D<g.ports.length
       .go_wp2
        obtain⟨go,rfl⟩:∃go,go=gk:=⟨_,rfl⟩
        go_loopg [9] g.ports.length (fun q t wr=>∃v:Nat,q+v=g.ports.length/\t = .int .i64 v/\Hid (Below (w.heap.size+1) W1 wr)/\Hid (Owns wr (w.heap.size+1) 3 1 (.slice (some ⟨gO,oO,none⟩) g.ports.length cO) g.ports.length ((yui g (layers g a D) D v).map (Value.int .i64))))
        case atStart=>exact⟨0,by omega,rfl,hbel,hown⟩
        case round =>
         clear hbel hown
         obtain⟨v,hqv,rfl,hbel,hown⟩:=hrel
         by_cases hvlt:v<g.ports.length
         .obtain⟨R,hR⟩:∃R,yui g (layers g a D) D v=R:=⟨_,rfl⟩;have Hst:=zA (ybdr g (layers g a D) D v);rw[hR]at hown Hst
          clear hR
          have Hlen:=zA (show R.length=g.ports.length by have:=hown.out.1;simpa using this)
          obtain⟨b2,off2,lv,rfl,hb2,hclw,hls⟩:=yfv Hp.out (zB hvlt);obtain⟨A3,c3,rfl,hl1,hl2⟩:=ybp hls;obtain⟨ls,hle⟩:∃ls,g.ports[v]=ls:=⟨_,rfl⟩;have Hlp:=zA (show g.ports[v]?=some ls by rw[zB hvlt,hle])
          rw[hle]at hls hclw hl1;have Hls:=zA hls
          have Hst2:=zA (show yry g D R v=if decide (R.getD v 0<0)&&yll R ((D:Int)-1) ls then R.set v D else R by
           unfold yry;rw[show g.ports.getD v []=ls by simp[zH,Hlp.out]])
          clear hle hls
          have hRv:v<R.length:=by rw[Hlen.out];exact hvlt
          obtain⟨xv,hxv⟩:∃x,R[v]=x:=⟨_,rfl⟩;have Hgd:=zA (show R.getD v 0=xv by simp[zH,hRv,hxv])
          clear hxv
          go_wp2
          obtain⟨gv,rfl⟩:∃gv,gv=gk:=⟨_,rfl⟩
          go_loopg [10] ls.length (fun q t wr=>∃i:Nat,q+i=ls.length/\t = .int .i64 i/\Hid (Below (w.heap.size+1) W1 wr)/\∃R' x,R'[v]?=some x/\Hid (Owns wr (w.heap.size+1) 3 1 (.slice (some ⟨gO,oO,none⟩) g.ports.length cO) g.ports.length (R'.map (Value.int .i64)))/\Hid ((R'=R/\x=xv/\yll R ((D:Int)-1) (ls.take i)=false)\/(R'=yry g D R v/\0<=x)))
          case atStart=>exact⟨0,by omega,rfl,hbel,R,xv,by rw[zB hRv];have:=Hgd.out;simp[zH,hRv]at this;rw[this],hown,zA (.inl ⟨rfl,rfl,by simp[yll]⟩)⟩
          case round =>
           clear hbel hown
           obtain⟨i,hqi,rfl,hbel,R',x,hx,hown,hdis⟩:=hrel;obtain⟨p0,p1,hbw,hsz⟩:=HB.out _ hbel.out;have hcl:=yhk hbw _ _ hclw;have Hlen':=zA (show R'.length=g.ports.length by have:=hown.out.1;simpa using this)
           obtain⟨_,_,_,e5,_,_,_,_,hO5⟩:=hown.out.form (by omega)
           cases e5
           have hcv:=hO5 v (.int .i64 x) (by simp[hx])
           have hfv:=hown.out.frozen (oO+v);have Hx:=zA hx;have HO5:=zA hO5;have Hbw:=zA hbw
           clear hx hO5 hbw
           by_cases hil:i<ls.length
           .obtain⟨A4,c4,e4,_,_,hE⟩:=Hls.out.below Stable.link Hbw.out;cases e4
            obtain⟨b3,off3,rfl,hb3,hE⟩:=hE (by omega)
            obtain⟨⟨l1,wt⟩,hle⟩:∃l,ls[i]=l:=⟨_,rfl⟩;have hl?:ls[i]?=some (l1,wt):=by rw[zB hil,hle]
            obtain⟨hx1,hx2,⟨hr1,hr2⟩,⟨hr3,hr4⟩⟩:=hE i _ hl?;obtain⟨k1,k2,k3,k4,k5⟩:=Hgood.out.link Hlp.out (zG hl?);simp only at k1 k2 k3 k4 k5 hx1 hx2 hr1 hr2 hr3 hr4;obtain⟨u,rfl⟩:=zK k1;have Hl?:=zA hl?;have Hsn:=zA (yxf R ((D:Int)-1) ls i hil);rw[hle]at Hsn;have HE:=zA hE
            clear hE hl? hle k1 k3
            by_cases c2:x<0
            .have Hin:=zA (show R'=R/\x=xv/\yll R ((D:Int)-1) (ls.take i)=false by
              rcases hdis.out with h|h
              .exact h
              .omega)
             have hul:u<R'.length:=by rw[Hlen'.out];omega
             obtain⟨y,hy⟩:∃y,R'[u]?=some y:=⟨_,zB hul⟩;have hcu:=HO5.out u (.int .i64 y) (by simp[hy])
             have Hy:=zA hy
             clear hy
             by_cases c3:y=(D:Int)-1
             .have c3':(y==(D:Int)-1)=true:=by simp[c3]
              have Hset:=zA (show yry g D R v=R'.set v D by
               obtain⟨e1,e2,_⟩:=Hin.out;rw[Hst2.out,Hgd.out,if_pos,e1];rw[zJ];refine⟨decide_eq_true (by omega),?_⟩
               unfold yll;rw[zBF];refine⟨_,zG Hl?.out,decide_eq_true ?_⟩;simp only[zI];rw[<-e1,Hy.out,c3])
              clear c3
              go_wp2
              go_roundg (gk-1)
              case measure=>omega
              case rel =>
               refine⟨i+1,by omega,by go_num,zA (hbel.out.setCell (by simp;omega) _),R'.set v D,D,by rw[zN,if_pos rfl,if_pos (by rw[Hlen'.out];exact hvlt)],zA ?_,zA (.inr ⟨Hset.out.symm,by omega⟩)⟩
               rw[<-ytr];exact hown.out.store1 hvlt _
             .have c3':(y==(D:Int)-1)=false:=by simp[c3]
              have Hno:=zA (show yll R ((D:Int)-1) (ls.take (i+1))=false by
               obtain⟨e1,e2,e3⟩:=Hin.out;rw[Hsn.out,e3,zBM,decide_eq_false_iff_not];simp only[zI];rw[<-e1,Hy.out]
               simpa using c3)
              clear c3
              go_wp2
              go_roundg (gk-1)
              case measure=>omega
              case rel=>exact⟨i+1,by omega,by go_num,hbel,R',x,Hx.out,hown,zA (.inl ⟨Hin.out.1,Hin.out.2.1,Hno.out⟩)⟩
            .have Hend:=zA (show R'=yry g D R v by
              rcases hdis.out with⟨e1,e2,_⟩|⟨e1,_⟩
              .rw[Hst2.out,Hgd.out,if_neg,e1];rw[zJ];intro h;have:=of_decide_eq_true h.1;omega
              .exact e1)
             go_wp2
             go_roundg (gv-1)
             case measure=>omega
             case rel=>exact⟨v+1,by omega,by go_num,hbel,zA (by rw[Hst.out,<-Hend.out];exact hown.out)⟩
           .obtain rfl:i=ls.length:=by omega
            have Hend:=zA (show R'=yry g D R v by
             rcases hdis.out with⟨e1,e2,e3⟩|⟨e1,_⟩
             .rw[zU]at e3;rw[Hst2.out,e3,zBK,if_neg (by simp),e1]
             .exact e1)
            go_wp2
            go_roundg (gv-1)
            case measure=>omega
            case rel=>exact⟨v+1,by omega,by go_num,hbel,zA (by rw[Hst.out,<-Hend.out];exact hown.out)⟩
         .obtain rfl:v=g.ports.length:=by omega
          go_wp2
          go_roundg (go-1)
          case measure=>omega
          case rel=>exact⟨D+1,by omega,by omega,by go_num,hbel,zA (by rw[ybgx g a hD1];exact hown.out)⟩
       .obtain rfl:D=g.ports.length:=by omega
        go_wp2
        go_ret
        refine⟨_,rfl,?_,(HB.out _ hbel.out).2.2.1⟩;rw[Hf.out];exact hown.out.ints (fun x hx=>by have:=(ydw Hgood.out ha).bound Hgood.out ha x hx;unfold I64;omega)
   .have Hf:=zA (show yru g v=[]from ykw (by omega))
    have c3:v<0\/(g.ports.length:Int)-1<v:=by omega
    clear c2
    go_enter zBB,zAX
    go_wp2_with fail
    refine(yhy _ g _ (hg0.out.below ((Below.refl _ _).alloc (zF _) _))).mono ?_;rintro e w1 ⟨rfl,hb1⟩;obtain⟨q0,q1⟩:=ybgc hb1;have Hb1:=zA (ylp hb1)
    clear hb1
    go_wp2_with fail
    refine(In_f _ _ _ _ (by omega)).mono ?_
    rintro e w1' ⟨rfl,rfl⟩
    go_wp2_with fail
    go_ret
    exact⟨_,rfl,by rw[Hf.out];exact SlAt.nil _,Hb1.out⟩
end
section
open Go.RowKit
theorem ykd(dv:Value)(D:List Int)(w:World)(hd:yki w dv D) :
 Calls zC 83 #[dv] w fun e w'=>e = .returned (.int .i64 (ydj D))/\w=w':=by
 obtain⟨A,c,rfl,hA1,hA2⟩:=ybp hd;have Hd:=zA hd
 clear hd
 go_enter Tryz.func83,Tryz.ntmps83
 go_wp2
 go_loopg [3,4] D.length (fun q m t wr=>∃k:Nat,q+k=D.length/\t = .int .i64 k/\wr=w/\m = .int .i64 (ybs (D.take k))/\Hid ((D.take k).all (fun x=>decide (0<=x))=true))
 case atStart=>exact⟨0,by omega,rfl,rfl,by simp[ybs],zA (by simp)⟩
 case round =>
  obtain⟨k,hq,rfl,rfl,rfl,hall⟩:=hrel
  by_cases hlt:k<D.length
  .obtain⟨b,off,rfl,hb,hc,hr⟩:=yft Hd.out hlt
   by_cases c1:D[k]<0
   .have Hf:=zA (show ydj D = -1 by
     unfold ydj;rw[if_neg];rw[zW];intro h;have:=of_decide_eq_true (h _ (zQ hlt));omega)
    go_wp2
    go_ret
    exact⟨yur Hf.out.symm,rfl⟩
   .have Hs:=zA (ylv D k hlt)
    have Ha:=zA (show(D.take (k+1)).all (fun x=>decide (0<=x))=true by
     rw[take_snoc D k hlt,List.all_append,hall.out];simp;omega)
    go_wp2
    all_goals
     go_roundg (gk-1)
     case measure=>omega
     case rel=>exact⟨k+1,by omega,by go_num,rfl,by rw[Hs.out];try (congr 1;omega),Ha⟩
  .obtain rfl:k=D.length:=by omega
   have Hf:=zA (show ydj D=ybs D by
    have:=hall.out;rw[zU]at this;exact if_pos this)
   go_wp2
   go_ret
   exact⟨yur (by rw[Hf.out,zU]),rfl⟩
theorem ysc(gv:Value)(g:Gr)(w:World)(hg:GrAt w gv g) :
 Calls zC 141 #[gv] w fun e w'=>e = .returned (.bool (yed g))/\Below w.heap.size w w':=by
 have hg0:=zA hg;obtain⟨i,p,rfl,hi,hp⟩:=hg
 clear hi hp
 have Hc:=zA (ybmz g)
 go_enter zBS,Tryz.ntmps141
 go_wp2_with fail
 refine(yjq _ g 0 _ (hg0.out.below ((Below.refl _ _).alloc (zF _) _)) ⟨by omega,by omega⟩).mono ?_
 rintro e w1 ⟨v,rfl,hv,hb1⟩;have Hv:=zA hv;have Hb1:=zA (ylp hb1)
 clear hv hb1
 go_wp2_with fail
 refine(ykd _ _ _ Hv.out).mono ?_;rintro e w2 ⟨rfl,rfl⟩
 go_wp2_with fail
 go_ret
 exact⟨ybj Hc.out,Hb1.out⟩
theorem ymn(gv:Value)(g:Gr)(v:Int)(w:World)(hg:GrAt w gv g)(hv64:I64 v) :
 Calls zC 28 #[gv,.int .i64 v] w fun e w'=>e = .returned (.int .i64 (eccP g v))/\Below w.heap.size w w':=by
 have hg0:=zA hg;obtain⟨i,p,rfl,hi,hp⟩:=hg
 clear hi hp
 have Hc:=zA (ybsn g v)
 go_enter zBV,Tryz.ntmps28
 go_wp2_with fail
 refine(yjq _ g v _ (hg0.out.below ((Below.refl _ _).alloc (zF _) _)) hv64).mono ?_;rintro e w1 ⟨v,rfl,hv,hb1⟩;have Hv:=zA hv;have Hb1:=zA (ylp hb1)
 clear hv hb1
 go_wp2_with fail
 refine(ykd _ _ _ Hv.out).mono ?_;rintro e w2 ⟨rfl,rfl⟩
 go_wp2_with fail
 go_ret
 exact⟨yur Hc.out,Hb1.out⟩
end
section
namespace Sh
open Ev Go.RowKit
theorem ybde{g:Gr}(hI:GrI g):Returns zC 141 [grV g] (.b (yed g)):=by
 refine ytq ⟨_,_,zBS,rfl⟩ (fun _=>.b) (fun _=>.simple rfl) fun G m us hG hr φ M w us' hRl hs hv=>?_;obtain⟨u,rfl,h1⟩:=rvl1 hr;obtain⟨u',rfl,h2⟩:=yfa hv;exact ysc u' g w (ybpq hG h1 h2 hRl hs hI)
theorem ycgr{g:Gr}(hI:GrI g){v:Int}(hv64:I64 v):Returns zC 28 [grV g,.i .i64 v] (.i .i64 (eccP g v)):=by
 refine ytq ⟨_,_,zBV,rfl⟩ (fun _=>.i) (fun _=>.simple rfl) fun G m us hG hr φ M w us' hRl hs hv=>?_;obtain⟨u,v',rfl,h1,h2⟩:=rvl2 hr;obtain⟨u',v'',rfl,h3,h4⟩:=yvf hv;cases h2.int_inv
 have e:=h4.eq_simple rfl;subst e;exact ymn u' g v w (ybpq hG h1 h3 hRl hs hI) hv64
theorem ybox(nm:ByteArray)(hi pn pi:Int):Returns zC 79 [.a (.string nm),.i .i64 hi,.i .i64 pn,.i .i64 pi] (.ag (varC ⟨nm,1,0,hi,pn,pi⟩)):=by
 refine Returns.of (ydnb _ _ ?_);simp only[c79,ydjq,ydsh,varC,go_sem,zD,zM,zAM,zAE,↓reduceIte,reduceCtorEq];exact Sim.refl _
end Sh
end
end Go.Proofs.YtiejahgklcjhkaaGreatDoor
