/- Joined. -/
import Derived.Test.YtiejahgklcjhkaaGreatDoorPkT3
import Derived.Test.YtiejahgklcjhkaaGreatDoorPkT4
set_option linter.unusedSimpArgs false
set_option linter.unusedVariables false
set_option maxRecDepth 8000
open Go.Lib renaming hid->zA
open Nat renaming reduceEqDiff->zB,reduceAdd->zF,le_refl->zG,zero_le->zAE,lt_trichotomy->zAR,mul_le_mul->zBE,add_zero->zBI,lt_or_ge->zBJ
open List renaming getElem?_eq_getElem->zC,mem_of_getElem?->zH,take_succ_eq_append_getElem->zI,replicate->zK,getElem?_set->zL,getD->zM,getD_eq_getElem?_getD->zN,range->zQ,getElem_mem->zS,foldl_append->zT,findIdx?_eq_none_iff->zV,getElem_append_left->zW,getElem?_replicate->zX,findIdx?_eq_some_iff_getElem->zZ,take_length->zAA,all_eq_true->zAB,mem_cons_of_mem->zAC,mem_zipIdx_iff_getElem?->zAD,mem_cons_self->zAG,getElem?_zip_eq_some->zAH,getElem_append_right->zAI,take_of_length_le->zAK,mem_append_left->zAL,findIdx?_append->zAM,drop_succ_cons->zAN,countP_append->zAO,pairwise_map->zAS,length_cons->zAV,ext_getElem->zAW,countP_cons->zAX,length_take->zAY,elem_eq_mem->zAZ,length_nil->zBA,range_succ->zBB,drop_zero->zBC,map_cons->zBF,length->zBL
open Go.Proofs.Tryz renaming prog->zD,func96->zAF,ntmps96->zAJ,func137->zAP,func102->zAQ,underlying22->zAT,zeroCells195->zAU,ntmps137->zBG,ntmps102->zBH,func132->zBK
open Bool renaming and_eq_true->zJ
open Int renaming toNat_natCast->zO,natCast_zero->zU,eq_ofNat_of_zero_le->zY,natAbs_mul->zBD
open Go
namespace Go.Proofs.YtiejahgklcjhkaaGreatDoor
section
namespace Sh
open Go Ev
theorem ydbe {g:FuncId}{fn:Func}{sc:SC}{rs:List SR}(hg:Tryz.prog.funcs[g]?=some fn) (hcmp:fn.body.bind (cmp zD fn.ntmps)=some sc) (hrs:cmpR zD fn.results.toList=some rs)
 {mu:List FuncId}{args:List SV}{Q:SV->Prop}(h:vc ⟨Ct zD,Cm zD,ItC zD,[],mu⟩ sc (retK rs Q) ⟨slots args 0,[]⟩):Ct zD g args Q:=by
 obtain⟨c,h1,h2⟩:=bind_some hcmp;exact ybxl mix ysg hg h1 h2 hrs h
theorem ydfu {g:FuncId}{fn:Func}{sc:SC}{rs:List SR}(hg:Tryz.prog.funcs[g]?=some fn) (hcmp:fn.body.bind (cmp zD fn.ntmps)=some sc) (hrs:cmpR zD fn.results.toList=some rs)
 {pr:List Nm}{mu:List FuncId}{o:Own}{args:List SV}{Q:SV->Own->Prop}(h:vc ⟨Ct zD,Cm zD,ItC zD,pr,mu⟩ sc (retM rs pr Q) ⟨slots args 0,o⟩):Cm zD g pr o args Q:=by
 obtain⟨c,h1,h2⟩:=bind_some hcmp;exact ybtm mix ysg hg h1 h2 hrs h
def Fn(g:FuncId)(c:SC)(rs:List SR):Prop:=∀(args:List SV) (Q:SV->Prop),vc ⟨Ct zD,Cm zD,ItC zD,[],[]⟩ c (retK rs Q) ⟨slots args 0,[]⟩->Ct zD g args Q
def FnU(g:FuncId)(c:SC)(rs:List SR):Prop:=∀(mu:List FuncId) (args:List SV) (Q:SV->Prop),vc ⟨Ct zD,Cm zD,ItC zD,[],mu⟩ c (retK rs Q) ⟨slots args 0,[]⟩->Ct zD g args Q
def FnM(g:FuncId)(c:SC)(rs:List SR):Prop:=∀(pr:List Nm) (mu:List FuncId) (o:Own) (args:List SV) (Q:SV->Own->Prop),vc ⟨Ct zD,Cm zD,ItC zD,pr,mu⟩ c (retM rs pr Q) ⟨slots args 0,o⟩->Cm zD g pr o args Q
section
variable {g:FuncId}{fn:Func}{sc:SC}{rs:List SR}(hg:Tryz.prog.funcs[g]?=some fn) (hcmp:fn.body.bind (cmp zD fn.ntmps)=some sc) (hrs:cmpR zD fn.results.toList=some rs)
include hg hcmp hrs
theorem fn_0:Fn g sc rs:=fun _ _ h=>ydbe hg hcmp hrs h
theorem fn_u:FnU g sc rs:=fun _ _ _ h=>ydbe hg hcmp hrs h
theorem fn_m:FnM g sc rs:=fun _ _ _ _ _ h=>ydfu hg hcmp hrs h
end
def o3(x:SOp)(d a:Nat):SOper:=⟨x,some d,none,a⟩
def o0(x:SOp)(a:Nat):SOper:=⟨x,none,none,a⟩
abbrev LO:=List SOper
def mv'(x d a:Nat):SOper:=⟨.mv (.tmp x),some d,none,a⟩
def bn'(op:BinOp)(x y d a:Nat):SOper:=⟨.bin op (.tmp x) (.tmp y),some d,none,a⟩
def ld'(ag:Bool)(n x d a:Nat):SOper:=⟨.load ag n (.tmp x),some d,none,a⟩
def fa'(o n x d a:Nat):SOper:=⟨.faddr o n (.tmp x),some d,none,a⟩
def ix'(z x k d a:Nat):SOper:=⟨.idx z (.tmp x) (.tmp k),some d,none,a⟩
def ln'(x d a:Nat):SOper:=⟨.len (.tmp x),some d,none,a⟩
def xt'(x k d a:Nat):SOper:=⟨.extract (.tmp x) k,some d,none,a⟩
def cl'(g:FuncId)(xs:List Nat)(d a:Nat):SOper:=⟨.call (.func g) (xs.map .tmp),some d,none,a⟩
def ci'(n:Int):Operand:=.const (.int .i64 n)
attribute [go_sem] o3 o0 mv' bn' ld' fa' ix' ln' xt' cl' ci'
attribute [go_sem] ydjb ydan ybzn ybnj ydjf yczc ydep ycxs ycdi ycvx ybyp ybbz yyb ybjc ybeu puts ydac
attribute [go_sem] ydbd ydjk ydhi ybba ybjd ybmi yxj ybdx ybim ybkg ybpg ybcv ybxq ybdq ycca
attribute [go_sem] ype Fam.at Prod.mk.injEq yczz yctk ycvk ycvg ycys yczk ybku oldX oldV yjd ymc yboc yczh gb_x ydin resX yhh slots ybzm
attribute [go_sem] ycaw ybvv runO opO yboc xOp SS.get SS.pget SS.gets SS.lit look lookO SS.put SS.own ycuf ycyb yczw ybgf ybyr ycdj yccu
attribute [go_sem] ycag ycar ybxi ycaq ybgm simple ymj ytv ybbo part idxX natX yqa ybja xbin xun eqL splice fill OB.set ofV fits ycvp ybhk
attribute [go_sem] allP SRec.no SRec.pure clash nmem List.isEmpty_nil List.isEmpty_cons List.drop List.take List.all List.any List.map zBL List.head? List.append
attribute [go_sem] List.nil_append List.append_nil List.cons_append List.all_cons List.all_nil zAN zBC List.take_succ_cons List.take_zero List.drop_nil
attribute [go_sem] List.take_nil zAV zBA zBF List.map_nil List.getElem?_cons_zero List.getElem?_cons_succ List.elem zO Nat.zero_add
attribute [go_sem] zBI if_true if_false ite_true ite_false Option.isNone Option.isNone_none Option.map_some Option.map_none Bool.not_true Bool.not_false Bool.true_or
attribute [go_sem] Bool.or_true Bool.false_or Bool.or_false Bool.and_true Bool.true_and Bool.and_false Bool.false_and Bool.and_self Bool.or_self true_and and_true and_self
attribute [go_sem] true_implies false_implies implies_true forall_const Nat.lt_add_one Nat.one_pos Nat.zero_lt_one Nat.lt_irrefl zG decide_true decide_false Bool.false_eq_true
attribute [go_sem] Bool.true_eq_false forall_eq BEq.rfl beq_self_eq_true decide_eq_true_eq decide_eq_false_iff_not beq_iff_eq beq_eq_false_iff_ne bne_iff_ne bne_eq_false_iff_eq
attribute [go_sem] Bool.not_eq_true Bool.not_eq_false Bool.not_eq_true' Bool.not_eq_false' ydag ycva ycxo ybxo yccx ybrj ycbg ycax ycdf
attribute [go_sem] ybyo ybsu ycuz ydcw ycup yccd ybzv ybxb ycbv yccc ybmz ybro ybiq ybra ybnt ybsl ybvq
attribute [go_sem] ybtp ydhn ydft ydfp ycyg yczs ycal ycwa yctc ycte ycve ycyz ydjy ydji ydit ydhs yddd ydah yday ydet yddx
attribute [go_sem] ydff ydbf ydgl yddm yddv yboh yczf ycbe ycwr ydae ydam ycwq ycuk
attribute [go_sem] ywo ybet idxF ydhf ysh ylk own1 ybgv Tel telL ysj ybdg ycuo ycvd ycta ycdb ybxh ybzj ycde ycco yccj
attribute [go_sem] ycat ybyt ydke ydig ydiw yddu ydgd ydbo ydbm yddo ydbk ydfw yddl lv nmem rid yhk ydgi ybxe yub ycjd ybop yvo
attribute [go_sem] yso ybnz ybqu ydey ybqj ymy ydkq ydih ydir ydbi ydea ydaj ydcg ydfo ydav ydfg ydef List.any_cons List.any_nil Option.isSome
attribute [go_sem] ycua or_false false_or or_true true_or false_and exists_const exists_false List.not_mem_nil and_false
attribute [go_sem ↓] gb_t gb_f ydjx ydip
end Sh
end
section
namespace Sh
open Go Ev
def ychs:LO:=[o3 (.mv (ci' 0)) 4 0]
def ychx:LO:=[mv' 0 6 0,ln' 6 7 1,o3 (.mv (ci' 0)) 8 0]
def ycrx:LO:=[bn' .lss 8 7 9 0]
def ycpa:LO:=[mv' 8 10 0,mv' 10 5 1]
def ycdq:LO:=[mv' 1 11 0,mv' 0 12 0,mv' 5 13 0,ix' 1 12 13 14 6,ld' false 1 14 15 14,bn' .eql 11 15 16 31]
def ycnt:LO:=[mv' 5 17 0,mv' 17 4 1]
def ycmo:LO:=[o3 (.bin .add (.tmp 8) (ci' 1)) 18 0,mv' 18 8 1]
def ycji:LO:=[o3 (.mv (.const (.int .i64 (-1)))) 4 0]
def c165:SC:=(.seq (.reg false ychs) (.seq (.seq (.reg false ychx) (.block 0 (.loop (.seq (.reg false ycrx) (.seq (.cond (.tmp 9) .skip (.exit 0)) (.seq (.block 1 (.seq (.reg false ycpa) (.seq (.reg false ycdq) (.cond (.tmp 16) (.seq (.reg false ycnt) .ret) .skip)))) (.reg false ycmo))))))) (.seq (.reg false ycji) .ret)))
theorem ycwn:Fn 165 c165 [.t 4]:=fn_0 Tryz.func165 (by kernel_rfl) (by kernel_rfl)
def yclg:LO:=[o3 (.mv (ci' 0)) 2 0]
def ycox:LO:=[mv' 0 5 0,ln' 5 6 1,o3 (.bin .lss (.tmp 6) (ci' 1)) 7 3]
def ycmr:LO:=[o3 (.no) 8 0,o0 (.no) 1]
def ycdx:LO:=[mv' 0 9 0,o3 (.idx 1 (.tmp 9) (ci' 0)) 10 1,ld' false 1 10 11 3,mv' 11 3 7]
def ycre:LO:=[o3 (.mv (ci' 1)) 4 0]
def ycgc:LO:=[mv' 4 12 0,mv' 0 13 0,ln' 13 14 2,bn' .lss 12 14 15 7]
def ycea:LO:=[mv' 3 18 0,mv' 0 19 0,mv' 4 20 0,ix' 1 19 20 21 6,ld' false 1 21 22 14,o3 (.mm true (.tmp 18) (.tmp 22)) 23 31,mv' 23 3 63]
def ycpy:LO:=[mv' 4 16 0,o3 (.bin .add (.tmp 16) (ci' 1)) 17 1,mv' 17 4 3]
def ycie:LO:=[mv' 3 24 0,mv' 24 2 1]
def c160:SC:=(.seq (.reg false yclg) (.seq (.seq (.reg false ycox) (.cond (.tmp 7) (.reg false ycmr) .skip)) (.seq (.reg false ycdx) (.seq (.seq (.reg false ycre) (.block 0 (.loop (.seq (.seq (.reg false ycgc) (.cond (.tmp 15) .skip (.exit 0))) (.seq (.block 1 (.reg false ycea)) (.reg false ycpy)))))) (.seq (.reg false ycie) .ret)))))
theorem ycwz:Fn 160 c160 [.t 2]:=fn_0 Tryz.func160 (by kernel_rfl) (by kernel_rfl)
def ycnx:LO:=[o3 (.mv (.const (.bool false))) 4 0]
def ycoq:LO:=[mv' 0 5 0,mv' 1 6 0,cl' 165 [5,6] 7 3,o3 (.bin .geq (.tmp 7) (ci' 0)) 8 7,mv' 8 4 15]
def c274:SC:=(.seq (.reg false ycnx) (.seq (.reg false ycoq) .ret))
theorem ycxm:Fn 274 c274 [.t 4]:=fn_0 Tryz.func274 (by kernel_rfl) (by kernel_rfl)
def ychb:LO:=[o3 (.mv (ci' 0)) 4 0]
def ycke:LO:=[mv' 0 6 0,ln' 6 7 1,o3 (.mv (ci' 0)) 8 0]
def yckb:LO:=[bn' .lss 8 7 9 0]
def ycmy:LO:=[mv' 8 10 0,mv' 10 5 1]
def ycik:LO:=[mv' 1 11 0,mv' 0 12 0,mv' 5 13 0,ix' 1 12 13 14 6,ld' false 1 14 15 14,o3 (.call (.tmp 11) [(.tmp 15)]) 16 31]
def yckd:LO:=[mv' 5 17 0,mv' 17 4 1]
def ycny:LO:=[o3 (.bin .add (.tmp 8) (ci' 1)) 18 0,mv' 18 8 1]
def ycgj:LO:=[o3 (.mv (.const (.int .i64 (-1)))) 4 0]
def c267:SC:=(.seq (.reg false ychb) (.seq (.seq (.reg false ycke) (.block 0 (.loop (.seq (.reg false yckb) (.seq (.cond (.tmp 9) .skip (.exit 0)) (.seq (.block 1 (.seq (.reg false ycmy) (.seq (.reg false ycik) (.cond (.tmp 16) (.seq (.reg false yckd) .ret) .skip)))) (.reg false ycny))))))) (.seq (.reg false ycgj) .ret)))
theorem ycwx:Fn 267 c267 [.t 4]:=fn_0 Tryz.func267 (by kernel_rfl) (by kernel_rfl)
def ychl:LO:=[o3 (.mv (ci' 0)) 2 0]
def ycij:LO:=[mv' 0 4 0,o3 (.bin .lss (.tmp 4) (ci' 1)) 5 1,mv' 5 6 3,⟨.mv (.tmp 0),some 7,some (6,false),7⟩,⟨.bin .gtr (.tmp 7) (ci' 43),some 8,some (6,false),15⟩,o3 (.pick (.tmp 6) (.const (.bool true)) (.tmp 8)) 9 31,mv' 9 3 63]
def yckh:LO:=[o3 (.mv (.const (.int .i64 (-1)))) 2 0]
def ychv:LO:=[mv' 0 11 0,o3 (.bin .leq (.tmp 11) (ci' 17)) 12 1,mv' 12 10 3]
def ycgs:LO:=[o3 (.mv (ci' 0)) 2 0]
def ychn:LO:=[mv' 0 14 0,o3 (.bin .leq (.tmp 14) (ci' 29)) 15 1,mv' 15 13 3]
def ycjf:LO:=[o3 (.mv (ci' 1)) 2 0]
def yciv:LO:=[mv' 0 17 0,o3 (.bin .leq (.tmp 17) (ci' 42)) 18 1,mv' 18 16 3]
def ycqj:LO:=[o3 (.mv (ci' 2)) 2 0]
def ycqc:LO:=[o3 (.mv (ci' 3)) 2 0]
def c247:SC:=(.seq (.reg false ychl) (.seq (.block 0 (.seq (.reg false ycij) (.cond (.tmp 3) (.seq (.reg false yckh) .ret) (.seq (.reg false ychv) (.cond (.tmp 10) (.seq (.reg false ycgs) .ret) (.seq (.reg false ychn) (.cond (.tmp 13) (.seq (.reg false ycjf) .ret) (.seq (.reg false yciv) (.cond (.tmp 16) (.seq (.reg false ycqj) .ret) .skip))))))))) (.seq (.reg false ycqc) .ret)))
theorem ycuq:Fn 247 c247 [.t 2]:=fn_0 Tryz.func247 (by kernel_rfl) (by kernel_rfl)
def ycpv:LO:=[o3 (.mv (ci' 0)) 4 0]
def ycka:LO:=[mv' 1 7 0,o3 (.bin .lss (.tmp 7) (ci' 0)) 8 1,mv' 8 9 3,⟨.mv (.tmp 1),some 10,some (9,false),7⟩,⟨.mv (.tmp 0),some 11,some (9,false),7⟩,⟨.len (.tmp 11),some 12,some (9,false),23⟩,⟨.bin .geq (.tmp 10) (.tmp 12),some 13,some (9,false),63⟩,o3 (.pick (.tmp 9) (.const (.bool true)) (.tmp 13)) 14 127]
def ycom:LO:=[o3 (.mv (.const (.int .i64 (-1)))) 4 0]
def ycoj:LO:=[o3 (.mv (ci' 1)) 5 0]
def ycew:LO:=[mv' 1 15 0,mv' 0 16 0,ln' 16 17 2,bn' .lss 15 17 18 7]
def ycpz:LO:=[mv' 0 21 0,mv' 1 22 0,ix' 2 21 22 23 3,fa' 0 1 23 24 7,ld' false 1 24 25 15,cl' 247 [25] 26 31,mv' 26 6 63]
def ycqk:LO:=[mv' 6 27 0,o3 (.bin .lss (.tmp 27) (ci' 0)) 28 1]
def ycpf:LO:=[o3 (.mv (.const (.int .i64 (-1)))) 4 0]
def ycht:LO:=[mv' 5 29 0,mv' 6 30 0,o3 (.bin .sub (.tmp 30) (ci' 1)) 31 2,bn' .add 29 31 32 7,mv' 32 5 15]
def ybth:LO:=[mv' 5 33 0,o3 (.bin .eql (.tmp 33) (ci' 0)) 34 1]
def ybmn:LO:=[mv' 1 35 0,o3 (.bin .add (.tmp 35) (ci' 1)) 36 1,mv' 36 4 3]
def ychd:LO:=[mv' 1 19 0,o3 (.bin .add (.tmp 19) (ci' 1)) 20 1,mv' 20 1 3]
def ybpq:LO:=[o3 (.mv (.const (.int .i64 (-1)))) 4 0]
def c231:SC:=(.seq (.reg false ycpv) (.seq (.seq (.reg false ycka) (.cond (.tmp 14) (.seq (.reg false ycom) .ret) .skip)) (.seq (.seq (.reg false ycoj) (.block 0 (.loop (.seq (.seq (.reg false ycew) (.cond (.tmp 18) .skip (.exit 0))) (.seq (.block 1 (.seq (.reg false ycpz) (.seq (.seq (.reg false ycqk) (.cond (.tmp 28) (.seq (.reg false ycpf) .ret) .skip)) (.seq (.reg false ycht) (.seq (.reg false ybth) (.cond (.tmp 34) (.seq (.reg false ybmn) .ret) .skip)))))) (.reg false ychd)))))) (.seq (.reg false ybpq) .ret))))
theorem ycvq:Fn 231 c231 [.t 4]:=fn_0 Tryz.func231 (by kernel_rfl) (by kernel_rfl)
def ycmi:LO:=[o3 (.box 27 (.tmp 0)) 3 0,o3 (.mv (ci' 0)) 6 0]
def ycdz:LO:=[fa' 1 1 3 9 0,ld' false 1 9 10 1,mv' 1 11 0,ix' 1 10 11 12 7,ld' false 1 12 13 15,ln' 13 14 31,o3 (.mv (ci' 0)) 15 0]
def ycfe:LO:=[bn' .lss 15 14 16 0]
def ycep:LO:=[mv' 15 17 0,ix' 2 13 15 18 0,ld' true 2 18 19 2,o3 (.alloc 95 1 [.i .i64 0,.i .i64 0]) 8 0,mv' 17 7 15,o0 (.store 2 (.tmp 8) (.tmp 19)) 31]
def ycim:LO:=[fa' 0 1 8 20 0,ld' false 1 20 21 1,mv' 2 22 0,bn' .eql 21 22 23 7]
def ycoi:LO:=[mv' 7 24 0,mv' 24 6 1]
def ycmf:LO:=[o3 (.bin .add (.tmp 15) (ci' 1)) 25 0,mv' 25 15 1]
def ycki:LO:=[o3 (.mv (.const (.int .i64 (-1)))) 6 0]
def c170:SC:=(.seq (.reg false ycmi) (.seq (.seq (.reg false ycdz) (.block 0 (.loop (.seq (.reg false ycfe) (.seq (.cond (.tmp 16) .skip (.exit 0)) (.seq (.block 1 (.seq (.reg false ycep) (.seq (.reg false ycim) (.cond (.tmp 23) (.seq (.reg false ycoi) .ret) .skip)))) (.reg false ycmf))))))) (.seq (.reg false ycki) .ret)))
theorem ycwu:Fn 170 c170 [.t 6]:=fn_0 Tryz.func170 (by kernel_rfl) (by kernel_rfl)
def ycqh:LO:=[o3 (.box 27 (.tmp 0)) 1 0,o3 (.mv (.const (.int .u32 0))) 2 0]
def ycod:LO:=[fa' 0 1 1 3 0,ld' false 1 3 4 1,ln' 4 5 3,o3 (.bin .shl (.const (.int .u32 1)) (.tmp 5)) 6 7,o3 (.bin .sub (.tmp 6) (.const (.int .u32 1))) 7 15,mv' 7 2 31]
def c109:SC:=(.seq (.reg false ycqh) (.seq (.reg false ycod) .ret))
theorem ycto:Fn 109 c109 [.t 2]:=fn_0 Tryz.func109 (by kernel_rfl) (by kernel_rfl)
def ycls:LO:=[o3 (.mv (ci' 0)) 2 0]
def ycsi:LO:=[mv' 0 3 0]
def yclb:LO:=[o3 (.mv (ci' 1)) 2 0]
def ycii:LO:=[o3 (.mv (ci' 0)) 2 0]
def c256:SC:=(.seq (.reg false ycls) (.seq (.seq (.reg false ycsi) (.cond (.tmp 3) (.seq (.reg false yclb) .ret) .skip)) (.seq (.reg false ycii) .ret)))
theorem ycxb:Fn 256 c256 [.t 2]:=fn_0 Tryz.func256 (by kernel_rfl) (by kernel_rfl)
def ycjy:LO:=[o3 (.mv (ci' 0)) 2 0]
def ycme:LO:=[mv' 0 3 0,o3 (.mm false (.tmp 3) (ci' 1073741824)) 4 1,o3 (.mm true (.const (.int .i64 (-1073741824))) (.tmp 4)) 5 3,mv' 5 2 7]
def c258:SC:=(.seq (.reg false ycjy) (.seq (.reg false ycme) .ret))
theorem yctg:Fn 258 c258 [.t 2]:=fn_0 Tryz.func258 (by kernel_rfl) (by kernel_rfl)
def ycfw:LO:=[o3 (.mv (ci' 0)) 4 0]
def yceq:LO:=[mv' 0 5 0,o3 (.bin .eql (.tmp 5) (ci' 18)) 6 1]
def ycej:LO:=[mv' 1 7 0,o3 (.un .neg (.tmp 7)) 8 1,mv' 8 4 3]
def ycjp:LO:=[mv' 1 9 0,o3 (.bin .eql (.tmp 9) (ci' 0)) 10 1,cl' 256 [10] 11 3,mv' 11 4 7]
def c237:SC:=(.seq (.reg false ycfw) (.seq (.seq (.reg false yceq) (.cond (.tmp 6) (.seq (.reg false ycej) .ret) .skip)) (.seq (.reg false ycjp) .ret)))
theorem ycyp:Fn 237 c237 [.t 4]:=fn_0 Tryz.func237 (by kernel_rfl) (by kernel_rfl)
def ycff:LO:=[o3 (.mv (ci' 0)) 6 0]
def ycmg:LO:=[mv' 0 7 0]
def ycqv:LO:=[o3 (.bin .eql (.tmp 7) (ci' 30)) 9 0,mv' 9 8 1]
def ychh:LO:=[mv' 1 10 0,mv' 2 11 0,bn' .mul 10 11 12 3,cl' 258 [12] 13 7,mv' 13 6 15]
def ycmu:LO:=[o3 (.bin .eql (.tmp 7) (ci' 31)) 15 0,mv' 15 14 1]
def yclz:LO:=[mv' 1 16 0,mv' 2 17 0,cl' 259 [16,17] 18 3,cl' 258 [18] 19 7,mv' 19 6 15]
def ycev:LO:=[o3 (.bin .eql (.tmp 7) (ci' 32)) 21 0,mv' 21 20 1]
def ycms:LO:=[mv' 2 22 0,o3 (.bin .eql (.tmp 22) (ci' 0)) 23 1]
def ycmb:LO:=[o3 (.mv (ci' 0)) 6 0]
def yche:LO:=[mv' 1 24 0,mv' 2 25 0,mv' 1 26 0,mv' 2 27 0,cl' 259 [26,27] 28 12,bn' .mul 25 28 29 30,bn' .sub 24 29 30 63,cl' 258 [30] 31 127,mv' 31 6 255]
def ybwl:LO:=[o3 (.bin .eql (.tmp 7) (ci' 33)) 33 0,mv' 33 32 1]
def ybnr:LO:=[mv' 1 34 0,mv' 2 35 0,bn' .add 34 35 36 3,cl' 258 [36] 37 7,mv' 37 6 15]
def ybsm:LO:=[o3 (.bin .eql (.tmp 7) (ci' 34)) 39 0,mv' 39 38 1]
def yboe:LO:=[mv' 1 40 0,mv' 2 41 0,bn' .sub 40 41 42 3,cl' 258 [42] 43 7,mv' 43 6 15]
def ybrt:LO:=[o3 (.bin .eql (.tmp 7) (ci' 41)) 45 0,mv' 45 44 1]
def ybsy:LO:=[mv' 1 46 0,o3 (.bin .neq (.tmp 46) (ci' 0)) 47 1,mv' 47 48 3,⟨.mv (.tmp 2),some 49,some (48,true),7⟩,⟨.bin .neq (.tmp 49) (ci' 0),some 50,some (48,true),15⟩,o3 (.pick (.tmp 48) (.tmp 50) (.const (.bool false))) 51 31,cl' 256 [51] 52 63,mv' 52 6 127]
def ybuv:LO:=[o3 (.bin .eql (.tmp 7) (ci' 42)) 54 0,mv' 54 53 1]
def ybrf:LO:=[mv' 1 55 0,o3 (.bin .neq (.tmp 55) (ci' 0)) 56 1,mv' 56 57 3,⟨.mv (.tmp 2),some 58,some (57,false),7⟩,⟨.bin .neq (.tmp 58) (ci' 0),some 59,some (57,false),15⟩,o3 (.pick (.tmp 57) (.const (.bool true)) (.tmp 59)) 60 31,cl' 256 [60] 61 63,mv' 61 6 127]
def ybqo:LO:=[mv' 0 62 0,mv' 1 63 0,mv' 2 64 0,cl' 260 [62,63,64] 65 7,cl' 256 [65] 66 15,mv' 66 6 31]
def c239:SC:=(.seq (.reg false ycff) (.seq (.seq (.reg false ycmg) (.block 0 (.seq (.reg false ycqv) (.cond (.tmp 8) (.seq (.reg false ychh) .ret) (.seq (.reg false ycmu) (.cond (.tmp 14) (.seq (.reg false yclz) .ret) (.seq (.reg false ycev) (.cond (.tmp 20) (.seq (.seq (.reg false ycms) (.cond (.tmp 23) (.seq (.reg false ycmb) .ret) .skip)) (.seq (.reg false yche) .ret)) (.seq (.reg false ybwl) (.cond (.tmp 32) (.seq (.reg false ybnr) .ret) (.seq (.reg false ybsm) (.cond (.tmp 38) (.seq (.reg false yboe) .ret) (.seq (.reg false ybrt) (.cond (.tmp 44) (.seq (.reg false ybsy) .ret) (.seq (.reg false ybuv) (.cond (.tmp 53) (.seq (.reg false ybrf) .ret) .skip)))))))))))))))) (.seq (.reg false ybqo) .ret)))
theorem yctw:Fn 239 c239 [.t 6]:=fn_0 Tryz.func239 (by kernel_rfl) (by kernel_rfl)
def ycfo:LO:=[o3 (.mv (ci' 0)) 4 0]
def ycgq:LO:=[mv' 1 6 0,o3 (.bin .eql (.tmp 6) (ci' 0)) 7 1]
def ycsc:LO:=[o3 (.mv (ci' 0)) 4 0]
def ycrt:LO:=[mv' 0 8 0,mv' 1 9 0,bn' .quo 8 9 10 3,mv' 10 5 7]
def ycrj:LO:=[mv' 0 11 0,mv' 1 12 0,bn' .rem 11 12 13 3,o3 (.bin .neq (.tmp 13) (ci' 0)) 14 7,mv' 14 15 15,⟨.mv (.tmp 0),some 16,some (15,true),31⟩,⟨.bin .lss (.tmp 16) (ci' 0),some 17,some (15,true),63⟩,⟨.mv (.tmp 1),some 18,some (15,true),31⟩,⟨.bin .lss (.tmp 18) (ci' 0),some 19,some (15,true),159⟩,⟨.beq true (.tmp 17) (.tmp 19),some 20,some (15,true),511⟩,o3 (.pick (.tmp 15) (.tmp 20) (.const (.bool false))) 21 1023]
def ycpk:LO:=[mv' 5 22 0,o3 (.bin .sub (.tmp 22) (ci' 1)) 23 1,mv' 23 5 3]
def yclu:LO:=[mv' 5 24 0,mv' 24 4 1]
def c259:SC:=(.seq (.reg false ycfo) (.seq (.seq (.reg false ycgq) (.cond (.tmp 7) (.seq (.reg false ycsc) .ret) .skip)) (.seq (.reg false ycrt) (.seq (.seq (.reg false ycrj) (.cond (.tmp 21) (.reg false ycpk) .skip)) (.seq (.reg false yclu) .ret)))))
theorem yctq:Fn 259 c259 [.t 4]:=fn_0 Tryz.func259 (by kernel_rfl) (by kernel_rfl)
def ycgi:LO:=[o3 (.mv (.const (.bool false))) 6 0]
def ycdr:LO:=[mv' 0 7 0]
def ycqn:LO:=[o3 (.bin .eql (.tmp 7) (ci' 35)) 9 0,mv' 9 8 1]
def ycky:LO:=[mv' 1 10 0,mv' 2 11 0,bn' .eql 10 11 12 3,mv' 12 6 7]
def ycqe:LO:=[o3 (.bin .eql (.tmp 7) (ci' 36)) 14 0,mv' 14 13 1]
def ycge:LO:=[mv' 1 15 0,mv' 2 16 0,bn' .neq 15 16 17 3,mv' 17 6 7]
def yciw:LO:=[o3 (.bin .eql (.tmp 7) (ci' 37)) 19 0,mv' 19 18 1]
def ycmj:LO:=[mv' 1 20 0,mv' 2 21 0,bn' .lss 20 21 22 3,mv' 22 6 7]
def ycns:LO:=[o3 (.bin .eql (.tmp 7) (ci' 38)) 24 0,mv' 24 23 1]
def yclt:LO:=[mv' 1 25 0,mv' 2 26 0,bn' .leq 25 26 27 3,mv' 27 6 7]
def ybot:LO:=[o3 (.bin .eql (.tmp 7) (ci' 39)) 29 0,mv' 29 28 1]
def ybvu:LO:=[mv' 1 30 0,mv' 2 31 0,bn' .gtr 30 31 32 3,mv' 32 6 7]
def ybtq:LO:=[mv' 1 33 0,mv' 2 34 0,bn' .geq 33 34 35 3,mv' 35 6 7]
def c260:SC:=(.seq (.reg false ycgi) (.seq (.seq (.reg false ycdr) (.block 0 (.seq (.reg false ycqn) (.cond (.tmp 8) (.seq (.reg false ycky) .ret) (.seq (.reg false ycqe) (.cond (.tmp 13) (.seq (.reg false ycge) .ret) (.seq (.reg false yciw) (.cond (.tmp 18) (.seq (.reg false ycmj) .ret) (.seq (.reg false ycns) (.cond (.tmp 23) (.seq (.reg false yclt) .ret) (.seq (.reg false ybot) (.cond (.tmp 28) (.seq (.reg false ybvu) .ret) .skip)))))))))))) (.seq (.reg false ybtq) .ret)))
theorem ycvz:Fn 260 c260 [.t 6]:=fn_0 Tryz.func260 (by kernel_rfl) (by kernel_rfl)
def yceo:LO:=[o3 (.mv (ci' 0)) 4 0]
def ycpe:LO:=[mv' 0 15 0]
def ycds:LO:=[o3 (.bin .eql (.tmp 15) (ci' 20)) 17 0,mv' 17 16 1]
def yckt:LO:=[mv' 1 18 0,cl' 266 [18] 19 1,mv' 1 20 0,ln' 20 21 4,bn' .eql 19 21 22 15,cl' 256 [22] 23 31,mv' 23 4 63]
def ycse:LO:=[o3 (.bin .eql (.tmp 15) (ci' 21)) 25 0,mv' 25 24 1]
def ycsg:LO:=[mv' 1 26 0,cl' 266 [26] 27 1,o3 (.bin .gtr (.tmp 27) (ci' 0)) 28 3,cl' 256 [28] 29 7,mv' 29 4 15]
def ycss:LO:=[o3 (.bin .eql (.tmp 15) (ci' 22)) 31 0,mv' 31 30 1]
def ycrm:LO:=[mv' 1 32 0,cl' 266 [32] 33 1,mv' 33 4 3]
def ycqr:LO:=[o3 (.bin .eql (.tmp 15) (ci' 23)) 35 0,mv' 35 34 1]
def ycor:LO:=[mv' 1 36 0,o3 (.call (.func 267) [(.tmp 36),(.func 268)]) 37 1,mv' 37 4 3]
def ybpb:LO:=[o3 (.bin .eql (.tmp 15) (ci' 24)) 39 0,mv' 39 38 1]
def ybsh:LO:=[o3 (.mv (ci' 1073741824)) 5 0]
def yboz:LO:=[mv' 1 40 0,ln' 40 41 1,o3 (.mv (ci' 0)) 42 0]
def ybua:LO:=[bn' .lss 42 41 43 0]
def ybtn:LO:=[ix' 1 40 42 44 0,ld' false 1 44 45 1,mv' 45 7 3]
def ybup:LO:=[mv' 5 46 0,mv' 7 47 0,o3 (.mm false (.tmp 46) (.tmp 47)) 48 3,mv' 48 5 7]
def ybul:LO:=[o3 (.bin .add (.tmp 42) (ci' 1)) 49 0,mv' 49 42 1]
def yblw:LO:=[mv' 5 50 0,mv' 50 4 1]
def ybmg:LO:=[o3 (.bin .eql (.tmp 15) (ci' 25)) 52 0,mv' 52 51 1]
def ybqm:LO:=[mv' 1 54 0,cl' 269 [54] 55 1,mv' 55 53 3,xt' 53 0 56 7,xt' 53 1 57 7,mv' 56 8 15,mv' 57 9 63]
def ybmx:LO:=[mv' 8 58 0,mv' 58 4 1]
def ybrk:LO:=[o3 (.bin .eql (.tmp 15) (ci' 26)) 60 0,mv' 60 59 1]
def ybmh:LO:=[o3 (.mv (ci' 0)) 10 0]
def ybtf:LO:=[mv' 1 61 0,ln' 61 62 1,o3 (.mv (ci' 0)) 63 0]
def ybmj:LO:=[bn' .lss 63 62 64 0]
def ybvd:LO:=[ix' 1 61 63 65 0,ld' false 1 65 66 1,mv' 66 12 3]
def ybqc:LO:=[mv' 10 67 0,mv' 12 68 0,bn' .add 67 68 69 3,mv' 69 10 7]
def ybnu:LO:=[o3 (.bin .add (.tmp 63) (ci' 1)) 70 0,mv' 70 63 1]
def ybnx:LO:=[mv' 10 71 0,cl' 258 [71] 72 1,mv' 72 4 3]
def ybnf:LO:=[o3 (.bin .eql (.tmp 15) (ci' 27)) 74 0,mv' 74 73 1]
def ybwo:LO:=[mv' 1 75 0,cl' 270 [75] 76 1,mv' 76 4 3]
def ybqb:LO:=[o3 (.bin .eql (.tmp 15) (ci' 28)) 78 0,mv' 78 77 1]
def yblp:LO:=[mv' 1 80 0,cl' 269 [80] 81 1,mv' 81 79 3,xt' 79 0 82 7,xt' 79 1 83 7,mv' 82 13 15,mv' 83 14 63]
def ybti:LO:=[mv' 14 84 0,mv' 84 4 1]
def ybpc:LO:=[mv' 1 85 0,ln' 85 86 1,o3 (.bin .eql (.tmp 86) (ci' 0)) 87 3]
def ybrm:LO:=[o3 (.mv (ci' 0)) 4 0]
def ybsb:LO:=[mv' 1 88 0,o3 (.idx 1 (.tmp 88) (ci' 0)) 89 1,ld' false 1 89 90 3,mv' 90 4 7]
def c257:SC:=(.seq (.reg false yceo) (.seq (.seq (.reg false ycpe) (.block 0 (.seq (.reg false ycds) (.cond (.tmp 16) (.seq (.reg false yckt) .ret) (.seq (.reg false ycse) (.cond (.tmp 24) (.seq (.reg false ycsg) .ret) (.seq (.reg false ycss) (.cond (.tmp 30) (.seq (.reg false ycrm) .ret) (.seq (.reg false ycqr) (.cond (.tmp 34) (.seq (.reg false ycor) .ret) (.seq (.reg false ybpb) (.cond (.tmp 38) (.seq (.reg false ybsh) (.seq (.seq (.reg false yboz) (.block 1 (.loop (.seq (.reg false ybua) (.seq (.cond (.tmp 43) .skip (.exit 1)) (.seq (.block 2 (.seq (.reg false ybtn) (.reg false ybup))) (.reg false ybul))))))) (.seq (.reg false yblw) .ret))) (.seq (.reg false ybmg) (.cond (.tmp 51) (.seq (.reg false ybqm) (.seq (.reg false ybmx) .ret)) (.seq (.reg false ybrk) (.cond (.tmp 59) (.seq (.reg false ybmh) (.seq (.seq (.reg false ybtf) (.block 3 (.loop (.seq (.reg false ybmj) (.seq (.cond (.tmp 64) .skip (.exit 3)) (.seq (.block 4 (.seq (.reg false ybvd) (.reg false ybqc))) (.reg false ybnu))))))) (.seq (.reg false ybnx) .ret))) (.seq (.reg false ybnf) (.cond (.tmp 73) (.seq (.reg false ybwo) .ret) (.seq (.reg false ybqb) (.cond (.tmp 77) (.seq (.reg false yblp) (.seq (.reg false ybti) .ret)) .skip)))))))))))))))))))) (.seq (.seq (.reg false ybpc) (.cond (.tmp 87) (.seq (.reg false ybrm) .ret) .skip)) (.seq (.reg false ybsb) .ret))))
theorem ycxj:Fn 257 c257 [.t 4]:=fn_0 Tryz.func257 (by kernel_rfl) (by kernel_rfl)
def ycmk:LO:=[o3 (.mv (.const (.bool false))) 2 0]
def yclw:LO:=[mv' 0 3 0,o3 (.bin .neq (.tmp 3) (ci' 0)) 4 1,mv' 4 2 3]
def c268:SC:=(.seq (.reg false ycmk) (.seq (.reg false yclw) .ret))
theorem yctl:Fn 268 c268 [.t 2]:=fn_0 Tryz.func268 (by kernel_rfl) (by kernel_rfl)
def yciy:LO:=[o3 (.mv (ci' 0)) 2 0]
def ycrb:LO:=[o3 (.mv (ci' 0)) 3 0]
def ycju:LO:=[mv' 0 6 0,ln' 6 7 1,o3 (.mv (ci' 0)) 8 0]
def ycli:LO:=[bn' .lss 8 7 9 0]
def ycpo:LO:=[ix' 1 6 8 10 0,ld' false 1 10 11 1,mv' 11 5 3]
def ycgo:LO:=[mv' 5 12 0,o3 (.bin .neq (.tmp 12) (ci' 0)) 13 1]
def ycnn:LO:=[mv' 3 14 0,o3 (.bin .add (.tmp 14) (ci' 1)) 15 1,mv' 15 3 3]
def ycnr:LO:=[o3 (.bin .add (.tmp 8) (ci' 1)) 16 0,mv' 16 8 1]
def ycjr:LO:=[mv' 3 17 0,mv' 17 2 1]
def c266:SC:=(.seq (.reg false yciy) (.seq (.reg false ycrb) (.seq (.seq (.reg false ycju) (.block 0 (.loop (.seq (.reg false ycli) (.seq (.cond (.tmp 9) .skip (.exit 0)) (.seq (.block 1 (.seq (.reg false ycpo) (.seq (.reg false ycgo) (.cond (.tmp 13) (.reg false ycnn) .skip)))) (.reg false ycnr))))))) (.seq (.reg false ycjr) .ret))))
theorem ycww:Fn 266 c266 [.t 2]:=fn_0 Tryz.func266 (by kernel_rfl) (by kernel_rfl)
def yclj:LO:=[o3 (.mv (ci' 0)) 2 0,o3 (.mv (ci' 0)) 3 1]
def ycsx:LO:=[o3 (.mv (.const (.int .i64 (-1073741824)))) 2 0,o3 (.mv (.const (.int .i64 (-1073741824)))) 3 1]
def ycft:LO:=[mv' 0 6 0,ln' 6 7 1,o3 (.mv (ci' 0)) 8 0]
def ycem:LO:=[bn' .lss 8 7 9 0]
def ycio:LO:=[ix' 1 6 8 10 0,ld' false 1 10 11 1,mv' 11 5 3]
def ycpj:LO:=[mv' 5 12 0,mv' 2 13 0,bn' .gtr 12 13 14 3]
def ycfg:LO:=[mv' 5 15 0,mv' 2 16 0,mv' 15 2 3,mv' 16 3 7]
def ychz:LO:=[mv' 3 17 0,mv' 5 18 0,o3 (.mm true (.tmp 17) (.tmp 18)) 19 3,mv' 19 3 7]
def ycov:LO:=[o3 (.bin .add (.tmp 8) (ci' 1)) 20 0,mv' 20 8 1]
def ycgv:LO:=[mv' 2 21 0,mv' 3 22 0,mv' 21 2 1,mv' 22 3 7]
def c269:SC:=(.seq (.reg false yclj) (.seq (.reg false ycsx) (.seq (.seq (.reg false ycft) (.block 0 (.loop (.seq (.reg false ycem) (.seq (.cond (.tmp 9) .skip (.exit 0)) (.seq (.block 1 (.seq (.reg false ycio) (.seq (.reg false ycpj) (.cond (.tmp 14) (.reg false ycfg) (.reg false ychz))))) (.reg false ycov))))))) (.seq (.reg false ycgv) .ret))))
theorem ycwp:Fn 269 c269 [.t 2,.t 3]:=fn_0 Tryz.func269 (by kernel_rfl) (by kernel_rfl)
def ycfu:LO:=[o3 (.mv (ci' 0)) 2 0]
def ycfm:LO:=[o3 (.mv (ci' 0)) 3 0]
def ycgg:LO:=[mv' 0 4 0,mv' 3 5 0,cl' 274 [4,5] 6 3]
def ychc:LO:=[mv' 3 7 0,o3 (.bin .add (.tmp 7) (ci' 1)) 8 1,mv' 8 3 3]
def ycmd:LO:=[mv' 3 9 0,mv' 9 2 1]
def c270:SC:=(.seq (.reg false ycfu) (.seq (.reg false ycfm) (.seq (.block 0 (.loop (.seq (.seq (.reg false ycgg) (.cond (.tmp 6) .skip (.exit 0))) (.block 1 (.reg false ychc))))) (.seq (.reg false ycmd) .ret))))
theorem ycvu:Fn 270 c270 [.t 2]:=fn_0 Tryz.func270 (by kernel_rfl) (by kernel_rfl)
def ycha:LO:=[o3 (.box 58 (.tmp 0)) 2 0,o3 (.box 27 (.tmp 1)) 3 0,o3 (.mv (.const (.pointer none))) 4 0]
def ycqf:LO:=[ld' true 3 2 10 0,ld' true 2 3 11 0,fa' 1 1 3 12 0,ld' false 1 12 13 4,ln' 13 14 12,o3 (.mk 22 1 24 [.a (.slice none 0 0)] (.tmp 14) (.tmp 14)) 15 28,o3 (.build [.a (.string (ByteArray.mk #[])),.a (.slice none 0 0),.a (.slice none 0 0),.a (.slice none 0 0),.a (.slice none 0 0),.i .i64 0,.a (.slice none 0 0)] [(0,3,(.tmp 10)),(3,2,(.tmp 11)),(6,1,(.tmp 15))]) 16 63,o3 (.box 170 (.tmp 16)) 17 127,mv' 17 5 255]
def ycog:LO:=[fa' 1 1 3 18 0,ld' false 1 18 19 1,ln' 19 20 3,o3 (.mv (ci' 0)) 21 0]
def ycll:LO:=[bn' .lss 21 20 22 0]
def ycpq:LO:=[mv' 21 23 0,ix' 1 19 21 24 0,ld' false 1 24 25 2,mv' 23 6 7,mv' 25 7 15]
def ycir:LO:=[mv' 5 26 0,mv' 5 27 0,o3 (.nilck (.tmp 27)) 28 2,fa' 5 1 28 29 6,ld' false 1 29 30 14,fa' 0 1 3 31 0,ld' false 1 31 32 32,mv' 6 33 0,ix' 1 32 33 34 224,ld' false 1 34 35 480,o3 (.mm true (.tmp 30) (.tmp 35)) 36 1022,o3 (.nilck (.tmp 26)) 37 2047,fa' 5 1 37 38 4095,o0 (.store 1 (.tmp 38) (.tmp 36)) 8191]
def ycks:LO:=[mv' 7 39 0,ln' 39 40 1,o3 (.mv (ci' 0)) 41 0]
def ycou:LO:=[bn' .lss 41 40 42 0]
def ychu:LO:=[ix' 2 39 41 43 0,ld' true 2 43 44 1,o3 (.alloc 95 1 [.i .i64 0,.i .i64 0]) 9 0,o0 (.store 2 (.tmp 9) (.tmp 44)) 7]
def ycmp:LO:=[mv' 5 45 0,o3 (.nilck (.tmp 45)) 46 1,fa' 6 1 46 47 3,ld' false 1 47 48 7,mv' 6 49 0,mv' 5 50 0,o3 (.nilck (.tmp 50)) 51 32,fa' 6 1 51 52 96,ld' false 1 52 53 224,mv' 6 54 0,ix' 1 53 54 55 992,ld' false 1 55 56 2016,ld' true 2 3 57 0,fa' 0 1 9 58 0,ld' false 1 58 59 8192,mv' 6 60 0,cl' 170 [57,59,60] 61 61440,o3 (.bslice 3 1 1 [.i .i64 0] [(0,1,(.tmp 61))]) 62 126976,o3 (.app 3 1 8 (.tmp 56) (.tmp 62)) 63 262112,ix' 1 48 49 64 524287,o0 (.store 1 (.tmp 64) (.tmp 63)) 1048575]
def ybpd:LO:=[o3 (.bin .add (.tmp 41) (ci' 1)) 65 0,mv' 65 41 1]
def ybta:LO:=[o3 (.bin .add (.tmp 21) (ci' 1)) 66 0,mv' 66 21 1]
def ybls:LO:=[mv' 5 67 0,mv' 67 4 1]
def c143:SC:=(.seq (.reg false ycha) (.seq (.reg true ycqf) (.seq (.seq (.reg false ycog) (.block 0 (.loop (.seq (.reg false ycll) (.seq (.cond (.tmp 22) .skip (.exit 0)) (.seq (.block 1 (.seq (.reg false ycpq) (.seq (.reg true ycir) (.seq (.reg false ycks) (.block 2 (.loop (.seq (.reg false ycou) (.seq (.cond (.tmp 42) .skip (.exit 2)) (.seq (.block 3 (.seq (.reg false ychu) (.reg true ycmp))) (.reg false ybpd)))))))))) (.reg false ybta))))))) (.seq (.reg false ybls) .ret))))
theorem ydaa:Fn 143 c143 [.t 4]:=fn_0 Tryz.func143 (by kernel_rfl) (by kernel_rfl)
def ycjj:LO:=[o3 (.mv (ci' 0)) 8 0]
def ycqm:LO:=[mv' 1 10 0]
def ycdp:LO:=[o3 (.bin .eql (.tmp 10) (ci' 6)) 12 0,mv' 12 11 1]
def ycdu:LO:=[mv' 0 13 0,o3 (.nilck (.tmp 13)) 14 1,fa' 3 2 14 15 3,fa' 0 1 15 16 7,ld' false 1 16 17 15,ln' 17 18 31,mv' 18 8 63]
def ycrf:LO:=[o3 (.bin .eql (.tmp 10) (ci' 7)) 20 0,mv' 20 19 1]
def ycrd:LO:=[mv' 0 21 0,o3 (.nilck (.tmp 21)) 22 1,fa' 5 1 22 23 3,ld' false 1 23 24 7,mv' 24 8 15]
def yckx:LO:=[o3 (.bin .eql (.tmp 10) (ci' 8)) 26 0,mv' 26 25 1]
def yckf:LO:=[mv' 0 27 0,o3 (.nilck (.tmp 27)) 28 1,fa' 3 2 28 29 3,fa' 0 1 29 30 7,ld' false 1 30 31 15,mv' 2 32 0,ix' 1 31 32 33 63,ld' false 1 33 34 127,mv' 34 8 255]
def ycnf:LO:=[o3 (.bin .eql (.tmp 10) (ci' 9)) 36 0,mv' 36 35 1]
def ycol:LO:=[mv' 0 37 0,o3 (.nilck (.tmp 37)) 38 1,fa' 3 2 38 39 3,fa' 1 1 39 40 7,ld' false 1 40 41 15,mv' 2 42 0,ix' 1 41 42 43 63,ld' false 1 43 44 127,ln' 44 45 255,mv' 45 8 511]
def ybux:LO:=[o3 (.bin .eql (.tmp 10) (ci' 10)) 47 0,mv' 47 46 1]
def ybps:LO:=[mv' 2 48 0,o3 (.bin .eql (.tmp 48) (ci' 0)) 49 1,cl' 256 [49] 50 3,mv' 50 8 7]
def ybpy:LO:=[o3 (.bin .eql (.tmp 10) (ci' 11)) 52 0,mv' 52 51 1]
def ybpv:LO:=[mv' 3 53 0,mv' 53 8 1]
def ybof:LO:=[mv' 0 54 0,o3 (.nilck (.tmp 54)) 55 1,fa' 3 2 55 56 3,fa' 1 1 56 57 7,ld' false 1 57 58 15,mv' 2 59 0,ix' 1 58 59 60 63,ld' false 1 60 61 127,mv' 3 62 0,ix' 2 61 62 63 511,ld' true 2 63 64 1023,o3 (.alloc 95 1 [.i .i64 0,.i .i64 0]) 9 0,o0 (.store 2 (.tmp 9) (.tmp 64)) 4095]
def ybrz:LO:=[mv' 1 65 0]
def ybsc:LO:=[o3 (.bin .eql (.tmp 65) (ci' 13)) 67 0,mv' 67 66 1]
def ybmm:LO:=[mv' 0 68 0,o3 (.nilck (.tmp 68)) 69 1,fa' 3 2 69 70 3,fa' 0 1 70 71 7,ld' false 1 71 72 15,fa' 0 1 9 73 0,ld' false 1 73 74 32,ix' 1 72 74 75 127,ld' false 1 75 76 255,mv' 76 8 511]
def ybsv:LO:=[o3 (.bin .eql (.tmp 65) (ci' 14)) 78 0,mv' 78 77 1]
def ybpn:LO:=[mv' 0 79 0,o3 (.nilck (.tmp 79)) 80 1,fa' 3 2 80 81 3,fa' 1 1 81 82 7,ld' false 1 82 83 15,fa' 0 1 9 84 0,ld' false 1 84 85 32,ix' 1 83 85 86 127,ld' false 1 86 87 255,ln' 87 88 511,mv' 88 8 1023]
def ybsp:LO:=[o3 (.bin .eql (.tmp 65) (ci' 15)) 90 0,mv' 90 89 1]
def ybvy:LO:=[fa' 0 1 9 91 0,ld' false 1 91 92 1,o3 (.bin .eql (.tmp 92) (ci' 0)) 93 3,cl' 256 [93] 94 7,mv' 94 8 15]
def ybnn:LO:=[o3 (.bin .eql (.tmp 65) (ci' 16)) 96 0,mv' 96 95 1]
def ybor:LO:=[fa' 1 1 9 97 0,ld' false 1 97 98 1,mv' 98 8 3]
def yblt:LO:=[mv' 0 99 0,o3 (.nilck (.tmp 99)) 100 1,fa' 6 1 100 101 3,ld' false 1 101 102 7,mv' 2 103 0,ix' 1 102 103 104 31,ld' false 1 104 105 63,mv' 3 106 0,ix' 1 105 106 107 255,ld' false 1 107 108 511,mv' 108 8 1023]
def c255:SC:=(.seq (.reg false ycjj) (.seq (.seq (.reg false ycqm) (.block 0 (.seq (.reg false ycdp) (.cond (.tmp 11) (.seq (.reg false ycdu) .ret) (.seq (.reg false ycrf) (.cond (.tmp 19) (.seq (.reg false ycrd) .ret) (.seq (.reg false yckx) (.cond (.tmp 25) (.seq (.reg false yckf) .ret) (.seq (.reg false ycnf) (.cond (.tmp 35) (.seq (.reg false ycol) .ret) (.seq (.reg false ybux) (.cond (.tmp 46) (.seq (.reg false ybps) .ret) (.seq (.reg false ybpy) (.cond (.tmp 51) (.seq (.reg false ybpv) .ret) .skip)))))))))))))) (.seq (.reg false ybof) (.seq (.seq (.reg false ybrz) (.block 1 (.seq (.reg false ybsc) (.cond (.tmp 66) (.seq (.reg true ybmm) .ret) (.seq (.reg false ybsv) (.cond (.tmp 77) (.seq (.reg true ybpn) .ret) (.seq (.reg false ybsp) (.cond (.tmp 89) (.seq (.reg false ybvy) .ret) (.seq (.reg false ybnn) (.cond (.tmp 95) (.seq (.reg false ybor) .ret) .skip)))))))))) (.seq (.reg false yblt) .ret)))))
theorem ycul:Fn 255 c255 [.t 8]:=fn_0 Tryz.func255 (by kernel_rfl) (by kernel_rfl)
def ycso:LO:=[o3 (.mv (ci' 0)) 8 0]
def ycgl:LO:=[mv' 0 12 0,mv' 1 13 0,mv' 2 14 0,mv' 3 15 0,o3 (.build [.a (.pointer none),.a (.slice none 0 0),.i .i64 0,.a (.slice none 0 0)] [(0,1,(.tmp 12)),(1,1,(.tmp 13)),(2,1,(.tmp 14)),(3,1,(.tmp 15))]) 16 15,o3 (.alloc 228 1 [.a (.pointer none),.a (.slice none 0 0),.i .i64 0,.a (.slice none 0 0)]) 9 0,o0 (.store 4 (.tmp 9) (.tmp 16)) 63]
def yclm:LO:=[o3 (.call (.func 220) [(.tmp 9),(ci' 0),(.const (.int .i64 (-1)))]) 18 0,mv' 18 17 1,xt' 17 0 19 3,xt' 17 1 20 3,mv' 19 10 7,mv' 20 11 31]
def ycsh:LO:=[mv' 10 21 0,mv' 21 8 1]
def c193:SC:=(.seq (.reg false ycso) (.seq (.reg false ycgl) (.seq (.reg false yclm) (.seq (.reg false ycsh) .ret))))
theorem yctp:Fn 193 c193 [.t 8]:=fn_0 Tryz.func193 (by kernel_rfl) (by kernel_rfl)
def ycec:LO:=[o3 (.mv (.const (.bool false))) 8 0]
def ycnp:LO:=[mv' 0 9 0,mv' 1 10 0,mv' 2 11 0,mv' 0 12 0,o3 (.nilck (.tmp 12)) 13 8,fa' 0 3 13 14 24,fa' 2 1 14 15 56,ld' false 1 15 16 120,mv' 3 17 0,ix' 3 16 17 18 504,fa' 1 1 18 19 1016,ld' false 1 19 20 2040,cl' 193 [9,10,11,20] 21 4095,o3 (.bin .neq (.tmp 21) (ci' 0)) 22 8191,mv' 22 8 16383]
def c172:SC:=(.seq (.reg false ycec) (.seq (.reg false ycnp) .ret))
theorem yczq:Fn 172 c172 [.t 8]:=fn_0 Tryz.func172 (by kernel_rfl) (by kernel_rfl)
def yun:LO:=[o3 (.mv (ci' 0)) 6 0,o3 (.mv (ci' 0)) 7 1]
def yvg:LO:=[mv' 0 18 0,o3 (.nilck (.tmp 18)) 19 1,fa' 3 1 19 20 3,ld' false 1 20 21 7,mv' 1 22 0,ix' 2 21 22 23 31,ld' true 2 23 24 63,o3 (.alloc 240 1 [.i .i64 0,.i .i64 0]) 8 0,o0 (.store 2 (.tmp 8) (.tmp 24)) 255]
def ytz:LO:=[fa' 0 1 8 26 0,ld' false 1 26 27 1,o3 (.bin .leq (.tmp 27) (ci' 17)) 28 3,mv' 28 25 7]
def yuy:LO:=[mv' 0 29 0,ld' true 2 8 30 0,mv' 2 31 0,cl' 236 [29,30,31] 32 7,mv' 1 33 0,o3 (.bin .add (.tmp 33) (ci' 1)) 34 16,mv' 32 6 15,mv' 34 7 127]
def yux:LO:=[fa' 0 1 8 36 0,ld' false 1 36 37 1,o3 (.bin .leq (.tmp 37) (ci' 19)) 38 3,mv' 38 35 7]
def yvn:LO:=[mv' 0 40 0,mv' 1 41 0,o3 (.bin .add (.tmp 41) (ci' 1)) 42 2,mv' 2 43 0,cl' 220 [40,42,43] 44 15,mv' 44 39 31,xt' 39 0 45 63,xt' 39 1 46 63,mv' 45 6 127,mv' 46 7 511]
def ytx:LO:=[fa' 0 1 8 47 0,ld' false 1 47 48 1,mv' 6 49 0,cl' 237 [48,49] 50 7,mv' 7 51 0,mv' 50 6 15,mv' 51 7 63]
def yvb:LO:=[fa' 0 1 8 53 0,ld' false 1 53 54 1,o3 (.bin .leq (.tmp 54) (ci' 29)) 55 3,mv' 55 52 7]
def yuw:LO:=[mv' 0 56 0,fa' 0 1 8 57 0,ld' false 1 57 58 2,mv' 1 59 0,cl' 238 [56,58,59] 60 15,xt' 60 0 61 31,xt' 60 1 62 31,mv' 61 6 127,mv' 62 7 255]
def yvh:LO:=[fa' 0 1 8 64 0,ld' false 1 64 65 1,o3 (.bin .leq (.tmp 65) (ci' 42)) 66 3,mv' 66 63 7]
def yot:LO:=[mv' 0 68 0,mv' 1 69 0,o3 (.bin .add (.tmp 69) (ci' 1)) 70 2,mv' 2 71 0,cl' 220 [68,70,71] 72 15,mv' 72 67 31,xt' 67 0 73 63,xt' 67 1 74 63,mv' 73 9 127,mv' 74 10 511]
def ynp:LO:=[mv' 0 76 0,mv' 10 77 0,mv' 2 78 0,cl' 220 [76,77,78] 79 7,mv' 79 75 15,xt' 75 0 80 31,xt' 75 1 81 31,mv' 80 11 63,mv' 81 12 255]
def ynz:LO:=[fa' 0 1 8 82 0,ld' false 1 82 83 1,mv' 9 84 0,mv' 11 85 0,cl' 239 [83,84,85] 86 15,mv' 12 87 0,mv' 86 6 31,mv' 87 7 127]
def yob:LO:=[mv' 0 89 0,mv' 1 90 0,o3 (.bin .add (.tmp 90) (ci' 1)) 91 2,mv' 2 92 0,cl' 220 [89,91,92] 93 15,mv' 93 88 31,xt' 88 0 94 63,xt' 88 1 95 63,mv' 94 13 127,mv' 95 14 511]
def yov:LO:=[mv' 0 97 0,mv' 14 98 0,mv' 2 99 0,cl' 220 [97,98,99] 100 7,mv' 100 96 15,xt' 96 0 101 31,xt' 96 1 102 31,mv' 101 15 63,mv' 102 16 255]
def yoj:LO:=[mv' 0 104 0,mv' 16 105 0,mv' 2 106 0,cl' 220 [104,105,106] 107 7,mv' 107 103 15,xt' 103 0 108 31,xt' 103 1 109 31,mv' 108 17 63,mv' 109 7 255]
def ynm:LO:=[mv' 13 110 0,o3 (.bin .neq (.tmp 110) (ci' 0)) 111 1]
def yom:LO:=[mv' 15 112 0,mv' 7 113 0,mv' 112 6 1,mv' 113 7 7]
def yny:LO:=[mv' 17 114 0,mv' 7 115 0,mv' 114 6 1,mv' 115 7 7]
def c220:SC:=(.seq (.reg false yun) (.seq (.reg false yvg) (.seq (.block 0 (.seq (.reg false ytz) (.cond (.tmp 25) (.seq (.reg false yuy) .ret) (.seq (.reg false yux) (.cond (.tmp 35) (.seq (.reg false yvn) (.seq (.reg false ytx) .ret)) (.seq (.reg false yvb) (.cond (.tmp 52) (.seq (.reg false yuw) .ret) (.seq (.reg false yvh) (.cond (.tmp 63) (.seq (.reg false yot) (.seq (.reg false ynp) (.seq (.reg false ynz) .ret))) .skip))))))))) (.seq (.reg false yob) (.seq (.reg false yov) (.seq (.reg false yoj) (.seq (.seq (.reg false ynm) (.cond (.tmp 111) (.seq (.reg false yom) .ret) .skip)) (.seq (.reg false yny) .ret))))))))
theorem ytb:Fn 220 c220 [.t 6,.t 7]:=fn_0 Tryz.func220 (by kernel_rfl) (by kernel_rfl)
def ycjo:LO:=[o3 (.box 240 (.tmp 1)) 4 0,o3 (.mv (ci' 0)) 6 0]
def ycfp:LO:=[fa' 0 1 4 7 0,ld' false 1 7 8 1]
def ycrk:LO:=[o3 (.bin .eql (.tmp 8) (ci' 1)) 10 0,mv' 10 9 1]
def ycey:LO:=[fa' 1 1 4 11 0,ld' false 1 11 12 1,mv' 12 6 3]
def ycoy:LO:=[o3 (.bin .eql (.tmp 8) (ci' 2)) 14 0,mv' 14 13 1]
def ycoo:LO:=[o3 (.mv (ci' 1)) 6 0]
def ycpm:LO:=[o3 (.bin .eql (.tmp 8) (ci' 3)) 16 0,mv' 16 15 1]
def ycei:LO:=[o3 (.mv (ci' 0)) 6 0]
def ychg:LO:=[o3 (.bin .eql (.tmp 8) (ci' 4)) 18 0,mv' 18 17 1]
def ycfn:LO:=[o3 (.mv (.const (.int .i64 (-1)))) 6 0]
def ybvi:LO:=[o3 (.bin .eql (.tmp 8) (ci' 5)) 20 0,mv' 20 19 1]
def ybuz:LO:=[mv' 0 21 0,o3 (.nilck (.tmp 21)) 22 1,fa' 1 1 22 23 3,ld' false 1 23 24 7,mv' 0 25 0,o3 (.nilck (.tmp 25)) 26 16,fa' 2 1 26 27 48,ld' false 1 27 28 112,ix' 1 24 28 29 255,ld' false 1 29 30 511,fa' 1 1 4 31 0,ld' false 1 31 32 1024,ix' 1 30 32 33 4095,ld' false 1 33 34 8191,mv' 34 6 16383]
def ybui:LO:=[o3 (.bin .eql (.tmp 8) (ci' 12)) 36 0,mv' 36 35 1]
def ybov:LO:=[mv' 0 37 0,o3 (.nilck (.tmp 37)) 38 1,fa' 1 1 38 39 3,ld' false 1 39 40 7,mv' 0 41 0,o3 (.nilck (.tmp 41)) 42 16,fa' 0 1 42 43 48,ld' false 1 43 44 112,o3 (.nilck (.tmp 44)) 45 240,fa' 3 2 45 46 496,fa' 1 1 46 47 1008,ld' false 1 47 48 2032,mv' 0 49 0,o3 (.nilck (.tmp 49)) 50 4096,fa' 2 1 50 51 12288,ld' false 1 51 52 28672,ix' 1 48 52 53 65520,ld' false 1 53 54 131056,mv' 2 55 0,ix' 2 54 55 56 524272,fa' 0 1 56 57 1048560,ld' false 1 57 58 2097136,ix' 1 40 58 59 4194303,ld' false 1 59 60 8388607,fa' 1 1 4 61 0,ld' false 1 61 62 16777216,ix' 1 60 62 63 67108863,ld' false 1 63 64 134217727,mv' 64 6 268435455]
def ybpt:LO:=[mv' 0 65 0,o3 (.nilck (.tmp 65)) 66 1,fa' 0 1 66 67 3,ld' false 1 67 68 7,fa' 0 1 4 69 0,ld' false 1 69 70 16,mv' 0 71 0,o3 (.nilck (.tmp 71)) 72 64,fa' 2 1 72 73 192,ld' false 1 73 74 448,mv' 2 75 0,cl' 255 [68,70,74,75] 76 2047,mv' 76 6 4095]
def c236:SC:=(.seq (.reg false ycjo) (.seq (.seq (.reg false ycfp) (.block 0 (.seq (.reg false ycrk) (.cond (.tmp 9) (.seq (.reg false ycey) .ret) (.seq (.reg false ycoy) (.cond (.tmp 13) (.seq (.reg false ycoo) .ret) (.seq (.reg false ycpm) (.cond (.tmp 15) (.seq (.reg false ycei) .ret) (.seq (.reg false ychg) (.cond (.tmp 17) (.seq (.reg false ycfn) .ret) (.seq (.reg false ybvi) (.cond (.tmp 19) (.seq (.reg true ybuz) .ret) (.seq (.reg false ybui) (.cond (.tmp 35) (.seq (.reg true ybov) .ret) .skip)))))))))))))) (.seq (.reg true ybpt) .ret)))
theorem ycvc:Fn 236 c236 [.t 6]:=fn_0 Tryz.func236 (by kernel_rfl) (by kernel_rfl)
def ycno:LO:=[o3 (.mv (ci' 0)) 6 0,o3 (.mv (ci' 0)) 7 1]
def ycsn:LO:=[o3 (.alloc 256 24 [.i .i64 0]) 8 0]
def ycpb:LO:=[mv' 0 11 0,o3 (.nilck (.tmp 11)) 12 1,fa' 0 1 12 13 3,ld' false 1 13 14 7,o3 (.nilck (.tmp 14)) 15 15,fa' 3 2 15 16 31,fa' 1 1 16 17 63,ld' false 1 17 18 127,mv' 0 19 0,o3 (.nilck (.tmp 19)) 20 256,fa' 2 1 20 21 768,ld' false 1 21 22 1792,ix' 1 18 22 23 4095,ld' false 1 23 24 8191,ln' 24 25 16383,mv' 25 9 32767]
def ycnd:LO:=[mv' 9 26 0,o3 (.mv (ci' 0)) 27 0]
def ycje:LO:=[bn' .lss 27 26 28 0]
def yced:LO:=[mv' 27 29 0,mv' 29 10 1]
def ycee:LO:=[mv' 10 31 0,mv' 0 32 0,mv' 2 33 0,o3 (.bin .add (.tmp 33) (ci' 1)) 34 4,mv' 10 35 0,cl' 220 [32,34,35] 36 30,mv' 36 30 62,xt' 30 0 37 126,xt' 30 1 38 126,o3 (.idxA 24 1 (.tmp 8) (.tmp 31)) 39 255,o0 (.store 1 (.tmp 39) (.tmp 37)) 767,mv' 38 7 2047]
def ycpx:LO:=[o3 (.bin .add (.tmp 27) (ci' 1)) 40 0,mv' 40 27 1]
def ycps:LO:=[mv' 9 41 0,o3 (.bin .eql (.tmp 41) (ci' 0)) 42 1]
def ycsp:LO:=[mv' 0 43 0,o3 (.nilck (.tmp 43)) 44 1,fa' 3 1 44 45 3,ld' false 1 45 46 7,mv' 2 47 0,cl' 231 [46,47] 48 31,mv' 48 7 63]
def yboi:LO:=[mv' 1 49 0,mv' 9 50 0,o3 (.cutA 24 1 (.tmp 8) none (some (.tmp 50))) 51 2,cl' 257 [49,51] 52 7,mv' 7 53 0,mv' 52 6 15,mv' 53 7 63]
def c238:SC:=(.seq (.reg false ycno) (.seq (.reg false ycsn) (.seq (.reg true ycpb) (.seq (.seq (.reg false ycnd) (.block 0 (.loop (.seq (.reg false ycje) (.seq (.cond (.tmp 28) .skip (.exit 0)) (.seq (.block 1 (.seq (.reg false yced) (.reg false ycee))) (.reg false ycpx))))))) (.seq (.seq (.reg false ycps) (.cond (.tmp 42) (.reg false ycsp) .skip)) (.seq (.reg false yboi) .ret))))))
theorem ycxl:Fn 238 c238 [.t 6,.t 7]:=fn_0 Tryz.func238 (by kernel_rfl) (by kernel_rfl)
end Sh
end
section
def adj(g:Gr)(u v:Nat):Prop:=∃ls,g.ports[u]?=some ls/\∃l∈ls,l.1=(v:Int)
def Walk(g:Gr)(a:Nat):Nat->Nat->Prop
 |0,v=>v=a
 |k+1,v=>∃u,Walk g a k u/\adj g u v
def ywj(g:Gr)(a v:Nat)(x:Int):Prop:=(x = -1/\∀k,¬Walk g a k v)\/∃k:Nat,x=k/\Walk g a k v/\∀j,j<k->¬Walk g a j v
def ytd(g:Gr)(a:Nat)(D:List Int):Prop:=D.length=g.ports.length/\∀v x,D[v]?=some x->ywj g a v x
theorem ywj.unique{g:Gr}{a v:Nat}{x y:Int}(h:ywj g a v x)(h':ywj g a v y):x=y:=by
 rcases h with⟨rfl,h1⟩|⟨k,rfl,h1,h2⟩<;>rcases h' with⟨rfl,h3⟩|⟨j,rfl,h3,h4⟩
 .rfl
 .exact absurd h3 (h1 j)
 .exact absurd h1 (h3 k)
 .rcases zAR k j with h|h|h
  .exact absurd h1 (h4 k h)
  .rw[h]
  .exact absurd h3 (h2 j h)
theorem ytd.unique{g:Gr}{a:Nat}{D D':List Int}(h:ytd g a D)(h':ytd g a D'):D=D':=by
 apply zAW (by rw[h.1,h'.1])
 intro i h1 h2;exact(h.2 i _ (zC h1)).unique (h'.2 i _ (zC h2))
theorem ybg.link{g:Gr}(h:ybg g){v:Nat}{ls:List (Int×Int)}(hv:g.ports[v]?=some ls){l:Int×Int}(hl:l∈ls):0<=l.1/\l.1<g.ports.length/\l.1≠v/\1<=l.2/\l.2<=15:=by
 obtain⟨hlt,e⟩:=List.getElem?_eq_some_iff.1 hv;have:=(h.2.2.2.2.2.1 ⟨v,hlt⟩).1 l (by simp only[Fin.getElem_fin,e];exact hl)
 unfold ykn at this;simp only at this;omega
theorem ybg.adj_lt{g:Gr}(h:ybg g){u v:Nat}(ha:adj g u v):u<g.ports.length/\v<g.ports.length:=by
 obtain⟨ls,h1,l,hl,e⟩:=ha;have:=h.link h1 hl;exact⟨(List.getElem?_eq_some_iff.1 h1).1,by omega⟩
theorem ybg.adj_symm{g:Gr}(h:ybg g){u v:Nat}(ha:adj g u v):adj g v u:=by
 obtain⟨hu,hv⟩:=h.adj_lt ha;obtain⟨ls,h1,l,hl,e⟩:=ha;obtain⟨hlt,e1⟩:=List.getElem?_eq_some_iff.1 h1;have:=h.2.2.2.2.2.2 ⟨u,hlt⟩ l (by simp only[Fin.getElem_fin,e1];exact hl)
 rw[e,zO]at this;simp only[zM,zC hv,Option.getD_some]at this;exact⟨_,zC hv,_,this,rfl⟩
structure BfsInv(g:Gr)(a:Nat)(R:List Int)(Q:List Nat):Prop where
 len:R.length=g.ports.length
 src:R[a]?=some 0
 val:∀(v:Nat) (x:Int),R[v]?=some x->x = -1\/∃k:Nat,x=k/\Walk g a k v/\∀j,j<k->¬Walk g a j v
 qin:∀q∈Q,∃k:Nat,R[q]?=some (k:Int)
 sorted:Q.Pairwise (fun p q=>∀x y,R[p]?=some x->R[q]?=some y->x<=y/\y<=x+1)
 done:∀(v k:Nat),R[v]?=some (k:Int)->v∉Q->∀u,adj g v u->∃j:Nat,R[u]?=some (j:Int)
structure BfsIn(g:Gr)(a v d:Nat)(ls:List (Int×Int))(i:Nat)(R:List Int)(Q:List Nat):Prop where
 len:R.length=g.ports.length
 src:R[a]?=some 0
 val:∀(v:Nat) (x:Int),R[v]?=some x->x = -1\/∃k:Nat,x=k/\Walk g a k v/\∀j,j<k->¬Walk g a j v
 qin:∀q∈Q,∃k:Nat,R[q]?=some (k:Int)
 sorted:Q.Pairwise (fun p q=>∀x y,R[p]?=some x->R[q]?=some y->x<=y/\y<=x+1)
 rv:R[v]?=some (d:Int)
 low:∀q∈Q,∀y,R[q]?=some y->(d:Int)<=y/\y<=d+1
 done:∀(u k:Nat),R[u]?=some (k:Int)->u∉Q->u≠v->∀t,adj g u t->∃j:Nat,R[t]?=some (j:Int)
 part:∀l∈ls.take i,∃j:Nat,R[l.1.toNat]?=some (j:Int)
theorem BfsInv.start{g:Gr}{a:Nat}(ha:a<g.ports.length):BfsInv g a ((zK g.ports.length (-1)).set a 0) [a] where
 len:=by simp
 src:=by simp[ha]
 val := by
  intro v x h;rw[zL]at h;split at h
  .rename_i e
   subst e;simp[ha]at h;subst h;exact .inr ⟨0,rfl,rfl,fun j hj=>absurd hj (by omega)⟩
  .rw[zX]at h;split at h
   .cases h;exact .inl rfl
   .cases h
 qin:=by
  intro q hq;obtain rfl:q=a:=by simpa using hq
  exact⟨0,by simp[ha]⟩
 sorted:=by simp
 done:=by
  intro v k h hv u _;rw[zL]at h;split at h
  .rename_i e
   exact absurd (by simp[e]) hv
  .rw[zX]at h;split at h
   .cases h
   .cases h
theorem BfsInv.pop{g:Gr}{a:Nat}{R:List Int}{v:Nat}{Q:List Nat}(h:BfsInv g a R (v::Q)){d:Nat}(hd:R[v]?=some (d:Int))(ls:List (Int×Int)):BfsIn g a v d ls 0 R Q where
 len:=h.len
 src:=h.src
 val:=h.val
 qin:=fun q hq=>h.qin q (zAC _ hq)
 sorted:=(List.pairwise_cons.1 h.sorted).2
 rv:=hd
 low:=fun q hq y hy=>(List.pairwise_cons.1 h.sorted).1 q hq _ y hd hy
 done:=fun u k hu hq hv t ht=>h.done u k hu (by simp[hq,hv]) t ht
 part:=by simp
theorem BfsIn.finish{g:Gr}{a v d:Nat}{ls:List (Int×Int)}{R:List Int}{Q:List Nat}(h:BfsIn g a v d ls ls.length R Q)(hls:g.ports[v]?=some ls):BfsInv g a R Q where
 len:=h.len
 src:=h.src
 val:=h.val
 qin:=h.qin
 sorted:=h.sorted
 done:=by
  intro u k hu hq t ht
  by_cases e:u=v
  .subst e;obtain⟨ls',h1,l,hl,e2⟩:=ht;rw[hls]at h1;cases h1
   have:=h.part l (by rw[zAA];exact hl)
   rwa [e2,zO]at this
  .exact h.done u k hu hq e t ht
theorem BfsIn.skip{g:Gr}{a v d:Nat}{ls:List (Int×Int)}{i:Nat}{R:List Int}{Q:List Nat}(h:BfsIn g a v d ls i R Q)(hi:i<ls.length){j:Nat}(hj:R[ls[i].1.toNat]?=some (j:Int)):BfsIn g a v d ls (i+1) R Q :=
 ⟨h.len,h.src,h.val,h.qin,h.sorted,h.rv,h.low,h.done,by
   intro l hl;rw[take_snoc ls i hi]at hl;rcases List.mem_append.1 hl with hl|hl
   .exact h.part l hl
   .obtain rfl:l=ls[i]:=by simpa using hl
    exact⟨j,hj⟩⟩
theorem BfsIn.found{g:Gr}{a v d:Nat}{ls:List (Int×Int)}{i:Nat}{R:List Int}{Q:List Nat}(h:BfsIn g a v d ls i R Q) :
 ∀k,k<=d->∀t,Walk g a k t->∃j:Nat,R[t]?=some (j:Int):=by
 intro k
 induction k with
 |zero=>intro _ t ht;obtain rfl:t=a:=ht;exact⟨0,h.src⟩
 | succ k ih =>
   intro hk t ⟨p,hp,hpt⟩;obtain⟨j,hj⟩:=ih (by omega) p hp
   have hjk:j<=k:=by
    rcases h.val p _ hj with e|⟨k',e,_,hmin⟩
    .omega
    .have:j=k':=by omega
     subst this;rcases zBJ k j with hlt|hge
     .exact absurd hp (hmin k hlt)
     .exact hge
   refine h.done p j hj ?_ ?_ t hpt
   .intro hq;have:=(h.low p hq _ hj).1;omega
   .rintro rfl;have e1:=h.rv;rw[hj]at e1;have e2:=Option.some.inj e1;omega
theorem BfsIn.discover{g:Gr}{a v d:Nat}{ls:List (Int×Int)}{i:Nat}{R:List Int}{Q:List Nat}(h:BfsIn g a v d ls i R Q)(hls:g.ports[v]?=some ls)(hi:i<ls.length){u:Nat}(hu:ls[i].1=(u:Int))(hR:R[u]?=some (-1)) :
 BfsIn g a v d ls (i+1) (R.set u ((d:Int)+1)) (Q++[u]):=by
 have hul:u<R.length:=(List.getElem?_eq_some_iff.1 hR).1
 have hne:∀t (k:Nat),R[t]?=some (k:Int)->t≠u:=by
  rintro t k ht rfl;rw[hR]at ht;have:=Option.some.inj ht;omega
 have hset:∀t,t≠u->(R.set u ((d:Int)+1))[t]?=R[t]?:=fun t ht=>by rw[zL,if_neg (by omega)]
 have hsu:(R.set u ((d:Int)+1))[u]?=some ((d:Int)+1):=by rw[zL,if_pos rfl,if_pos hul]
 have keep:∀t:Nat,(∃j:Nat,R[t]?=some (j:Int))->∃j:Nat,(R.set u ((d:Int)+1))[t]?=some (j:Int):=by
  rintro t ⟨j,hj⟩;exact⟨j,by rw[hset t (hne t j hj)];exact hj⟩
 have hadj:adj g v u:=⟨ls,hls,ls[i],zS hi,hu⟩
 have hnq:u∉Q:=fun hq=>by
  obtain⟨k,hk⟩:=h.qin u hq;exact hne u k hk rfl
 refine⟨by simp[h.len],?_,?_,?_,?_,?_,?_,?_,?_⟩
 .rw[hset a (hne a 0 h.src)];exact h.src
 .intro t x hx
  by_cases e:t=u
  .subst e;rw[hsu]at hx;cases hx
   refine .inr ⟨d+1,by omega,?_,?_⟩
   .rcases h.val v _ h.rv with e|⟨k,e,hk,_⟩
    .omega
    .have:d=k:=by omega
     subst this;exact⟨v,hk,hadj⟩
   .intro j hj hw;obtain⟨k,hk⟩:=h.found j (by omega) t hw
    exact hne t k hk rfl
  .rw[hset t e]at hx;exact h.val t x hx
 .intro q hq;rcases List.mem_append.1 hq with hq|hq
  .exact keep q (h.qin q hq)
  .obtain rfl:q=u:=by simpa using hq
   exact⟨d+1,by rw[hsu];rfl⟩
 .rw[List.pairwise_append];refine⟨?_,by simp,?_⟩
  .refine(List.Pairwise.and_mem.1 h.sorted).imp ?_;rintro p q ⟨hp,hq,hpq⟩ x y hx hy;rw[hset p (fun e=>hnq (e▸hp))]at hx;rw[hset q (fun e=>hnq (e▸hq))]at hy;exact hpq x y hx hy
  .intro p hp q hq x y hx hy;obtain rfl:q=u:=by simpa using hq
   rw[hset p (fun e=>hnq (e▸hp))]at hx;rw[hsu]at hy;cases hy
   have:=h.low p hp x hx;omega
 .rw[hset v (hne v d h.rv)];exact h.rv
 .intro q hq y hy;rcases List.mem_append.1 hq with hq|hq
  .rw[hset q (fun e=>hnq (e▸hq))]at hy;exact h.low q hq y hy
  .obtain rfl:q=u:=by simpa using hq
   rw[hsu]at hy;cases hy
   omega
 .intro t k ht hq hv s hs;have htu:t≠u:=fun e=>hq (by simp[e])
  rw[hset t htu]at ht;exact keep s (h.done t k ht (fun hh=>hq (zAL _ hh)) hv s hs)
 .intro l hl;rw[take_snoc ls i hi]at hl;rcases List.mem_append.1 hl with hl|hl
  .exact keep _ (h.part l hl)
  .obtain rfl:l=ls[i]:=by simpa using hl
   rw[hu,zO];exact⟨d+1,by rw[hsu];rfl⟩
theorem BfsInv.isDist{g:Gr}{a:Nat}{R:List Int}(h:BfsInv g a R []):ytd g a R:=by
 have found:∀k t,Walk g a k t->∃j:Nat,R[t]?=some (j:Int):=by
  intro k
  induction k with
  |zero=>intro t ht;obtain rfl:t=a:=ht;exact⟨0,h.src⟩
  | succ k ih =>
    intro t ⟨p,hp,hpt⟩;obtain⟨j,hj⟩:=ih p hp;exact h.done p j hj (by simp) t hpt
 refine⟨h.len,fun v x hx=>?_⟩;rcases h.val v x hx with rfl|h1
 .refine .inl ⟨rfl,fun k hk=>?_⟩;obtain⟨j,hj⟩:=found k v hk;rw[hx]at hj;have:=Option.some.inj hj;omega
 .exact .inr h1
def yiu(R:List Int):Nat:=R.countP (fun x=>decide (x<0))
theorem ybff{R:List Int}{u:Nat}{x:Int}(hR:R[u]?=some (-1))(hx:0<=x):yiu (R.set u x)+1=yiu R:=by
 obtain⟨hlt,e⟩:=List.getElem?_eq_some_iff.1 hR;have h1:R=R.take u++R[u]::R.drop (u+1):=by rw[List.getElem_cons_drop,List.take_append_drop]
 have h2:R.set u x=R.take u++x::R.drop (u+1):=by rw[List.set_eq_take_append_cons_drop,if_pos hlt]
 have hx':decide (x<0)=false:=by simp;omega
 unfold yiu;rw[h2]
 conv=>rhs;rw[h1]
 rw[zAO,zAO,zAX,zAX,e,hx'];simp;omega
end
section
def ycae(R:List Int)(x:Int)(ls:List (Int×Int)):Bool:=ls.any (fun l=>decide (R[l.1.toNat]?=some x))
def ybzt(g:Gr)(d:Int)(R:List Int)(v:Nat):List Int :=
 if decide (R.getD v 0<0)&&ycae R (d-1) (g.ports.getD v [])then R.set v d else R
def stepD(g:Gr)(R:List Int)(d:Nat):List Int:=(zQ g.ports.length).foldl (ybzt g d) R
def start(g:Gr)(a:Nat):List Int:=(zK g.ports.length (-1)).set a 0
def yci(g:Gr)(a:Nat):List Int:=(zQ (g.ports.length-1)).foldl (fun R d=>stepD g R (d+1)) (start g a)
def Upto(g:Gr)(a d v:Nat)(x:Int):Prop:=(x = -1/\∀k,k<=d->¬Walk g a k v)\/∃k:Nat,k<=d/\x=k/\Walk g a k v/\∀j,j<k->¬Walk g a j v
theorem Upto.eq{g:Gr}{a d v:Nat}{x:Int}(h:Upto g a d v x){k:Nat}(hk:k<=d):x=k↔Walk g a k v/\∀j,j<k->¬Walk g a j v:=by
 rcases h with⟨rfl,h1⟩|⟨i,hi,rfl,h1,h2⟩
 .exact⟨fun e=>by omega,fun e=>absurd e.1 (h1 k hk)⟩
 .constructor
  .intro e;obtain rfl:i=k:=by omega
   exact⟨h1,h2⟩
  .rintro⟨h3,h4⟩;rcases zAR i k with h|h|h
   .exact absurd h1 (h4 i h)
   .omega
   .exact absurd h3 (h2 k h)
theorem Upto.more{g:Gr}{a d v:Nat}{x:Int}(h:Upto g a d v x)(hx:0<=x):Upto g a (d+1) v x:=by
 rcases h with⟨rfl,h1⟩|⟨i,hi,rfl,h1,h2⟩
 .omega
 .exact .inr ⟨i,by omega,rfl,h1,h2⟩
structure LayerInv(g:Gr)(a d v:Nat)(R:List Int):Prop where
 len:R.length=g.ports.length
 new:∀(u:Nat) (x:Int),R[u]?=some x->u<v->Upto g a (d+1) u x
 old:∀(u:Nat) (x:Int),R[u]?=some x->v<=u->Upto g a d u x
theorem LayerInv.at_{g:Gr}{a d v:Nat}{R:List Int}(h:LayerInv g a d v R){u:Nat}(hu:u<g.ports.length):R[u]?=some (d:Int)↔Walk g a d u/\∀j,j<d->¬Walk g a j u:=by
 have hl:=h.len;have e:R[u]?=some R[u]:=zC (by omega)
 have hx:R[u]=(d:Int)↔Walk g a d u/\∀j,j<d->¬Walk g a j u:=by
  by_cases hv:u<v
  .exact(h.new u _ e hv).eq (by omega)
  .exact(h.old u _ e (by omega)).eq (by omega)
 rw[e]
 simpa using hx
theorem LayerInv.step{g:Gr}(hg:ybg g){a d v:Nat}{R:List Int}(h:LayerInv g a d v R)(hv:v<g.ports.length):LayerInv g a d (v+1) (ybzt g ((d:Int)+1) R v):=by
 have hlen:=h.len;have ev:R[v]?=some R[v]:=zC (by omega)
 have eg:R.getD v 0=R[v]:=by simp[zM,ev]
 have ep:g.ports.getD v []=g.ports[v]:=by simp[zM,zC hv]
 have hhas:ycae R ((d:Int)+1-1) g.ports[v]=true↔∃u,adj g u v/\Walk g a d u/\∀j,j<d->¬Walk g a j u:=by
  unfold ycae;rw[List.any_eq_true];constructor
  .rintro⟨l,hl,h1⟩;have hlk:=hg.link (zC hv) hl;have h1:=of_decide_eq_true h1;rw[show(d:Int)+1-1=d by omega]at h1
   refine⟨l.1.toNat,hg.adj_symm ⟨_,zC hv,l,hl,by omega⟩,?_⟩
   exact(h.at_ (by omega)).1 h1
  .rintro⟨u,hu,hw⟩;obtain⟨hu1,_⟩:=hg.adj_lt hu;obtain⟨ls,h1,l,hl,e⟩:=hg.adj_symm hu;rw[zC hv]at h1;cases h1
   refine⟨l,hl,decide_eq_true ?_⟩;rw[e,zO,show(d:Int)+1-1=d by omega]
   exact(h.at_ hu1).2 hw
 have hov:=h.old v _ ev (zG _);unfold ybzt;rw[eg,ep]
 by_cases c1:R[v]<0
 .have hx:R[v] = -1/\∀k,k<=d->¬Walk g a k v:=by
   rcases hov with h1|⟨k,_,e,_⟩
   .exact h1
   .omega
  by_cases c2:ycae R ((d:Int)+1-1) g.ports[v]=true
  .rw[if_pos (by rw[zJ];exact⟨decide_eq_true c1,c2⟩)]
   obtain⟨p,hp,hw,_⟩:=hhas.1 c2;have hset:∀t,t≠v->(R.set v ((d:Int)+1))[t]?=R[t]?:=fun t ht=>by rw[zL,if_neg (by omega)]
   refine⟨by simp[hlen],fun u x hu huv=>?_,fun u x hu huv=>?_⟩
   .by_cases e:u=v
    .subst e;rw[zL,if_pos rfl,if_pos (by omega)]at hu
     cases hu
     exact .inr ⟨d+1,zG _,by omega,⟨p,hw,hp⟩,fun j hj=>hx.2 j (by omega)⟩
    .rw[hset u e]at hu;exact h.new u x hu (by omega)
   .rw[hset u (by omega)]at hu
    exact h.old u x hu (by omega)
  .rw[if_neg (fun e=>c2 (zJ _ _▸e).2)];refine⟨hlen,fun u x hu huv=>?_,fun u x hu huv=>h.old u x hu (by omega)⟩
   by_cases e:u=v
   .subst e;rw[ev]at hu;cases hu
    refine .inl ⟨hx.1,fun k hk hw=>?_⟩;rcases zBJ d k with hlt|hge
    .obtain rfl:k=d+1:=by omega
     obtain⟨p,hp,hpv⟩:=hw;refine c2 (hhas.2 ⟨p,hpv,hp,fun j hj hw'=>hx.2 (j+1) (by omega) ⟨p,hw',hpv⟩⟩)
    .exact hx.2 k hge hw
   .exact h.new u x hu (by omega)
 .rw[if_neg (by simp[c1])]
  refine⟨hlen,fun u x hu huv=>?_,fun u x hu huv=>h.old u x hu (by omega)⟩
  by_cases e:u=v
  .subst e;exact(h.old u x hu (zG _)).more (by rw[ev]at hu;cases hu;omega)
  .exact h.new u x hu (by omega)
theorem yuj{g:Gr}(hg:ybg g){a d:Nat}{R:List Int}(h:LayerInv g a d 0 R):∀v,v<=g.ports.length->LayerInv g a d v ((zQ v).foldl (ybzt g ((d:Int)+1)) R)
 |0,_=>h
 | v+1,hv=>by
   rw[zBB,zT];exact(yuj hg h v (by omega)).step hg (by omega)
def yww(g:Gr)(a d:Nat)(R:List Int):Prop:=R.length=g.ports.length/\∀(u:Nat) (x:Int),R[u]?=some x->Upto g a d u x
theorem yblb{g:Gr}{a:Nat}(ha:a<g.ports.length):yww g a 0 (start g a):=by
 refine⟨by simp[start],fun u x hu=>?_⟩
 unfold start at hu;rw[zL]at hu;split at hu
 .rename_i e
  subst e;simp[ha]at hu;subst hu;exact .inr ⟨0,zG _,rfl,rfl,fun j hj=>absurd hj (by omega)⟩
 .rename_i e
  rw[zX]at hu;split at hu
  .cases hu
   refine .inl ⟨rfl,fun k hk hw=>?_⟩;obtain rfl:k=0:=by omega
   exact e hw.symm
  .cases hu
theorem ybkq{g:Gr}(hg:ybg g){a d:Nat}{R:List Int}(h:yww g a d R):yww g a (d+1) (stepD g R (d+1)):=by
 have h0:LayerInv g a d 0 R:=⟨h.1,fun _ _ _ hu=>absurd hu (by omega),fun u x hu _=>h.2 u x hu⟩
 have h1:=yuj hg h0 g.ports.length (zG _);unfold stepD;rw[show((d+1:Nat):Int)=(d:Int)+1 by omega]
 exact⟨h1.len,fun u x hu=>h1.new u x hu (by rw[<-h1.len];exact(List.getElem?_eq_some_iff.1 hu).1)⟩
theorem ysc{g:Gr}(hg:ybg g){a:Nat}(ha:a<g.ports.length):∀d,yww g a d ((zQ d).foldl (fun R d=>stepD g R (d+1)) (start g a))
 |0=>yblb ha
 |d+1=>by rw[zBB,zT];exact ybkq hg (ysc hg ha d)
theorem chain{g:Gr}{a:Nat}:∀k v,Walk g a k v->(∀j,j<k->¬Walk g a j v)->∃f:Nat->Nat,∀j,j<=k->Walk g a j (f j)/\∀i,i<j->¬Walk g a i (f j)
 | 0,v,h,_=>⟨fun _=>v,fun j hj=>by obtain rfl:j=0:=by omega
                                   exact⟨h,fun i hi=>absurd hi (by omega)⟩⟩
 | k + 1,v,h,hm=>by
   obtain⟨p,hp,hpv⟩:=h;obtain⟨f,hf⟩:=chain k p hp (fun j hj hw=>hm (j+1) (by omega) ⟨p,hw,hpv⟩)
   refine⟨fun j=>if j<=k then f j else v,fun j hj=>?_⟩
   by_cases hjk:j<=k
   .simp only[if_pos hjk];exact hf j hjk
   .obtain rfl:j=k+1:=by omega
    simp only[if_neg hjk];exact⟨⟨p,hp,hpv⟩,hm⟩
theorem walk_lt{g:Gr}(hg:ybg g){a:Nat}(ha:a<g.ports.length):∀k v,Walk g a k v->v<g.ports.length
 |0,v,h=>by obtain rfl:v=a:=h;exact ha
 |k+1,v,h=>by obtain⟨u,_,hu⟩:=h;exact(hg.adj_lt hu).2
theorem least_walk{g:Gr}{a v:Nat}:∀k,Walk g a k v->∃j,j<=k/\Walk g a j v/\∀i,i<j->¬Walk g a i v:=by
 intro k
 induction k using Nat.strongRecOn with
 | _ k ih =>
   intro hw
   by_cases h:∃j,j<k/\Walk g a j v
   .obtain⟨j,hj,hwj⟩:=h;obtain⟨i,hi,r⟩:=ih j hj hwj;exact⟨i,by omega,r⟩
   .exact⟨k,zG _,hw,fun i hi hwi=>h ⟨i,hi,hwi⟩⟩
theorem ywn{g:Gr}(hg:ybg g){a v k:Nat}(ha:a<g.ports.length)(h:Walk g a k v)(hm:∀j,j<k->¬Walk g a j v):k<g.ports.length:=by
 obtain⟨f,hf⟩:=chain k v h hm;have hinj:∀i j,i<j->j<=k->f i≠f j:=fun i j hij hj e=>(hf j hj).2 i hij (by rw[<-e];exact(hf i (by omega)).1)
 have h1:((zQ (k+1)).map f).Nodup:=by
  rw[List.Nodup,zAS];refine(List.Pairwise.and_mem.1 List.pairwise_lt_range).imp ?_;rintro i j ⟨_,hj,hij⟩;exact hinj i j hij (by simp at hj;omega)
 have h2:(zQ (k+1)).map f ⊆ zQ g.ports.length:=by
  intro x hx;obtain⟨j,hj,rfl⟩:=List.mem_map.1 hx;simp only[List.mem_range]at hj ⊢;exact walk_lt hg ha j _ (hf j (by omega)).1
 have:=List.Nodup.length_le_of_subset h1 h2;simp at this;omega
theorem ygv{g:Gr}(hg:ybg g){a:Nat}(ha:a<g.ports.length):ytd g a (yci g a):=by
 obtain⟨h1,h2⟩:=ysc hg ha (g.ports.length-1);refine⟨h1,fun v x hx=>?_⟩;rcases h2 v x hx with⟨rfl,h3⟩|⟨k,_,r⟩
 .refine .inl ⟨rfl,fun k hk=>?_⟩;obtain⟨j,_,hj,hm⟩:=least_walk k hk;have:=ywn hg ha hj hm;exact h3 j (by omega) hj
 .exact .inr ⟨k,r⟩
theorem ytd.bound{g:Gr}(hg:ybg g){a:Nat}(ha:a<g.ports.length){D:List Int}(h:ytd g a D):∀x∈D,-1<=x/\x<=24:=by
 intro x hx;obtain⟨v,hv,rfl⟩:=List.mem_iff_getElem.1 hx;rcases h.2 v _ (zC hv)with⟨e,_⟩|⟨k,e,h1,h2⟩
 .omega
 .have:=ywn hg ha h1 h2;have:=hg.2.1;omega
end
section
def ygq(g:Gr):Bool:=ygb g&&(yci g 0).all (fun x=>decide (0<=x))
theorem yyc(D:List Int):∀m:Int,m<=D.foldl max m:=by
 induction D with
 |nil=>intro m;exact Int.le_refl _
 |cons x D ih=>intro m;exact Int.le_trans (Int.le_max_left m x) (ih _)
theorem yqd{g:Gr}(hg:ybg g){a:Nat}(ha:a<g.ports.length):(yci g a).length=g.ports.length:=(ygv hg ha).1
theorem Walk.trans{g:Gr}{a b:Nat}:∀{j:Nat}{c:Nat}{k:Nat},Walk g a k b->Walk g b j c->Walk g a (k+j) c
 |0,c,k,h1,h2=>by obtain rfl:c=b:=h2;exact h1
 | j+1,c,k,h1,h2=>by
   obtain⟨u,hu,huc⟩:=h2;exact⟨u,Walk.trans h1 hu,huc⟩
theorem Walk.one{g:Gr}{a b:Nat}(h:adj g a b):Walk g a 1 b:=⟨a,rfl,h⟩
theorem Walk.symm{g:Gr}(hg:ybg g){a:Nat}:∀{k:Nat}{b:Nat},Walk g a k b->Walk g b k a
 |0,b,h=>by obtain rfl:b=a:=h;exact rfl
 | k+1,b,h=>by
   obtain⟨u,hu,hub⟩:=h;have:=Walk.trans (Walk.one (hg.adj_symm hub)) (Walk.symm hg hu)
   rwa [Nat.add_comm]at this
theorem ybcj{g:Gr}(hg:ybg g){a:Nat}(ha:a<g.ports.length):(yci g a).all (fun x=>decide (0<=x))=true↔∀v,v<g.ports.length->∃k,Walk g a k v:=by
 have hd:=ygv hg ha;rw[zAB];constructor
 .intro h v hv;have hv':v<(yci g a).length:=by rw[hd.1];exact hv
  rcases hd.2 v _ (zC hv')with⟨e,_⟩|⟨k,_,hk,_⟩
  .have:=of_decide_eq_true (h _ (zS hv'));omega
  .exact⟨k,hk⟩
 .intro h x hx;obtain⟨v,hv,rfl⟩:=List.mem_iff_getElem.1 hx;obtain⟨k,hk⟩:=h v (by rw[<-hd.1];exact hv)
  rcases hd.2 v _ (zC hv)with⟨e,h1⟩|⟨k,e,_⟩
  .exact absurd hk (h1 k)
  .rw[e];simp
theorem ybyy{g:Gr}(hg:ybg g){a b:Nat}(ha:a<g.ports.length)(hb:b<g.ports.length)(h:(yci g a).all (fun x=>decide (0<=x))=true):(yci g b).all (fun x=>decide (0<=x))=true:=by
 rw[ybcj hg ha]at h;rw[ybcj hg hb];intro v hv;obtain⟨k,hk⟩:=h v hv;obtain⟨j,hj⟩:=h b hb;exact⟨_,Walk.trans (Walk.symm hg hj) hk⟩
end
section
abbrev Conf:=List (List Int)
abbrev Bounds:=List (Int×Int)
def ysv(bs:Bounds)(s:List Int):Bool:=decide (s.length=bs.length)&&(bs.zip s).all (fun p=>decide (p.1.1<=p.2)&&decide (p.2<=p.1.2))
def yow(n:Nat)(bs:Nat->Bounds)(c:Conf):Bool:=decide (c.length=n)&&c.zipIdx.all (fun p=>ysv (bs p.2) p.1)
def yfw(bs:Bounds)(s:List Int):Prop:=s.length=bs.length/\∀(i:Nat) b x,bs[i]?=some b->s[i]?=some x->b.1<=x/\x<=b.2
def ybft(n:Nat)(bs:Nat->Bounds)(c:Conf):Prop:=c.length=n/\∀(v:Nat) s,c[v]?=some s->yfw (bs v) s
theorem yew(bs:Bounds)(s:List Int):ysv bs s=true↔yfw bs s:=by
 unfold ysv yfw;rw[zJ,decide_eq_true_iff,zAB];refine and_congr_right fun _=>⟨fun h i b x hb hx=>?_,fun h p hp=>?_⟩
 .have:=h (b,x) (zH (i:=i) (by simp[zAH,hb,hx]))
  simpa using this
 .obtain⟨i,hi⟩:=List.mem_iff_getElem?.1 hp;obtain⟨b,x⟩:=p;rw[zAH]at hi
  simpa using h i b x hi.1 hi.2
theorem yel(n:Nat)(bs:Nat->Bounds)(c:Conf):yow n bs c=true↔ybft n bs c:=by
 unfold yow ybft;rw[zJ,decide_eq_true_iff,zAB];refine and_congr_right fun _=>⟨fun h v s hs=>?_,fun h p hp=>?_⟩
 .refine(yew _ _).1 (h (s,v) ?_);rw[zAD];exact hs
 .rw[zAD]at hp;exact(yew _ _).2 (h p.2 p.1 hp)
theorem yie{n:Nat}{bs:Nat->Bounds}{c:Conf}(h:¬ybft n bs c):yow n bs c=false:=by
 cases hb:yow n bs c with
 |false=>rfl
 |true=>exact absurd ((yel n bs c).1 hb) h
theorem yup{n:Nat}{bs:Nat->Bounds}{c:Conf}(h:ybft n bs c):yow n bs c=true:=(yel n bs c).2 h
def ycsz(g:Gr)(v:Nat):Nat:=(g.ports.getD v []).length
def ydf(g:Gr)(G:List Int)(v:Nat):Bounds:=G.map (fun h=>if h = -1 then(-1,(ycsz g v:Int)-1)else(0,h))
def ybeb(g:Gr):Int:=g.ids.foldl max 0
end
section
open Go.RowKit
end
section
open Go.RowKit
end
section
open Go.RowKit
end
section
end
section
def yzs(ids:List Int)(k:Nat):Int:=(ids.take k).tail.foldl max (ids.headD 0)
abbrev maxI(ids:List Int):Int:=yzs ids ids.length
theorem ybwm{ids:List Int}{k:Nat}(h1:1<=k)(hk:k<ids.length):(ids.take (k+1)).tail=(ids.take k).tail++[ids[k]]:=by
 rw[zI hk,List.tail_append_of_ne_nil];intro h;have:=congrArg zBL h;rw[zAY,zBA]at this;omega
theorem ybqg(ids:List Int):yzs ids 1=ids.headD 0:=by cases ids<;>simp[yzs]
theorem ybhz{ids:List Int}{k:Nat}(h1:1<=k)(hk:k<ids.length):yzs ids (k+1)=max (yzs ids k) ids[k]:=by
 unfold yzs;rw[ybwm h1 hk,zT];rfl
theorem ybys{ids:List Int}(h0:0<ids.length)(h:∀x∈ids,0<=x):maxI ids=ids.foldl max 0:=by
 cases ids with
 |nil=>simp at h0
 | cons x l =>
   have hx:max 0 x=x:=Int.max_eq_right (h x (by simp))
   simp[maxI,yzs,hx]
def idxP(ids:List Int)(x:Int):Int:=match ids.findIdx? (fun y=>x==y)with
 |some i=>i
 |none=>-1
theorem ycbt{ids:List Int}{x:Int}{k:Nat}(hk:k<ids.length)(h:x=ids[k])(hn:(ids.take k).findIdx? (fun y=>x==y)=none):idxP ids x=k:=by
 unfold idxP
 have:ids.findIdx? (fun y=>x==y)=some k:=by
  rw[zZ];refine⟨hk,by simp[h],fun j hj=>?_⟩
  rw[zV]at hn;simp[hn ids[j] (List.mem_take_iff_getElem.2 ⟨j,by omega,rfl⟩)]
 rw[this]
theorem ybuy{ids:List Int}{x:Int}(hn:(ids.take ids.length).findIdx? (fun y=>x==y)=none):idxP ids x = -1:=by
 rw[zAA]at hn;unfold idxP;rw[hn]
theorem ycbw{ids:List Int}{x:Int}{k:Nat}(hk:k<ids.length)(h:x≠ids[k])(hn:(ids.take k).findIdx? (fun y=>x==y)=none):(ids.take (k+1)).findIdx? (fun y=>x==y)=none:=by
 rw[zI hk,zAM,hn];simp[h]
end
section
namespace Sh
open Go Ev
def yw(l:List Int):SV:=.sl 1 l.length (fun k=>[.i .i64 (l.getD k 0)])
def ybd(ls:List (Int×Int)):SV:=.sl 2 ls.length (fun j=>[.i .i64 (ls.getD j (0,0)).1,.i .i64 (ls.getD j (0,0)).2])
def ybe(ps:List (List (Int×Int))):SV:=.sl 1 ps.length (fun v=>[ybd (ps.getD v [])])
def ybm(c:List (List Int)):SV:=.sl 1 c.length (fun v=>[yw (c.getD v [])])
def grV(g:Gr):SV:=.ag [yw g.ids,ybe g.ports]
theorem ik{n:Int}(h1:-1000000000000<=n)(h2:n<=1000000000000):inK .i64 n:=by
 unfold inK;simp[IntKind.min,IntKind.max,IntKind.bits,IntKind.signed];omega
theorem ikw{n:Int}(h1:-4611686018427387904<=n)(h2:n<=4611686018427387904):inK .i64 n:=by
 unfold inK;simp[IntKind.min,IntKind.max,IntKind.bits,IntKind.signed];omega
theorem getD_at{α:Type}{l:List α}{k:Nat}{d:α}(h:k<l.length):l.getD k d=l[k]:=by simp[zM,h]
theorem ybxt{l:List Int}{i k:Nat}{x:Int}(h:i<l.length):(l.set i x).getD k 0=if k=i then x else l.getD k 0:=by
 simp only[zM,zL]
 by_cases q:i=k
 .subst q;simp[h]
 .rw[if_neg q,if_neg (Ne.symm q)]
theorem ybwa(l:List Int)(x:Int)(hl:l.length<=100000):Returns zD 165 [yw l,.i .i64 x] (.i .i64 (idxP l x)):=by
 refine Returns.of (ycwn _ _ ?_);simp only[c165,ychs,ychx,yw,go_sem,zF,↓reduceIte,reduceCtorEq];refine ybn (σ:=Nat) (fun k=>⟨[(8,.i .i64 k),(0,yw l),(1,.i .i64 x),(7,.i .i64 l.length)],[]⟩) (fun k=>k<=l.length/\(l.take k).findIdx? (fun y=>x==y)=none) (fun k=>l.length-k) 0 ⟨zAE _,by simp⟩ ?_ ?_
 .refine yh [] [] [] ?_;simp only[yw,allQ,live,yc,zU,go_sem,zB,↓reduceIte,reduceCtorEq]
 .intro k ⟨hk,hno⟩;simp only[ycrx,ycpa,ycdq,ycnt,ycmo,ycji,yw,yba,go_sem,zB,zF,↓reduceIte,reduceCtorEq];refine⟨fun h=>⟨by omega,fun he=>?_,fun he=>⟨ik (by omega) (by omega),?_⟩⟩,fun h=>?_⟩
  .have hlt:k<l.length:=by omega
   rw[ycbt hlt (by rw[he,getD_at hlt]) hno]
  .have hlt:k<l.length:=by omega
   refine yu (k+1) ⟨by omega,ycbw hlt (by rw[<-getD_at (d:=0) hlt];exact he) hno⟩ (by omega) ?_
   refine yh [] [] [] ?_;simp only[allQ,live,yc,yba,go_sem,zB,↓reduceIte,reduceCtorEq];simp
  .obtain rfl:k=l.length:=by omega
   rw[ybuy hno]
theorem ycwy(l:List Int)(h0:0<l.length)(hl:l.length<=100000):Returns zD 160 [yw l] (.i .i64 (maxI l)):=by
 refine Returns.of (ycwz _ _ ?_);simp only[c160,yclg,ycox,ycmr,ycdx,ycre,yw,go_sem,Int.reduceToNat,zB,zF,↓reduceIte,reduceCtorEq];refine⟨fun h=>by omega,fun _=>⟨by omega,?_⟩⟩
 refine ybn (σ:=Nat) (fun k=>⟨[(4,.i .i64 k),(3,.i .i64 (yzs l k)),(0,yw l)],[]⟩) (fun k=>1<=k/\k<=l.length) (fun k=>l.length-k) 1 ⟨by omega,by omega⟩ ?_ ?_
 .refine yh [] [] [] ?_;simp only[yw,ybqg,allQ,live,yc,yba,go_sem,zB,↓reduceIte,reduceCtorEq];cases l<;>simp at h0 ⊢
 .intro k ⟨hk1,hk⟩;simp only[ycgc,ycpy,ycea,ycie,yw,yba,go_sem,zB,zF,↓reduceIte,reduceCtorEq];refine⟨fun h=>⟨by omega,ik (by omega) (by omega),?_⟩,fun h=>?_⟩
  .refine yu (k+1) ⟨by omega,by omega⟩ (by omega) ?_
   refine yh [] [] [] ?_;have hlt:k<l.length:=by omega
   simp only[ybhz hk1 hlt,getD_at hlt,allQ,live,yc,yba,go_sem,zB,↓reduceIte,reduceCtorEq];simp
  .obtain rfl:k=l.length:=by omega
   rfl
end Sh
end
section
namespace Sh
open Go Ev Go.RowKit
def GrI(g:Gr):Prop:=(∀x∈g.ids,I64 x)/\∀ls∈g.ports,∀l∈ls,I64 l.1/\I64 l.2
def yccl(c:List (List Int)):Prop:=∀s∈c,∀x∈s,I64 x
section
variable {G:AM}{m:Mem}{φ:Phi}{M:AM}{w:World}{u u':Value}
theorem ycdk {α:Type}{z n:Nat}{gg:Nat->List SV}{xs:List α}{E:Elem α}(hG:Le G m.b.get) (hr:RV G om0 (.sl z n gg) u) (hv:VR φ u u') (hR:Rel φ M w) (hs:Sub m M) (hn:xs.length=n)
 (hE:∀k x b o L L',xs[k]?=some x->RVL G om0 (gg k) L->VRL φ L L'->(∀j v,L'[j]?=some v->w.cell? ⟨b,o+j,none⟩=some v)->E w b o x):SlAt z E w u' xs:=by
 rcases hr.sl_inv with⟨rfl,h0⟩|⟨bk,p,cp,T,N,e,zz,L,rfl,g1,g2,g3,g4,g5,g6,g7⟩
 .have:xs=[]:=List.eq_nil_of_length_eq_zero hn;subst this;rcases h0 with rfl|⟨b,o,c,rfl⟩
  .have e:=hv.eq_simple rfl;subst e;exact SlAt.nil w
  .obtain⟨lc,A,c',k1,k2,k3,k4,k5,k6,k7⟩:=hv.slice_inv;subst k3;exact⟨some A,c',rfl,zAE _,k6,fun q=>absurd q (by simp)⟩
 .obtain⟨lc,A,c',k1,k2,k3,k4,k5,k6,k7⟩:=hv.slice_inv;subst k3;subst hn;refine⟨some A,c',rfl,k4,k6,fun hpos=>?_⟩;rcases k7 with⟨rfl,_⟩|k7
  .obtain⟨lc',h1,h2⟩:=hR.blk _ _ (hs _ _ (hG _ _ g1));have k1':φ bk=some lc:=k1;rw[k1']at h1;cases h1
   obtain⟨h3,h4,cs,e2,fz2,h0,h5,h6,h7⟩:=h2;refine⟨lc.blk,lc.base+p,rfl,(Array.getElem?_eq_some_iff.1 h5).1,fun k x hx=>?_⟩;have hk:k<xs.length:=(List.getElem?_eq_some_iff.1 hx).1;have hin:=yja (z:=z) hk;have hcells:∀j v,j<z->(L k)[j]?=some v->∃v',cs[lc.base+(p+k*z+j)]?=some v'/\VR φ v v':=fun j v hj hv=>h7 _ v (by omega) (by rw[g5 k hk j hj];exact hv)
   have hex:∀(l:List Value) (q:Nat),(∀j v,l[j]?=some v->∃v',cs[q+j]?=some v'/\VR φ v v')->∃l',VRL φ l l'/\∀j v,l'[j]?=some v->cs[q+j]?=some v:=by
    intro l
    induction l with
    |nil=>intro q _;exact⟨[],.nil,fun j v h=>by simp at h⟩
    | cons a l ih =>
      intro q h;obtain⟨v',e1,e2⟩:=h 0 a rfl;obtain⟨l',e3,e4⟩:=ih (q+1) (fun j v hv=>by have:=h (j+1) v (by simpa using hv);rw[show q+1+j=q+(j+1)by omega];exact this)
      refine⟨v'::l',.cons e2 e3,fun j v hv=>?_⟩;cases j with
      |zero=>simp at hv;subst hv;exact e1
      |succ j=>have:=e4 j v (by simpa using hv);rw[show q+(j+1)=q+1+j by omega];exact this
   obtain⟨L',r1,r2⟩:=hex (L k) (lc.base+p+k*z) (fun j v hv=>by
    have hj:j<z:=by rw[<-g4 k hk];exact(List.getElem?_eq_some_iff.1 hv).1
    have:=hcells j v hj hv;rw[show lc.base+p+k*z+j=lc.base+(p+k*z+j)by omega]
    exact this)
   exact hE k x _ _ (L k) L' hx (g6 k hk) r1 fun j v hv=>cell_of h5 (by have:=r2 j v hv;exact this)
  .omega
theorem ints_at{l:List Int}(hG:Le G m.b.get)(hr:RV G om0 (yw l) u)(hv:VR φ u u')(hR:Rel φ M w)(hs:Sub m M)(hI:∀x∈l,I64 x):ykr w u' l:=by
 refine ycdk hG hr hv hR hs rfl fun k x b o L L' hx hL hL' hc=>?_;have hk:k<l.length:=(List.getElem?_eq_some_iff.1 hx).1;have hxe:l.getD k 0=x:=by simp[zM,hx]
 rw[hxe]at hL;cases hL with
 | cons a b =>
   cases b
   cases a.int_inv
   obtain⟨v',rfl,hvv⟩:=ygj hL';have:=hvv.eq_simple rfl;subst this;exact⟨hc 0 _ rfl,hI x (zH hx)⟩
theorem ybxf{ls:List (Int×Int)}(hG:Le G m.b.get)(hr:RV G om0 (ybd ls) u)(hv:VR φ u u')(hR:Rel φ M w)(hs:Sub m M)(hI:∀l∈ls,I64 l.1/\I64 l.2):ybnm w u' ls:=by
 refine ycdk hG hr hv hR hs rfl fun k x b o L L' hx hL hL' hc=>?_;have hxe:ls.getD k (0,0)=x:=by simp[zM,hx]
 rw[hxe]at hL;cases hL with
 | cons a b =>
   cases b with
   | cons a2 b2 =>
     cases b2
     cases a.int_inv
     cases a2.int_inv
     obtain⟨v1,v2,rfl,h1,h2⟩:=yxb hL';have:=h1.eq_simple rfl;subst this;have:=h2.eq_simple rfl;subst this;exact⟨hc 0 _ rfl,hc 1 _ rfl,hI x (zH hx)⟩
theorem ybxg{ps:List (List (Int×Int))}(hG:Le G m.b.get)(hr:RV G om0 (ybe ps) u)(hv:VR φ u u')(hR:Rel φ M w)(hs:Sub m M)(hI:∀ls∈ps,∀l∈ls,I64 l.1/\I64 l.2):yxx w u' ps:=by
 refine ycdk hG hr hv hR hs rfl fun k x b o L L' hx hL hL' hc=>?_;have hxe:ps.getD k []=x:=by simp[zM,hx]
 rw[hxe]at hL;cases hL with
 | cons a b =>
   cases b
   obtain⟨v',rfl,hvv⟩:=ygj hL';exact⟨v',hc 0 _ rfl,ybxf hG a hvv hR hs (hI x (zH hx))⟩
theorem ycyk{c:List (List Int)}(hG:Le G m.b.get)(hr:RV G om0 (ybm c) u)(hv:VR φ u u')(hR:Rel φ M w)(hs:Sub m M)(hI:yccl c):ycfv w u' c:=by
 refine ycdk hG hr hv hR hs rfl fun k x b o L L' hx hL hL' hc=>?_;have hxe:c.getD k []=x:=by simp[zM,hx]
 rw[hxe]at hL;cases hL with
 | cons a b =>
   cases b
   obtain⟨v',rfl,hvv⟩:=ygj hL';exact⟨v',hc 0 _ rfl,ints_at hG a hvv hR hs (hI x (zH hx))⟩
theorem yczt{g:Gr}(hG:Le G m.b.get)(hr:RV G om0 (grV g) u)(hv:VR φ u u')(hR:Rel φ M w)(hs:Sub m M)(hI:GrI g):GrAt w u' g:=by
 obtain⟨L,rfl,hL⟩:=hr.ag_inv;cases hL with
 | cons a b =>
   cases b with
   | cons a2 b2 =>
     cases b2
     obtain⟨L',rfl,hL'⟩:=hv.agg_inv;obtain⟨v1,v2,rfl,h1,h2⟩:=yxb hL';exact⟨v1,v2,rfl,ints_at hG a h1 hR hs hI.1,ybxg hG a2 h2 hR hs hI.2⟩
end
theorem ybhc {g:FuncId}{args:List SV}{r:SV}{v:Value}(hg:∃fn c,Tryz.prog.funcs[g]?=some fn/\fn.body=some c) (hrv:∀F,RV F om0 r v) (hvr:∀φ,VR φ v v)
 (h:∀(G:AM) (m:Mem) (us:List Value),Le G m.b.get->RVL G om0 args us->∀φ M w us',Rel φ M w->Sub m M->VRL φ us us'->Calls zD g us'.toArray w fun e w'=>e = .returned v/\Below w.heap.size w w'):Returns zD g args r:=by
 intro G m us hw hle hr;refine⟨v,enterM m,r,ykq ysg hg fun φ M w us' hR hs hv=>(h G m us hle hr φ M w us' hR hs hv).mono ?_,zG _,Le.refl _,rfl,hrv _⟩;rintro e w' ⟨rfl,hb⟩;exact⟨v,rfl,hvr φ,hb⟩
theorem rvl1{F:AM}{ω:Om}{a:SV}{us:List Value}(h:RVL F ω [a] us):∃u,us=[u]/\RV F ω a u:=by
 cases h with|cons x y=>cases y;exact⟨_,rfl,x⟩
theorem rvl2{F:AM}{ω:Om}{a b:SV}{us:List Value}(h:RVL F ω [a,b] us):∃u v,us=[u,v]/\RV F ω a u/\RV F ω b v:=by
 cases h with|cons x y=>obtain⟨v,rfl,q⟩:=rvl1 y;exact⟨_,v,rfl,x,q⟩
end Sh
end
section
open Go.RowKit
theorem yboy(n k:Nat)(hk:k<n):(zK k (-1:Int)++zK (n-k) 0).set k (-1)=zK (k+1) (-1)++zK (n-(k+1)) 0:=by
 apply zAW
 .simp;omega
 .intro i h1 h2;rw[List.getElem_set];split
  .subst_vars
   rw[zW (by simp)]
   simp
  .by_cases hi:i<k
   .rw[zW (by simpa using hi),zW (by simp;omega)];simp
   .rw[zAI (by simp;omega),zAI (by simp;omega)];simp
theorem yxy(g:Gr)(a:Nat)(h:g.ports.length<=24):1+yiu (start g a)<=30:=by
 have h1:=List.countP_le_length (p:=fun x:Int=>decide (x<0)) (l:=start g a);have h2:(start g a).length=g.ports.length:=by simp[start]
 unfold yiu;omega
set_option maxHeartbeats 2000000 in
theorem ybkh(gv:Value)(g:Gr)(a:Nat)(w:World)(hg:GrAt w gv g)(hgood:ybg g)(ha:a<g.ports.length) :
 Calls zD 139 #[gv,.int .i64 a] w (yctz (yci g a) w):=by
 have hn24:=hgood.2.1;have Hgood:=zA hgood
 clear hgood
 obtain⟨i,p,rfl,hi,hp⟩:=hg;obtain⟨A2,c2,rfl,hB1,hB2⟩:=ybx hp;have Hp:=zA hp
 clear hi hp
 have hmk:=yyn g.ports.length (by omega)
 go_enter Tryz.func139,Tryz.ntmps139
 go_wp2
 go_loopg [17] g.ports.length (fun q t wr=>∃k:Nat,q+k=g.ports.length/\t = .int .i64 k/\Hid (Below (w.heap.size+1) (w.alloc (.cells #[i,.slice A2 g.ports.length c2] 27)) wr)/\Hid (IBlk wr (w.heap.size+1) (zK k (-1)++zK (g.ports.length-k) 0)))
 case atStart =>
  refine⟨0,by omega,rfl,zA ((Below.refl _ _).alloc (by simp) _),zA ?_⟩
  have:=IBlk.new (w.alloc (.cells #[i,.slice A2 g.ports.length c2] 27)) (zK g.ports.length (0:Int))
  simpa using this
 case round =>
  obtain⟨k,hq,rfl,hbel,hblk⟩:=hrel
  by_cases hlt:k<g.ports.length
  .obtain⟨x,hx⟩:∃x,wr.cell? ⟨w.heap.size+1,k,none⟩=some (.int .i64 x):=⟨_,hblk.out.cell (by simp;omega)⟩
   have hf:=hblk.out.frozen k
   go_wp2
   go_roundg (gk-1)
   case measure=>omega
   case rel =>
    refine⟨k+1,by omega,by go_num,zA (hbel.out.setCell (by simp) _),zA ?_⟩
    have:=hblk.out.set_ k (-1)
    rwa [yboy _ _ hlt]at this
  .obtain rfl:k=g.ports.length:=by omega
   have hblk0:IBlk wr (w.heap.size+1) (zK g.ports.length (-1)):=by simpa using hblk.out
   obtain⟨x,hx⟩:∃x,wr.cell? ⟨w.heap.size+1,a,none⟩=some (.int .i64 x):=⟨_,hblk0.cell (by simpa using ha)⟩
   have hf:=hblk0.frozen a;have Hb0:=zA hblk0
   clear hblk0 hblk hmk
   go_wp2
   go_loopg [7] (1+yiu (start g a)) (fun q t wr=>∃R Q,q=Q.length+yiu R/\q<=30/\Hid (Below (w.heap.size+1) (w.alloc (.cells #[i,.slice A2 g.ports.length c2] 27)) wr)/\Hid (IBlk wr (w.heap.size+1) R)/\Hid (BfsInv g a R Q)/\Hid (Owns wr (w.heap.size+2) 3 1 t Q.length (Q.map (fun q:Nat=>Value.int .i64 (q:Int)))))
   case atStart =>
    refine⟨start g a,[a],rfl,yxy g a hn24,zA ((hbel.out.setCell (by simp) _).alloc (by have:=hbel.out.size;simp at this ⊢;omega) _),zA ((Hb0.out.set_ a 0).alloc _),zA (BfsInv.start ha),zA ?_⟩
    refine⟨rfl,.inr ⟨_,0,1,#[.int .i64 (a:Int)],rfl,?_,?_,zG _,by simp[maxLen],by simp,?_⟩⟩
    .have:=Hb0.out.lt;simp;omega
    .have:=heap_alloc_new (wr.setCell ⟨w.heap.size+1,a,none⟩ (.int .i64 0)) (.cells #[.int .i64 (a:Int)] 3);simpa using this
    .intro j u hu
     simpa using hu
   case round =>
    clear hbel Hb0 hx hf
    obtain⟨R,Q,hq,hq30,hbel,hblk,hinv,hown⟩:=hrel;obtain⟨AQ,cQ,rfl⟩:=hown.out.val;cases Q with
    | nil =>
      have Hd:=zA (hinv.out.isDist.unique (ygv Hgood.out ha))
      go_wp2
      go_ret
      have h:=hblk.out.ints (fun x hx=>by have:=hinv.out.isDist.bound Hgood.out ha x hx;unfold I64;omega) (by rw[hinv.out.len];omega)
      rw[hinv.out.len,Hd.out]at h;exact⟨_,rfl,h,(box2 hbel.out).2.2.1⟩
    | cons v Q =>
      obtain⟨gQ,oQ,cap,hv,hg1,hg2,hg3,hg4,hcell⟩:=hown.out.form (by simp)
      cases hv
      have hc0:=hcell 0 (.int .i64 (v:Int)) rfl;simp only[zBI]at hc0;have Hcell:=zA hcell;obtain⟨d,hd⟩:=hinv.out.qin v (by simp)
      have hvl:v<g.ports.length:=by rw[<-hinv.out.len];exact(List.getElem?_eq_some_iff.1 hd).1
      obtain⟨q0,q1,hbw,hsz⟩:=box2 hbel.out;obtain⟨b2,off2,lv,rfl,hb2,hclw,hls⟩:=yng Hp.out (zC hvl);have hcl:=yjs hbw _ _ hclw
      clear hclw
      obtain⟨A3,c3,rfl,hl1,hl2⟩:=ybx hls;obtain⟨ls,hle⟩:∃ls,g.ports[v]=ls:=⟨_,rfl⟩;have Hlp:=zA (show g.ports[v]?=some ls by rw[zC hvl,hle])
      rw[hle]at hls hcl hl1;have Hls:=zA hls;have Hin:=zA (hinv.out.pop hd ls);have Hbw:=zA hbw
      clear hle hls hbw hcell hinv hd
      simp only[zAV]at hq hg3 hown hc0;obtain⟨i0,hi0,hz0,hz1,hz2⟩:=info_parts ybhn;obtain⟨vQ,hsl,hoQ,hobQ⟩:=ycbh (P:=zD) zAT hi0 hz1 hown.out (k:=1) (by simp) (by simp)
      simp only[Nat.add_sub_cancel,Nat.mul_one,zBF,zAN,zBC]at hoQ;have hsl':∀W,(Instr.slice 22 (.slice (some ⟨gQ,oQ,none⟩) (Q.length+1) cQ) (some (.int .i64 1)) none none).run zD W = .ok vQ W:=fun W=>by simpa using hsl W
      have HoQ:=zA hoQ;have Hi0:=zA (show _/\_/\_/\_ from⟨hi0,hz0,hz1,hz2⟩)
      clear hoQ hown hsl hobQ hi0 hz0 hz1 hz2
      unfold maxLen at hg4
      go_wp2
      clear hsl'
      obtain⟨go,rfl⟩:∃go,go=gk:=⟨_,rfl⟩
      go_loopg [43,7] ls.length (fun q t tq wr=>∃(k:Nat) (R:List Int) (Q:List Nat),q+k=ls.length/\t = .int .i64 k/\Hid (go=Q.length+1+yiu R)/\Hid (Below (w.heap.size+1) (w.alloc (.cells #[i,.slice (some ⟨b2,off2,none⟩) g.ports.length c2] 27)) wr)/\Hid (IBlk wr (w.heap.size+1) R)/\Hid (BfsIn g a v d ls k R Q)/\Hid (Owns wr (w.heap.size+2) 3 1 tq Q.length (Q.map (fun q:Nat=>Value.int .i64 (q:Int)))))
      case atStart=>exact⟨0,R,Q,by omega,rfl,zA (by omega),hbel,hblk,Hin,HoQ⟩
      case round =>
       clear hbel hblk Hin HoQ hq hcl q0 q1 Hbw hsz
       obtain⟨k,R,Q,hq,rfl,Hgk,hbel,hblk,Hin,HoQ⟩:=hrel
       by_cases hlt:k<ls.length
       .obtain⟨q0,q1,hbw,hsz⟩:=box2 hbel.out;have Hbw:=zA hbw;obtain⟨A4,c4,e4,_,_,hE⟩:=Hls.out.below Stable.link hbw;cases e4
        obtain⟨b3,off3,rfl,hb3,hE⟩:=hE (by omega)
        obtain⟨⟨l1,wt⟩,hle⟩:∃l,ls[k]=l:=⟨_,rfl⟩;have hl?:ls[k]?=some (l1,wt):=by rw[zC hlt,hle]
        obtain⟨hx1,hx2,⟨hr1,hr2⟩,⟨hr3,hr4⟩⟩:=hE k _ hl?;obtain⟨k1,k2,k3,k4,k5⟩:=Hgood.out.link Hlp.out (zH hl?);simp only at k1 k2 k3 k4 k5 hx1 hx2 hr1 hr2 hr3 hr4;obtain⟨u,rfl⟩:=zY k1;have hul:u<R.length:=by rw[Hin.out.len];omega
        have hvR:v<R.length:=by rw[Hin.out.len];omega
        have hRv:R[v]?=some (d:Int):=Hin.out.rv;have hcv:=hblk.out.cell hvR;rw[show R[v]=(d:Int)by have:=zC hvR;rw[hRv]at this;exact(Option.some.inj this).symm]at hcv
        have hcu:=hblk.out.cell hul;have hfu:=hblk.out.frozen u
        have hd24:d<g.ports.length:=by
         rcases Hin.out.val v _ hRv with e|⟨k',e,h1,h2⟩
         .omega
         .obtain rfl:d=k':=by omega
          exact ywn Hgood.out ha h1 h2
        have hle1:ls[k].1=(u:Int):=by rw[hle]
        have hRu:R[u]?=some R[u]:=zC hul;have hB:w.heap.size+1<wr.heap.size:=hblk.out.lt
        clear hE hl? hle hbw k1 k3 hRv
        by_cases hneg:R[u]<0
        .have hRm:R[u]?=some (-1):=by
          rcases Hin.out.val u _ hRu with e|⟨k',e,_⟩
          .exact hRu.trans (congrArg some e)
          .exact absurd e (by omega)
         have Hd:=zA (Hin.out.discover Hlp.out hlt hle1 hRm);have Hun:=zA (ybff (R:=R) (u:=u) (x:=(d:Int)+1) hRm (by omega))
         clear hRu hRm hle1
         go_wp2
         go_region
         go_wp2_with (at_builtin;refine ymo _ rfl _ _ 22 rfl (w.heap.size+2) 3 i0 (.int .i64 0) 1 8 zAT Hi0.out.1 Hi0.out.2.1 Hi0.out.2.2.1 Hi0.out.2.2.2 rfl (by decide) u7 Q.length (Q.map (fun q:Nat=>Value.int .i64 (q:Int))) (by rfl) ?hown _ 1 1 [.int .i64 (u:Int)] (by rfl) rfl ?c1 ?c2 ?c3 ?c4 ?c5 ?_)
         case hown=>exact(((HoQ.out.low (p:=⟨w.heap.size+1,u,none⟩) (by simp) _).alloc _).alloc _).drew
         case c1=>exact ybxw (by simp)
         case c2=>simp[Value.oneCell']
         case c3=>have:=Hgk.out;simp only[maxLen];omega
         case c4=>have:=Hgk.out;omega
         case c5=>simp;omega
         intro vQ' w' hown' hgr hob;have hgo:=Hgk.out;have Hown:=zA hown';have Hgr:=zA hgr
         clear hown' hgr hob
         go_wp2
         go_roundg (gk-1)
         case measure=>omega
         case rel =>
          have hb1:=(((hbel.out.setCell (p:=⟨w.heap.size+1,u,none⟩) (by simp) (.int .i64 ((d:Int)+1))).alloc (by simp;omega) (.cells #[.int .i64 (u:Int),.int .i64 wt] 95)).alloc (by simp;omega) (.cells #[.int .i64 (u:Int)] 3)).drew
          have hk1:=((((hblk.out.set_ u ((d:Int)+1)).alloc (.cells #[.int .i64 (u:Int),.int .i64 wt] 95)).alloc (.cells #[.int .i64 (u:Int)] 3)).drew);refine⟨k+1,R.set u ((d:Int)+1),Q++[u],by omega,by go_num,zA ?_,zA (hb1.grown Hgr.out (by simp;omega) (fun x hx=>?_)),zA (hk1.grown Hgr.out (fun e=>?_)),Hd,zA ?_⟩
          .have:=Hun.out;simp;omega
          .have:=(HoQ.out.lt hx).1;omega
          .have:=(HoQ.out.lt e.symm).1;omega
          .have:=Hown.out
           simpa using this
        .have hpos:0<=R[u]:=by omega
         obtain⟨j,hj⟩:=zY hpos;have Hsk:=zA (Hin.out.skip hlt (j:=j) (by rw[hle1,zO,hRu,hj]))
         clear hRu hle1 hj
         go_wp2
         have hgo:=Hgk.out
         go_roundg (gk-1)
         case measure=>omega
         case rel=>exact⟨k+1,R,Q,by omega,by go_num,Hgk,zA (hbel.out.alloc (by omega) _),zA (hblk.out.alloc _),Hsk,zA (HoQ.out.alloc _)⟩
       .obtain rfl:k=ls.length:=by omega
        go_wp2
        have hgo:=Hgk.out
        go_roundg (Q.length+yiu R)
        case measure=>omega
        case rel=>exact⟨R,Q,rfl,by omega,hbel,hblk,zA (Hin.out.finish Hlp.out),HoQ⟩
end
section
open Go.RowKit
theorem yzz:zAU=Array.replicate 256 (.bool false):=by kernel_rfl
def Seen(w:World)(g:Nat)(S:List Int):Prop:=∃cur,w.heap[g]?=some (.cells cur 195 (0,0))/\cur.size=256/\∀i:Nat,i<256->cur[i]?=some (.bool (decide ((i:Int)∈S)))
theorem Seen.cell{w:World}{g:Nat}{S:List Int}(h:Seen w g S){i:Nat}(hi:i<256):w.cell? ⟨g,i,none⟩=some (.bool (decide ((i:Int)∈S))):=by
 obtain⟨cur,h1,h2,h3⟩:=h;simp[World.cell?,h1,h3 i hi]
theorem Seen.frozen{w:World}{g:Nat}{S:List Int}(h:Seen w g S)(i:Nat):w.frozen? ⟨g,i,none⟩=false:=by
 obtain⟨cur,h1,h2,h3⟩:=h;simp[World.frozen?,h1]
theorem Seen.set_{w:World}{g:Nat}{S:List Int}(h:Seen w g S){i:Nat}:Seen (w.setCell ⟨g,i,none⟩ (.bool true)) g (S++[(i:Int)]):=by
 obtain⟨cur,h1,h2,h3⟩:=h;refine⟨cur.setIfInBounds i (.bool true),by simp[World.setCell,Array.getElem?_modify,h1],by simp[h2],fun j hj=>?_⟩
 rw[Array.getElem?_setIfInBounds];split
 .subst_vars
  rw[if_pos (by omega)]
  simp
 .rw[h3 j hj];congr 3;simp;omega
theorem Seen.start(w:World):Seen (w.alloc (.cells zAU 195)) w.heap.size []:=by
 refine⟨_,heap_alloc_new w _,by rw[yzz];simp,fun i hi=>?_⟩
 rw[yzz];simp[hi]
def ybey(ids:List Int):Bool:=decide ((∀x∈ids,0<=x/\x<=255)/\ids.Nodup)
def yrx(ids:List Int)(k:Nat):Prop:=(∀x∈ids.take k,0<=x/\x<=255)/\(ids.take k).Nodup
theorem ybvs{ids:List Int}{k:Nat}(hk:k<ids.length):yrx ids (k+1)↔yrx ids k/\(0<=ids[k]/\ids[k]<=255)/\ids[k]∉ids.take k:=by
 unfold yrx;rw[take_snoc ids k hk,List.nodup_append];constructor
 .rintro⟨h1,h2,_,h3⟩;exact⟨⟨fun x hx=>h1 x (zAL _ hx),h2⟩,h1 _ (List.mem_append_right _ (by simp)),fun hm=>h3 _ hm _ (by simp) rfl⟩
 .rintro⟨⟨h1,h2⟩,h3,h4⟩;refine⟨fun x hx=>?_,h2,by simp,fun a ha b hb e=>?_⟩
  .rcases List.mem_append.1 hx with hx|hx
   .exact h1 x hx
   .simp at hx;subst hx;exact h3
  .simp at hb;subst hb e;exact h4 ha
theorem ybfp{ids:List Int}{k:Nat}(h:¬yrx ids k):ybey ids=false:=by
 unfold ybey;rw[decide_eq_false_iff_not];exact fun hd=>h ⟨fun x hx=>hd.1 x (List.mem_of_mem_take hx),hd.2.sublist (List.take_sublist _ _)⟩
theorem ybkm{ids:List Int}(h:yrx ids ids.length):ybey ids=true:=by
 unfold yrx at h;rw[zAA]at h;exact decide_eq_true h
set_option maxRecDepth 100000 in
set_option maxHeartbeats 1000000 in
theorem yqf(iv:Value)(ids:List Int)(w:World)(hi:ykr w iv ids) :
 Calls zD 152 #[iv] w fun e w'=>e = .returned (.bool (ybey ids))/\Below w.heap.size w w':=by
 obtain⟨A,c,rfl,hA1,hA2⟩:=ybx hi;have Hi:=zA hi
 clear hi
 go_enter Tryz.func152,Tryz.ntmps152
 go_wp2
 go_loopg [8] ids.length (fun q t wr=>∃k:Nat,q+k=ids.length/\t = .int .i64 k/\Hid (Below w.heap.size w wr)/\Hid (Seen wr w.heap.size (ids.take k))/\Hid (yrx ids k))
 case atStart=>exact⟨0,by omega,rfl,zA ((Below.refl _ _).alloc (zG _) _),zA (Seen.start w),zA ⟨by simp,by simp⟩⟩
 case round =>
  obtain⟨k,hq,rfl,hbel,hseen,hok⟩:=hrel
  by_cases hlt:k<ids.length
  .obtain⟨b,off,rfl,hb,hcid,hr⟩:=ylq (Hi.out.below Stable.int hbel.out) hlt;obtain⟨x,hx⟩:∃x,ids[k]=x:=⟨_,rfl⟩;have Hsn:=zA (ybvs hlt);rw[hx]at hcid hr Hsn;obtain⟨hr1,hr2⟩:=hr;have Hbad:=zA (fun h=>ybfp (ids:=ids) (k:=k+1) h);have Hts:=zA (take_snoc ids k hlt);rw[hx]at Hts
   clear hx
   by_cases c1:0<=x/\x<=255
   .obtain⟨c1a,c1b⟩:=c1;obtain⟨n,rfl⟩:=zY c1a;have hcs:=hseen.out.cell (i:=n) (by omega)
    have hfs:=hseen.out.frozen n
    by_cases c2:(n:Int)∈ids.take k
    .rw[decide_eq_true c2]at hcs;have Hf:=zA (Hbad.out (fun h=>(Hsn.out.1 h).2.2 c2))
     clear c2
     go_wp2
     go_ret
     exact⟨ybq Hf.out.symm,hbel.out⟩
    .rw[decide_eq_false c2]at hcs;have Hn:=zA (Hsn.out.2 ⟨hok.out,⟨by omega,by omega⟩,c2⟩)
     clear c2
     go_wp2
     go_roundg (gk-1)
     case measure=>omega
     case rel =>
      refine⟨k+1,by omega,by go_num,zA (hbel.out.setCell (zG _) _),zA ?_,Hn⟩
      rw[Hts.out];exact hseen.out.set_
   .have Hf:=zA (Hbad.out (fun h=>c1 (Hsn.out.1 h).2.1))
    by_cases c3:x<0
    .clear c1
     go_wp2
     go_ret
     exact⟨ybq Hf.out.symm,hbel.out⟩
    .have c4:255<x:=by omega
     clear c1
     go_wp2
     go_ret
     exact⟨ybq Hf.out.symm,hbel.out⟩
  .obtain rfl:k=ids.length:=by omega
   have Ht:=zA (ybkm hok.out)
   go_wp2
   go_ret
   exact⟨ybq Ht.out.symm,hbel.out⟩
theorem ybwr(g:Gr)(h1:1<=g.ids.length)(h2:g.ids.length<=24)(h3:g.ports.length=g.ids.length):ygb g=(ybey g.ids&&symB g.ports):=by
 unfold ygb ybey symB;rw[<-Bool.decide_and];congr 1;apply propext;unfold ybg ybyi;constructor
 .rintro⟨_,_,_,h4,h5,h6,h7⟩;exact⟨⟨h4,h5⟩,h6,h7⟩
 .rintro⟨⟨h4,h5⟩,h6,h7⟩;exact⟨by omega,by omega,by omega,h4,h5,h6,h7⟩
set_option maxHeartbeats 1000000 in
theorem yrw(gv:Value)(g:Gr)(w:World)(hg:GrAt w gv g) :
 Calls zD 96 #[gv] w fun e w'=>e = .returned (.bool (ygb g))/\Below w.heap.size w w':=by
 obtain⟨i,p,rfl,hi,hp⟩:=hg;obtain⟨A,c,rfl,hA1,hA2⟩:=ybx hi;obtain⟨A2,c2,rfl,hB1,hB2⟩:=ybx hp;have Hi:=zA hi;have Hp:=zA hp
 clear hi hp
 by_cases n1:1<=g.ids.length
 .by_cases n2:g.ids.length<=24
  .by_cases n3:g.ports.length=g.ids.length
   .have n3':((g.ports.length:Int)!=(g.ids.length:Int))=false:=by simp[n3]
    have He:=zA (ybwr g n1 n2 n3);have n3a:g.ports.length<=24:=by omega
    clear n3
    go_enter zAF,zAJ
    go_wp2_with fail
    refine(yqf _ g.ids _ (Hi.out.below Stable.int ((Below.refl _ _).alloc (zG _) _))).mono ?_;rintro e w1 ⟨rfl,hb1⟩;have Hb1:=zA (ybrr hb1);obtain⟨q0,q1⟩:=ydgy hb1
    clear hb1
    cases hd:ybey g.ids with
    | false =>
      have Hv:=zA (show ygb g=false by rw[He.out,hd];rfl)
      go_wp2_with fail
      go_ret
      exact⟨ybq Hv.out.symm,Hb1.out⟩
    | true =>
      have Hv:=zA (show ygb g=symB g.ports by rw[He.out,hd];rfl)
      go_wp2_with fail
      refine(ymg _ g.ports _ (Hp.out.below (Stable.sl Stable.link) Hb1.out) (by omega)).mono ?_
      rintro e w2 ⟨rfl,hb2⟩
      go_wp2_with fail
      go_ret
      exact⟨ybq Hv.out.symm,Hb1.out.trans (hb2.mono Hb1.out.size)⟩
   .have n3':((g.ports.length:Int)!=(g.ids.length:Int))=true:=by simp;omega
    have Hf:=zA (yhg (g:=g) (fun h=>n3 h.2.2.symm))
    clear n3
    go_enter zAF,zAJ
    go_wp2
    go_ret
    exact⟨ybq Hf.out.symm,(Below.refl _ _).alloc (zG _) _⟩
  .have Hf:=zA (yhg (g:=g) (fun h=>n2 (by omega)))
   go_enter zAF,zAJ
   go_wp2
   go_ret
   exact⟨ybq Hf.out.symm,(Below.refl _ _).alloc (zG _) _⟩
 .have Hf:=zA (yhg (g:=g) (fun h=>n1 (by omega)))
  go_enter zAF,zAJ
  go_wp2
  go_ret
  exact⟨ybq Hf.out.symm,(Below.refl _ _).alloc (zG _) _⟩
end
section
namespace Sh
open Go Ev Go.RowKit
theorem ygk{x:Int}(h:-4611686018427387904<=x/\x<=4611686018427387904):I64 x:=by
 unfold I64;omega
theorem ycyy{g:Gr}(hg:ybg g):GrI g:=by
 obtain⟨h1,h2,h3,h4,h5,h6,h7⟩:=hg;refine⟨fun x hx=>ygk (by have:=h4 x hx;omega),fun ls hls l hl=>?_⟩
 obtain⟨v,hv,rfl⟩:=List.getElem_of_mem hls;obtain⟨a1,a2,a3,a4,a5⟩:=(h6 ⟨v,hv⟩).1 l hl;exact⟨ygk (by omega),ygk (by omega)⟩
theorem yva{g:Gr}(hI:GrI g):Returns zD 96 [grV g] (.b (ygb g)):=by
 refine ybhc ⟨_,_,zAF,rfl⟩ (fun _=>.b) (fun _=>.simple rfl) fun G m us hG hr φ M w us' hR hs hv=>?_;obtain⟨u,rfl,h1⟩:=rvl1 hr;obtain⟨u',rfl,h2⟩:=ygj hv;exact yrw u' g w (yczt hG h1 h2 hR hs hI)
end Sh
end
section
namespace Sh
open Go Ev
end Sh
end
section
structure VarR where
 name:ByteArray
 kind:Int
 lo:Int
 hi:Int
 perNode:Int
 perID:Int
def varE:Elem VarR:=fun w b o x=>w.cell? ⟨b,o,none⟩=some (.string x.name)/\w.cell? ⟨b,o+1,none⟩=some (.int .i64 x.kind)/\w.cell? ⟨b,o+2,none⟩=some (.int .i64 x.lo)/\w.cell? ⟨b,o+3,none⟩=some (.int .i64 x.hi) /\
 w.cell? ⟨b,o+4,none⟩=some (.int .i64 x.perNode)/\w.cell? ⟨b,o+5,none⟩=some (.int .i64 x.perID)
theorem Stable.var:Stable varE:=fun _ _ _ _ _ h _ hx=>⟨h _ _ hx.1,h _ _ hx.2.1,h _ _ hx.2.2.1,h _ _ hx.2.2.2.1,h _ _ hx.2.2.2.2.1,h _ _ hx.2.2.2.2.2⟩
theorem ybkl(ids:List Int)(k:Nat)(hk:k<ids.length):(ids.take (k+1)).foldl max 0=max ((ids.take k).foldl max 0) ids[k]:=by
 rw[take_snoc ids k hk,zT];rfl
theorem ybbr(D:List Int)(m:Int)(h:∀x∈D,x<=m):∀a:Int,a<=m->D.foldl max a<=m:=by
 induction D with
 |nil=>intro a ha;exact ha
 |cons x D ih=>intro a ha;exact ih (fun y hy=>h y (by simp[hy])) _ (Int.max_le.2 ⟨ha,h x (by simp)⟩)
theorem yrt{g:Gr}(hg:ybg g):0<=ybeb g/\ybeb g<=255:=⟨yyc _ _,ybbr _ _ (fun x hx=>(hg.2.2.2.1 x hx).2) _ (by omega)⟩
end
section
abbrev Tm:=Int×Int
structure SetR where
 var:Int
 val:List Tm
structure RuleR where
 name:ByteArray
 guard:List Tm
 sets:List SetR
structure ProgR where
 name:ByteArray
 vars:List VarR
 rules:List RuleR
instance:Inhabited VarR:=⟨⟨.empty,0,0,0,0,0⟩⟩
instance:Inhabited SetR:=⟨⟨0,[]⟩⟩
instance:Inhabited RuleR:=⟨⟨.empty,[],[]⟩⟩
inductive Ex where
 |leaf (op arg:Int)
 |un (op:Int) (a:Ex)
 |agg (op:Int) (a:Ex)
 |bin (op:Int) (a b:Ex)
 |ite (c a b:Ex)
def Ex.ser:Ex->List Tm
 |.leaf op arg=>[(op,arg)]
 |.un op a=>(op,0)::a.ser
 |.agg op a=>(op,0)::a.ser
 |.bin op a b=>(op,0)::(a.ser++b.ser)
 |.ite c a b=>(43,0)::(c.ser++(a.ser++b.ser))
def satP(a:Int):Int:=max (-1073741824) (min a 1073741824)
def ybs(b:Bool):Int:=if b then 1 else 0
def ytr(a b:Int):Int:=if b=0 then 0 else if a.tmod b≠0/\(decide (a<0)≠decide (b<0))then a.tdiv b-1 else a.tdiv b
def unP(op a:Int):Int:=if op=18 then -a else ybs (a==0)
def cmpP(op a b:Int):Bool:=if op=35 then a==b else if op=36 then a != b else if op=37 then decide (a<b)else if op=38 then decide (a<=b)else if op=39 then decide (a>b)else decide (a>=b)
def binP(op a b:Int):Int :=
 if op=30 then satP (a*b)else if op=31 then satP (ytr a b)else if op=32 then(if b=0 then 0 else satP (a-b*ytr a b))else if op=33 then satP (a+b)else if op=34 then satP (a-b)
 else if op=41 then ybs (a != 0&&b != 0)else if op=42 then ybs (a != 0||b != 0)else ybs (cmpP op a b)
def countP(l:List Int):Int:=((l.filter (· != 0)).length:Int)
def ypz(l:List Int):Int:=l.foldl min 1073741824
def ydd(l:List Int):Int×Int:=l.foldl (fun p a=>if a>p.1 then(a,p.1)else(p.1,max p.2 a)) (-1073741824,-1073741824)
def ytn(l:List Int):Nat->Int->Int
 |0,r=>r
 |n+1,r=>if l.elem r then ytn l n (r+1)else r
def mexP(l:List Int):Int:=ytn l (l.length+1) 0
def yfh(l:List Int):Int:=match l.findIdx? (· != 0)with|some i=>i|none=>-1
def ygg(op:Int)(l:List Int):Int :=
 if op=20 then ybs (countP l==l.length)else if op=21 then ybs (decide (countP l>0))else if op=22 then countP l else if op=23 then yfh l else if op=24 then ypz l else if op=25 then(ydd l).1
 else if op=26 then satP l.sum else if op=27 then mexP l else if op=28 then(ydd l).2 else l.headD 0
structure Sc where
 g:Gr
 c:Conf
def ych(g:Gr)(v port:Nat):Int×Int:=(g.ports.getD v []).getD port (0,0)
def yjj(g:Gr)(v:Nat):List Int:=(g.ports.getD v []).map fun l=>ygz (g.ports.getD l.1.toNat []) v
def yms(g:Gr)(op:Int)(v:Nat)(port:Int):Int :=
 if op=6 then g.ids.length else if op=7 then ybeb g else if op=8 then g.ids.getD v 0 else if op=9 then((g.ports.getD v []).length:Int)else if op=10 then ybs ((v:Int)==0)else if op=11 then port
 else(let l:=ych g v port.toNat
  if op=13 then g.ids.getD l.1.toNat 0 else if op=14 then((g.ports.getD l.1.toNat []).length:Int)else if op=15 then ybs (l.1==0)else if op=16 then l.2 else(yjj g v).getD port.toNat 0)
def yth(g:Gr)(c:Conf)(op arg:Int)(v:Nat)(port:Int):Int :=
 if op=1 then arg else if op=2 then 1 else if op=3 then 0 else if op=4 then -1 else if op=5 then(c.getD v []).getD arg.toNat 0 else if op=12 then(c.getD (ych g v port.toNat).1.toNat []).getD arg.toNat 0
 else yms g op v port
def ycs(g:Gr)(c:Conf)(v:Nat):Ex->Int->Int
 |.leaf op arg,p=>yth g c op arg v p
 |.un op a,p=>unP op (ycs g c v a p)
 |.agg op a,_=>ygg op ((zQ (g.ports.getD v []).length).map fun(q:Nat)=>ycs g c v a (q:Int))
 |.bin op a b,p=>binP op (ycs g c v a p) (ycs g c v b p)
 |.ite x a b,p=>if ycs g c v x p≠0 then ycs g c v a p else ycs g c v b p
def Ex.ok(nv:Int)(bnd:Bool):Ex->Bool
 |.leaf op arg=>decide (1<=op/\op<=17)&&(if op=1 then decide (0<=arg/\arg<=1073741824)else if op=5\/op=12 then decide (0<=arg/\arg<nv)else true)&&(if 11<=op then bnd else true)
 |.un op a=>decide (op=18\/op=19)&&a.ok nv bnd
 |.agg op a=>decide (20<=op/\op<=29)&&a.ok nv true
 |.bin op a b=>decide (30<=op/\op<=42)&&a.ok nv bnd&&b.ok nv bnd
 |.ite x a b=>x.ok nv bnd&&a.ok nv bnd&&b.ok nv bnd
def InB(x:Int):Prop:=-1073741824<=x/\x<=1073741824
theorem yos(a:Int):InB (satP a):=by unfold InB satP;omega
theorem yfb(b:Bool):InB (ybs b):=by unfold InB ybs;cases b<;>simp
theorem ydaw{op a:Int}(h:InB a):InB (unP op a):=by
 unfold unP;split
 .unfold InB at *;omega
 .exact yfb _
theorem yctx(op a b:Int):InB (binP op a b):=by
 unfold binP;split;· exact yos _
 split;· exact yos _
 split
 .split
  .unfold InB;omega
  .exact yos _
 split;· exact yos _
 split;· exact yos _
 split;· exact yfb _
 split;· exact yfb _
 exact yfb _
theorem countP_le(l:List Int):0<=countP l/\countP l<=l.length:=by
 unfold countP;have:=List.length_filter_le (· != 0) l;omega
theorem ybsd(l:List Int)(h:∀x∈l,InB x):InB (ypz l):=by
 unfold ypz
 have:∀(l:List Int) (a:Int),InB a->(∀x∈l,InB x)->InB (l.foldl min a):=by
  intro l
  induction l with
  |nil=>intro a ha _;exact ha
  | cons x l ih =>
    intro a ha hl;refine ih _ ?_ fun y hy=>hl y (zAC _ hy);have:=hl x zAG;unfold InB at *;omega
 exact this l _ (by unfold InB;omega) h
theorem yvc(l:List Int)(h:∀x∈l,InB x):InB (ydd l).1/\InB (ydd l).2:=by
 unfold ydd
 have:∀(l:List Int) (p:Int×Int),InB p.1/\InB p.2->(∀x∈l,InB x)->InB (l.foldl (fun p a=>if a>p.1 then(a,p.1)else(p.1,max p.2 a)) p).1/\InB (l.foldl (fun p a=>if a>p.1 then(a,p.1)else(p.1,max p.2 a)) p).2:=by
  intro l
  induction l with
  |nil=>intro p hp _;exact hp
  | cons x l ih =>
    intro p hp hl;refine ih _ ?_ fun y hy=>hl y (zAC _ hy);have:=hl x zAG;unfold InB at *
    dsimp only
    split<;>dsimp only<;>omega
 exact this l _ (by unfold InB;simp) h
theorem ybgx(l:List Int):∀(n:Nat) (r:Int),r<=ytn l n r/\ytn l n r<=r+n
 |0,r=>by unfold ytn;omega
 | n+1,r=>by
   unfold ytn;have:=ybgx l n (r+1);split<;>omega
theorem ybbk(l:List Int):-1<=yfh l/\yfh l<l.length\/yfh l = -1:=by
 unfold yfh;split
 .rename_i i hi
  obtain⟨h,_⟩:=List.findIdx?_eq_some_iff_getElem.1 hi;left;omega
 .exact .inr rfl
theorem ycbq{op:Int}{l:List Int}(hl:l.length<=1000)(h:∀x∈l,InB x):InB (ygg op l):=by
 have hc:=countP_le l;unfold ygg;split;· exact yfb _
 split;· exact yfb _
 split;· unfold InB;omega
 split;· have:=ybbk l;unfold InB;omega
 split;· exact ybsd l h
 split;· exact(yvc l h).1
 split;· exact yos _
 split;· have:=ybgx l (l.length+1) 0;unfold mexP InB;omega
 split;· exact(yvc l h).2
 cases l with
 |nil=>unfold InB;simp
 |cons x l=>exact h x zAG
structure ConfIn(n nv:Nat)(c:Conf):Prop where
 len:c.length=n
 row:∀s∈c,s.length=nv/\∀x∈s,InB x
theorem ConfIn.at_{n nv:Nat}{c:Conf}(h:ConfIn n nv c){v:Nat}(hv:v<n):(c.getD v []).length=nv/\∀k,InB ((c.getD v []).getD k 0):=by
 have hlt:v<c.length:=by rw[h.len];exact hv
 have e:c.getD v []=c[v]:=by simp[zM,hlt]
 obtain⟨h1,h2⟩:=h.row c[v] (zS hlt);rw[e];refine⟨h1,fun k=>?_⟩;rw[zN];cases hk:c[v][k]? with
 |none=>simp;unfold InB;omega
 |some x=>simp;exact h2 x (zH hk)
theorem ybg.ych{g:Gr}(hg:ybg g){v p:Nat}(hv:v<g.ports.length)(hp:p<(g.ports.getD v []).length):0<=(ych g v p).1/\(ych g v p).1<g.ports.length/\1<=(ych g v p).2/\(ych g v p).2<=15:=by
 have e:g.ports.getD v []=g.ports[v]:=by simp[zM,hv]
 have h1:=hg.2.2.2.2.2.1 ⟨v,hv⟩;rw[e]at hp;have hm:(g.ports[v])[p]∈g.ports[v]:=zS hp;have h2:=h1.1 _ hm;unfold ykn at h2;have e2:Go.Proofs.YtiejahgklcjhkaaGreatDoor.ych g v p=(g.ports[v])[p]:=by unfold Go.Proofs.YtiejahgklcjhkaaGreatDoor.ych;rw[e];simp[zM,hp]
 rw[e2];omega
theorem ybg.deg_lt{g:Gr}(hg:ybg g){v:Nat}:(g.ports.getD v []).length<24:=by
 by_cases hv:v<g.ports.length
 .have h1:=hg.2.2.2.2.2.1 ⟨v,hv⟩;have:=yrd hv h1;have e:g.ports.getD v []=g.ports[v]:=by simp[zM,hv]
  rw[e];have:=hg.2.1;have h3:g.ports[(⟨v,hv⟩:Fin g.ports.length)].length=g.ports[v].length:=rfl;omega
 .rw[zN,List.getElem?_eq_none (by omega)]
  simp
theorem ybg.id_in{g:Gr}(hg:ybg g)(v:Nat):0<=g.ids.getD v 0/\g.ids.getD v 0<=255:=by
 rw[zN];cases h:g.ids[v]? with
 |none=>simp
 |some x=>exact hg.2.2.2.1 x (zH h)
theorem ycas{g:Gr}{c:Conf}{n nv:Nat}(hg:ybg g)(hn:g.ports.length=n)(hc:ConfIn n nv c){op arg:Int}{bnd:Bool}(ho:(Ex.leaf op arg).ok nv bnd=true){v:Nat}(hv:v<n){p:Int}(hp:bnd=true->0<=p/\p<(g.ports.getD v []).length)(hpi:InB p):InB (yth g c op arg v p):=by
 subst hn;have h24:=hg.2.1;have hd:=hg.deg_lt (v:=v);unfold yth;simp only[Ex.ok,zJ,decide_eq_true_eq]at ho;obtain⟨⟨ho1,ho2⟩,ho3⟩:=ho;split
 .rename_i h;rw[if_pos h]at ho2;simp at ho2;unfold InB;omega
 split;· unfold InB;omega
 split;· unfold InB;omega
 split;· unfold InB;omega
 split;· exact(hc.at_ hv).2 _
 split
 .rename_i h
  rw[if_pos (by omega)]at ho3
  obtain⟨q1,q2⟩:=hp ho3;have hl:=hg.ych hv (p:=p.toNat) (by omega)
  exact(hc.at_ (v:=(ych g v p.toNat).1.toNat) (by omega)).2 _
 .unfold yms;split;· rw[hg.2.2.1];unfold InB;omega
  split;· have:=yrt hg;unfold InB;omega
  split;· have:=hg.id_in v;unfold InB;omega
  split;· unfold InB;omega
  split;· exact yfb _
  split;· exact hpi
  rename_i h6 h7 h8 h9 h10 h11
  rw[if_pos (by omega)]at ho3
  obtain⟨q1,q2⟩:=hp ho3;have hl:=hg.ych hv (p:=p.toNat) (by omega)
  simp only;split;· have:=hg.id_in (ych g v p.toNat).1.toNat;unfold InB;omega
  split;· have:=hg.deg_lt (v:=(ych g v p.toNat).1.toNat);unfold InB;omega
  split;· exact yfb _
  split;· unfold InB;omega
  .unfold yjj;rw[zN,List.getElem?_map];cases hk:(g.ports.getD v [])[p.toNat]? with
   |none=>simp;unfold InB;omega
   | some l =>
     simp;have hd2:=hg.deg_lt (v:=l.1.toNat);rcases yxm (ls:=g.ports.getD l.1.toNat []) (u:=(v:Int))with e|⟨k,e,hk⟩
     .simp at e;rw[e];unfold InB;omega
     .simp at e hk hd2;rw[e];unfold InB;omega
theorem yhc{g:Gr}{c:Conf}{n nv:Nat}(hg:ybg g)(hn:g.ports.length=n)(hc:ConfIn n nv c){v:Nat}(hv:v<n):∀(x:Ex) {bnd:Bool}{p:Int},x.ok nv bnd=true->(bnd=true->0<=p/\p<(g.ports.getD v []).length)->InB p->InB (ycs g c v x p)
 |.leaf op arg,bnd,p,h,hp,hpi=>ycas hg hn hc h hv hp hpi
 | .un op a,bnd,p,h,hp,hpi=>by
   simp only[Ex.ok,zJ]at h;exact ydaw (yhc hg hn hc hv a h.2 hp hpi)
 | .agg op a,bnd,p,h,hp,hpi=>by
   simp only[Ex.ok,zJ]at h;have:=hg.deg_lt (v:=v);refine ycbq (by simp;simp at this;omega) fun x hx=>?_
   obtain⟨q,hq,rfl⟩:=List.mem_map.1 hx;have hq:=List.mem_range.1 hq;exact yhc hg hn hc hv a h.2 (fun _=>by omega) (by unfold InB;omega)
 |.bin op a b,bnd,p,h,hp,hpi=>yctx _ _ _
 | .ite x a b,bnd,p,h,hp,hpi=>by
   simp only[Ex.ok,zJ]at h;unfold ycs;split
   .exact yhc hg hn hc hv a h.1.2 hp hpi
   .exact yhc hg hn hc hv b h.2 hp hpi
end
section
namespace Sh
open Go Ev
def varC(x:VarR):List SV:=[.a (.string x.name),.i .i64 x.kind,.i .i64 x.lo,.i .i64 x.hi,.i .i64 x.perNode,.i .i64 x.perID]
def yek(l:List VarR):SV:=.sl 6 l.length (fun k=>varC (l.getD k default))
def yhs(l:List SetR):SV:=.sl 2 l.length (fun k=>[.i .i64 (l.getD k default).var,ybd (l.getD k default).val])
def ycx(l:List RuleR):SV:=.sl 3 l.length (fun k=>[.a (.string (l.getD k default).name),ybd (l.getD k default).guard,yhs (l.getD k default).sets])
def yna(p:ProgR):List SV:=[.a (.string p.name),yek p.vars,ycx p.rules]
def ydm(g:Gr):SV:=.sl 1 g.ports.length (fun v=>[yw (yjj g v)])
def yff(p:ProgR)(g:Gr):List SV:=[.a (.string p.name),yek p.vars,ycx p.rules,yw g.ids,ybe g.ports,.i .i64 (ybeb g),ydm g]
def yiv(p:ProgR)(g:Gr)(c:Conf)(v:Nat)(e:List Tm):List SV:=[.rf (yff p g),ybm c,.i .i64 v,ybd e]
theorem ybie(l:List Int):one1 (yw l)=true:=rfl
theorem yben{n:Nat}(l:List Int):owned (n+1) (yw l)=false:=rfl
theorem ybar{n:Nat}(l:List Int):scalar (n+1) (yw l)=false:=rfl
theorem ybkr{n:Nat}(o:Own)(l:List Int):view o (n+1) (yw l)=yw l:=rfl
theorem ybvh{n:Nat}(o:Own)(l:List Int):vok o (n+1) (yw l)=True:=rfl
theorem ybun{n:Nat}(h:Nm->Nm)(l:List Int):ren h (n+1) (yw l)=yw l:=rfl
theorem ybva{n:Nat}(L:Nm->Bool)(l:List Int):cln L (n+1) (yw l)=true:=rfl
theorem ybct(l:List (Int×Int)):one1 (ybd l)=true:=rfl
theorem yyx{n:Nat}(l:List (Int×Int)):owned (n+1) (ybd l)=false:=rfl
theorem ywu{n:Nat}(l:List (Int×Int)):scalar (n+1) (ybd l)=false:=rfl
theorem ybcm{n:Nat}(o:Own)(l:List (Int×Int)):view o (n+1) (ybd l)=ybd l:=rfl
theorem ybiy{n:Nat}(o:Own)(l:List (Int×Int)):vok o (n+1) (ybd l)=True:=rfl
theorem ybjz{n:Nat}(h:Nm->Nm)(l:List (Int×Int)):ren h (n+1) (ybd l)=ybd l:=rfl
theorem ybka{n:Nat}(L:Nm->Bool)(l:List (Int×Int)):cln L (n+1) (ybd l)=true:=rfl
theorem ybck(l:List (List (Int×Int))):one1 (ybe l)=true:=rfl
theorem yyv{n:Nat}(l:List (List (Int×Int))):owned (n+1) (ybe l)=false:=rfl
theorem ywg{n:Nat}(l:List (List (Int×Int))):scalar (n+1) (ybe l)=false:=rfl
theorem ybdd{n:Nat}(o:Own)(l:List (List (Int×Int))):view o (n+1) (ybe l)=ybe l:=rfl
theorem ybhy{n:Nat}(o:Own)(l:List (List (Int×Int))):vok o (n+1) (ybe l)=True:=rfl
theorem ybkk{n:Nat}(h:Nm->Nm)(l:List (List (Int×Int))):ren h (n+1) (ybe l)=ybe l:=rfl
theorem ybjk{n:Nat}(L:Nm->Bool)(l:List (List (Int×Int))):cln L (n+1) (ybe l)=true:=rfl
theorem ybkb(l:List (List Int)):one1 (ybm l)=true:=rfl
theorem ybdw{n:Nat}(l:List (List Int)):owned (n+1) (ybm l)=false:=rfl
theorem yzp{n:Nat}(l:List (List Int)):scalar (n+1) (ybm l)=false:=rfl
theorem ybkn{n:Nat}(o:Own)(l:List (List Int)):view o (n+1) (ybm l)=ybm l:=rfl
theorem ybsf{n:Nat}(o:Own)(l:List (List Int)):vok o (n+1) (ybm l)=True:=rfl
theorem ybqe{n:Nat}(h:Nm->Nm)(l:List (List Int)):ren h (n+1) (ybm l)=ybm l:=rfl
theorem ybwb{n:Nat}(L:Nm->Bool)(l:List (List Int)):cln L (n+1) (ybm l)=true:=rfl
theorem ybjb(l:List VarR):one1 (yek l)=true:=rfl
theorem ybfc{n:Nat}(l:List VarR):owned (n+1) (yek l)=false:=rfl
theorem yzh{n:Nat}(l:List VarR):scalar (n+1) (yek l)=false:=rfl
theorem ybjt{n:Nat}(o:Own)(l:List VarR):view o (n+1) (yek l)=yek l:=rfl
theorem ybml{n:Nat}(o:Own)(l:List VarR):vok o (n+1) (yek l)=True:=rfl
theorem ybtu{n:Nat}(h:Nm->Nm)(l:List VarR):ren h (n+1) (yek l)=yek l:=rfl
theorem ybnb{n:Nat}(L:Nm->Bool)(l:List VarR):cln L (n+1) (yek l)=true:=rfl
theorem ybjm(l:List SetR):one1 (yhs l)=true:=rfl
theorem ybew{n:Nat}(l:List SetR):owned (n+1) (yhs l)=false:=rfl
theorem yyp{n:Nat}(l:List SetR):scalar (n+1) (yhs l)=false:=rfl
theorem ybkj{n:Nat}(o:Own)(l:List SetR):view o (n+1) (yhs l)=yhs l:=rfl
theorem ybrq{n:Nat}(o:Own)(l:List SetR):vok o (n+1) (yhs l)=True:=rfl
theorem ybwi{n:Nat}(h:Nm->Nm)(l:List SetR):ren h (n+1) (yhs l)=yhs l:=rfl
theorem ybqi{n:Nat}(L:Nm->Bool)(l:List SetR):cln L (n+1) (yhs l)=true:=rfl
theorem ybfk(l:List RuleR):one1 (ycx l)=true:=rfl
theorem yys{n:Nat}(l:List RuleR):owned (n+1) (ycx l)=false:=rfl
theorem yxf{n:Nat}(l:List RuleR):scalar (n+1) (ycx l)=false:=rfl
theorem ybdf{n:Nat}(o:Own)(l:List RuleR):view o (n+1) (ycx l)=ycx l:=rfl
theorem ybip{n:Nat}(o:Own)(l:List RuleR):vok o (n+1) (ycx l)=True:=rfl
theorem ybis{n:Nat}(h:Nm->Nm)(l:List RuleR):ren h (n+1) (ycx l)=ycx l:=rfl
theorem ybjp{n:Nat}(L:Nm->Bool)(l:List RuleR):cln L (n+1) (ycx l)=true:=rfl
theorem ybdn(l:Gr):one1 (ydm l)=true:=rfl
theorem ybbg{n:Nat}(l:Gr):owned (n+1) (ydm l)=false:=rfl
theorem yvx{n:Nat}(l:Gr):scalar (n+1) (ydm l)=false:=rfl
theorem ybdu{n:Nat}(o:Own)(l:Gr):view o (n+1) (ydm l)=ydm l:=rfl
theorem ybkf{n:Nat}(o:Own)(l:Gr):vok o (n+1) (ydm l)=True:=rfl
theorem ybiu{n:Nat}(h:Nm->Nm)(l:Gr):ren h (n+1) (ydm l)=ydm l:=rfl
theorem ybig{n:Nat}(L:Nm->Bool)(l:Gr):cln L (n+1) (ydm l)=true:=rfl
theorem ybco{n:Nat}(fr:List Nm)(o:Own)(l:List Int):yda fr o (n+1) (yw l)=yw l:=rfl
theorem ybrg{n:Nat}(fr:List Nm)(o:Own)(l:List Int):pok fr o (n+1) (yw l)=True:=rfl
theorem ybca{n:Nat}(fr:List Nm)(o:Own)(l:List (Int×Int)):yda fr o (n+1) (ybd l)=ybd l:=rfl
theorem ybib{n:Nat}(fr:List Nm)(o:Own)(l:List (Int×Int)):pok fr o (n+1) (ybd l)=True:=rfl
theorem ybam{n:Nat}(fr:List Nm)(o:Own)(l:List (List (Int×Int))):yda fr o (n+1) (ybe l)=ybe l:=rfl
theorem ybld{n:Nat}(fr:List Nm)(o:Own)(l:List (List (Int×Int))):pok fr o (n+1) (ybe l)=True:=rfl
theorem ybcw{n:Nat}(fr:List Nm)(o:Own)(l:List (List Int)):yda fr o (n+1) (ybm l)=ybm l:=rfl
theorem ybuq{n:Nat}(fr:List Nm)(o:Own)(l:List (List Int)):pok fr o (n+1) (ybm l)=True:=rfl
theorem ybde{n:Nat}(fr:List Nm)(o:Own)(l:List VarR):yda fr o (n+1) (yek l)=yek l:=rfl
theorem ybqk{n:Nat}(fr:List Nm)(o:Own)(l:List VarR):pok fr o (n+1) (yek l)=True:=rfl
theorem ybfo{n:Nat}(fr:List Nm)(o:Own)(l:List SetR):yda fr o (n+1) (yhs l)=yhs l:=rfl
theorem ybsk{n:Nat}(fr:List Nm)(o:Own)(l:List SetR):pok fr o (n+1) (yhs l)=True:=rfl
theorem yyg{n:Nat}(fr:List Nm)(o:Own)(l:List RuleR):yda fr o (n+1) (ycx l)=ycx l:=rfl
theorem ybkw{n:Nat}(fr:List Nm)(o:Own)(l:List RuleR):pok fr o (n+1) (ycx l)=True:=rfl
theorem ybad{n:Nat}(fr:List Nm)(o:Own)(l:Gr):yda fr o (n+1) (ydm l)=ydm l:=rfl
theorem ybks{n:Nat}(fr:List Nm)(o:Own)(l:Gr):pok fr o (n+1) (ydm l)=True:=rfl
theorem ybdp(l:List Int):SV.cells (yw l)=[yw l]:=rfl
theorem ybag(l:List (Int×Int)):SV.cells (ybd l)=[ybd l]:=rfl
theorem yzy(l:List (List (Int×Int))):SV.cells (ybe l)=[ybe l]:=rfl
theorem ybcn(l:List (List Int)):SV.cells (ybm l)=[ybm l]:=rfl
theorem ybce(l:List VarR):SV.cells (yek l)=[yek l]:=rfl
theorem ybcz(l:List SetR):SV.cells (yhs l)=[yhs l]:=rfl
theorem yzd(l:List RuleR):SV.cells (ycx l)=[ycx l]:=rfl
theorem ybaj(l:Gr):SV.cells (ydm l)=[ydm l]:=rfl
attribute [go_sem] ybie yben ybar ybkr ybvh ybun ybva ybct yyx ywu ybcm ybiy ybjz ybka
attribute [go_sem] ybck yyv ywg ybdd ybhy ybkk ybjk ybkb ybdw yzp ybkn ybsf ybqe
attribute [go_sem] ybwb ybjb ybfc yzh ybjt ybml ybtu ybnb ybjm ybew yyp ybkj ybrq ybwi
attribute [go_sem] ybqi ybfk yys yxf ybdf ybip ybis ybjp ybdn ybbg yvx ybdu ybkf
attribute [go_sem] ybiu ybig ybco ybrg ybca ybib ybam ybld ybcw ybuq ybde ybqk ybfo ybsk
attribute [go_sem] yyg ybkw ybad ybks ybdp ybag yzy ybcn ybce ybcz yzd ybaj
end Sh
end
section
open Go.RowKit
theorem yxc(gv:Value)(g:Gr)(w:World)(hg:GrAt w gv g) :
 Calls zD 137 #[gv] w fun e w'=>e = .returned (.bool (ygq g))/\Below w.heap.size w w':=by
 have hg0:=zA hg;obtain⟨i,p,rfl,hi,hp⟩:=hg
 clear hi hp
 cases hv:ygb g with
 | false =>
   have Hf:=zA (show ygq g=false by unfold ygq;rw[hv];rfl)
   go_enter zAP,zBG
   go_wp2_with fail
   refine(yrw _ g _ (hg0.out.below ((Below.refl _ _).alloc (zG _) _))).mono ?_;rintro e w1 ⟨rfl,hb1⟩
   go_wp2_with fail
   go_ret
   exact⟨ybq Hf.out.symm,ybrr hb1⟩
 | true =>
   have hgood:=(yid g).1 hv;have hn1:=hgood.1;have hn24:=hgood.2.1;have Hgood:=zA hgood;have Hd:=zA (yqd hgood (a:=0) (by omega))
   have Hc:=zA (show ygq g=(yci g 0).all (fun x=>decide (0<=x))by unfold ygq;rw[hv];rfl)
   clear hgood
   go_enter zAP,zBG
   go_wp2_with fail
   refine(yrw _ g _ (hg0.out.below ((Below.refl _ _).alloc (zG _) _))).mono ?_;rintro e w1 ⟨rfl,hb1⟩;obtain⟨q0,q1⟩:=ydgy hb1;have Hb1:=zA (ybrr hb1)
   clear hb1
   go_wp2_with fail
   refine(ybkh _ g 0 _ (hg0.out.below Hb1.out) Hgood.out (by omega)).mono ?_
   rintro e w2 ⟨v,rfl,hv2,hb2⟩;have Hb2:=zA (Hb1.out.trans (hb2.mono Hb1.out.size));obtain⟨A,c,rfl,hA1,hA2⟩:=ybx hv2;have Hv2:=zA hv2
   clear hb2 hv2
   obtain⟨D,hD⟩:∃D,yci g 0=D:=⟨_,rfl⟩;rw[hD]at Hv2 Hd hA1 Hc ⊢
   clear hD
   go_wp2
   go_loopg [11] D.length (fun q t wr=>∃k:Nat,q+k=D.length/\t = .int .i64 k/\wr=w2/\Hid (∀j (hj:j<D.length),j<k->0<=D[j]))
   case atStart=>exact⟨0,by omega,rfl,rfl,zA (fun j _ hj=>absurd hj (by omega))⟩
   case round =>
    obtain⟨k,hq,rfl,rfl,hall⟩:=hrel
    by_cases hlt:k<D.length
    .obtain⟨b,off,rfl,hb,hc,hr⟩:=ylq Hv2.out hlt
     by_cases c1:D[k]<0
     .have Hf:=zA (show ygq g=false by
       rw[Hc.out,List.all_eq_false];exact⟨D[k],zS hlt,by simp;omega⟩)
      go_wp2
      go_ret
      exact⟨ybq Hf.out.symm,Hb2.out⟩
     .go_wp2
      go_roundg (gk-1)
      case measure=>omega
      case rel =>
       refine⟨k+1,by omega,by go_num,rfl,zA (fun j hj hjk=>?_)⟩
       by_cases e:j=k
       .subst e;omega
       .exact hall.out j hj (by omega)
    .obtain rfl:k=D.length:=by omega
     have Ht:=zA (show ygq g=true by
      rw[Hc.out,zAB];intro x hx;obtain⟨j,hj,rfl⟩:=List.mem_iff_getElem.1 hx;exact decide_eq_true (hall.out j hj hj))
     go_wp2
     go_ret
     exact⟨ybq Ht.out.symm,Hb2.out⟩
theorem ybfn{g:Gr}(h:ygq g=true):ygb g=true:=(zJ _ _▸h).1
end
section
namespace Sh
open Ev Go.RowKit
theorem ybuh{g:Gr}(hI:GrI g):Returns zD 137 [grV g] (.b (ygq g)):=by
 refine ybhc ⟨_,_,zAP,rfl⟩ (fun _=>.b) (fun _=>.simple rfl) fun G m us hG hr φ M w us' hRl hs hv=>?_;obtain⟨u,rfl,h1⟩:=rvl1 hr;obtain⟨u',rfl,h2⟩:=ygj hv;exact yxc u' g w (yczt hG h1 h2 hRl hs hI)
end Sh
end
section
open Go.RowKit
theorem ykk(g:Gr)(G:List Int)(v:Nat):(ydf g G v).length=G.length:=by simp[ydf]
set_option maxHeartbeats 2000000 in
theorem yor(gv cv Gv:Value)(g:Gr)(c:Conf)(G:List Int)(w:World)(hg:GrAt w gv g)(hc:ycfv w cv c)(hG:ykr w Gv G)(hgood:ybg g) :
 Calls zD 102 #[gv,cv,Gv] w fun e w'=>e = .returned (.bool (yow g.ports.length (ydf g G) c))/\Below w.heap.size w w':=by
 have hn24:=hgood.2.1;have hid:=hgood.2.2.1;have Hid':=zA hid
 clear hgood
 obtain⟨i,p,rfl,hi,hp⟩:=hg;obtain⟨A,c0,rfl,hA1,hA2⟩:=ybx hi;obtain⟨A2,c2,rfl,hB1,hB2⟩:=ybx hp;obtain⟨A3,c3,rfl,hC1,hC2⟩:=ybx hc;obtain⟨A4,c4,rfl,hD1,hD2⟩:=ybx hG;have Hp:=zA hp;have Hc:=zA hc;have HG:=zA hG
 clear hi hp hc hG
 by_cases n1:c.length=g.ids.length
 .have n1':((c.length:Int)!=(g.ids.length:Int))=false:=by simp[n1]
  have Hn:=zA (n1.trans hid);have hcn:c.length<=24:=by omega
  clear n1 hid
  go_enter zAQ,zBH
  go_wp2
  obtain⟨W1,hW1⟩:∃W,W=w.alloc (.cells #[.slice A g.ids.length c0,.slice A2 g.ports.length c2] 27):=⟨_,rfl⟩;have hbox:W1.cell? ⟨w.heap.size,1,none⟩=some (.slice A2 g.ports.length c2):=by subst hW1;simp
  have HbW:=zA (show Below w.heap.size w W1 by subst hW1;exact(Below.refl _ _).alloc (zG _) _)
  rw[<-hW1]
  clear hW1
  go_loopg [21] c.length (fun q t wr=>∃v n:Nat,q+v=c.length/\t = .int .i64 v/\wr=W1.drewN n/\Hid (∀(u:Nat) s,u<v->c[u]?=some s->yfw (ydf g G u) s))
  case atStart=>exact⟨0,0,by omega,rfl,rfl,zA (fun u s hu=>absurd hu (by omega))⟩
  case round =>
   obtain⟨v,n,hq,rfl,rfl,hok⟩:=hrel
   by_cases hlt:v<c.length
   .obtain⟨b3,off3,sv,rfl,hb3,hcs,hs⟩:=yng (Hc.out.below (Stable.sl Stable.int) HbW.out) (zC hlt);obtain⟨A5,c5,rfl,hE1,hE2⟩:=ybx hs;obtain⟨s,hse⟩:∃s,c[v]=s:=⟨_,rfl⟩;have Hs?:=zA (show c[v]?=some s by rw[zC hlt,hse])
    rw[hse]at hs hcs hE1;have Hbad:=zA (show ¬yfw (ydf g G v) s->yow g.ports.length (ydf g G) c=false from fun h=>yie (fun hc=>h (hc.2 v s Hs?.out)))
    have Hs:=zA hs
    clear hs hse
    by_cases c1:s.length=G.length
    .have c1':((s.length:Int)!=(G.length:Int))=false:=by simp[c1]
     have Hsl:=zA c1
     clear c1
     have hvp:v<g.ports.length:=by rw[<-Hn.out];exact hlt
     go_wp2
     obtain⟨go,rfl⟩:∃go,go=gk:=⟨_,rfl⟩
     go_loopg [33] s.length (fun q t wr=>∃x n:Nat,q+x=s.length/\t = .int .i64 x/\wr=W1.drewN n/\Hid (∀(j:Nat) b z,j<x->(ydf g G v)[j]?=some b->s[j]?=some z->b.1<=z/\z<=b.2))
     case atStart=>exact⟨0,n,by omega,rfl,rfl,zA (fun j b z hj=>absurd hj (by omega))⟩
     case round =>
      obtain⟨x,n,hqx,rfl,rfl,hst⟩:=hrel
      by_cases hxl:x<s.length
      .have hxG:x<G.length:=by rw[<-Hsl.out];exact hxl
       obtain⟨b5,o5,rfl,hb5,hc5,hr5⟩:=ylq (Hs.out) hxl;obtain⟨b6,o6,rfl,hb6,hc6,hr6⟩:=ylq (HG.out.below Stable.int HbW.out) hxG;obtain⟨b7,o7,lv,rfl,hb7,hc7,hl7⟩:=yng (Hp.out.below (Stable.sl Stable.link) HbW.out) (zC hvp);obtain⟨A8,c8,rfl,hF1,hF2⟩:=ybx hl7;obtain⟨ds,hds⟩:∃ds,g.ports[v]=ds:=⟨_,rfl⟩;have hdeg:ycsz g v=ds.length:=by simp[ycsz,zM,zC hvp,hds]
       rw[hds]at hc7 hF1;obtain⟨y,hy⟩:∃y,s[x]=y:=⟨_,rfl⟩;obtain⟨h,hh⟩:∃h,G[x]=h:=⟨_,rfl⟩;have Hy?:=zA (show s[x]?=some y by rw[zC hxl,hy])
       have hb?:(ydf g G v)[x]?=some (if h = -1 then(-1,(ds.length:Int)-1)else(0,h)):=by
        simp[ydf,hxG,hh,hdeg]
       rw[hy]at hc5 hr5;rw[hh]at hc6 hr6;obtain⟨hr5a,hr5b⟩:=hr5;obtain⟨hr6a,hr6b⟩:=hr6
       clear hl7 hds hdeg hy hh
       by_cases c2:h = -1
       .have c2':(h == -1)=true:=by simp[c2]
        rw[if_pos c2]at hb?;have Hb?:=zA hb?
        clear hb? c2
        by_cases c3:y < -1
        .have Hf:=zA (Hbad.out (fun h=>by have:=h.2 x _ y Hb?.out Hy?.out;simp only at this;omega))
         go_wp2
         go_quiet (fail)
         go_wp2
         go_quiet (fail)
         go_wp2
         go_ret
         exact⟨ybq Hf.out.symm,below_drewN HbW.out _⟩
        .by_cases c4:(ds.length:Int)-1<y
         .have Hf:=zA (Hbad.out (fun h=>by have:=h.2 x _ y Hb?.out Hy?.out;simp only at this;omega))
          go_wp2
          go_quiet (fail)
          go_wp2
          go_quiet (fail)
          go_wp2
          go_ret
          exact⟨ybq Hf.out.symm,below_drewN HbW.out _⟩
         .have c4d:decide ((ds.length:Int)-1<y)=false:=by simp;omega
          go_wp2
          go_quiet (fail)
          go_wp2
          go_quiet (fail)
          go_wp2
          go_roundg (gk-1)
          case measure=>omega
          case rel =>
           refine⟨x+1,_,by omega,by go_num,rfl,zA (fun j b z hj hb hz=>?_)⟩
           by_cases hjx:j<x
           .exact hst.out j b z hjx hb hz
           .obtain rfl:j=x:=by omega
            rw[Hb?.out]at hb;rw[Hy?.out]at hz;cases hb
            cases hz
            simp only;omega
       .have c2':(h == -1)=false:=by simp[c2]
        rw[if_neg c2]at hb?;have Hb?:=zA hb?
        clear hb? c2
        by_cases c3:y<0
        .have Hf:=zA (Hbad.out (fun h=>by have:=h.2 x _ y Hb?.out Hy?.out;simp only at this;omega))
         go_wp2
         go_quiet (fail)
         go_wp2
         go_ret
         exact⟨ybq Hf.out.symm,below_drewN HbW.out _⟩
        .by_cases c4:h<y
         .have Hf:=zA (Hbad.out (fun h=>by have:=h.2 x _ y Hb?.out Hy?.out;simp only at this;omega))
          go_wp2
          go_quiet (fail)
          go_wp2
          go_ret
          exact⟨ybq Hf.out.symm,below_drewN HbW.out _⟩
         .have c4d:decide (h<y)=false:=by simp;omega
          go_wp2
          go_quiet (fail)
          go_wp2
          go_roundg (gk-1)
          case measure=>omega
          case rel =>
           refine⟨x+1,_,by omega,by go_num,rfl,zA (fun j b z hj hb hz=>?_)⟩
           by_cases hjx:j<x
           .exact hst.out j b z hjx hb hz
           .obtain rfl:j=x:=by omega
            rw[Hb?.out]at hb;rw[Hy?.out]at hz;cases hb
            cases hz
            simp only;omega
      .obtain rfl:x=s.length:=by omega
       go_wp2
       go_roundg (go-1)
       case measure=>omega
       case rel =>
        refine⟨v+1,_,by omega,by go_num,rfl,zA (fun u s' hu hs'=>?_)⟩
        by_cases huv:u<v
        .exact hok.out u s' huv hs'
        .obtain rfl:u=v:=by omega
         rw[Hs?.out]at hs';cases hs'
         refine⟨by rw[ykk,Hsl.out],fun j b z hb hz=>hst.out j b z (List.getElem?_eq_some_iff.1 hz).1 hb hz⟩
    .have c1':((s.length:Int)!=(G.length:Int))=true:=by simp;omega
     have Hf:=zA (Hbad.out (fun h=>c1 (by rw[h.1,ykk])))
     clear c1
     go_wp2
     go_ret
     exact⟨ybq Hf.out.symm,below_drewN HbW.out _⟩
   .obtain rfl:v=c.length:=by omega
    have Ht:=zA (yup (n:=g.ports.length) (bs:=ydf g G) (c:=c) ⟨Hn.out,fun v s hs=>hok.out v s (List.getElem?_eq_some_iff.1 hs).1 hs⟩)
    go_wp2
    go_ret
    exact⟨ybq Ht.out.symm,below_drewN HbW.out _⟩
 .have n1':((c.length:Int)!=(g.ids.length:Int))=true:=by simp;omega
  have Hf:=zA (yie (n:=g.ports.length) (bs:=ydf g G) (c:=c) (fun h=>n1 (h.1.trans hid.symm)))
  clear n1 hid
  go_enter zAQ,zBH
  go_wp2
  go_ret
  exact⟨ybq Hf.out.symm,(Below.refl _ _).alloc (zG _) _⟩
end
section
namespace Sh
open Ev Go.RowKit
theorem ybyk{g:Gr}(hg:ybg g){c:Conf}(hR:yccl c){G:List Int}(hG:∀x∈G,I64 x):Returns zD 102 [grV g,ybm c,yw G] (.b (yow g.ports.length (ydf g G) c)):=by
 refine ybhc ⟨_,_,zAQ,rfl⟩ (fun _=>.b) (fun _=>.simple rfl) fun H m us hH hr φ M w us' hRl hs hv=>?_
 obtain⟨u,us2,rfl,h1,h2⟩:∃u us2,us=u::us2/\RV H om0 (grV g) u/\RVL H om0 [ybm c,yw G] us2:=by
  cases hr with|cons x y=>exact⟨_,_,rfl,x,y⟩
 obtain⟨u2,u3,rfl,h3,h4⟩:=rvl2 h2
 obtain⟨u',us3,rfl,h5,h6⟩:∃u' us3,us'=u'::us3/\VR φ u u'/\VRL φ [u2,u3] us3:=by
  cases hv with|cons x y=>exact⟨_,_,rfl,x,y⟩
 obtain⟨u2',u3',rfl,h7,h8⟩:=yxb h6;exact yor u' u2' u3' g c G w (yczt hH h1 h5 hRl hs (ycyy hg)) (ycyk hH h3 h7 hRl hs hR) (ints_at hH h4 h8 hRl hs hG) hg
end Sh
end
section
open Go.RowKit
end
section
open Go.RowKit
end
section
namespace Sh
open Ev Go.RowKit
end Sh
end
section
namespace Sh
open Go Ev
def yve:List Nat:=[0,1,1,2,1,2,2,3,1,2,2,3,2,3,3,4,1,2,2,3,2,3,3,4,2,3,3,4,3,4,4,5,1,2,2,3,2,3,3,4,2,3,3,4,3,4,4,5,2,3,3,4,3,4,4,5,3,4,4,5,4,5,5,6,1,2,2,3,2,3,3,4,2,3,3,4,3,4,4,5,2,3,3,4,3,4,4,5,3,4,4,5,4,5,5,6,2,3,3,4,3,4,4,5,3,4,4,5,4,5,5,6,3,4,4,5,4,5,5,6,4,5,5,6,5,6,6,7,1,2,2,3,2,3,3,4,2,3,3,4,3,4,4,5,2,3,3,4,3,4,4,5,3,4,4,5,4,5,5,6,2,3,3,4,3,4,4,5,3,4,4,5,4,5,5,6,3,4,4,5,4,5,5,6,4,5,5,6,5,6,6,7,2,3,3,4,3,4,4,5,3,4,4,5,4,5,5,6,3,4,4,5,4,5,5,6,4,5,5,6,5,6,6,7,3,4,4,5,4,5,5,6,4,5,5,6,5,6,6,7,4,5,5,6,5,6,6,7,5,6,6,7,6,7,7,8]
def ycih:LO:=[o3 (.box 87 (.tmp 0)) 3 0,o3 (.box 27 (.tmp 1)) 4 0,o3 (.mv (ci' 0)) 6 0,o3 (.mv (ci' 0)) 7 4]
def ycrl:LO:=[o3 (.build [.i .i64 0,.a (.nilFunc)] [(0,1,(ci' 1)),(1,1,(.func 198))]) 11 0,o3 (.build [.i .i64 0,.a (.nilFunc)] [(0,1,(ci' 2)),(1,1,(.func 199))]) 12 0,o3 (.build [.i .i64 0,.a (.nilFunc)] [(0,1,(ci' 3)),(1,1,(.func 200))]) 13 0,o3 (.bslice 209 2 3 [.i .i64 0,.a (.nilFunc),.i .i64 0,.a (.nilFunc),.i .i64 0,.a (.nilFunc)] [(0,2,(.tmp 11)),(2,2,(.tmp 12)),(4,2,(.tmp 13))]) 14 7,mv' 14 8 15]
def ycne:LO:=[mv' 8 15 0,ln' 15 16 1,o3 (.mv (ci' 0)) 17 0]
def ybgj:LO:=[bn' .lss 17 16 18 0]
def ybhj:LO:=[ix' 2 15 17 19 0,ld' true 2 19 20 1,o3 (.alloc 209 1 [.i .i64 0,.a (.nilFunc)]) 10 0,o0 (.store 2 (.tmp 10) (.tmp 20)) 7]
def ybhx:LO:=[fa' 0 1 10 21 0,ld' false 1 21 22 1,fa' 1 1 3 23 0,ld' false 1 23 24 4,bn' .eql 22 24 25 15]
def ybgr:LO:=[fa' 1 1 10 26 0,ld' false 1 26 27 1,ld' true 6 3 28 0,ld' true 2 4 29 0,mv' 2 30 0,o3 (.call (.tmp 27) [(.tmp 28),(.tmp 29),(.tmp 30)]) 31 31,xt' 31 0 32 63,xt' 31 1 33 63,mv' 32 6 255,mv' 33 7 511]
def ybfx:LO:=[o3 (.bin .add (.tmp 17) (ci' 1)) 34 0,mv' 34 17 1]
def ybgi:LO:=[o3 (.mv (ci' 0)) 6 0,o3 (.mv (.const (.int .i64 (-1)))) 7 1]
def c171:SC:=(.seq (.reg false ycih) (.seq (.reg false ycrl) (.seq (.seq (.reg false ycne) (.block 0 (.loop (.seq (.reg false ybgj) (.seq (.cond (.tmp 18) .skip (.exit 0)) (.seq (.block 1 (.seq (.reg false ybhj) (.seq (.reg false ybhx) (.cond (.tmp 25) (.seq (.reg false ybgr) .ret) .skip)))) (.reg false ybfx))))))) (.seq (.reg false ybgi) .ret))))
theorem ycut:Fn 171 c171 [.t 6,.t 7]:=fn_0 Tryz.func171 (by kernel_rfl) (by kernel_rfl)
def ycnq:LO:=[o3 (.box 87 (.tmp 0)) 3 0,o3 (.box 27 (.tmp 1)) 4 0,o3 (.mv (ci' 0)) 6 0,o3 (.mv (ci' 0)) 7 4]
def ycfl:LO:=[fa' 2 1 3 8 0,ld' false 1 8 9 1,fa' 3 1 3 10 0,ld' false 1 10 11 4,fa' 4 1 3 12 0,ld' false 1 12 13 16,fa' 0 1 4 14 0,ld' false 1 14 15 64,ln' 15 16 192,bn' .mul 13 16 17 496,bn' .add 11 17 18 1020,fa' 5 1 3 19 0,ld' false 1 19 20 2048,fa' 0 1 4 21 0,ld' false 1 21 22 8192,cl' 160 [22] 23 24576,bn' .mul 20 23 24 63488,bn' .add 18 24 25 131068,mv' 9 6 57347,mv' 25 7 524287]
def c198:SC:=(.seq (.reg false ycnq) (.seq (.reg true ycfl) .ret))
theorem ycxh:Fn 198 c198 [.t 6,.t 7]:=fn_0 Tryz.func198 (by kernel_rfl) (by kernel_rfl)
def ychj:LO:=[o3 (.box 87 (.tmp 0)) 3 0,o3 (.box 27 (.tmp 1)) 4 0,o3 (.mv (ci' 0)) 6 0,o3 (.mv (ci' 0)) 7 4]
def ycly:LO:=[o3 (.mv (ci' 0)) 6 0,o3 (.mv (ci' 1)) 7 1]
def c199:SC:=(.seq (.reg false ychj) (.seq (.reg false ycly) .ret))
theorem yczu:Fn 199 c199 [.t 6,.t 7]:=fn_0 Tryz.func199 (by kernel_rfl) (by kernel_rfl)
def yckj:LO:=[o3 (.box 87 (.tmp 0)) 3 0,o3 (.box 27 (.tmp 1)) 4 0,o3 (.mv (ci' 0)) 6 0,o3 (.mv (ci' 0)) 7 4]
def ycdn:LO:=[fa' 1 1 4 8 0,ld' false 1 8 9 1,mv' 2 10 0,ix' 1 9 10 11 7,ld' false 1 11 12 15,ln' 12 13 31,o3 (.bin .sub (.tmp 13) (ci' 1)) 14 63,o3 (.mv (.const (.int .i64 (-1)))) 6 0,mv' 14 7 255]
def c200:SC:=(.seq (.reg false yckj) (.seq (.reg true ycdn) .ret))
theorem ydal:Fn 200 c200 [.t 6,.t 7]:=fn_0 Tryz.func200 (by kernel_rfl) (by kernel_rfl)
def ycit:LO:=[o3 (.box 58 (.tmp 0)) 2 0,o3 (.box 27 (.tmp 1)) 3 0,o3 (.mv (.const (.slice none 0 0))) 4 0]
def ycpi:LO:=[fa' 0 1 3 9 0,ld' false 1 9 10 1,ln' 10 11 3,o3 (.mk 73 1 24 [.a (.slice none 0 0)] (.tmp 11) (.tmp 11)) 12 7,mv' 12 5 15]
def ycfi:LO:=[mv' 5 13 0,ln' 13 14 1,o3 (.mv (ci' 0)) 15 0]
def yclk:LO:=[bn' .lss 15 14 16 0]
def ycfj:LO:=[mv' 15 17 0,mv' 17 6 1]
def ycix:LO:=[mv' 5 18 0,mv' 6 19 0,fa' 1 1 2 20 0,ld' false 1 20 21 4,ln' 21 22 12,o3 (.mk 75 2 16 [.i .i64 0,.i .i64 0] (.tmp 22) (.tmp 22)) 23 28,ix' 1 18 19 24 63,o0 (.store 1 (.tmp 24) (.tmp 23)) 127]
def ycgw:LO:=[fa' 1 1 2 25 0,ld' false 1 25 26 1,ln' 26 27 3,o3 (.mv (ci' 0)) 28 0]
def ycot:LO:=[bn' .lss 28 27 29 0]
def ycqa:LO:=[mv' 28 30 0,ix' 6 26 28 31 0,ld' true 6 31 32 2,o3 (.alloc 87 1 [.a (.string (ByteArray.mk #[])),.i .i64 0,.i .i64 0,.i .i64 0,.i .i64 0,.i .i64 0]) 8 0,mv' 30 7 15,o0 (.store 6 (.tmp 8) (.tmp 32)) 31]
def yckv:LO:=[mv' 5 34 0,mv' 6 35 0,ix' 1 34 35 36 3,ld' false 1 36 37 7,mv' 7 38 0,mv' 5 39 0,mv' 6 40 0,ix' 1 39 40 41 96,ld' false 1 41 42 224,mv' 7 43 0,ld' true 6 8 44 0,ld' true 2 3 45 0,mv' 6 46 0,cl' 171 [44,45,46] 47 7168,mv' 47 33 15360,xt' 33 0 48 31744,xt' 33 1 49 31744,ix' 2 37 38 50 31,o3 (.idxA 2 1 (.tmp 50) (ci' 0)) 51 196095,o0 (.store 1 (.tmp 51) (.tmp 48)) 458239,ix' 2 42 43 52 992,o3 (.idxA 2 1 (.tmp 52) (ci' 1)) 53 2097151,o0 (.store 1 (.tmp 53) (.tmp 49)) 4194303]
def ybqt:LO:=[o3 (.bin .add (.tmp 28) (ci' 1)) 54 0,mv' 54 28 1]
def ybqr:LO:=[o3 (.bin .add (.tmp 15) (ci' 1)) 55 0,mv' 55 15 1]
def ybqx:LO:=[mv' 5 56 0,mv' 56 4 1]
def c144:SC:=(.seq (.reg false ycit) (.seq (.reg false ycpi) (.seq (.seq (.reg false ycfi) (.block 0 (.loop (.seq (.reg false yclk) (.seq (.cond (.tmp 16) .skip (.exit 0)) (.seq (.block 1 (.seq (.reg false ycfj) (.seq (.reg false ycix) (.seq (.reg false ycgw) (.block 2 (.loop (.seq (.reg false ycot) (.seq (.cond (.tmp 29) .skip (.exit 2)) (.seq (.block 3 (.seq (.reg false ycqa) (.reg true yckv))) (.reg false ybqt)))))))))) (.reg false ybqr))))))) (.seq (.reg false ybqx) .ret))))
theorem yctb:Fn 144 c144 [.t 4]:=fn_0 Tryz.func144 (by kernel_rfl) (by kernel_rfl)
def ycgn:LO:=[o3 (.box 75 (.tmp 1)) 4 0,o3 (.mv (ci' 0)) 6 0]
def ycdm:LO:=[mv' 2 8 0,o3 (.idxA 2 1 (.tmp 4) (ci' 0)) 9 0,ld' false 1 9 10 2,bn' .geq 8 10 11 7,mv' 11 12 15,⟨.mv (.tmp 2),some 13,some (12,true),31⟩,⟨.idxA 2 1 (.tmp 4) (ci' 1),some 14,some (12,true),31⟩,⟨.load false 1 (.tmp 14),some 15,some (12,true),95⟩,⟨.bin .leq (.tmp 13) (.tmp 15),some 16,some (12,true),255⟩,o3 (.pick (.tmp 12) (.tmp 16) (.const (.bool false))) 17 511,mv' 17 7 1023]
def ycet:LO:=[mv' 2 18 0,mv' 18 6 1]
def ycok:LO:=[mv' 0 20 0,o3 (.bin .eql (.tmp 20) (ci' 3)) 21 1,mv' 21 19 3]
def ycqi:LO:=[o3 (.mv (.const (.int .i64 (-1)))) 6 0]
def ycdw:LO:=[mv' 2 23 0,o3 (.idxA 2 1 (.tmp 4) (ci' 0)) 24 0,ld' false 1 24 25 2,bn' .lss 23 25 26 7,mv' 26 22 15]
def ycil:LO:=[o3 (.idxA 2 1 (.tmp 4) (ci' 0)) 27 0,ld' false 1 27 28 1,mv' 28 6 3]
def ycln:LO:=[o3 (.idxA 2 1 (.tmp 4) (ci' 1)) 29 0,ld' false 1 29 30 1,mv' 30 6 3]
def c194:SC:=(.seq (.reg false ycgn) (.seq (.block 0 (.seq (.reg false ycdm) (.cond (.tmp 7) (.seq (.reg false ycet) .ret) (.seq (.reg false ycok) (.cond (.tmp 19) (.seq (.reg false ycqi) .ret) (.seq (.reg false ycdw) (.cond (.tmp 22) (.seq (.reg false ycil) .ret) .skip))))))) (.seq (.reg false ycln) .ret)))
theorem yctv:Fn 194 c194 [.t 6]:=fn_0 Tryz.func194 (by kernel_rfl) (by kernel_rfl)
def ycqx:LO:=[o3 (.box 58 (.tmp 0)) 2 0,o3 (.box 27 (.tmp 1)) 3 0,o3 (.mv (ci' 0)) 4 0]
def ycnj:LO:=[ld' true 3 2 9 0,cl' 191 [9] 10 1,o3 (.un .not (.tmp 10)) 11 3]
def ycqy:LO:=[o3 (.mv (ci' 8)) 4 0]
def ycgp:LO:=[ld' true 2 3 12 0,cl' 96 [12] 13 1,o3 (.un .not (.tmp 13)) 14 3]
def ycmq:LO:=[o3 (.mv (ci' 1)) 4 0]
def ycko:LO:=[fa' 1 1 2 15 0,ld' false 1 15 16 1,ln' 16 17 3,o3 (.mv (ci' 0)) 18 0]
def ycop:LO:=[bn' .lss 18 17 19 0]
def ycsu:LO:=[ix' 6 16 18 20 0,ld' true 6 20 21 1,o3 (.alloc 87 1 [.a (.string (ByteArray.mk #[])),.i .i64 0,.i .i64 0,.i .i64 0,.i .i64 0,.i .i64 0]) 6 0,o0 (.store 6 (.tmp 6) (.tmp 21)) 7]
def ycjx:LO:=[fa' 1 1 6 22 0,ld' false 1 22 23 1,o3 (.bin .neq (.tmp 23) (ci' 1)) 24 3]
def ycqp:LO:=[ld' true 6 6 26 0,ld' true 2 3 27 0,o3 (.call (.func 171) [(.tmp 26),(.tmp 27),(ci' 0)]) 28 3,mv' 28 25 7,xt' 25 0 29 15,xt' 25 1 30 15,mv' 29 7 31,mv' 30 8 127]
def ybmq:LO:=[mv' 8 31 0,mv' 7 32 0,bn' .lss 31 32 33 3,mv' 33 34 7,⟨.mv (.tmp 8),some 35,some (34,false),15⟩,⟨.mv (.tmp 7),some 36,some (34,false),15⟩,⟨.bin .sub (.tmp 35) (.tmp 36),some 37,some (34,false),63⟩,⟨.bin .add (.tmp 37) (ci' 1),some 38,some (34,false),127⟩,⟨.bin .gtr (.tmp 38) (ci' 4096),some 39,some (34,false),255⟩,o3 (.pick (.tmp 34) (.const (.bool true)) (.tmp 39)) 40 511]
def yblu:LO:=[o3 (.mv (ci' 9)) 4 0]
def ybvj:LO:=[o3 (.bin .add (.tmp 18) (ci' 1)) 41 0,mv' 41 18 1]
def ybmo:LO:=[o3 (.mv (ci' 0)) 4 0]
def c155:SC:=(.seq (.reg false ycqx) (.seq (.seq (.reg false ycnj) (.cond (.tmp 11) (.seq (.reg false ycqy) .ret) .skip)) (.seq (.seq (.reg false ycgp) (.cond (.tmp 14) (.seq (.reg false ycmq) .ret) .skip)) (.seq (.seq (.reg false ycko) (.block 0 (.loop (.seq (.reg false ycop) (.seq (.cond (.tmp 19) .skip (.exit 0)) (.seq (.block 1 (.seq (.reg false ycsu) (.seq (.seq (.reg false ycjx) (.cond (.tmp 24) (.exit 1) .skip)) (.seq (.reg false ycqp) (.seq (.reg false ybmq) (.cond (.tmp 40) (.seq (.reg false yblu) .ret) .skip)))))) (.reg false ybvj))))))) (.seq (.reg false ybmo) .ret)))))
theorem yctr:Fn 155 c155 [.t 4]:=fn_0 Tryz.func155 (by kernel_rfl) (by kernel_rfl)
def yceg:LO:=[o3 (.box 58 (.tmp 0)) 3 0,o3 (.box 27 (.tmp 1)) 4 0,o3 (.mv (ci' 0)) 6 0]
def ycro:LO:=[ld' true 3 3 8 0,ld' true 2 4 9 0,cl' 155 [8,9] 10 3,mv' 10 7 7]
def ycfq:LO:=[mv' 7 11 0,o3 (.bin .neq (.tmp 11) (ci' 0)) 12 1]
def ycnv:LO:=[mv' 7 13 0,mv' 13 6 1]
def ycer:LO:=[ld' true 3 3 14 0,ld' true 2 4 15 0,cl' 144 [14,15] 16 3,mv' 2 17 0,cl' 156 [16,17] 18 15,o3 (.un .not (.tmp 18)) 19 31]
def yckz:LO:=[o3 (.mv (ci' 10)) 6 0]
def ycqu:LO:=[o3 (.mv (ci' 0)) 6 0]
def c112:SC:=(.seq (.reg false yceg) (.seq (.seq (.reg false ycro) (.seq (.reg false ycfq) (.cond (.tmp 12) (.seq (.reg false ycnv) .ret) .skip))) (.seq (.seq (.reg false ycer) (.cond (.tmp 19) (.seq (.reg false yckz) .ret) .skip)) (.seq (.reg false ycqu) .ret))))
theorem yczj:Fn 112 c112 [.t 6]:=fn_0 Tryz.func112 (by kernel_rfl) (by kernel_rfl)
def ycoc:LO:=[o3 (.mv (.const (.bool false))) 4 0]
def ycnl:LO:=[mv' 1 7 0,ln' 7 8 1,mv' 0 9 0,ln' 9 10 4,bn' .neq 8 10 11 15]
def ycon:LO:=[o3 (.mv (.const (.bool false))) 4 0]
def ycmv:LO:=[mv' 0 12 0,ln' 12 13 1,o3 (.mv (ci' 0)) 14 0]
def ycgr:LO:=[bn' .lss 14 13 15 0]
def ycsm:LO:=[mv' 14 16 0,ix' 1 12 14 17 0,ld' false 1 17 18 2,mv' 16 5 7,mv' 18 6 15]
def ycku:LO:=[mv' 6 19 0,mv' 1 20 0,mv' 5 21 0,ix' 1 20 21 22 6,ld' false 1 22 23 14,cl' 192 [19,23] 24 31,o3 (.un .not (.tmp 24)) 25 63]
def ycgx:LO:=[o3 (.mv (.const (.bool false))) 4 0]
def ycsb:LO:=[o3 (.bin .add (.tmp 14) (ci' 1)) 26 0,mv' 26 14 1]
def ycpt:LO:=[o3 (.mv (.const (.bool true))) 4 0]
def c156:SC:=(.seq (.reg false ycoc) (.seq (.seq (.reg false ycnl) (.cond (.tmp 11) (.seq (.reg false ycon) .ret) .skip)) (.seq (.seq (.reg false ycmv) (.block 0 (.loop (.seq (.reg false ycgr) (.seq (.cond (.tmp 15) .skip (.exit 0)) (.seq (.block 1 (.seq (.reg false ycsm) (.seq (.reg false ycku) (.cond (.tmp 25) (.seq (.reg false ycgx) .ret) .skip)))) (.reg false ycsb))))))) (.seq (.reg false ycpt) .ret))))
theorem ycza:Fn 156 c156 [.t 4]:=fn_0 Tryz.func156 (by kernel_rfl) (by kernel_rfl)
def ycfr:LO:=[o3 (.mv (.const (.bool false))) 4 0]
def ycmw:LO:=[mv' 1 7 0,ln' 7 8 1,mv' 0 9 0,ln' 9 10 4,bn' .neq 8 10 11 15]
def ycmn:LO:=[o3 (.mv (.const (.bool false))) 4 0]
def ychk:LO:=[mv' 1 12 0,ln' 12 13 1,o3 (.mv (ci' 0)) 14 0]
def ycrg:LO:=[bn' .lss 14 13 15 0]
def ycdv:LO:=[mv' 14 16 0,ix' 1 12 14 17 0,ld' false 1 17 18 2,mv' 16 5 7,mv' 18 6 15]
def ycru:LO:=[mv' 6 19 0,mv' 0 20 0,mv' 5 21 0,ix' 2 20 21 22 6,o3 (.idxA 2 1 (.tmp 22) (ci' 0)) 23 14,ld' false 1 23 24 30,bn' .lss 19 24 25 63,mv' 25 26 127,⟨.mv (.tmp 6),some 27,some (26,false),255⟩,⟨.mv (.tmp 0),some 28,some (26,false),255⟩,⟨.mv (.tmp 5),some 29,some (26,false),255⟩,⟨.idx 2 (.tmp 28) (.tmp 29),some 30,some (26,false),1791⟩,⟨.idxA 2 1 (.tmp 30) (ci' 1),some 31,some (26,false),3839⟩,⟨.load false 1 (.tmp 31),some 32,some (26,false),7935⟩,⟨.bin .gtr (.tmp 27) (.tmp 32),some 33,some (26,false),16383⟩,o3 (.pick (.tmp 26) (.const (.bool true)) (.tmp 33)) 34 32767]
def ycjg:LO:=[o3 (.mv (.const (.bool false))) 4 0]
def ycpd:LO:=[o3 (.bin .add (.tmp 14) (ci' 1)) 35 0,mv' 35 14 1]
def ycos:LO:=[o3 (.mv (.const (.bool true))) 4 0]
def c192:SC:=(.seq (.reg false ycfr) (.seq (.seq (.reg false ycmw) (.cond (.tmp 11) (.seq (.reg false ycmn) .ret) .skip)) (.seq (.seq (.reg false ychk) (.block 0 (.loop (.seq (.reg false ycrg) (.seq (.cond (.tmp 15) .skip (.exit 0)) (.seq (.block 1 (.seq (.reg false ycdv) (.seq (.reg false ycru) (.cond (.tmp 34) (.seq (.reg false ycjg) .ret) .skip)))) (.reg false ycpd))))))) (.seq (.reg false ycos) .ret))))
theorem ycun:Fn 192 c192 [.t 4]:=fn_0 Tryz.func192 (by kernel_rfl) (by kernel_rfl)
def ybrx:LO:=[o3 (.mv (.const (.slice none 0 0))) 2 0]
def ybpj:LO:=[mv' 0 6 0,ln' 6 7 1,o3 (.mk 22 1 24 [.a (.slice none 0 0)] (.tmp 7) (.tmp 7)) 8 3,mv' 8 3 7]
def ybpo:LO:=[mv' 0 9 0,ln' 9 10 1,o3 (.mv (ci' 0)) 11 0]
def yzi:LO:=[bn' .lss 11 10 12 0]
def yzo:LO:=[mv' 11 13 0,ix' 1 9 11 14 0,ld' false 1 14 15 2,mv' 13 4 7,mv' 15 5 15]
def ybbm:LO:=[mv' 3 16 0,mv' 4 17 0,mv' 5 18 0,o3 (.app 3 1 8 (.const (.slice none 0 0)) (.tmp 18)) 19 4,ix' 1 16 17 20 15,o0 (.store 1 (.tmp 20) (.tmp 19)) 31]
def yzc:LO:=[o3 (.bin .add (.tmp 11) (ci' 1)) 21 0,mv' 21 11 1]
def yyu:LO:=[mv' 3 22 0,mv' 22 2 1]
def c132:SC:=(.seq (.reg false ybrx) (.seq (.reg false ybpj) (.seq (.seq (.reg false ybpo) (.block 0 (.loop (.seq (.reg false yzi) (.seq (.cond (.tmp 12) .skip (.exit 0)) (.seq (.block 1 (.seq (.reg false yzo) (.reg false ybbm))) (.reg false yzc))))))) (.seq (.reg false yyu) .ret))))
theorem ycyw:Fn 132 c132 [.t 2]:=fn_0 zBK (by kernel_rfl) (by kernel_rfl)
theorem ybxp:FnM 132 c132 [.t 2]:=fn_m zBK (by kernel_rfl) (by kernel_rfl)
def ydck:LO:=[o3 (.box 58 (.tmp 0)) 2 0,o3 (.box 27 (.tmp 1)) 3 0,o3 (.mv (.const (.pointer none))) 4 0]
def yddr:LO:=[ld' true 3 2 5 0,ld' true 3 2 6 0,ld' true 2 3 7 0,cl' 143 [6,7] 8 6,ld' true 3 2 9 0,ld' true 2 3 10 0,cl' 144 [9,10] 11 62,o3 (.build [.a (.string (ByteArray.mk #[])),.a (.slice none 0 0),.a (.slice none 0 0),.a (.pointer none),.a (.slice none 0 0)] [(0,3,(.tmp 5)),(3,1,(.tmp 8)),(4,1,(.tmp 11))]) 12 127,o3 (.box 140 (.tmp 12)) 13 255,mv' 13 4 511]
def c93:SC:=(.seq (.reg false ydck) (.seq (.reg true yddr) .ret))
theorem ydeq:Fn 93 c93 [.t 4]:=fn_0 Tryz.func93 (by kernel_rfl) (by kernel_rfl)
def ycfx:LO:=[o3 (.mv (ci' 0)) 6 0]
def yciu:LO:=[mv' 0 8 0,o3 (.nilck (.tmp 8)) 9 1,fa' 0 3 9 10 3,fa' 2 1 10 11 7,ld' false 1 11 12 15,ln' 12 13 31,o3 (.mv (ci' 0)) 14 0]
def yckc:LO:=[bn' .lss 14 13 15 0]
def ycpu:LO:=[mv' 14 16 0,mv' 16 7 1]
def ycof:LO:=[mv' 0 17 0,o3 (.nilck (.tmp 17)) 18 1,fa' 3 1 18 19 3,ld' false 1 19 20 7,mv' 1 21 0,mv' 2 22 0,mv' 7 23 0,cl' 172 [20,21,22,23] 24 127]
def ycmc:LO:=[mv' 7 25 0,mv' 25 6 1]
def yclx:LO:=[o3 (.bin .add (.tmp 14) (ci' 1)) 26 0,mv' 26 14 1]
def ycnu:LO:=[o3 (.mv (.const (.int .i64 (-1)))) 6 0]
def c147:SC:=(.seq (.reg false ycfx) (.seq (.seq (.reg false yciu) (.block 0 (.loop (.seq (.reg false yckc) (.seq (.cond (.tmp 15) .skip (.exit 0)) (.seq (.block 1 (.seq (.reg false ycpu) (.seq (.reg false ycof) (.cond (.tmp 24) (.seq (.reg false ycmc) .ret) .skip)))) (.reg false yclx))))))) (.seq (.reg false ycnu) .ret)))
theorem ycxg:Fn 147 c147 [.t 6]:=fn_0 Tryz.func147 (by kernel_rfl) (by kernel_rfl)
def ydcr:LO:=[o3 (.box 99 (.tmp 0)) 2 0,o3 (.box 34 (.tmp 1)) 3 0,o3 (.mv (.const (.int .u32 0))) 4 0]
def ydgs:LO:=[ld' false 1 2 5 0,o3 (.nilck (.tmp 5)) 6 1,fa' 4 1 6 7 3,ld' false 1 7 8 7,ln' 8 9 15,o3 (.mkfn 146 [] [(.tmp 2),(.tmp 3)]) 10 0,cl' 145 [9,10] 11 63,mv' 11 4 127]
def c94:SC:=(.seq (.reg false ydcr) (.seq (.reg false ydgs) .ret))
theorem yddn:Fn 94 c94 [.t 4]:=fn_0 Tryz.func94 (by kernel_rfl) (by kernel_rfl)
def ycoa:LO:=[o3 (.mv (.const (.bool false))) 4 0]
def ycry:LO:=[ld' false 1 1 5 0,ld' false 1 2 6 0,mv' 0 7 0,cl' 147 [5,6,7] 8 7,o3 (.bin .geq (.tmp 8) (ci' 0)) 9 15,mv' 9 4 31]
def c146:SC:=(.seq (.reg false ycoa) (.seq (.reg false ycry) .ret))
theorem ycud:Fn 146 c146 [.t 4]:=fn_0 Tryz.func146 (by kernel_rfl) (by kernel_rfl)
def ycjh:LO:=[o3 (.mv (.const (.slice none 0 0))) 8 0]
def ycrq:LO:=[mv' 1 13 0,mv' 2 14 0,ix' 1 13 14 15 3,ld' false 1 15 16 7,o3 (.app 3 1 8 (.const (.slice none 0 0)) (.tmp 16)) 17 15,mv' 17 9 31]
def yclq:LO:=[mv' 0 18 0,o3 (.nilck (.tmp 18)) 19 1,fa' 0 3 19 20 3,fa' 2 1 20 21 7,ld' false 1 21 22 15,mv' 3 23 0,ix' 3 22 23 24 63,fa' 2 1 24 25 127,ld' false 1 25 26 255,ln' 26 27 511,o3 (.mv (ci' 0)) 28 0]
def ycgk:LO:=[bn' .lss 28 27 29 0]
def yckm:LO:=[ix' 2 26 28 30 0,ld' true 2 30 31 1,o3 (.alloc 200 1 [.i .i64 0,.a (.slice none 0 0)]) 11 0,o0 (.store 2 (.tmp 11) (.tmp 31)) 7]
def ycgm:LO:=[mv' 0 32 0,o3 (.nilck (.tmp 32)) 33 1,fa' 3 1 33 34 3,ld' false 1 34 35 7,mv' 1 36 0,mv' 2 37 0,fa' 1 1 11 38 0,ld' false 1 38 39 64,cl' 193 [35,36,37,39] 40 255,mv' 40 12 511]
def ycmt:LO:=[mv' 9 41 0,fa' 0 1 11 42 0,ld' false 1 42 43 2,mv' 0 44 0,o3 (.nilck (.tmp 44)) 45 8,fa' 0 3 45 46 24,fa' 1 1 46 47 56,ld' false 1 47 48 120,fa' 0 1 11 49 0,ld' false 1 49 50 256,ix' 6 48 50 51 1016,fa' 1 1 51 52 2040,ld' false 1 52 53 4088,mv' 0 54 0,o3 (.nilck (.tmp 54)) 55 8192,fa' 4 1 55 56 24576,ld' false 1 56 57 57344,mv' 2 58 0,ix' 1 57 58 59 253952,ld' false 1 59 60 516096,fa' 0 1 11 61 0,ld' false 1 61 62 1048576,ix' 2 60 62 63 4186112,ld' true 2 63 64 8380416,mv' 12 65 0,cl' 194 [53,64,65] 66 33554424,ix' 1 41 43 67 67108863,o0 (.store 1 (.tmp 67) (.tmp 66)) 134217727]
def ycna:LO:=[o3 (.bin .add (.tmp 28) (ci' 1)) 68 0,mv' 68 28 1]
def ycpn:LO:=[mv' 9 69 0,mv' 69 8 1]
def c157:SC:=(.seq (.reg false ycjh) (.seq (.reg false ycrq) (.seq (.seq (.reg false yclq) (.block 0 (.loop (.seq (.reg false ycgk) (.seq (.cond (.tmp 29) .skip (.exit 0)) (.seq (.block 1 (.seq (.reg false yckm) (.seq (.reg true ycgm) (.reg true ycmt)))) (.reg false ycna))))))) (.seq (.reg false ycpn) .ret))))
theorem ydai:Fn 157 c157 [.t 8]:=fn_0 Tryz.func157 (by kernel_rfl) (by kernel_rfl)
def ycez:LO:=[o3 (.mv (.const (.slice none 0 0))) 6 0]
def ycnk:LO:=[mv' 1 9 0,cl' 132 [9] 10 1,mv' 10 7 3]
def ycjv:LO:=[mv' 1 11 0,ln' 11 12 1,o3 (.mv (ci' 0)) 13 0]
def yclo:LO:=[bn' .lss 13 12 14 0]
def ycgz:LO:=[mv' 13 15 0,mv' 15 8 1]
def ycqt:LO:=[mv' 2 16 0,mv' 8 17 0,bn' .shr 16 17 18 3,o3 (.bin .and (.tmp 18) (.const (.int .u32 1))) 19 7,o3 (.bin .eql (.tmp 19) (.const (.int .u32 1))) 20 15]
def ycow:LO:=[mv' 7 21 0,mv' 8 22 0,mv' 0 23 0,mv' 1 24 0,mv' 8 25 0,mv' 0 26 0,mv' 1 27 0,mv' 8 28 0,cl' 147 [26,27,28] 29 224,cl' 157 [23,24,25,29] 30 508,ix' 1 21 22 31 1023,o0 (.store 1 (.tmp 31) (.tmp 30)) 2047]
def ycqw:LO:=[o3 (.bin .add (.tmp 13) (ci' 1)) 32 0,mv' 32 13 1]
def ycel:LO:=[mv' 7 33 0,mv' 33 6 1]
def c113:SC:=(.seq (.reg false ycez) (.seq (.reg false ycnk) (.seq (.seq (.reg false ycjv) (.block 0 (.loop (.seq (.reg false yclo) (.seq (.cond (.tmp 14) .skip (.exit 0)) (.seq (.block 1 (.seq (.reg false ycgz) (.seq (.reg false ycqt) (.cond (.tmp 20) (.reg false ycow) .skip)))) (.reg false ycqw))))))) (.seq (.reg false ycel) .ret))))
theorem yccz:FnU 113 c113 [.t 6]:=fn_u Tryz.func113 (by kernel_rfl) (by kernel_rfl)
def ycpr:LO:=[o3 (.mv (.const (.int .u32 0))) 4 0]
def ycnb:LO:=[o3 (.mv (.const (.int .u32 0))) 5 0]
def ycia:LO:=[mv' 0 7 0,o3 (.mv (ci' 0)) 8 0]
def yceb:LO:=[bn' .lss 8 7 9 0]
def ycpp:LO:=[mv' 8 10 0,mv' 10 6 1]
def yclf:LO:=[mv' 1 11 0,mv' 6 12 0,o3 (.call (.tmp 11) [(.tmp 12)]) 13 3]
def ycfz:LO:=[mv' 5 14 0,mv' 6 15 0,o3 (.bin .shl (.const (.int .u32 1)) (.tmp 15)) 16 2,bn' .or 14 16 17 7,mv' 17 5 15]
def ycmh:LO:=[o3 (.bin .add (.tmp 8) (ci' 1)) 18 0,mv' 18 8 1]
def ycrv:LO:=[mv' 5 19 0,mv' 19 4 1]
def c145:SC:=(.seq (.reg false ycpr) (.seq (.reg false ycnb) (.seq (.seq (.reg false ycia) (.block 0 (.loop (.seq (.reg false yceb) (.seq (.cond (.tmp 9) .skip (.exit 0)) (.seq (.block 1 (.seq (.reg false ycpp) (.seq (.reg false yclf) (.cond (.tmp 13) (.reg false ycfz) .skip)))) (.reg false ycmh))))))) (.seq (.reg false ycrv) .ret))))
theorem ycxv:Fn 145 c145 [.t 4]:=fn_0 Tryz.func145 (by kernel_rfl) (by kernel_rfl)
def ycig:LO:=[o3 (.mv (.const (.bool false))) 2 0]
def yckw:LO:=[mv' 0 5 0,ln' 5 6 1,o3 (.mv (ci' 0)) 7 0]
def ycek:LO:=[bn' .lss 7 6 8 0]
def ycfd:LO:=[ix' 1 5 7 9 0,ld' false 1 9 10 1,mv' 10 4 3]
def ycmx:LO:=[mv' 4 11 0,o3 (.bin .andNot (.tmp 11) (.const (.int .u32 16777215))) 12 1,o3 (.bin .neq (.tmp 12) (.const (.int .u32 0))) 13 3]
def ycqb:LO:=[o3 (.mv (.const (.bool false))) 2 0]
def ycja:LO:=[o3 (.bin .add (.tmp 7) (ci' 1)) 14 0,mv' 14 7 1]
def ycjm:LO:=[o3 (.mv (.const (.bool true))) 2 0]
def c223:SC:=(.seq (.reg false ycig) (.seq (.seq (.reg false yckw) (.block 0 (.loop (.seq (.reg false ycek) (.seq (.cond (.tmp 8) .skip (.exit 0)) (.seq (.block 1 (.seq (.reg false ycfd) (.seq (.reg false ycmx) (.cond (.tmp 13) (.seq (.reg false ycqb) .ret) .skip)))) (.reg false ycja))))))) (.seq (.reg false ycjm) .ret)))
theorem ycxe:Fn 223 c223 [.t 2]:=fn_0 Tryz.func223 (by kernel_rfl) (by kernel_rfl)
def ycsj:LO:=[o3 (.box 48 (.tmp 0)) 1 0,o3 (.mv (.const (.bool false))) 2 0]
def yclr:LO:=[fa' 0 1 1 3 0,ld' false 1 3 4 1,o3 (.bin .lss (.tmp 4) (ci' 0)) 5 3,mv' 5 6 7,⟨.faddr 0 1 (.tmp 1),some 7,some (6,false),15⟩,⟨.load false 1 (.tmp 7),some 8,some (6,false),31⟩,⟨.bin .gtr (.tmp 8) (ci' 4096),some 9,some (6,false),63⟩,o3 (.pick (.tmp 6) (.const (.bool true)) (.tmp 9)) 10 127,mv' 10 11 255,⟨.faddr 2 1 (.tmp 1),some 12,some (11,false),511⟩,⟨.load false 1 (.tmp 12),some 13,some (11,false),1023⟩,⟨.bin .lss (.tmp 13) (ci' 0),some 14,some (11,false),2047⟩,o3 (.pick (.tmp 11) (.const (.bool true)) (.tmp 14)) 15 4095,mv' 15 16 8191,⟨.faddr 2 1 (.tmp 1),some 17,some (16,false),16383⟩,⟨.load false 1 (.tmp 17),some 18,some (16,false),32767⟩,⟨.faddr 3 1 (.tmp 1),some 19,some (16,false),16383⟩,⟨.load false 1 (.tmp 19),some 20,some (16,false),81919⟩,⟨.bin .gtr (.tmp 18) (.tmp 20),some 21,some (16,false),262143⟩,o3 (.pick (.tmp 16) (.const (.bool true)) (.tmp 21)) 22 524287,mv' 22 23 1048575,⟨.faddr 3 1 (.tmp 1),some 24,some (23,false),2097151⟩,⟨.load false 1 (.tmp 24),some 25,some (23,false),4194303⟩,⟨.faddr 0 1 (.tmp 1),some 26,some (23,false),2097151⟩,⟨.load false 1 (.tmp 26),some 27,some (23,false),10485759⟩,⟨.bin .gtr (.tmp 25) (.tmp 27),some 28,some (23,false),33554431⟩,o3 (.pick (.tmp 23) (.const (.bool true)) (.tmp 28)) 29 67108863]
def ydch:LO:=[o3 (.mv (.const (.bool false))) 2 0]
def ycjq:LO:=[fa' 3 1 1 30 0,ld' false 1 30 31 1,fa' 2 1 1 32 0,ld' false 1 32 33 4,o3 (.bin .add (.tmp 33) (ci' 1)) 34 12,bn' .gtr 31 34 35 31]
def ydgq:LO:=[o3 (.mv (.const (.bool false))) 2 0]
def ycsr:LO:=[fa' 0 1 1 36 0,ld' false 1 36 37 1,fa' 1 1 1 38 0,ld' false 1 38 39 4,bn' .leq 37 39 40 15,mv' 40 41 31,⟨.faddr 1 1 (.tmp 1),some 42,some (41,true),63⟩,⟨.load false 1 (.tmp 42),some 43,some (41,true),127⟩,⟨.faddr 0 1 (.tmp 1),some 44,some (41,true),63⟩,⟨.load false 1 (.tmp 44),some 45,some (41,true),319⟩,⟨.bin .mul (ci' 24) (.tmp 45),some 46,some (41,true),831⟩,⟨.bin .leq (.tmp 43) (.tmp 46),some 47,some (41,true),2047⟩,o3 (.pick (.tmp 41) (.tmp 47) (.const (.bool false))) 48 4095,mv' 48 49 8191,⟨.faddr 4 1 (.tmp 1),some 50,some (49,true),16383⟩,⟨.load false 1 (.tmp 50),some 51,some (49,true),32767⟩,⟨.bslice 40 1 1 [.i .u32 0] [(0,1,(.tmp 51))],some 52,some (49,true),65535⟩,⟨.call (.func 223) [(.tmp 52)],some 53,some (49,true),131071⟩,o3 (.pick (.tmp 49) (.tmp 53) (.const (.bool false))) 54 262143,mv' 54 2 524287]
def c222:SC:=(.seq (.reg false ycsj) (.seq (.seq (.reg false yclr) (.cond (.tmp 29) (.seq (.reg false ydch) .ret) .skip)) (.seq (.seq (.reg false ycjq) (.cond (.tmp 35) (.seq (.reg false ydgq) .ret) .skip)) (.seq (.reg false ycsr) .ret))))
theorem ycyr:Fn 222 c222 [.t 2]:=fn_0 Tryz.func222 (by kernel_rfl) (by kernel_rfl)
def ycrp:LO:=[o3 (.alloc 48 1 [.i .i64 0,.i .i64 0,.i .i64 0,.i .i64 0,.i .u32 0]) 2 0]
def ycfa:LO:=[mv' 0 3 0,o3 (.bin .and (.tmp 3) (.const (.int .u32 16777215))) 4 1,o3 (.build [.i .i64 0,.i .i64 0,.i .i64 0,.i .i64 0,.i .u32 0] [(4,1,(.tmp 4))]) 5 3,o0 (.store 5 (.tmp 2) (.tmp 5)) 7]
def c195:SC:=(.seq (.reg false ycrp) (.seq (.reg false ycfa) .ret))
theorem ycuu:Fn 195 c195 [.c 2 true 5]:=fn_0 Tryz.func195 (by kernel_rfl) (by kernel_rfl)
def ycrw:LO:=[o3 (.box 48 (.tmp 0)) 3 0,o3 (.alloc 48 1 [.i .i64 0,.i .i64 0,.i .i64 0,.i .i64 0,.i .u32 0]) 6 0,o3 (.mv (ci' 0)) 7 0]
def ychi:LO:=[ld' true 5 3 8 0,cl' 222 [8] 9 1,o3 (.un .not (.tmp 9)) 10 3]
def ydbu:LO:=[o3 (.build [.i .i64 0,.i .i64 0,.i .i64 0,.i .i64 0,.i .u32 0] []) 11 0,o0 (.store 5 (.tmp 6) (.tmp 11)) 1,o3 (.mv (ci' 7)) 7 3]
def ycsf:LO:=[mv' 1 12 0,o3 (.bin .eql (.tmp 12) (.const (.int .u32 0))) 13 1,mv' 13 14 3,⟨.mv (.tmp 1),some 15,some (14,false),7⟩,⟨.mv (.tmp 2),some 16,some (14,false),7⟩,⟨.bslice 40 1 2 [.i .u32 0,.i .u32 0] [(0,1,(.tmp 15)),(1,1,(.tmp 16))],some 17,some (14,false),31⟩,⟨.call (.func 223) [(.tmp 17)],some 18,some (14,false),63⟩,⟨.un .not (.tmp 18),some 19,some (14,false),127⟩,o3 (.pick (.tmp 14) (.const (.bool true)) (.tmp 19)) 20 255]
def ydcu:LO:=[o3 (.build [.i .i64 0,.i .i64 0,.i .i64 0,.i .i64 0,.i .u32 0] []) 21 0,o0 (.store 5 (.tmp 6) (.tmp 21)) 1,o3 (.mv (ci' 11)) 7 3]
def yciz:LO:=[fa' 0 1 3 22 0,ld' false 1 22 23 1,o3 (.bin .eql (.tmp 23) (ci' 4096)) 24 3]
def yded:LO:=[o3 (.build [.i .i64 0,.i .i64 0,.i .i64 0,.i .i64 0,.i .u32 0] []) 25 0,o0 (.store 5 (.tmp 6) (.tmp 25)) 1,o3 (.mv (ci' 3)) 7 3]
def ycqg:LO:=[fa' 0 1 3 26 0,ld' false 1 26 27 1,o3 (.bin .add (.tmp 27) (ci' 1)) 28 3,fa' 0 1 3 29 7,o0 (.store 1 (.tmp 29) (.tmp 28)) 15]
def ychq:LO:=[fa' 1 1 3 30 0,ld' false 1 30 31 1,mv' 1 32 0,cl' 104 [32] 33 4,bn' .add 31 33 34 15,fa' 1 1 3 35 31,o0 (.store 1 (.tmp 35) (.tmp 34)) 63]
def yclp:LO:=[fa' 2 1 3 36 0,ld' false 1 36 37 1,o3 (.bin .add (.tmp 37) (ci' 1)) 38 3,fa' 3 1 3 39 7,o0 (.store 1 (.tmp 39) (.tmp 38)) 15]
def ybnq:LO:=[fa' 4 1 3 40 0,ld' false 1 40 41 1,mv' 1 42 0,bn' .andNot 41 42 43 7,mv' 2 44 0,bn' .and 43 44 45 31,fa' 4 1 3 46 63,o0 (.store 1 (.tmp 46) (.tmp 45)) 127]
def yblx:LO:=[fa' 4 1 3 47 0,ld' false 1 47 48 1,o3 (.bin .eql (.tmp 48) (.const (.int .u32 0))) 49 3]
def ybuw:LO:=[fa' 3 1 3 50 0,ld' false 1 50 51 1,fa' 2 1 3 52 3,o0 (.store 1 (.tmp 52) (.tmp 51)) 7]
def ybny:LO:=[mv' 2 53 0,fa' 4 1 3 54 1,o0 (.store 1 (.tmp 54) (.tmp 53)) 3]
def ybfm:LO:=[ld' true 5 3 55 0,o0 (.store 5 (.tmp 6) (.tmp 55)) 1,o3 (.mv (ci' 0)) 7 3]
def c197:SC:=(.seq (.reg false ycrw) (.seq (.seq (.reg false ychi) (.cond (.tmp 10) (.seq (.reg false ydbu) .ret) .skip)) (.seq (.seq (.reg false ycsf) (.cond (.tmp 20) (.seq (.reg false ydcu) .ret) .skip)) (.seq (.seq (.reg false yciz) (.cond (.tmp 24) (.seq (.reg false yded) .ret) .skip)) (.seq (.reg false ycqg) (.seq (.reg true ychq) (.seq (.reg false yclp) (.seq (.reg false ybnq) (.seq (.seq (.reg false yblx) (.cond (.tmp 49) (.seq (.reg false ybuw) (.reg false ybny)) .skip)) (.seq (.reg false ybfm) .ret))))))))))
theorem ycye:Fn 197 c197 [.c 6 true 5,.t 7]:=fn_0 Tryz.func197 (by kernel_rfl) (by kernel_rfl)
def ycgb:LO:=[o3 (.mv (ci' 0)) 2 0]
def ycjc:LO:=[mv' 0 3 0,o3 (.bin .shr (.tmp 3) (.const (.int .u64 24))) 4 1,o3 (.stri yve (.tmp 4)) 5 3,mv' 0 6 0,o3 (.bin .shr (.tmp 6) (.const (.int .u64 16))) 7 8,o3 (.bin .and (.tmp 7) (.const (.int .u32 255))) 8 24,o3 (.stri yve (.tmp 8)) 9 56,bn' .add 5 9 10 127,mv' 0 11 0,o3 (.bin .shr (.tmp 11) (.const (.int .u64 8))) 12 256,o3 (.bin .and (.tmp 12) (.const (.int .u32 255))) 13 768,o3 (.stri yve (.tmp 13)) 14 1792,bn' .add 10 14 15 4095,mv' 0 16 0,o3 (.bin .and (.tmp 16) (.const (.int .u32 255))) 17 8192,o3 (.stri yve (.tmp 17)) 18 24576,bn' .add 15 18 19 65535,o3 (.conv .i64 (.tmp 19)) 20 131071,mv' 20 2 262143]
def c104:SC:=(.seq (.reg false ycgb) (.seq (.reg true ycjc) .ret))
theorem ycyd:Fn 104 c104 [.t 2]:=fn_0 Tryz.func104 (by kernel_rfl) (by kernel_rfl)
def ycsl:LO:=[o3 (.box 27 (.tmp 0)) 1 0,o3 (.mv (.const (.slice none 0 0))) 2 0]
def ychm:LO:=[fa' 1 1 1 8 0,ld' false 1 8 9 1,ln' 9 10 3,o3 (.mk 40 1 4 [.i .u32 0] (.tmp 10) (.tmp 10)) 11 7,mv' 11 3 15]
def ycsa:LO:=[fa' 1 1 1 12 0,ld' false 1 12 13 1,ln' 13 14 3,o3 (.mv (ci' 0)) 15 0]
def ycle:LO:=[bn' .lss 15 14 16 0]
def ycgd:LO:=[mv' 15 17 0,ix' 1 13 15 18 0,ld' false 1 18 19 2,mv' 17 4 7,mv' 19 5 15]
def ychf:LO:=[mv' 5 20 0,ln' 20 21 1,o3 (.mv (ci' 0)) 22 0]
def ycnw:LO:=[bn' .lss 22 21 23 0]
def ycsv:LO:=[ix' 2 20 22 24 0,ld' true 2 24 25 1,o3 (.alloc 95 1 [.i .i64 0,.i .i64 0]) 7 0,o0 (.store 2 (.tmp 7) (.tmp 25)) 7]
def ychw:LO:=[mv' 3 26 0,mv' 4 27 0,ix' 1 26 27 28 3,ld' false 1 28 29 7,fa' 0 1 7 30 0,ld' false 1 30 31 16,o3 (.bin .shl (.const (.int .u32 1)) (.tmp 31)) 32 48,bn' .or 29 32 33 127,ix' 1 26 27 34 255,o0 (.store 1 (.tmp 34) (.tmp 33)) 511]
def yciq:LO:=[o3 (.bin .add (.tmp 22) (ci' 1)) 35 0,mv' 35 22 1]
def ybsa:LO:=[o3 (.bin .add (.tmp 15) (ci' 1)) 36 0,mv' 36 15 1]
def ybme:LO:=[mv' 3 37 0,mv' 37 2 1]
def c110:SC:=(.seq (.reg false ycsl) (.seq (.reg false ychm) (.seq (.seq (.reg false ycsa) (.block 0 (.loop (.seq (.reg false ycle) (.seq (.cond (.tmp 16) .skip (.exit 0)) (.seq (.block 1 (.seq (.reg false ycgd) (.seq (.reg false ychf) (.block 2 (.loop (.seq (.reg false ycnw) (.seq (.cond (.tmp 23) .skip (.exit 2)) (.seq (.block 3 (.seq (.reg false ycsv) (.reg true ychw))) (.reg false yciq))))))))) (.reg false ybsa))))))) (.seq (.reg false ybme) .ret))))
theorem yczx:Fn 110 c110 [.t 2]:=fn_0 Tryz.func110 (by kernel_rfl) (by kernel_rfl)
def ycri:LO:=[o3 (.mv (.const (.bool false))) 8 0]
def ycjk:LO:=[mv' 3 9 0,o3 (.bin .eql (.tmp 9) (.const (.int .u32 0))) 10 1,mv' 10 11 3,⟨.mv (.tmp 3),some 12,some (11,false),7⟩,⟨.mv (.tmp 2),some 13,some (11,false),7⟩,⟨.bin .andNot (.tmp 12) (.tmp 13),some 14,some (11,false),31⟩,⟨.bin .neq (.tmp 14) (.const (.int .u32 0)),some 15,some (11,false),63⟩,o3 (.pick (.tmp 11) (.const (.bool true)) (.tmp 15)) 16 127]
def ydhm:LO:=[o3 (.mv (.const (.bool false))) 8 0]
def ycra:LO:=[mv' 1 17 0]
def ycng:LO:=[o3 (.bin .eql (.tmp 17) (ci' 1)) 19 0,mv' 19 18 1]
def ydhd:LO:=[mv' 3 20 0,mv' 3 21 0,o3 (.bin .sub (.tmp 21) (.const (.int .u32 1))) 22 2,bn' .and 20 22 23 7,o3 (.bin .eql (.tmp 23) (.const (.int .u32 0))) 24 15,mv' 24 8 31]
def ycnm:LO:=[o3 (.bin .eql (.tmp 17) (ci' 2)) 26 0,mv' 26 25 1]
def ydhl:LO:=[mv' 0 27 0,mv' 3 28 0,cl' 221 [27,28] 29 3,mv' 29 8 7]
def ycqo:LO:=[o3 (.bin .eql (.tmp 17) (ci' 4)) 31 0,mv' 31 30 1]
def ycsq:LO:=[mv' 3 32 0,mv' 2 33 0,bn' .eql 32 33 34 3,mv' 34 8 7]
def ybrv:LO:=[o3 (.mv (.const (.bool true))) 8 0]
def c196:SC:=(.seq (.reg false ycri) (.seq (.seq (.reg false ycjk) (.cond (.tmp 16) (.seq (.reg false ydhm) .ret) .skip)) (.seq (.seq (.reg false ycra) (.block 0 (.seq (.reg false ycng) (.cond (.tmp 18) (.seq (.reg false ydhd) .ret) (.seq (.reg false ycnm) (.cond (.tmp 25) (.seq (.reg false ydhl) .ret) (.seq (.reg false ycqo) (.cond (.tmp 30) (.seq (.reg false ycsq) .ret) .skip)))))))) (.seq (.reg false ybrv) .ret))))
theorem ycuj:Fn 196 c196 [.t 8]:=fn_0 Tryz.func196 (by kernel_rfl) (by kernel_rfl)
def ybng:LO:=[o3 (.box 110 (.tmp 0)) 4 0,o3 (.mv (.const (.int .u32 0))) 8 0]
def ybuj:LO:=[mv' 3 11 0,mv' 2 12 0,bn' .and 11 12 13 3,mv' 13 3 7]
def ybsz:LO:=[mv' 3 14 0,o3 (.bin .eql (.tmp 14) (.const (.int .u32 0))) 15 1]
def ybvw:LO:=[mv' 2 16 0,mv' 2 17 0,o3 (.un .neg (.tmp 17)) 18 2,bn' .and 16 18 19 7,mv' 19 3 15]
def ybhu:LO:=[mv' 1 20 0]
def ybgz:LO:=[o3 (.bin .eql (.tmp 20) (ci' 1)) 22 0,mv' 22 21 1]
def ydcn:LO:=[mv' 3 23 0,mv' 3 24 0,o3 (.un .neg (.tmp 24)) 25 2,bn' .and 23 25 26 7,mv' 26 8 15]
def ybgu:LO:=[o3 (.bin .eql (.tmp 20) (ci' 2)) 28 0,mv' 28 27 1]
def ydcc:LO:=[o3 (.alloc 40 1 [.i .u32 0]) 9 0,o0 (.store 1 (.tmp 9) (.const (.int .u32 0))) 1]
def ydau:LO:=[mv' 3 29 0,cl' 154 [29] 30 1]
def ycvn:LO:=[mv' 31 10 0]
def ycwc:LO:=[ld' false 1 4 32 0,mv' 10 33 0,ix' 1 32 33 34 3,ld' false 1 34 35 7,ld' false 1 9 36 0,bn' .and 35 36 37 31,o3 (.bin .eql (.tmp 37) (.const (.int .u32 0))) 38 63]
def ycym:LO:=[ld' false 1 9 39 0,mv' 10 40 0,o3 (.bin .shl (.const (.int .u32 1)) (.tmp 40)) 41 2,bn' .or 39 41 42 7,o0 (.store 1 (.tmp 9) (.tmp 42)) 15]
def yczv:LO:=[ld' false 1 9 43 0,mv' 43 8 1]
def yxl:LO:=[o3 (.bin .eql (.tmp 20) (ci' 4)) 45 0,mv' 45 44 1]
def ywc:LO:=[mv' 2 46 0,mv' 46 8 1]
def ycyu:LO:=[mv' 3 47 0,mv' 47 8 1]
def c111:SC:=(.seq (.reg false ybng) (.seq (.reg false ybuj) (.seq (.seq (.reg false ybsz) (.cond (.tmp 15) (.reg false ybvw) .skip)) (.seq (.seq (.reg false ybhu) (.block 0 (.seq (.reg false ybgz) (.cond (.tmp 21) (.seq (.reg false ydcn) .ret) (.seq (.reg false ybgu) (.cond (.tmp 27) (.seq (.reg false ydcc) (.seq (.seq (.reg false ydau) (.block 1 (.range (.tmp 30) [31] (.reg false ycvn) (.block 2 (.seq (.reg true ycwc) (.cond (.tmp 38) (.reg true ycym) .skip)))))) (.seq (.reg false yczv) .ret))) (.seq (.reg false yxl) (.cond (.tmp 44) (.seq (.reg false ywc) .ret) .skip)))))))) (.seq (.reg false ycyu) .ret)))))
theorem yblv:Fn 111 c111 [.t 8]:=fn_0 Tryz.func111 (by kernel_rfl) (by kernel_rfl)
def ycrh:LO:=[o3 (.mv (.const (.bool false))) 2 0]
def ycla:LO:=[mv' 0 3 0,o3 (.bin .geq (.tmp 3) (ci' 1)) 4 1,mv' 4 5 3,⟨.mv (.tmp 0),some 6,some (5,true),7⟩,⟨.bin .leq (.tmp 6) (ci' 4),some 7,some (5,true),15⟩,o3 (.pick (.tmp 5) (.tmp 7) (.const (.bool false))) 8 31,mv' 8 2 63]
def c108:SC:=(.seq (.reg false ycrh) (.seq (.reg false ycla) .ret))
theorem ycxp:Fn 108 c108 [.t 2]:=fn_0 Tryz.func108 (by kernel_rfl) (by kernel_rfl)
def ycsw:LO:=[o3 (.box 58 (.tmp 0)) 5 0,o3 (.box 27 (.tmp 1)) 6 0,o3 (.mv (ci' 0)) 10 0]
def yckr:LO:=[ld' true 3 5 12 0,ld' true 2 6 13 0,mv' 3 14 0,cl' 112 [12,13,14] 15 7,mv' 15 11 15]
def yckq:LO:=[mv' 11 16 0,o3 (.bin .neq (.tmp 16) (ci' 0)) 17 1]
def ydgx:LO:=[mv' 11 18 0,mv' 18 10 1]
def yclv:LO:=[mv' 2 19 0,cl' 108 [19] 20 1,o3 (.un .not (.tmp 20)) 21 3]
def ydbt:LO:=[o3 (.mv (ci' 12)) 10 0]
def ycph:LO:=[mv' 4 22 0,o3 (.bin .gtr (.tmp 22) (ci' 4096)) 23 1]
def yddt:LO:=[o3 (.mv (ci' 3)) 10 0]
def ycjt:LO:=[o3 (.mv (ci' 0)) 10 0]
def c129:SC:=(.seq (.reg false ycsw) (.seq (.seq (.reg false yckr) (.seq (.reg false yckq) (.cond (.tmp 17) (.seq (.reg false ydgx) .ret) .skip))) (.seq (.seq (.reg false yclv) (.cond (.tmp 21) (.seq (.reg false ydbt) .ret) .skip)) (.seq (.seq (.reg false ycph) (.cond (.tmp 23) (.seq (.reg false yddt) .ret) .skip)) (.seq (.reg false ycjt) .ret)))))
theorem ycty:Fn 129 c129 [.t 10]:=fn_0 Tryz.func129 (by kernel_rfl) (by kernel_rfl)
def ycoz:LO:=[o3 (.box 58 (.tmp 0)) 4 0,o3 (.box 27 (.tmp 1)) 5 0,o3 (.alloc 126 1 [.a (.pointer none),.a (.slice none 0 0),.i .i64 0,.i .u32 0,.a (.nilFunc)]) 8 0]
def yclc:LO:=[ld' true 3 4 9 0,ld' true 2 5 10 0,cl' 93 [9,10] 11 3,ld' true 2 5 12 0,cl' 110 [12] 13 15,mv' 2 14 0,ld' true 2 5 15 0,cl' 109 [15] 16 95,mv' 3 17 0,o3 (.build [.a (.pointer none),.a (.slice none 0 0),.i .i64 0,.i .u32 0,.a (.nilFunc)] [(0,1,(.tmp 11)),(1,1,(.tmp 13)),(2,1,(.tmp 14)),(3,1,(.tmp 16)),(4,1,(.tmp 17))]) 18 511,o0 (.store 5 (.tmp 8) (.tmp 18)) 1023]
def c130:SC:=(.seq (.reg false ycoz) (.seq (.reg true yclc) .ret))
theorem ybxu:FnM 130 c130 [.c 8 true 5]:=fn_m Tryz.func130 (by kernel_rfl) (by kernel_rfl)
def ycql:LO:=[o3 (.box 126 (.tmp 0)) 4 0,o3 (.alloc 130 1 [.a (.slice none 0 0),.a (.slice none 0 0),.a (.slice none 0 0),.i .i64 0,.i .i64 0,.i .i64 0,.i .i64 0,.i .u32 0]) 8 0,o3 (.mv (ci' 0)) 9 0]
def ycjw:LO:=[o3 (.alloc 130 1 [.a (.slice none 0 0),.a (.slice none 0 0),.a (.slice none 0 0),.i .i64 0,.i .i64 0,.i .i64 0,.i .i64 0,.i .u32 0]) 10 0]
def ycld:LO:=[mv' 1 16 0,cl' 132 [16] 17 1,mv' 17 1 3]
def ycoe:LO:=[fa' 0 1 4 18 0,ld' false 1 18 19 1,mv' 1 20 0,cl' 94 [19,20] 21 7,fa' 3 1 4 22 0,ld' false 1 22 23 16,bn' .and 21 23 24 63,mv' 24 11 127]
def yclh:LO:=[mv' 11 25 0,cl' 195 [25] 26 1,o3 (.alloc 48 1 [.i .i64 0,.i .i64 0,.i .i64 0,.i .i64 0,.i .u32 0]) 12 0,o0 (.store 5 (.tmp 12) (.tmp 26)) 7]
def ycfk:LO:=[fa' 4 1 4 27 0,ld' false 1 27 28 1,mv' 1 29 0,mv' 11 30 0,ld' true 5 12 31 0,o3 (.call (.tmp 28) [(.tmp 29),(.tmp 30),(.tmp 31)]) 32 31]
def ycnz:LO:=[fa' 1 1 10 33 0,ld' false 1 33 34 1,mv' 11 35 0,o3 (.bslice 40 1 1 [.i .u32 0] [(0,1,(.tmp 35))]) 36 4,o3 (.app 40 1 4 (.tmp 34) (.tmp 36)) 37 15,fa' 1 1 10 38 31,o0 (.store 1 (.tmp 38) (.tmp 37)) 63]
def ycfb:LO:=[mv' 2 39 0,o3 (.mv (ci' 0)) 40 0]
def ycst:LO:=[bn' .lss 40 39 41 0]
def ycfh:LO:=[mv' 40 42 0,mv' 42 13 1]
def ybmt:LO:=[mv' 3 44 0,mv' 13 45 0,mv' 11 46 0,o3 (.call (.tmp 44) [(.tmp 45),(.tmp 46)]) 47 7,mv' 47 43 15,xt' 43 0 48 31,xt' 43 1 49 31,mv' 48 14 63,mv' 49 15 255]
def ybes:LO:=[mv' 15 50 0,o3 (.un .not (.tmp 50)) 51 1]
def ybus:LO:=[fa' 1 1 4 52 0,ld' false 1 52 53 1,fa' 2 1 4 54 0,ld' false 1 54 55 4,mv' 11 56 0,mv' 14 57 0,cl' 196 [53,55,56,57] 58 63,o3 (.un .not (.tmp 58)) 59 127]
def yczy:LO:=[o3 (.build [.a (.slice none 0 0),.a (.slice none 0 0),.a (.slice none 0 0),.i .i64 0,.i .i64 0,.i .i64 0,.i .i64 0,.i .u32 0] []) 60 0,o0 (.store 8 (.tmp 8) (.tmp 60)) 1,o3 (.mv (ci' 11)) 9 3]
def ybox:LO:=[fa' 0 1 4 61 0,ld' false 1 61 62 1,mv' 1 63 0,mv' 14 64 0,cl' 113 [62,63,64] 65 15,mv' 65 1 31]
def ybsn:LO:=[fa' 0 1 4 66 0,ld' false 1 66 67 1,mv' 1 68 0,cl' 94 [67,68] 69 7,fa' 3 1 4 70 0,ld' false 1 70 71 16,bn' .and 69 71 72 63,mv' 72 11 127]
def ybvp:LO:=[ld' true 5 12 74 0,mv' 14 75 0,mv' 11 76 0,cl' 197 [74,75,76] 77 7,mv' 77 73 15,xt' 73 0 78 31,xt' 73 1 79 31,o0 (.store 5 (.tmp 12) (.tmp 78)) 63]
def ybwp:LO:=[fa' 4 1 4 80 0,ld' false 1 80 81 1,mv' 1 82 0,mv' 11 83 0,ld' true 5 12 84 0,o3 (.call (.tmp 81) [(.tmp 82),(.tmp 83),(.tmp 84)]) 85 31]
def ybna:LO:=[fa' 0 1 10 86 0,ld' false 1 86 87 1,mv' 14 88 0,o3 (.bslice 40 1 1 [.i .u32 0] [(0,1,(.tmp 88))]) 89 4,o3 (.app 40 1 4 (.tmp 87) (.tmp 89)) 90 15,fa' 0 1 10 91 31,o0 (.store 1 (.tmp 91) (.tmp 90)) 63]
def ybmw:LO:=[fa' 1 1 10 92 0,ld' false 1 92 93 1,mv' 11 94 0,o3 (.bslice 40 1 1 [.i .u32 0] [(0,1,(.tmp 94))]) 95 4,o3 (.app 40 1 4 (.tmp 93) (.tmp 95)) 96 15,fa' 1 1 10 97 31,o0 (.store 1 (.tmp 97) (.tmp 96)) 63]
def ybtg:LO:=[o3 (.bin .add (.tmp 40) (ci' 1)) 98 0,mv' 98 40 1]
def ybev:LO:=[mv' 1 99 0,ld' true 5 12 100 0,fa' 2 1 10 101 1,o0 (.store 1 (.tmp 101) (.tmp 99)) 5,fa' 3 5 10 102 15,o0 (.store 5 (.tmp 102) (.tmp 100)) 31]
def ybem:LO:=[ld' true 8 10 103 0,o0 (.store 8 (.tmp 8) (.tmp 103)) 1,o3 (.mv (ci' 0)) 9 3]
def c168:SC:=(.seq (.reg false ycql) (.seq (.reg false ycjw) (.seq (.reg false ycld) (.seq (.reg true ycoe) (.seq (.reg false yclh) (.seq (.reg false ycfk) (.seq (.reg false ycnz) (.seq (.seq (.reg false ycfb) (.block 0 (.loop (.seq (.reg false ycst) (.seq (.cond (.tmp 41) .skip (.exit 0)) (.seq (.block 1 (.seq (.reg false ycfh) (.seq (.reg false ybmt) (.seq (.seq (.reg false ybes) (.cond (.tmp 51) (.exit 0) .skip)) (.seq (.seq (.reg false ybus) (.cond (.tmp 59) (.seq (.reg false yczy) .ret) .skip)) (.seq (.reg false ybox) (.seq (.reg true ybsn) (.seq (.reg false ybvp) (.seq (.reg false ybwp) (.seq (.reg false ybna) (.reg false ybmw))))))))))) (.reg false ybtg))))))) (.seq (.reg true ybev) (.seq (.reg false ybem) .ret))))))))))
theorem ybyw:FnM 168 c168 [.c 8 true 8,.t 9]:=fn_m Tryz.func168 (by kernel_rfl) (by kernel_rfl)
def ycqz:LO:=[o3 (.box 126 (.tmp 0)) 3 0,o3 (.box 38 (.tmp 2)) 5 0,o3 (.alloc 130 1 [.a (.slice none 0 0),.a (.slice none 0 0),.a (.slice none 0 0),.i .i64 0,.i .i64 0,.i .i64 0,.i .i64 0,.i .u32 0]) 6 0,o3 (.mv (ci' 0)) 7 0]
def ycsd:LO:=[ld' true 5 3 8 0,mv' 1 9 0,ld' false 1 5 10 0,ln' 10 11 4,o3 (.mkfn 169 [] [(.tmp 3),(.tmp 5)]) 12 0,cl' 168 [8,9,11,12] 13 31,xt' 13 0 14 63,xt' 13 1 15 63,o0 (.store 8 (.tmp 6) (.tmp 14)) 255,mv' 15 7 511]
def c133:SC:=(.seq (.reg false ycqz) (.seq (.reg false ycsd) .ret))
theorem ycbn:FnM 133 c133 [.c 6 true 8,.t 7]:=fn_m Tryz.func133 (by kernel_rfl) (by kernel_rfl)
def ybwv:LO:=[o3 (.mv (.const (.int .u32 0))) 6 0,o3 (.mv (.const (.bool false))) 7 1]
def ybqv:LO:=[fa' 1 1 2 8 0,ld' false 1 8 9 1,fa' 2 1 2 10 0,ld' false 1 10 11 4,mv' 1 12 0,ld' false 1 3 13 0,mv' 0 14 0,ix' 1 13 14 15 96,ld' false 1 15 16 224,cl' 111 [9,11,12,16] 17 511,mv' 1 18 0,o3 (.bin .neq (.tmp 18) (.const (.int .u32 0))) 19 1024,mv' 17 6 1023,mv' 19 7 8191]
def c169:SC:=(.seq (.reg false ybwv) (.seq (.reg true ybqv) .ret))
theorem ybpk:Fn 169 c169 [.t 6,.t 7]:=fn_0 Tryz.func169 (by kernel_rfl) (by kernel_rfl)
def ydhg:LO:=[o3 (.box 58 (.tmp 0)) 5 0,o3 (.box 27 (.tmp 1)) 6 0,o3 (.mv (.const (.slice none 0 0))) 10 0,o3 (.mv (.const (.slice none 0 0))) 11 4,o3 (.mv (ci' 0)) 12 12]
def ydha:LO:=[ld' true 3 5 19 0,ld' true 2 6 20 0,mv' 2 21 0,mv' 3 22 0,mv' 4 23 0,ln' 23 24 16,cl' 129 [19,20,21,22,24] 25 63,mv' 25 13 127]
def ydaz:LO:=[mv' 13 26 0,o3 (.bin .neq (.tmp 26) (ci' 0)) 27 1]
def ydjd:LO:=[mv' 13 28 0,o3 (.mv (.const (.slice none 0 0))) 10 0,o3 (.mv (.const (.slice none 0 0))) 11 2,mv' 28 12 7]
def ydat:LO:=[o3 (.alloc 29 1 [.a (.slice none 0 0)]) 14 0]
def ydbs:LO:=[o3 (.alloc 30 1 [.a (.slice none 0 0)]) 15 0]
def ydhz:LO:=[ld' true 3 5 29 0,ld' true 2 6 30 0,mv' 2 31 0,o3 (.mkfn 131 [] [(.tmp 14),(.tmp 15)]) 32 0,cl' 130 [29,30,31,32] 33 15,o3 (.alloc 126 1 [.a (.pointer none),.a (.slice none 0 0),.i .i64 0,.i .u32 0,.a (.nilFunc)]) 16 0,o0 (.store 5 (.tmp 16) (.tmp 33)) 63]
def ydgf:LO:=[ld' true 5 16 35 0,mv' 3 36 0,mv' 4 37 0,cl' 133 [35,36,37] 38 7,mv' 38 34 15,xt' 34 0 39 31,xt' 34 1 40 31,o3 (.alloc 130 1 [.a (.slice none 0 0),.a (.slice none 0 0),.a (.slice none 0 0),.i .i64 0,.i .i64 0,.i .i64 0,.i .i64 0,.i .u32 0]) 17 0,o0 (.store 8 (.tmp 17) (.tmp 39)) 191,mv' 40 18 511]
def ydaq:LO:=[mv' 18 41 0,o3 (.bin .neq (.tmp 41) (ci' 0)) 42 1]
def ydkd:LO:=[mv' 18 43 0,o3 (.mv (.const (.slice none 0 0))) 10 0,o3 (.mv (.const (.slice none 0 0))) 11 2,mv' 43 12 7]
def yceh:LO:=[ld' false 1 14 44 0,ld' false 1 15 45 0,mv' 44 10 1,mv' 45 11 7,o3 (.mv (ci' 0)) 12 15]
def c78:SC:=(.seq (.reg false ydhg) (.seq (.seq (.reg false ydha) (.seq (.reg false ydaz) (.cond (.tmp 27) (.seq (.reg false ydjd) .ret) .skip))) (.seq (.reg false ydat) (.seq (.reg false ydbs) (.seq (.reg false ydhz) (.seq (.seq (.reg false ydgf) (.seq (.reg false ydaq) (.cond (.tmp 42) (.seq (.reg false ydkd) .ret) .skip))) (.seq (.reg true yceh) .ret)))))))
theorem ycwd:FnU 78 c78 [.t 10,.t 11,.t 12]:=fn_u Tryz.func78 (by kernel_rfl) (by kernel_rfl)
def ybsq:LO:=[o3 (.box 48 (.tmp 2)) 7 0]
def ybre:LO:=[ld' false 1 3 8 0,mv' 0 9 0,cl' 132 [9] 10 2,o3 (.bslice 34 1 1 [.a (.slice none 0 0)] [(0,1,(.tmp 10))]) 11 6,o3 (.app 34 1 24 (.tmp 8) (.tmp 11)) 12 15,o0 (.store 1 (.tmp 3) (.tmp 12)) 31]
def ybwx:LO:=[ld' false 1 4 13 0,ld' true 5 7 14 0,o3 (.bslice 48 5 1 [.i .i64 0,.i .i64 0,.i .i64 0,.i .i64 0,.i .u32 0] [(0,5,(.tmp 14))]) 15 2,o3 (.app 48 5 40 (.tmp 13) (.tmp 15)) 16 7,o0 (.store 1 (.tmp 4) (.tmp 16)) 15]
def c131:SC:=(.seq (.reg false ybsq) (.seq (.reg true ybre) (.reg false ybwx)))
theorem ybhi:FnM 131 c131 []:=fn_m Tryz.func131 (by kernel_rfl) (by kernel_rfl)
end Sh
end
section
namespace Sh
open Go Ev
theorem mulB{a b:Int}(ha:InB a)(hb:InB b):-1152921504606846976<=a*b/\a*b<=1152921504606846976:=by
 unfold InB at *
 have h:(a*b).natAbs<=1073741824*1073741824:=by
  rw[zBD];exact zBE (by omega) (by omega)
 omega
theorem ydz(b:Bool):Returns zD 256 [.b b] (.i .i64 (ybs b)):=by
 refine Returns.of (ycxb _ _ ?_);simp only[c256,ycls,ycsi,yclb,ycii,yba,ybs,go_sem,↓reduceIte,reduceCtorEq];cases b<;>simp
theorem ydo(a:Int):Returns zD 258 [.i .i64 a] (.i .i64 (satP a)):=by
 refine Returns.of (yctg _ _ ?_);simp only[c258,ycjy,ycme,yba,satP,go_sem,zB,zF,↓reduceIte,reduceCtorEq]
theorem ydgj{a b:Int}(ha:InB a):-1073741824<=a.tdiv b/\a.tdiv b<=1073741824:=by
 have h1:(a.tdiv b).natAbs=a.natAbs/b.natAbs:=Int.natAbs_tdiv a b;have h2:a.natAbs/b.natAbs<=a.natAbs:=Nat.div_le_self _ _;rw[<-h1]at h2;unfold InB at ha;omega
theorem ycda{a b:Int}(ha:InB a):-1073741825<=ytr a b/\ytr a b<=1073741824:=by
 have:=ydgj (b:=b) ha;unfold ytr;split
 .omega
 .split<;>omega
theorem ybpu{a b:Int}(ha:InB a)(hb:InB b):-1152921505680588800<=b*ytr a b/\b*ytr a b<=1152921505680588800:=by
 have h1:=ycda (b:=b) ha
 have h:(b*ytr a b).natAbs<=1073741824*1073741825:=by
  unfold InB at *;rw[zBD];exact zBE (by omega) (by omega)
 omega
theorem ybqh(op a:Int)(ha:InB a):Returns zD 237 [.i .i64 op,.i .i64 a] (.i .i64 (unP op a)):=by
 refine Returns.of (ycyp _ _ ?_);simp only[c237,ycfw,yceq,ycej,ycjp,yba,unP,IntKind.signed,go_sem,zB,zF,↓reduceIte,reduceCtorEq];unfold InB at ha;refine⟨fun h=>⟨ikw (by omega) (by omega),by rw[if_pos h];omega⟩,fun h=>(ydz _).use ?_⟩
 simp only[ybh,yba,go_sem,zB,zF,↓reduceIte,reduceCtorEq];rw[if_neg h]
theorem yph(a b:Int)(ha:InB a):Returns zD 259 [.i .i64 a,.i .i64 b] (.i .i64 (ytr a b)):=by
 refine Returns.of (yctq _ _ ?_);simp only[c259,ycfo,ycgq,ycsc,ycrt,ycrj,ycpk,yclu,yba,ytr,go_sem,zB,zF,↓reduceIte,reduceCtorEq];have:=ydgj (b:=b) ha;refine⟨fun h=>by rw[if_pos h],fun h=>⟨⟨h,ikw (by omega) (by omega)⟩,h,fun h1=>⟨fun h2=>⟨ikw (by omega) (by omega),?_⟩,fun h2=>?_⟩,fun h1=>?_⟩⟩
 .rw[if_neg h,if_pos ⟨h1,h2⟩]
 .rw[if_neg h,if_neg (fun q=>q.2 h2)]
 .rw[if_neg h,if_neg (fun q=>q.1 h1)]
theorem yzj(op a b:Int):Returns zD 260 [.i .i64 op,.i .i64 a,.i .i64 b] (.b (cmpP op a b)):=by
 refine Returns.of (ycvz _ _ ?_);simp only[c260,ycgi,ycdr,ycqn,ycky,ycqe,ycge,yciw,ycmj,ycns,yclt,ybot,ybvu,ybtq,yfk,cmpP,go_sem,zB,zF,↓reduceIte,reduceCtorEq];refine⟨fun h=>by rw[if_pos h],fun h35=>⟨fun h=>by rw[if_neg h35,if_pos h],fun h36=>⟨fun h=>by rw[if_neg h35,if_neg h36,if_pos h],fun h37=>⟨fun h=>by rw[if_neg h35,if_neg h36,if_neg h37,if_pos h],fun h38=>⟨fun h=>by rw[if_neg h35,if_neg h36,if_neg h37,if_neg h38,if_pos h],fun h39=>by rw[if_neg h35,if_neg h36,if_neg h37,if_neg h38,if_neg h39]⟩⟩⟩⟩⟩
theorem yblk(op a b:Int)(ha:InB a)(hb:InB b):Returns zD 239 [.i .i64 op,.i .i64 a,.i .i64 b] (.i .i64 (binP op a b)):=by
 refine Returns.of (yctw _ _ ?_);simp only[c239,ycff,ycmg,ycqv,ychh,ycmu,yclz,ycev,ycms,ycmb,yche,ybwl,ybnr,ybsm,yboe,ybrt,ybsy,ybuv,ybrf,ybqo,yba,go_sem,zB,zF,↓reduceIte,reduceCtorEq];have hm:=mulB ha hb;have hq:=ybpu ha hb;have hA:=ha;have hB:=hb;unfold InB at hA hB;refine⟨fun h=>⟨ikw (by omega) (by omega),(ydo _).use ?_⟩,fun h30=>⟨fun h=>(yph a b ha).use ?_,fun h31=>⟨fun h=>⟨fun h0=>?_,fun h0=>(yph a b ha).use ?_⟩,fun h32=>⟨fun h=>⟨ikw (by omega) (by omega),(ydo _).use ?_⟩,fun h33=>⟨fun h=>⟨ikw (by omega) (by omega),(ydo _).use ?_⟩,fun h34=>?_⟩⟩⟩⟩⟩
 .simp only[ybh,yba,go_sem,zB,zF,↓reduceIte,reduceCtorEq];simp[binP,h]
 .simp only[ybh,go_sem,zB,zF,↓reduceIte,reduceCtorEq];refine(ydo _).use ?_;simp only[yba,go_sem];simp[binP,h]
 .simp[binP,h,h0]
 .simp only[ybh,go_sem,zB,zF,↓reduceIte,reduceCtorEq];refine⟨ikw (by omega) (by omega),ikw (by omega) (by omega),(ydo _).use ?_⟩
  simp only[yba,go_sem];simp[binP,h,h0]
 .simp only[ybh,yba,go_sem,zB,zF,↓reduceIte,reduceCtorEq];simp[binP,h]
 .simp only[ybh,yba,go_sem,zB,zF,↓reduceIte,reduceCtorEq];simp[binP,h]
 .refine⟨fun h=>?_,fun h41=>⟨fun h=>?_,fun h42=>?_⟩⟩
  .refine⟨fun h1=>(ydz _).use ?_,fun h1=>(ydz _).use ?_⟩
   .simp only[ybh,yba,go_sem,zB,zF,↓reduceIte,reduceCtorEq];simp[binP,h];rw[show(a != 0)=true by simpa using h1];simp
   .simp only[ybh,yba,go_sem,zB,zF,↓reduceIte,reduceCtorEq];simp[binP,h,h1]
  .refine⟨fun h1=>(ydz _).use ?_,fun h1=>(ydz _).use ?_⟩
   .simp only[ybh,yba,go_sem,zB,zF,↓reduceIte,reduceCtorEq];simp[binP,h,h1]
   .simp only[ybh,yba,go_sem,zB,zF,↓reduceIte,reduceCtorEq];simp[binP,h];rw[show(a != 0)=true by simpa using h1];simp
  .refine(yzj op a b).use ?_;simp only[ybh,go_sem,zB,zF,↓reduceIte,reduceCtorEq];refine(ydz _).use ?_;simp only[yba,go_sem];simp[binP,h30,h31,h32,h33,h34,h41,h42]
end Sh
end
section
namespace Sh
open Go Ev
theorem yti{l:List Int}{k:Nat}(h:k<l.length):countP (l.take (k+1))=countP (l.take k)+(if l.getD k 0≠0 then 1 else 0):=by
 unfold countP;rw[zI h,List.filter_append,List.length_append,getD_at h]
 by_cases q:l[k]=0
 .simp[q]
 .simp[q]
theorem ybdm{l:List Int}(k:Nat):0<=countP (l.take k)/\countP (l.take k)<=k:=by
 have:=countP_le (l.take k);simp only[zAY]at this;omega
theorem ybvx(l:List Int)(hl:l.length<=1000):Returns zD 266 [yw l] (.i .i64 (countP l)):=by
 refine Returns.of (ycww _ _ ?_);simp only[c266,yciy,ycrb,ycju,yw,go_sem,zF,↓reduceIte,reduceCtorEq];refine ybn (σ:=Nat) (fun k=>⟨[(8,.i .i64 k),(3,.i .i64 (countP (l.take k))),(6,yw l),(7,.i .i64 l.length)],[]⟩) (fun k=>k<=l.length) (fun k=>l.length-k) 0 (zAE _) ?_ ?_
 .refine yh [] [] [] ?_;simp only[yw,allQ,live,yc,yba,zU,go_sem,zB,↓reduceIte,reduceCtorEq];simp[countP]
 .intro k hk;simp only[ycli,ycpo,ycgo,ycnn,ycnr,ycjr,yw,yba,go_sem,zB,zF,↓reduceIte,reduceCtorEq];have hb:=ybdm (l:=l) k;refine⟨fun hlt=>⟨by omega,fun h0=>⟨ikw (by omega) (by omega),ikw (by omega) (by omega),?_⟩,fun h0=>⟨ikw (by omega) (by omega),?_⟩⟩,fun hlt=>?_⟩
  .have hk':k<l.length:=by omega
   refine yu (k+1) (by omega) (by omega) ?_
   refine yh [] [] [] ?_;simp only[yti hk',if_pos h0,allQ,live,yc,yba,go_sem,zB,↓reduceIte,reduceCtorEq];simp
  .have hk':k<l.length:=by omega
   refine yu (k+1) (by omega) (by omega) ?_
   refine yh [] [] [] ?_;simp only[yti hk',if_neg (not_not_intro h0),allQ,live,yc,yba,go_sem,zB,↓reduceIte,reduceCtorEq];simp
  .rw[zAK (by omega)]
theorem ypj{l:List Int}{k:Nat}(h:k<l.length):ydd (l.take (k+1))=(if l.getD k 0>(ydd (l.take k)).1 then(l.getD k 0,(ydd (l.take k)).1)else((ydd (l.take k)).1,max (ydd (l.take k)).2 (l.getD k 0))):=by
 unfold ydd;rw[zI h,zT,getD_at h];rfl
theorem yrn(l:List Int)(hl:l.length<=1000):Returns zD 269 [yw l] (.tp [.i .i64 (ydd l).1,.i .i64 (ydd l).2]):=by
 refine Returns.of (ycwp _ _ ?_);simp only[c269,yclj,ycsx,ycft,yw,go_sem,zF,↓reduceIte,reduceCtorEq];refine ybn (σ:=Nat) (fun k=>⟨[(8,.i .i64 k),(2,.i .i64 (ydd (l.take k)).1),(3,.i .i64 (ydd (l.take k)).2),(6,yw l),(7,.i .i64 l.length)],[]⟩) (fun k=>k<=l.length) (fun k=>l.length-k) 0 (zAE _) ?_ ?_
 .refine yh [] [] [] ?_;simp only[yw,allQ,live,yc,yba,zU,go_sem,zB,↓reduceIte,reduceCtorEq];simp[ydd]
 .intro k hk;simp only[ycem,ycio,ycpj,ycfg,ychz,ycov,ycgv,yw,go_sem,zB,zF,↓reduceIte,reduceCtorEq];refine⟨fun hlt=>⟨by omega,fun h0=>⟨ikw (by omega) (by omega),?_⟩,fun h0=>⟨ikw (by omega) (by omega),?_⟩⟩,fun hlt=>?_⟩
  .have hk':k<l.length:=by omega
   refine yu (k+1) (by omega) (by omega) ?_
   refine yh [] [] [] ?_;simp only[ypj hk',if_pos h0,allQ,live,yc,yba,go_sem,zB,↓reduceIte,reduceCtorEq];simp
  .have hk':k<l.length:=by omega
   refine yu (k+1) (by omega) (by omega) ?_
   refine yh [] [] [] ?_;simp only[ypj hk',if_neg h0,allQ,live,yc,yba,go_sem,zB,↓reduceIte,reduceCtorEq];simp
  .rw[zAK (by omega)]
   exact Sim.refl _
theorem yzw(l:List Int)(x:Int)(hl:l.length<=100000):Returns zD 274 [yw l,.i .i64 x] (.b (l.elem x)):=by
 refine Returns.of (ycxm _ _ ?_);simp only[c274,ycnx,ycoq,yw,go_sem,zB,zF,↓reduceIte,reduceCtorEq];refine(ybwa l x hl).use ?_;simp only[ybh,yfk,go_sem,zB,zF,↓reduceIte,reduceCtorEq];unfold idxP;cases h:l.findIdx? (fun y=>x==y)with
 | none =>
   rw[zV]at h
   have:l.elem x=false:=by
    rw[zAZ,decide_eq_false_iff_not];intro hm;have:=h x hm;simp at this
   rw[this];simp
 | some i =>
   obtain⟨h1,h2,_⟩:=List.findIdx?_eq_some_iff_getElem.1 h
   have:l.elem x=true:=by
    rw[zAZ,decide_eq_true_eq];have:x=l[i]:=by simpa using h2
    rw[this];exact zS h1
   rw[this];simp
theorem yblf{l:List Int}{n:Nat}{r:Int}(h:l.elem r=true):ytn l (n+1) r=ytn l n (r+1):=by
 show(if l.elem r then _ else _)=_;rw[if_pos h]
theorem ybjs{l:List Int}{n:Nat}{r:Int}(h:l.elem r=false):ytn l n r=r:=by
 cases n with
 |zero=>rfl
 |succ n=>show(if l.elem r then _ else _)=_;rw[if_neg (by rw[h];simp)]
theorem yzx{l:List Int}{k:Nat}(h:∀j:Nat,j<k->l.elem (j:Int)=true):k<=l.length:=by
 have h1:((zQ k).map fun(j:Nat)=>(j:Int)).Nodup:=by
  rw[List.Nodup,zAS];exact List.nodup_range.imp fun {a b} hab e=>hab (by omega)
 have h2:((zQ k).map fun(j:Nat)=>(j:Int)) ⊆ l:=fun x hx=>by
  obtain⟨j,hj,rfl⟩:=List.mem_map.1 hx;have:=h j (List.mem_range.1 hj)
  simpa using this
 have:=List.Nodup.length_le_of_subset h1 h2
 simpa using this
theorem ycvj(l:List Int)(hl:l.length<=1000):Returns zD 270 [yw l] (.i .i64 (mexP l)):=by
 refine Returns.of (ycvu _ _ ?_);simp only[c270,ycfu,ycfm,yw,go_sem];refine ybn (σ:=Nat) (fun k=>⟨[(3,.i .i64 k),(0,yw l)],[]⟩) (fun k=>(∀j:Nat,j<k->l.elem (j:Int)=true)/\mexP l=ytn l (l.length+1-k) k) (fun k=>l.length+1-k) 0 ⟨fun j h=>absurd h (Nat.not_lt_zero _),rfl⟩ ?_ ?_
 .refine yh [] [] [] ?_;simp only[yw,allQ,live,yc,zU,go_sem,↓reduceIte,reduceCtorEq]
 .intro k ⟨hk,he⟩;have hb:=yzx hk;simp only[ycgg,ychc,ycmd,yw,go_sem,zB,zF,↓reduceIte,reduceCtorEq];refine(yzw l k (by omega)).use ?_
  simp only[ybh,yba,go_sem,zB,zF,↓reduceIte,reduceCtorEq];refine⟨fun h=>⟨ikw (by omega) (by omega),?_⟩,fun h=>?_⟩
  .have hk2:∀j:Nat,j<k+1->l.elem (j:Int)=true:=fun j hj=>by
    by_cases q:j<k
    .exact hk j q
    .obtain rfl:j=k:=by omega
     exact h
   have hb2:=yzx hk2;refine yu (k+1) ⟨hk2,?_⟩ (by omega) ?_
   .rw[he,show l.length+1-k=(l.length+1-(k+1))+1 by omega,yblf h];simp
   .refine yh [] [] [] ?_;simp only[allQ,live,yc,yba,go_sem,↓reduceIte,reduceCtorEq];simp
  .rw[he,ybjs h]
theorem ybwq(x:Int):Returns zD 268 [.i .i64 x] (.b (x != 0)):=by
 refine Returns.of (yctl _ _ ?_);simp only[c268,ycmk,yclw,yfk,go_sem,zB,zF,↓reduceIte,reduceCtorEq]
theorem ywf(l:List Int)(hl:l.length<=1000):Returns zD 267 [yw l,.fn 268 [] []] (.i .i64 (yfh l)):=by
 refine Returns.of (ycwx _ _ ?_);simp only[c267,ychb,ycke,yw,go_sem,zF,↓reduceIte,reduceCtorEq];refine ybn (σ:=Nat) (fun k=>⟨[(8,.i .i64 k),(0,yw l),(1,.fn 268 [] []),(7,.i .i64 l.length)],[]⟩) (fun k=>k<=l.length/\(l.take k).findIdx? (· != 0)=none) (fun k=>l.length-k) 0 ⟨zAE _,by simp⟩ ?_ ?_
 .refine yh [] [] [] ?_;simp only[yw,allQ,live,yc,zU,go_sem,zB,↓reduceIte,reduceCtorEq]
 .intro k ⟨hk,hno⟩;simp only[yckb,ycmy,ycik,yckd,ycny,ycgj,yw,yba,go_sem,zB,zF,↓reduceIte,reduceCtorEq];refine⟨fun hlt=>⟨by omega,(ybwq _).use ?_⟩,fun hlt=>?_⟩
  .have hlt:k<l.length:=by omega
   simp only[ybh,yba,go_sem,zB,zF,↓reduceIte,reduceCtorEq];rw[getD_at hlt];refine⟨fun ha=>?_,fun ha=>⟨ikw (by omega) (by omega),?_⟩⟩
   .have:l.findIdx? (· != 0)=some k:=by
     rw[zZ];refine⟨hlt,by simpa using ha,fun j hj=>?_⟩
     rw[zV]at hno;have:=hno l[j] (List.mem_take_iff_getElem.2 ⟨j,by omega,rfl⟩)
     simpa using this
    unfold yfh;rw[this]
   .refine yu (k+1) ⟨by omega,?_⟩ (by omega) ?_
    .rw[zI hlt,zAM,hno];simp[ha]
    .refine yh [] [] [] ?_;simp only[allQ,live,yc,yba,go_sem,zB,↓reduceIte,reduceCtorEq];simp
  .obtain rfl:k=l.length:=by omega
   rw[zAA]at hno;unfold yfh;rw[hno]
end Sh
end
end Go.Proofs.YtiejahgklcjhkaaGreatDoor
