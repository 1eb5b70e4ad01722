/- Joined. -/
import Derived.Test.YthclbjjgfcgbgaaGreatDoorPkCn3
import Derived.Test.YthclbjjgfcgbgaaGreatDoorPkCn4
set_option linter.unusedSimpArgs false
set_option linter.unusedVariables false
set_option maxRecDepth 8000
open Nat renaming reduceEqDiff->zA,reduceAdd->zB,reduceLT->zH,reduceLeDiff->zI,le_refl->zK,zero_le->zM,lt_trichotomy->zBA,mul_le_mul->zBO,add_zero->zBS,lt_or_ge->zBU,sub_self->zBW,zero_mul->zBX
open Go.Lib renaming hid->zC
open Go.Proofs.Tryz renaming prog->zD,func131->zAK,ntmps131->zAM,func121->zAZ,underlying22->zBC,zeroCells241->zBD,func89->zBE,ntmps121->zBQ,func142->zBT,ntmps89->zBY
open List renaming getElem?_eq_getElem->zF,take_succ_eq_append_getElem->zJ,getD->zL,mem_of_getElem?->zN,getElem_mem->zO,replicate->zQ,getElem?_set->zS,range->zT,getD_eq_getElem?_getD->zU,foldl_append->zW,eq_nil_of_length_eq_zero->zX,take_of_length_le->zZ,getElem?_replicate->zAA,mem_cons_of_mem->zAB,findIdx?_eq_none_iff->zAC,drop_eq_getElem_cons->zAD,getElem_append_left->zAE,mem_cons_self->zAF,length_append->zAG,findIdx?_eq_some_iff_getElem->zAH,take_length->zAI,all_eq_true->zAJ,mem_zipIdx_iff_getElem?->zAL,getElem?_zip_eq_some->zAN,getElem_append_right->zAO,length_cons->zAP,length_nil->zAQ,length->zAS,getElem?_eq_none->zAT,mem_append_left->zAU,findIdx?_append->zAV,drop_succ_cons->zAW,countP_append->zAY,pairwise_map->zBB,ext_getElem->zBF,countP_cons->zBG,length_take->zBH,length_drop->zBI,elem_eq_mem->zBJ,range_succ->zBK,length_map->zBL,drop_zero->zBM,map_cons->zBP
open Bool renaming and_eq_true->zG,false_eq_true->zAX
open Int renaming toNat_natCast->zV,eq_ofNat_of_zero_le->zY,reduceToNat->zAR,natAbs_mul->zBN,le_trans->zBV
open Classical renaming byContradiction->zBR
open Go
namespace Go.Proofs.YthclbjjgfcgbgaaGreatDoor
section
namespace Sh
open Go Ev
theorem yeix {g:FuncId}{fn:Func}{sc:SC}{rs:List SR}(f:Tryz.prog.funcs[g]?=some fn) (a:fn.body.bind (cmp zD fn.ntmps)=some sc) (b:cmpR zD fn.results.toList=some rs)
 {i:List FuncId}{args:List SV}{Q:SV->Prop}(h:vc ⟨Ct zD,Cm zD,ItC zD,[],i⟩ sc (retK rs Q) ⟨slots args 0,[]⟩):Ct zD g args Q:=by
 obtain⟨c,d,e⟩:=bind_some a;exact ycoa mix ytb f d e b h
theorem yehh {g:FuncId}{fn:Func}{sc:SC}{rs:List SR}(i:Tryz.prog.funcs[g]?=some fn) (a:fn.body.bind (cmp zD fn.ntmps)=some sc) (b:cmpR zD fn.results.toList=some rs)
 {d:List Nm}{j:List FuncId}{o:Own}{args:List SV}{Q:SV->Own->Prop}(h:vc ⟨Ct zD,Cm zD,ItC zD,d,j⟩ sc (retM rs d Q) ⟨slots args 0,o⟩):Cm zD g d o args Q:=by
 obtain⟨c,e,f⟩:=bind_some a;exact ycgi mix ytb i e f b h
def Fn(g:FuncId)(c:SC)(rs:List SR):Prop:=∀(a:List SV) (Q:SV->Prop),vc ⟨Ct zD,Cm zD,ItC zD,[],[]⟩ c (retK rs Q) ⟨slots a 0,[]⟩->Ct zD g a Q
def FnU(g:FuncId)(c:SC)(rs:List SR):Prop:=∀(b:List FuncId) (a:List SV) (Q:SV->Prop),vc ⟨Ct zD,Cm zD,ItC zD,[],b⟩ c (retK rs Q) ⟨slots a 0,[]⟩->Ct zD g a Q
def FnM(g:FuncId)(c:SC)(rs:List SR):Prop:=∀(b:List Nm) (d:List FuncId) (o:Own) (a:List SV) (Q:SV->Own->Prop),vc ⟨Ct zD,Cm zD,ItC zD,b,d⟩ c (retM rs b Q) ⟨slots a 0,o⟩->Cm zD g b o a Q
section
variable {g:FuncId}{fn:Func}{sc:SC}{rs:List SR}
theorem fn_0(c:Tryz.prog.funcs[g]?=some fn)(a:fn.body.bind (cmp zD fn.ntmps)=some sc:=by kernel_rfl)(b:cmpR zD fn.results.toList=some rs:=by kernel_rfl):Fn g sc rs:=fun _ _ h=>yeix c a b h
theorem fn_u(c:Tryz.prog.funcs[g]?=some fn)(a:fn.body.bind (cmp zD fn.ntmps)=some sc:=by kernel_rfl)(b:cmpR zD fn.results.toList=some rs:=by kernel_rfl):FnU g sc rs:=fun _ _ _ h=>yeix c a b h
theorem fn_m(c:Tryz.prog.funcs[g]?=some fn)(a:fn.body.bind (cmp zD fn.ntmps)=some sc:=by kernel_rfl)(b:cmpR zD fn.results.toList=some rs:=by kernel_rfl):FnM g sc rs:=fun _ _ _ _ _ h=>yehh c a b h
end
def o3(x:SOp)(d a:Nat):SOper:=⟨x,some d,none,a⟩
def o0(x:SOp)(a:Nat):SOper:=⟨x,none,none,a⟩
abbrev LO:=List SOper
def mv'(x d a:Nat):SOper:=⟨.mv (.tmp x),some d,none,a⟩
def bn'(b:BinOp)(x y d a:Nat):SOper:=⟨.bin b (.tmp x) (.tmp y),some d,none,a⟩
def ld'(n x d a:Nat):SOper:=⟨.load false n (.tmp x),some d,none,a⟩
def fa'(o n x d a:Nat):SOper:=⟨.faddr o n (.tmp x),some d,none,a⟩
def ix'(z x k d a:Nat):SOper:=⟨.idx z (.tmp x) (.tmp k),some d,none,a⟩
def ln'(x d a:Nat):SOper:=⟨.len (.tmp x),some d,none,a⟩
def xt'(x k d a:Nat):SOper:=⟨.extract (.tmp x) k,some d,none,a⟩
def cl'(g:FuncId)(xs:List Nat)(d a:Nat):SOper:=⟨.call (.func g) (xs.map .tmp),some d,none,a⟩
def ci'(n:Int):Operand:=.const (.int .i64 n)
def mc(n:Int)(d a:Nat):SOper:=⟨.mv (.const (.int .i64 n)),some d,none,a⟩
def bc(b:BinOp)(x:Nat)(n:Int)(d a:Nat):SOper:=⟨.bin b (.tmp x) (.const (.int .i64 n)),some d,none,a⟩
def mb(b:Bool)(d a:Nat):SOper:=⟨.mv (.const (.bool b)),some d,none,a⟩
def nl'(d a:Nat):SOper:=⟨.mv (.const (.slice none 0 0)),some d,none,a⟩
def sto(n x y a:Nat):SOper:=⟨.store n (.tmp x) (.tmp y),none,none,a⟩
def la'(n x d a:Nat):SOper:=⟨.load true n (.tmp x),some d,none,a⟩
def nk'(x d a:Nat):SOper:=⟨.nilck (.tmp x),some d,none,a⟩
def bx'(t x d a:Nat):SOper:=⟨.box t (.tmp x),some d,none,a⟩
def pk'(x y d a:Nat):SOper:=⟨.pick (.tmp x) (.const (.bool true)) (.tmp y),some d,none,a⟩
def gf(x:SOp)(d g a:Nat):SOper:=⟨x,some d,some (g,false),a⟩
def gt(x:SOp)(d g a:Nat):SOper:=⟨x,some d,some (g,true),a⟩
def sr(l:LO)(k:SC):SC:=.seq (.reg false l) k
def cn(t:Nat)(a b:SC):SC:=.cond (.tmp t) a b
attribute [go_sem] o3 o0 mv' bn' ld' fa' ix' ln' xt' cl' ci' mc bc mb nl' sto la' nk' bx' pk' gf gt sr cn
attribute [go_sem] yelx ydtv ycpk ycfg yeky ydps yegt ydoy ycqa ydto yctw ybil ybdz ybxk ybmk puts ydmf
attribute [go_sem] yean yeme yeij ybik ybwe ycgl ybdn ybmv ybxq ybws ycbq ybpk ycnp ybpn ycsi
attribute [go_sem] yul Fam.at Prod.mk.injEq ydlr ydmx ydna ydtt ydsa yduz ybxc oldX oldV ymg ysa ycjp ydqi gb_x yejw resX yjz slots ycno
attribute [go_sem] yctk ycjm runO opO ycjp xOp SS.get SS.pget SS.gets SS.lit look lookO SS.put SS.own ydmk ydvc ydrk ycpr ycrh yctm ycpv
attribute [go_sem] yctr ycug ycob ycnx ycol ybso simple yop ybai yblm part idxX natX yue ybuw xbin xun eqL splice fill OB.set ofV fits ydmg
attribute [go_sem] ybqs allP SRec.no SRec.pure clash nmem List.isEmpty_nil List.isEmpty_cons List.drop List.take List.all List.any List.map zAS List.head? List.append
attribute [go_sem] List.nil_append List.append_nil List.cons_append List.all_cons List.all_nil zAW zBM List.take_succ_cons List.take_zero List.drop_nil
attribute [go_sem] List.take_nil zAP zAQ zBP List.map_nil List.getElem?_cons_zero List.getElem?_cons_succ List.elem zV Nat.zero_add
attribute [go_sem] zBS if_true if_false ite_true ite_false Option.isNone Option.isNone_none Option.map_some Option.map_none Bool.not_true Bool.not_false Bool.true_or
attribute [go_sem] Bool.or_true Bool.false_or Bool.or_false Bool.and_true Bool.true_and Bool.and_false Bool.false_and Bool.and_self Bool.or_self true_and and_true and_self
attribute [go_sem] true_implies false_implies implies_true forall_const Nat.lt_add_one Nat.one_pos Nat.zero_lt_one Nat.lt_irrefl zK decide_true decide_false zAX
attribute [go_sem] Bool.true_eq_false forall_eq BEq.rfl beq_self_eq_true decide_eq_true_eq decide_eq_false_iff_not beq_iff_eq beq_eq_false_iff_ne bne_iff_ne bne_eq_false_iff_eq
attribute [go_sem] Bool.not_eq_true Bool.not_eq_false Bool.not_eq_true' Bool.not_eq_false' ydsz ydse ydmu ycrk ycth ycds ycoj ycqz ycqd
attribute [go_sem] ycpj ycga ydop ydwa ydph ycox ycrn ycqc ycue ycrl yctp yckc ychx ybvb ybzj ycdh yclh
attribute [go_sem] yclt ycgx ycci yeai ydxm yeek ydsi ydro ycto ydmo ydtz ydrj ydnl ydru ydlq yeld yeju yejv ydxj ydym
attribute [go_sem] ydnx yeac yehj ydxq yeib yegz yeaf yeii yege yecc ydsm ydoz ycod yduv ydof ydpo ydoj ydpr ydpx
attribute [go_sem] yban ybig idxF yebb yuy ymz own1 ybtc ydnk ydow zAX false_implies Tel telL yec yhn ycbz yduw ydtn
attribute [go_sem] ycte ycnm ycoe ycow ycun ycra ycrb ycse ycrq yelf yeko yelq yeet yefb yebh yedc yedt yefy yeaa yeav
attribute [go_sem] ydwu lv nmem rid yid ycib yehe ybcl yeeh ydqv yczb yqw ycmu ydzt yeft ycmq ykv ybqx yekw yemd yekv yecp ydzp ydqo
attribute [go_sem] yedy ydxi yefr ydwd ydyo yehr List.any_cons List.any_nil Option.isSome ydqj or_false false_or or_true true_or false_and exists_const exists_false
attribute [go_sem] List.not_mem_nil and_false
attribute [go_sem ↓] gb_t gb_f yelr yekp
end Sh
end
section
namespace Sh
open Go Ev
def ycxq:LO:=[mc 0 4 0]
def ycwu:LO:=[mv' 0 6 0,ln' 6 7 1,mc 0 8 0]
def ycve:LO:=[bn' .lss 8 7 9 0]
def ydgn:LO:=[mv' 8 10 0,mv' 10 5 1]
def ydbt:LO:=[mv' 1 11 0,mv' 0 12 0,mv' 5 13 0,ix' 1 12 13 14 6,ld' 1 14 15 14,bn' .eql 11 15 16 31]
def yczq:LO:=[mv' 5 17 0,mv' 17 4 1]
def ycyz:LO:=[bc .add 8 1 18 0,mv' 18 8 1]
def ycyf:LO:=[mc (-1) 4 0]
def c143:SC:=(sr ycxq <| .seq (sr ycwu <| .block 0 (.loop (sr ycve <| .seq (cn 9 .skip (.exit 0)) (.seq (.block 1 (sr ydgn <| sr ydbt <| cn 16 (sr yczq <| .ret) .skip)) (.reg false ycyz))))) (sr ycyf <| .ret))
theorem ydmp:Fn 143 c143 [.t 4]:=fn_0 Tryz.func143
def yecn:LO:=[mc 0 2 0]
def yedv:LO:=[mv' 0 5 0,ln' 5 6 1,bc .lss 6 1 7 3]
def yees:LO:=[o3 (.no) 8 0,o0 (.no) 1]
def yeeg:LO:=[mv' 0 9 0,o3 (.idx 1 (.tmp 9) (ci' 0)) 10 1,ld' 1 10 11 3,mv' 11 3 7]
def yejp:LO:=[mc 1 4 0]
def ydxx:LO:=[mv' 4 12 0,mv' 0 13 0,ln' 13 14 2,bn' .lss 12 14 15 7]
def yeaw:LO:=[mv' 3 18 0,mv' 0 19 0,mv' 4 20 0,ix' 1 19 20 21 6,ld' 1 21 22 14,o3 (.mm true (.tmp 18) (.tmp 22)) 23 31,mv' 23 3 63]
def yefj:LO:=[mv' 4 16 0,bc .add 16 1 17 1,mv' 17 4 3]
def yecw:LO:=[mv' 3 24 0,mv' 24 2 1]
def c54:SC:=(sr yecn <| .seq (sr yedv <| cn 7 (.reg false yees) .skip) (sr yeeg <| .seq (sr yejp <| .block 0 (.loop (.seq (sr ydxx <| cn 15 .skip (.exit 0)) (.seq (.block 1 (.reg false yeaw)) (.reg false yefj))))) (sr yecw <| .ret)))
theorem yeau:Fn 54 c54 [.t 2]:=fn_0 Tryz.func54
def ycwi:LO:=[mb false 4 0]
def ydjn:LO:=[mv' 0 5 0,mv' 1 6 0,cl' 143 [5,6] 7 3,bc .geq 7 0 8 7,mv' 8 4 15]
def c258:SC:=(sr ycwi <| sr ydjn <| .ret)
theorem ydqa:Fn 258 c258 [.t 4]:=fn_0 Tryz.func258
def ycya:LO:=[mc 0 4 0]
def ycwz:LO:=[mv' 0 6 0,ln' 6 7 1,mc 0 8 0]
def ydeo:LO:=[bn' .lss 8 7 9 0]
def ydjg:LO:=[mv' 8 10 0,mv' 10 5 1]
def ycwm:LO:=[mv' 1 11 0,mv' 0 12 0,mv' 5 13 0,ix' 1 12 13 14 6,ld' 1 14 15 14,o3 (.call (.tmp 11) [(.tmp 15)]) 16 31]
def ycux:LO:=[mv' 5 17 0,mv' 17 4 1]
def yczk:LO:=[bc .add 8 1 18 0,mv' 18 8 1]
def yday:LO:=[mc (-1) 4 0]
def c251:SC:=(sr ycya <| .seq (sr ycwz <| .block 0 (.loop (sr ydeo <| .seq (cn 9 .skip (.exit 0)) (.seq (.block 1 (sr ydjg <| sr ycwm <| cn 16 (sr ycux <| .ret) .skip)) (.reg false yczk))))) (sr yday <| .ret))
theorem ydur:Fn 251 c251 [.t 4]:=fn_0 Tryz.func251
def ycwv:LO:=[mc 0 2 0]
def ydju:LO:=[mv' 0 4 0,bc .lss 4 1 5 1,mv' 5 6 3,gf (.mv (.tmp 0)) 7 6 7,gf (.bin .gtr (.tmp 7) (ci' 43)) 8 6 15,pk' 6 8 9 31,mv' 9 3 63]
def ydcr:LO:=[mc (-1) 2 0]
def ycxe:LO:=[mv' 0 11 0,bc .leq 11 17 12 1,mv' 12 10 3]
def yddf:LO:=[mc 0 2 0]
def ydfz:LO:=[mv' 0 14 0,bc .leq 14 29 15 1,mv' 15 13 3]
def ydan:LO:=[mc 1 2 0]
def ycye:LO:=[mv' 0 17 0,bc .leq 17 42 18 1,mv' 18 16 3]
def ydbg:LO:=[mc 2 2 0]
def ydcf:LO:=[mc 3 2 0]
def c231:SC:=(sr ycwv <| .seq (.block 0 (sr ydju <| cn 3 (sr ydcr <| .ret) (sr ycxe <| cn 10 (sr yddf <| .ret) (sr ydfz <| cn 13 (sr ydan <| .ret) (sr ycye <| cn 16 (sr ydbg <| .ret) .skip))))) (sr ydcf <| .ret))
theorem ydtb:Fn 231 c231 [.t 2]:=fn_0 Tryz.func231
def ydhh:LO:=[mc 0 4 0]
def ydds:LO:=[mv' 1 7 0,bc .lss 7 0 8 1,mv' 8 9 3,gf (.mv (.tmp 1)) 10 9 7,gf (.mv (.tmp 0)) 11 9 7,gf (.len (.tmp 11)) 12 9 23,gf (.bin .geq (.tmp 10) (.tmp 12)) 13 9 63,pk' 9 13 14 127]
def ydid:LO:=[mc (-1) 4 0]
def ydln:LO:=[mc 1 5 0]
def ydff:LO:=[mv' 1 15 0,mv' 0 16 0,ln' 16 17 2,bn' .lss 15 17 18 7]
def ycxx:LO:=[mv' 0 21 0,mv' 1 22 0,ix' 2 21 22 23 3,fa' 0 1 23 24 7,ld' 1 24 25 15,cl' 231 [25] 26 31,mv' 26 6 63]
def ycwr:LO:=[mv' 6 27 0,bc .lss 27 0 28 1]
def ydkg:LO:=[mc (-1) 4 0]
def ydll:LO:=[mv' 5 29 0,mv' 6 30 0,bc .sub 30 1 31 2,bn' .add 29 31 32 7,mv' 32 5 15]
def ycjh:LO:=[mv' 5 33 0,bc .eql 33 0 34 1]
def ycgy:LO:=[mv' 1 35 0,bc .add 35 1 36 1,mv' 36 4 3]
def ydcw:LO:=[mv' 1 19 0,bc .add 19 1 20 1,mv' 20 1 3]
def ycfw:LO:=[mc (-1) 4 0]
def c215:SC:=(sr ydhh <| .seq (sr ydds <| cn 14 (sr ydid <| .ret) .skip) (.seq (sr ydln <| .block 0 (.loop (.seq (sr ydff <| cn 18 .skip (.exit 0)) (.seq (.block 1 (sr ycxx <| .seq (sr ycwr <| cn 28 (sr ydkg <| .ret) .skip) (sr ydll <| sr ycjh <| cn 34 (sr ycgy <| .ret) .skip))) (.reg false ydcw))))) (sr ycfw <| .ret)))
theorem ydpv:Fn 215 c215 [.t 4]:=fn_0 Tryz.func215
def ycxn:LO:=[bx' 27 0 3 0,mc 0 6 0]
def ycvb:LO:=[fa' 1 1 3 9 0,ld' 1 9 10 1,mv' 1 11 0,ix' 1 10 11 12 7,ld' 1 12 13 15,ln' 13 14 31,mc 0 15 0]
def ydik:LO:=[bn' .lss 15 14 16 0]
def yddi:LO:=[mv' 15 17 0,ix' 2 13 15 18 0,la' 2 18 19 2,o3 (.alloc 68 1 [.i .i64 0,.i .i64 0]) 8 0,mv' 17 7 15,sto 2 8 19 31]
def ycvz:LO:=[fa' 0 1 8 20 0,ld' 1 20 21 1,mv' 2 22 0,bn' .eql 21 22 23 7]
def ydca:LO:=[mv' 7 24 0,mv' 24 6 1]
def ycxt:LO:=[bc .add 15 1 25 0,mv' 25 15 1]
def ydgp:LO:=[mc (-1) 6 0]
def c204:SC:=(sr ycxn <| .seq (sr ycvb <| .block 0 (.loop (sr ydik <| .seq (cn 16 .skip (.exit 0)) (.seq (.block 1 (sr yddi <| sr ycvz <| cn 23 (sr ydca <| .ret) .skip)) (.reg false ycxt))))) (sr ydgp <| .ret))
theorem ydsl:Fn 204 c204 [.t 6]:=fn_0 Tryz.func204
def ycxr:LO:=[bx' 27 0 1 0,o3 (.mv (.const (.int .u32 0))) 2 0]
def ydkn:LO:=[fa' 0 1 1 3 0,ld' 1 3 4 1,ln' 4 5 3,o3 (.bin .shl (.const (.int .u32 1)) (.tmp 5)) 6 7,o3 (.bin .sub (.tmp 6) (.const (.int .u32 1))) 7 15,mv' 7 2 31]
def c149:SC:=(sr ycxr <| sr ydkn <| .ret)
theorem ydpf:Fn 149 c149 [.t 2]:=fn_0 Tryz.func149
def ydhz:LO:=[bx' 27 0 2 0,nl' 4 0]
def ydgl:LO:=[fa' 1 1 2 11 0,ld' 1 11 12 1,ln' 12 13 3,o3 (.mk 3 1 8 [.i .i64 0] (.tmp 13) (.tmp 13)) 14 7,mv' 14 5 15]
def ydfy:LO:=[mv' 5 15 0,ln' 15 16 1,mc 0 17 0]
def ycnb:LO:=[bn' .lss 17 16 18 0]
def ydla:LO:=[mv' 17 19 0,mv' 19 6 1]
def yczv:LO:=[mv' 5 20 0,mv' 6 21 0,ix' 1 20 21 22 3,o0 (.store 1 (.tmp 22) (.const (.int .i64 (-1)))) 7]
def ydim:LO:=[bc .add 17 1 23 0,mv' 23 17 1]
def yddh:LO:=[mv' 5 24 0,mv' 1 25 0,ix' 1 24 25 26 3,o0 (.store 1 (.tmp 26) (ci' 0)) 7]
def ycwq:LO:=[mv' 1 27 0,o3 (.bslice 3 1 1 [.i .i64 0] [(0,1,(.tmp 27))]) 28 1,mv' 28 7 3]
def ycbn:LO:=[mv' 7 29 0,ln' 29 30 1,bc .gtr 30 0 31 3]
def ycav:LO:=[mv' 7 32 0,o3 (.idx 1 (.tmp 32) (ci' 0)) 33 1,ld' 1 33 34 3,mv' 34 8 7]
def ycdl:LO:=[mv' 7 35 0,o3 (.cut 1 (.tmp 35) (some (ci' 1)) none) 36 1,mv' 36 7 3]
def ycln:LO:=[fa' 1 1 2 37 0,ld' 1 37 38 1,mv' 8 39 0,ix' 1 38 39 40 7,ld' 1 40 41 15,ln' 41 42 31,mc 0 43 0]
def ybfo:LO:=[bn' .lss 43 42 44 0]
def ybfn:LO:=[ix' 2 41 43 45 0,la' 2 45 46 1,o3 (.alloc 68 1 [.i .i64 0,.i .i64 0]) 10 0,sto 2 10 46 7]
def ybea:LO:=[mv' 5 47 0,fa' 0 1 10 48 0,ld' 1 48 49 2,ix' 1 47 49 50 7,ld' 1 50 51 15,bc .lss 51 0 52 31]
def ybdx:LO:=[mv' 5 53 0,fa' 0 1 10 54 0,ld' 1 54 55 2,mv' 5 56 0,mv' 8 57 0,ix' 1 56 57 58 24,ld' 1 58 59 56,bc .add 59 1 60 120,ix' 1 53 55 61 255,sto 1 61 60 511]
def ybfu:LO:=[mv' 7 62 0,fa' 0 1 10 63 0,ld' 1 63 64 2,o3 (.bslice 3 1 1 [.i .i64 0] [(0,1,(.tmp 64))]) 65 6,o3 (.app 3 1 8 (.tmp 62) (.tmp 65)) 66 15,mv' 66 7 31]
def ybed:LO:=[bc .add 43 1 67 0,mv' 67 43 1]
def ycmo:LO:=[mv' 5 68 0,mv' 68 4 1]
def c142:SC:=(sr ydhz <| sr ydgl <| .seq (sr ydfy <| .block 0 (.loop (sr ycnb <| .seq (cn 18 .skip (.exit 0)) (.seq (.block 1 (sr ydla <| .reg false yczv)) (.reg false ydim))))) (sr yddh <| sr ycwq <| .seq (.block 2 (.loop (.seq (sr ycbn <| cn 31 .skip (.exit 2)) (.block 3 (sr ycav <| sr ycdl <| sr ycln <| .block 4 (.loop (sr ybfo <| .seq (cn 44 .skip (.exit 4)) (.seq (.block 5 (sr ybfn <| sr ybea <| cn 52 (.seq (.reg true ybdx) (.reg false ybfu)) .skip)) (.reg false ybed))))))))) (sr ycmo <| .ret)))
theorem ydne:Fn 142 c142 [.t 4]:=fn_0 zBT
def ydja:LO:=[mc 0 2 0]
def yddp:LO:=[mc (-1) 3 0]
def ydjt:LO:=[mv' 0 6 0,ln' 6 7 1,mc 0 8 0]
def ydbx:LO:=[bn' .lss 8 7 9 0]
def ydlb:LO:=[ix' 1 6 8 10 0,ld' 1 10 11 1,mv' 11 5 3]
def ycyp:LO:=[mv' 3 12 0,mv' 5 13 0,o3 (.mm true (.tmp 12) (.tmp 13)) 14 3,mv' 14 3 7]
def ycyx:LO:=[bc .add 8 1 15 0,mv' 15 8 1]
def ydbw:LO:=[mv' 3 16 0,mv' 16 2 1]
def c141:SC:=(sr ydja <| sr yddp <| .seq (sr ydjt <| .block 0 (.loop (sr ydbx <| .seq (cn 9 .skip (.exit 0)) (.seq (.block 1 (sr ydlb <| .reg false ycyp)) (.reg false ycyx))))) (sr ydbw <| .ret))
theorem ydpp:Fn 141 c141 [.t 2]:=fn_0 Tryz.func141
def ydhi:LO:=[mc 0 2 0]
def ydei:LO:=[mv' 0 3 0]
def ydcg:LO:=[mc 1 2 0]
def ycyr:LO:=[mc 0 2 0]
def c240:SC:=(sr ydhi <| .seq (sr ydei <| cn 3 (sr ydcg <| .ret) .skip) (sr ycyr <| .ret))
theorem ydtr:Fn 240 c240 [.t 2]:=fn_0 Tryz.func240
def ydak:LO:=[mc 0 2 0]
def ycws:LO:=[mv' 0 3 0,o3 (.mm false (.tmp 3) (ci' 1073741824)) 4 1,o3 (.mm true (.const (.int .i64 (-1073741824))) (.tmp 4)) 5 3,mv' 5 2 7]
def c242:SC:=(sr ydak <| sr ycws <| .ret)
theorem ydri:Fn 242 c242 [.t 2]:=fn_0 Tryz.func242
def ydcc:LO:=[mc 0 4 0]
def ydaj:LO:=[mv' 0 5 0,bc .eql 5 18 6 1]
def ydhv:LO:=[mv' 1 7 0,o3 (.un .neg (.tmp 7)) 8 1,mv' 8 4 3]
def ydfe:LO:=[mv' 1 9 0,bc .eql 9 0 10 1,cl' 240 [10] 11 3,mv' 11 4 7]
def c221:SC:=(sr ydcc <| .seq (sr ydaj <| cn 6 (sr ydhv <| .ret) .skip) (sr ydfe <| .ret))
theorem ydsn:Fn 221 c221 [.t 4]:=fn_0 Tryz.func221
def ycwt:LO:=[mc 0 6 0]
def ycuz:LO:=[mv' 0 7 0]
def ydcx:LO:=[bc .eql 7 30 9 0,mv' 9 8 1]
def ydgd:LO:=[mv' 1 10 0,mv' 2 11 0,bn' .mul 10 11 12 3,cl' 242 [12] 13 7,mv' 13 6 15]
def ycxo:LO:=[bc .eql 7 31 15 0,mv' 15 14 1]
def ydfc:LO:=[mv' 1 16 0,mv' 2 17 0,cl' 243 [16,17] 18 3,cl' 242 [18] 19 7,mv' 19 6 15]
def ydhr:LO:=[bc .eql 7 32 21 0,mv' 21 20 1]
def ycyb:LO:=[mv' 2 22 0,bc .eql 22 0 23 1]
def ycvs:LO:=[mc 0 6 0]
def ydht:LO:=[mv' 1 24 0,mv' 2 25 0,mv' 1 26 0,mv' 2 27 0,cl' 243 [26,27] 28 12,bn' .mul 25 28 29 30,bn' .sub 24 29 30 63,cl' 242 [30] 31 127,mv' 31 6 255]
def ycau:LO:=[bc .eql 7 33 33 0,mv' 33 32 1]
def yckb:LO:=[mv' 1 34 0,mv' 2 35 0,bn' .add 34 35 36 3,cl' 242 [36] 37 7,mv' 37 6 15]
def ycia:LO:=[bc .eql 7 34 39 0,mv' 39 38 1]
def ycmg:LO:=[mv' 1 40 0,mv' 2 41 0,bn' .sub 40 41 42 3,cl' 242 [42] 43 7,mv' 43 6 15]
def ychc:LO:=[bc .eql 7 41 45 0,mv' 45 44 1]
def ycfn:LO:=[mv' 1 46 0,bc .neq 46 0 47 1,mv' 47 48 3,gt (.mv (.tmp 2)) 49 48 7,gt (.bin .neq (.tmp 49) (ci' 0)) 50 48 15,o3 (.pick (.tmp 48) (.tmp 50) (.const (.bool false))) 51 31,cl' 240 [51] 52 63,mv' 52 6 127]
def yccm:LO:=[bc .eql 7 42 54 0,mv' 54 53 1]
def ycca:LO:=[mv' 1 55 0,bc .neq 55 0 56 1,mv' 56 57 3,gf (.mv (.tmp 2)) 58 57 7,gf (.bin .neq (.tmp 58) (ci' 0)) 59 57 15,pk' 57 59 60 31,cl' 240 [60] 61 63,mv' 61 6 127]
def ycge:LO:=[mv' 0 62 0,mv' 1 63 0,mv' 2 64 0,cl' 244 [62,63,64] 65 7,cl' 240 [65] 66 15,mv' 66 6 31]
def c223:SC:=(sr ycwt <| .seq (sr ycuz <| .block 0 (sr ydcx <| cn 8 (sr ydgd <| .ret) (sr ycxo <| cn 14 (sr ydfc <| .ret) (sr ydhr <| cn 20 (.seq (sr ycyb <| cn 23 (sr ycvs <| .ret) .skip) (sr ydht <| .ret)) (sr ycau <| cn 32 (sr yckb <| .ret) (sr ycia <| cn 38 (sr ycmg <| .ret) (sr ychc <| cn 44 (sr ycfn <| .ret) (sr yccm <| cn 53 (sr ycca <| .ret) .skip)))))))) (sr ycge <| .ret))
theorem ydug:Fn 223 c223 [.t 6]:=fn_0 Tryz.func223
def ydic:LO:=[mc 0 4 0]
def ycxa:LO:=[mv' 1 6 0,bc .eql 6 0 7 1]
def ycvv:LO:=[mc 0 4 0]
def ycyk:LO:=[mv' 0 8 0,mv' 1 9 0,bn' .quo 8 9 10 3,mv' 10 5 7]
def yczn:LO:=[mv' 0 11 0,mv' 1 12 0,bn' .rem 11 12 13 3,bc .neq 13 0 14 7,mv' 14 15 15,gt (.mv (.tmp 0)) 16 15 31,gt (.bin .lss (.tmp 16) (ci' 0)) 17 15 63,gt (.mv (.tmp 1)) 18 15 31,gt (.bin .lss (.tmp 18) (ci' 0)) 19 15 159,gt (.beq true (.tmp 17) (.tmp 19)) 20 15 511,o3 (.pick (.tmp 15) (.tmp 20) (.const (.bool false))) 21 1023]
def ydiw:LO:=[mv' 5 22 0,bc .sub 22 1 23 1,mv' 23 5 3]
def ydeh:LO:=[mv' 5 24 0,mv' 24 4 1]
def c243:SC:=(sr ydic <| .seq (sr ycxa <| cn 7 (sr ycvv <| .ret) .skip) (sr ycyk <| .seq (sr yczn <| cn 21 (.reg false ydiw) .skip) (sr ydeh <| .ret)))
theorem ydtc:Fn 243 c243 [.t 4]:=fn_0 Tryz.func243
def ydet:LO:=[mb false 6 0]
def ycxl:LO:=[mv' 0 7 0]
def ydjl:LO:=[bc .eql 7 35 9 0,mv' 9 8 1]
def yczy:LO:=[mv' 1 10 0,mv' 2 11 0,bn' .eql 10 11 12 3,mv' 12 6 7]
def ydgo:LO:=[bc .eql 7 36 14 0,mv' 14 13 1]
def yczd:LO:=[mv' 1 15 0,mv' 2 16 0,bn' .neq 15 16 17 3,mv' 17 6 7]
def ydfp:LO:=[bc .eql 7 37 19 0,mv' 19 18 1]
def ydfa:LO:=[mv' 1 20 0,mv' 2 21 0,bn' .lss 20 21 22 3,mv' 22 6 7]
def ydiu:LO:=[bc .eql 7 38 24 0,mv' 24 23 1]
def ycyo:LO:=[mv' 1 25 0,mv' 2 26 0,bn' .leq 25 26 27 3,mv' 27 6 7]
def ycjt:LO:=[bc .eql 7 39 29 0,mv' 29 28 1]
def ycei:LO:=[mv' 1 30 0,mv' 2 31 0,bn' .gtr 30 31 32 3,mv' 32 6 7]
def ycgf:LO:=[mv' 1 33 0,mv' 2 34 0,bn' .geq 33 34 35 3,mv' 35 6 7]
def c244:SC:=(sr ydet <| .seq (sr ycxl <| .block 0 (sr ydjl <| cn 8 (sr yczy <| .ret) (sr ydgo <| cn 13 (sr yczd <| .ret) (sr ydfp <| cn 18 (sr ydfa <| .ret) (sr ydiu <| cn 23 (sr ycyo <| .ret) (sr ycjt <| cn 28 (sr ycei <| .ret) .skip)))))) (sr ycgf <| .ret))
theorem ydmt:Fn 244 c244 [.t 6]:=fn_0 Tryz.func244
def ydfd:LO:=[mc 0 4 0]
def ydag:LO:=[mv' 0 15 0]
def ydat:LO:=[bc .eql 15 20 17 0,mv' 17 16 1]
def ycwh:LO:=[mv' 1 18 0,cl' 250 [18] 19 1,mv' 1 20 0,ln' 20 21 4,bn' .eql 19 21 22 15,cl' 240 [22] 23 31,mv' 23 4 63]
def ydey:LO:=[bc .eql 15 21 25 0,mv' 25 24 1]
def ydae:LO:=[mv' 1 26 0,cl' 250 [26] 27 1,bc .gtr 27 0 28 3,cl' 240 [28] 29 7,mv' 29 4 15]
def ydkk:LO:=[bc .eql 15 22 31 0,mv' 31 30 1]
def yczs:LO:=[mv' 1 32 0,cl' 250 [32] 33 1,mv' 33 4 3]
def yddv:LO:=[bc .eql 15 23 35 0,mv' 35 34 1]
def yddz:LO:=[mv' 1 36 0,o3 (.call (.func 251) [(.tmp 36),(.func 252)]) 37 1,mv' 37 4 3]
def ybzq:LO:=[bc .eql 15 24 39 0,mv' 39 38 1]
def ycdi:LO:=[mc 1073741824 5 0]
def ycjx:LO:=[mv' 1 40 0,ln' 40 41 1,mc 0 42 0]
def ycjz:LO:=[bn' .lss 42 41 43 0]
def ycbe:LO:=[ix' 1 40 42 44 0,ld' 1 44 45 1,mv' 45 7 3]
def ycmk:LO:=[mv' 5 46 0,mv' 7 47 0,o3 (.mm false (.tmp 46) (.tmp 47)) 48 3,mv' 48 5 7]
def ybza:LO:=[bc .add 42 1 49 0,mv' 49 42 1]
def ychl:LO:=[mv' 5 50 0,mv' 50 4 1]
def ycik:LO:=[bc .eql 15 25 52 0,mv' 52 51 1]
def ycmj:LO:=[mv' 1 54 0,cl' 253 [54] 55 1,mv' 55 53 3,xt' 53 0 56 7,xt' 53 1 57 7,mv' 56 8 15,mv' 57 9 63]
def ycfj:LO:=[mv' 8 58 0,mv' 58 4 1]
def ybzh:LO:=[bc .eql 15 26 60 0,mv' 60 59 1]
def yckx:LO:=[mc 0 10 0]
def ybyz:LO:=[mv' 1 61 0,ln' 61 62 1,mc 0 63 0]
def yckz:LO:=[bn' .lss 63 62 64 0]
def ycne:LO:=[ix' 1 61 63 65 0,ld' 1 65 66 1,mv' 66 12 3]
def ycjw:LO:=[mv' 10 67 0,mv' 12 68 0,bn' .add 67 68 69 3,mv' 69 10 7]
def yclf:LO:=[bc .add 63 1 70 0,mv' 70 63 1]
def ycai:LO:=[mv' 10 71 0,cl' 242 [71] 72 1,mv' 72 4 3]
def ycer:LO:=[bc .eql 15 27 74 0,mv' 74 73 1]
def ybyx:LO:=[mv' 1 75 0,cl' 254 [75] 76 1,mv' 76 4 3]
def ycdt:LO:=[bc .eql 15 28 78 0,mv' 78 77 1]
def yccj:LO:=[mv' 1 80 0,cl' 253 [80] 81 1,mv' 81 79 3,xt' 79 0 82 7,xt' 79 1 83 7,mv' 82 13 15,mv' 83 14 63]
def yced:LO:=[mv' 14 84 0,mv' 84 4 1]
def ychy:LO:=[mv' 1 85 0,ln' 85 86 1,bc .eql 86 0 87 3]
def yche:LO:=[mc 0 4 0]
def ycdk:LO:=[mv' 1 88 0,o3 (.idx 1 (.tmp 88) (ci' 0)) 89 1,ld' 1 89 90 3,mv' 90 4 7]
def c241:SC:=(sr ydfd <| .seq (sr ydag <| .block 0 (sr ydat <| cn 16 (sr ycwh <| .ret) (sr ydey <| cn 24 (sr ydae <| .ret) (sr ydkk <| cn 30 (sr yczs <| .ret) (sr yddv <| cn 34 (sr yddz <| .ret) (sr ybzq <| cn 38 (sr ycdi <| .seq (sr ycjx <| .block 1 (.loop (sr ycjz <| .seq (cn 43 .skip (.exit 1)) (.seq (.block 2 (sr ycbe <| .reg false ycmk)) (.reg false ybza))))) (sr ychl <| .ret)) (sr ycik <| cn 51 (sr ycmj <| sr ycfj <| .ret) (sr ybzh <| cn 59 (sr yckx <| .seq (sr ybyz <| .block 3 (.loop (sr yckz <| .seq (cn 64 .skip (.exit 3)) (.seq (.block 4 (sr ycne <| .reg false ycjw)) (.reg false yclf))))) (sr ycai <| .ret)) (sr ycer <| cn 73 (sr ybyx <| .ret) (sr ycdt <| cn 77 (sr yccj <| sr yced <| .ret) .skip)))))))))) (.seq (sr ychy <| cn 87 (sr yche <| .ret) .skip) (sr ycdk <| .ret)))
theorem ydtw:Fn 241 c241 [.t 4]:=fn_0 Tryz.func241
def ydfu:LO:=[mb false 2 0]
def ydfx:LO:=[mv' 0 3 0,bc .neq 3 0 4 1,mv' 4 2 3]
def c252:SC:=(sr ydfu <| sr ydfx <| .ret)
theorem ydsh:Fn 252 c252 [.t 2]:=fn_0 Tryz.func252
def yczt:LO:=[mc 0 2 0]
def ycxz:LO:=[mc 0 3 0]
def ydjk:LO:=[mv' 0 6 0,ln' 6 7 1,mc 0 8 0]
def ydgs:LO:=[bn' .lss 8 7 9 0]
def ycvu:LO:=[ix' 1 6 8 10 0,ld' 1 10 11 1,mv' 11 5 3]
def ydjm:LO:=[mv' 5 12 0,bc .neq 12 0 13 1]
def ydhf:LO:=[mv' 3 14 0,bc .add 14 1 15 1,mv' 15 3 3]
def ydam:LO:=[bc .add 8 1 16 0,mv' 16 8 1]
def ydlo:LO:=[mv' 3 17 0,mv' 17 2 1]
def c250:SC:=(sr yczt <| sr ycxz <| .seq (sr ydjk <| .block 0 (.loop (sr ydgs <| .seq (cn 9 .skip (.exit 0)) (.seq (.block 1 (sr ycvu <| sr ydjm <| cn 13 (.reg false ydhf) .skip)) (.reg false ydam))))) (sr ydlo <| .ret))
theorem ydov:Fn 250 c250 [.t 2]:=fn_0 Tryz.func250
def ycyn:LO:=[mc 0 2 0,mc 0 3 1]
def ycys:LO:=[mc (-1073741824) 2 0,mc (-1073741824) 3 1]
def ydlk:LO:=[mv' 0 6 0,ln' 6 7 1,mc 0 8 0]
def yddn:LO:=[bn' .lss 8 7 9 0]
def ydkl:LO:=[ix' 1 6 8 10 0,ld' 1 10 11 1,mv' 11 5 3]
def ycvk:LO:=[mv' 5 12 0,mv' 2 13 0,bn' .gtr 12 13 14 3]
def yczu:LO:=[mv' 5 15 0,mv' 2 16 0,mv' 15 2 3,mv' 16 3 7]
def ycvx:LO:=[mv' 3 17 0,mv' 5 18 0,o3 (.mm true (.tmp 17) (.tmp 18)) 19 3,mv' 19 3 7]
def ydjy:LO:=[bc .add 8 1 20 0,mv' 20 8 1]
def ycvl:LO:=[mv' 2 21 0,mv' 3 22 0,mv' 21 2 1,mv' 22 3 7]
def c253:SC:=(sr ycyn <| sr ycys <| .seq (sr ydlk <| .block 0 (.loop (sr yddn <| .seq (cn 9 .skip (.exit 0)) (.seq (.block 1 (sr ydkl <| sr ycvk <| cn 14 (.reg false yczu) (.reg false ycvx))) (.reg false ydjy))))) (sr ycvl <| .ret))
theorem ydmr:Fn 253 c253 [.t 2,.t 3]:=fn_0 Tryz.func253
def ydch:LO:=[mc 0 2 0]
def yddj:LO:=[mc 0 3 0]
def yden:LO:=[mv' 0 4 0,mv' 3 5 0,cl' 258 [4,5] 6 3]
def ydkx:LO:=[mv' 3 7 0,bc .add 7 1 8 1,mv' 8 3 3]
def ycyq:LO:=[mv' 3 9 0,mv' 9 2 1]
def c254:SC:=(sr ydch <| sr yddj <| .seq (.block 0 (.loop (.seq (sr yden <| cn 6 .skip (.exit 0)) (.block 1 (.reg false ydkx))))) (sr ycyq <| .ret))
theorem ydre:Fn 254 c254 [.t 2]:=fn_0 Tryz.func254
def ydho:LO:=[bx' 32 0 2 0,bx' 27 1 3 0,o3 (.mv (.const (.pointer none))) 4 0]
def ydhs:LO:=[la' 3 2 10 0,la' 2 3 11 0,fa' 1 1 3 12 0,ld' 1 12 13 4,ln' 13 14 12,o3 (.mk 22 1 24 [.a (.slice none 0 0)] (.tmp 14) (.tmp 14)) 15 28,o3 (.build [.a (.string (ByteArray.mk #[])),.a (.slice none 0 0),.a (.slice none 0 0),.a (.slice none 0 0),.a (.slice none 0 0),.i .i64 0,.a (.slice none 0 0)] [(0,3,(.tmp 10)),(3,2,(.tmp 11)),(6,1,(.tmp 15))]) 16 63,bx' 235 16 17 127,mv' 17 5 255]
def ydjv:LO:=[fa' 1 1 3 18 0,ld' 1 18 19 1,ln' 19 20 3,mc 0 21 0]
def ydky:LO:=[bn' .lss 21 20 22 0]
def ydcy:LO:=[mv' 21 23 0,ix' 1 19 21 24 0,ld' 1 24 25 2,mv' 23 6 7,mv' 25 7 15]
def ydas:LO:=[mv' 5 26 0,mv' 5 27 0,nk' 27 28 2,fa' 5 1 28 29 6,ld' 1 29 30 14,fa' 0 1 3 31 0,ld' 1 31 32 32,mv' 6 33 0,ix' 1 32 33 34 224,ld' 1 34 35 480,o3 (.mm true (.tmp 30) (.tmp 35)) 36 1022,nk' 26 37 2047,fa' 5 1 37 38 4095,sto 1 38 36 8191]
def ydjr:LO:=[mv' 7 39 0,ln' 39 40 1,mc 0 41 0]
def ycwf:LO:=[bn' .lss 41 40 42 0]
def ycxp:LO:=[ix' 2 39 41 43 0,la' 2 43 44 1,o3 (.alloc 68 1 [.i .i64 0,.i .i64 0]) 9 0,sto 2 9 44 7]
def ydgm:LO:=[mv' 5 45 0,nk' 45 46 1,fa' 6 1 46 47 3,ld' 1 47 48 7,mv' 6 49 0,mv' 5 50 0,nk' 50 51 32,fa' 6 1 51 52 96,ld' 1 52 53 224,mv' 6 54 0,ix' 1 53 54 55 992,ld' 1 55 56 2016,la' 2 3 57 0,fa' 0 1 9 58 0,ld' 1 58 59 8192,mv' 6 60 0,cl' 204 [57,59,60] 61 61440,o3 (.bslice 3 1 1 [.i .i64 0] [(0,1,(.tmp 61))]) 62 126976,o3 (.app 3 1 8 (.tmp 56) (.tmp 62)) 63 262112,ix' 1 48 49 64 524287,sto 1 64 63 1048575]
def ycdx:LO:=[bc .add 41 1 65 0,mv' 65 41 1]
def ychd:LO:=[bc .add 21 1 66 0,mv' 66 21 1]
def yckm:LO:=[mv' 5 67 0,mv' 67 4 1]
def c167:SC:=(sr ydho <| .seq (.reg true ydhs) (.seq (sr ydjv <| .block 0 (.loop (sr ydky <| .seq (cn 22 .skip (.exit 0)) (.seq (.block 1 (sr ydcy <| .seq (.reg true ydas) (sr ydjr <| .block 2 (.loop (sr ycwf <| .seq (cn 42 .skip (.exit 2)) (.seq (.block 3 (sr ycxp <| .reg true ydgm)) (.reg false ycdx))))))) (.reg false ychd))))) (sr yckm <| .ret)))
theorem ydnc:Fn 167 c167 [.t 4]:=fn_0 Tryz.func167
def ydir:LO:=[mc 0 8 0]
def ydix:LO:=[mv' 1 10 0]
def yczx:LO:=[bc .eql 10 6 12 0,mv' 12 11 1]
def ydbf:LO:=[mv' 0 13 0,nk' 13 14 1,fa' 3 2 14 15 3,fa' 0 1 15 16 7,ld' 1 16 17 15,ln' 17 18 31,mv' 18 8 63]
def ydev:LO:=[bc .eql 10 7 20 0,mv' 20 19 1]
def ydar:LO:=[mv' 0 21 0,nk' 21 22 1,fa' 5 1 22 23 3,ld' 1 23 24 7,mv' 24 8 15]
def yczo:LO:=[bc .eql 10 8 26 0,mv' 26 25 1]
def ydfs:LO:=[mv' 0 27 0,nk' 27 28 1,fa' 3 2 28 29 3,fa' 0 1 29 30 7,ld' 1 30 31 15,mv' 2 32 0,ix' 1 31 32 33 63,ld' 1 33 34 127,mv' 34 8 255]
def ydhl:LO:=[bc .eql 10 9 36 0,mv' 36 35 1]
def ydcp:LO:=[mv' 0 37 0,nk' 37 38 1,fa' 3 2 38 39 3,fa' 1 1 39 40 7,ld' 1 40 41 15,mv' 2 42 0,ix' 1 41 42 43 63,ld' 1 43 44 127,ln' 44 45 255,mv' 45 8 511]
def ycfh:LO:=[bc .eql 10 10 47 0,mv' 47 46 1]
def ycfd:LO:=[mv' 2 48 0,bc .eql 48 0 49 1,cl' 240 [49] 50 3,mv' 50 8 7]
def ycbf:LO:=[bc .eql 10 11 52 0,mv' 52 51 1]
def yclo:LO:=[mv' 3 53 0,mv' 53 8 1]
def ycih:LO:=[mv' 0 54 0,nk' 54 55 1,fa' 3 2 55 56 3,fa' 1 1 56 57 7,ld' 1 57 58 15,mv' 2 59 0,ix' 1 58 59 60 63,ld' 1 60 61 127,mv' 3 62 0,ix' 2 61 62 63 511,la' 2 63 64 1023,o3 (.alloc 68 1 [.i .i64 0,.i .i64 0]) 9 0,sto 2 9 64 4095]
def ycmi:LO:=[mv' 1 65 0]
def yciu:LO:=[bc .eql 65 13 67 0,mv' 67 66 1]
def ycjv:LO:=[mv' 0 68 0,nk' 68 69 1,fa' 3 2 69 70 3,fa' 0 1 70 71 7,ld' 1 71 72 15,fa' 0 1 9 73 0,ld' 1 73 74 32,ix' 1 72 74 75 127,ld' 1 75 76 255,mv' 76 8 511]
def ycmh:LO:=[bc .eql 65 14 78 0,mv' 78 77 1]
def ycay:LO:=[mv' 0 79 0,nk' 79 80 1,fa' 3 2 80 81 3,fa' 1 1 81 82 7,ld' 1 82 83 15,fa' 0 1 9 84 0,ld' 1 84 85 32,ix' 1 83 85 86 127,ld' 1 86 87 255,ln' 87 88 511,mv' 88 8 1023]
def ycfi:LO:=[bc .eql 65 15 90 0,mv' 90 89 1]
def yceu:LO:=[fa' 0 1 9 91 0,ld' 1 91 92 1,bc .eql 92 0 93 3,cl' 240 [93] 94 7,mv' 94 8 15]
def ycfx:LO:=[bc .eql 65 16 96 0,mv' 96 95 1]
def ycju:LO:=[fa' 1 1 9 97 0,ld' 1 97 98 1,mv' 98 8 3]
def yciz:LO:=[mv' 0 99 0,nk' 99 100 1,fa' 6 1 100 101 3,ld' 1 101 102 7,mv' 2 103 0,ix' 1 102 103 104 31,ld' 1 104 105 63,mv' 3 106 0,ix' 1 105 106 107 255,ld' 1 107 108 511,mv' 108 8 1023]
def c239:SC:=(sr ydir <| .seq (sr ydix <| .block 0 (sr yczx <| cn 11 (sr ydbf <| .ret) (sr ydev <| cn 19 (sr ydar <| .ret) (sr yczo <| cn 25 (sr ydfs <| .ret) (sr ydhl <| cn 35 (sr ydcp <| .ret) (sr ycfh <| cn 46 (sr ycfd <| .ret) (sr ycbf <| cn 51 (sr yclo <| .ret) .skip))))))) (sr ycih <| .seq (sr ycmi <| .block 1 (sr yciu <| cn 66 (.seq (.reg true ycjv) .ret) (sr ycmh <| cn 77 (.seq (.reg true ycay) .ret) (sr ycfi <| cn 89 (sr yceu <| .ret) (sr ycfx <| cn 95 (sr ycju <| .ret) .skip))))) (sr yciz <| .ret)))
theorem ydnv:Fn 239 c239 [.t 8]:=fn_0 Tryz.func239
def yded:LO:=[mc 0 8 0]
def ydes:LO:=[mv' 0 12 0,mv' 1 13 0,mv' 2 14 0,mv' 3 15 0,o3 (.build [.a (.pointer none),.a (.slice none 0 0),.i .i64 0,.a (.slice none 0 0)] [(0,1,(.tmp 12)),(1,1,(.tmp 13)),(2,1,(.tmp 14)),(3,1,(.tmp 15))]) 16 15,o3 (.alloc 237 1 [.a (.pointer none),.a (.slice none 0 0),.i .i64 0,.a (.slice none 0 0)]) 9 0,sto 4 9 16 63]
def ydfm:LO:=[o3 (.call (.func 205) [(.tmp 9),(ci' 0),(.const (.int .i64 (-1)))]) 18 0,mv' 18 17 1,xt' 17 0 19 3,xt' 17 1 20 3,mv' 19 10 7,mv' 20 11 31]
def ycvf:LO:=[mv' 10 21 0,mv' 21 8 1]
def c169:SC:=(sr yded <| sr ydes <| sr ydfm <| sr ycvf <| .ret)
theorem yduh:Fn 169 c169 [.t 8]:=fn_0 Tryz.func169
def ydbq:LO:=[mb false 8 0]
def ycwk:LO:=[mv' 0 9 0,mv' 1 10 0,mv' 2 11 0,mv' 0 12 0,nk' 12 13 8,fa' 0 3 13 14 24,fa' 2 1 14 15 56,ld' 1 15 16 120,mv' 3 17 0,ix' 3 16 17 18 504,fa' 1 1 18 19 1016,ld' 1 19 20 2040,cl' 169 [9,10,11,20] 21 4095,bc .neq 21 0 22 8191,mv' 22 8 16383]
def c168:SC:=(sr ydbq <| sr ycwk <| .ret)
theorem ydsj:Fn 168 c168 [.t 8]:=fn_0 Tryz.func168
def ybcn:LO:=[mc 0 6 0,mc 0 7 1]
def ybbz:LO:=[mv' 0 18 0,nk' 18 19 1,fa' 3 1 19 20 3,ld' 1 20 21 7,mv' 1 22 0,ix' 2 21 22 23 31,la' 2 23 24 63,o3 (.alloc 251 1 [.i .i64 0,.i .i64 0]) 8 0,sto 2 8 24 255]
def ybcx:LO:=[fa' 0 1 8 26 0,ld' 1 26 27 1,bc .leq 27 17 28 3,mv' 28 25 7]
def ybdf:LO:=[mv' 0 29 0,la' 2 8 30 0,mv' 2 31 0,cl' 220 [29,30,31] 32 7,mv' 1 33 0,bc .add 33 1 34 16,mv' 32 6 15,mv' 34 7 127]
def ybck:LO:=[fa' 0 1 8 36 0,ld' 1 36 37 1,bc .leq 37 19 38 3,mv' 38 35 7]
def ybbk:LO:=[mv' 0 40 0,mv' 1 41 0,bc .add 41 1 42 2,mv' 2 43 0,cl' 205 [40,42,43] 44 15,mv' 44 39 31,xt' 39 0 45 63,xt' 39 1 46 63,mv' 45 6 127,mv' 46 7 511]
def ybbq:LO:=[fa' 0 1 8 47 0,ld' 1 47 48 1,mv' 6 49 0,cl' 221 [48,49] 50 7,mv' 7 51 0,mv' 50 6 15,mv' 51 7 63]
def ybci:LO:=[fa' 0 1 8 53 0,ld' 1 53 54 1,bc .leq 54 29 55 3,mv' 55 52 7]
def ybcu:LO:=[mv' 0 56 0,fa' 0 1 8 57 0,ld' 1 57 58 2,mv' 1 59 0,cl' 222 [56,58,59] 60 15,xt' 60 0 61 31,xt' 60 1 62 31,mv' 61 6 127,mv' 62 7 255]
def ybdi:LO:=[fa' 0 1 8 64 0,ld' 1 64 65 1,bc .leq 65 42 66 3,mv' 66 63 7]
def ysn:LO:=[mv' 0 68 0,mv' 1 69 0,bc .add 69 1 70 2,mv' 2 71 0,cl' 205 [68,70,71] 72 15,mv' 72 67 31,xt' 67 0 73 63,xt' 67 1 74 63,mv' 73 9 127,mv' 74 10 511]
def ysk:LO:=[mv' 0 76 0,mv' 10 77 0,mv' 2 78 0,cl' 205 [76,77,78] 79 7,mv' 79 75 15,xt' 75 0 80 31,xt' 75 1 81 31,mv' 80 11 63,mv' 81 12 255]
def ysm:LO:=[fa' 0 1 8 82 0,ld' 1 82 83 1,mv' 9 84 0,mv' 11 85 0,cl' 223 [83,84,85] 86 15,mv' 12 87 0,mv' 86 6 31,mv' 87 7 127]
def ytm:LO:=[mv' 0 89 0,mv' 1 90 0,bc .add 90 1 91 2,mv' 2 92 0,cl' 205 [89,91,92] 93 15,mv' 93 88 31,xt' 88 0 94 63,xt' 88 1 95 63,mv' 94 13 127,mv' 95 14 511]
def ysz:LO:=[mv' 0 97 0,mv' 14 98 0,mv' 2 99 0,cl' 205 [97,98,99] 100 7,mv' 100 96 15,xt' 96 0 101 31,xt' 96 1 102 31,mv' 101 15 63,mv' 102 16 255]
def ysu:LO:=[mv' 0 104 0,mv' 16 105 0,mv' 2 106 0,cl' 205 [104,105,106] 107 7,mv' 107 103 15,xt' 103 0 108 31,xt' 103 1 109 31,mv' 108 17 63,mv' 109 7 255]
def ytz:LO:=[mv' 13 110 0,bc .neq 110 0 111 1]
def yso:LO:=[mv' 15 112 0,mv' 7 113 0,mv' 112 6 1,mv' 113 7 7]
def ysl:LO:=[mv' 17 114 0,mv' 7 115 0,mv' 114 6 1,mv' 115 7 7]
def c205:SC:=(sr ybcn <| sr ybbz <| .seq (.block 0 (sr ybcx <| cn 25 (sr ybdf <| .ret) (sr ybck <| cn 35 (sr ybbk <| sr ybbq <| .ret) (sr ybci <| cn 52 (sr ybcu <| .ret) (sr ybdi <| cn 63 (sr ysn <| sr ysk <| sr ysm <| .ret) .skip))))) (sr ytm <| sr ysz <| sr ysu <| .seq (sr ytz <| cn 111 (sr yso <| .ret) .skip) (sr ysl <| .ret)))
theorem yzj:Fn 205 c205 [.t 6,.t 7]:=fn_0 Tryz.func205
def ycvg:LO:=[bx' 251 1 4 0,mc 0 6 0]
def ydig:LO:=[fa' 0 1 4 7 0,ld' 1 7 8 1]
def ydfv:LO:=[bc .eql 8 1 10 0,mv' 10 9 1]
def ycva:LO:=[fa' 1 1 4 11 0,ld' 1 11 12 1,mv' 12 6 3]
def yddw:LO:=[bc .eql 8 2 14 0,mv' 14 13 1]
def ydfl:LO:=[mc 1 6 0]
def ydhg:LO:=[bc .eql 8 3 16 0,mv' 16 15 1]
def ydiq:LO:=[mc 0 6 0]
def ydfk:LO:=[bc .eql 8 4 18 0,mv' 18 17 1]
def ycwo:LO:=[mc (-1) 6 0]
def ycjg:LO:=[bc .eql 8 5 20 0,mv' 20 19 1]
def ybzc:LO:=[mv' 0 21 0,nk' 21 22 1,fa' 1 1 22 23 3,ld' 1 23 24 7,mv' 0 25 0,nk' 25 26 16,fa' 2 1 26 27 48,ld' 1 27 28 112,ix' 1 24 28 29 255,ld' 1 29 30 511,fa' 1 1 4 31 0,ld' 1 31 32 1024,ix' 1 30 32 33 4095,ld' 1 33 34 8191,mv' 34 6 16383]
def yccf:LO:=[bc .eql 8 12 36 0,mv' 36 35 1]
def ycff:LO:=[mv' 0 37 0,nk' 37 38 1,fa' 1 1 38 39 3,ld' 1 39 40 7,mv' 0 41 0,nk' 41 42 16,fa' 0 1 42 43 48,ld' 1 43 44 112,nk' 44 45 240,fa' 3 2 45 46 496,fa' 1 1 46 47 1008,ld' 1 47 48 2032,mv' 0 49 0,nk' 49 50 4096,fa' 2 1 50 51 12288,ld' 1 51 52 28672,ix' 1 48 52 53 65520,ld' 1 53 54 131056,mv' 2 55 0,ix' 2 54 55 56 524272,fa' 0 1 56 57 1048560,ld' 1 57 58 2097136,ix' 1 40 58 59 4194303,ld' 1 59 60 8388607,fa' 1 1 4 61 0,ld' 1 61 62 16777216,ix' 1 60 62 63 67108863,ld' 1 63 64 134217727,mv' 64 6 268435455]
def yceh:LO:=[mv' 0 65 0,nk' 65 66 1,fa' 0 1 66 67 3,ld' 1 67 68 7,fa' 0 1 4 69 0,ld' 1 69 70 16,mv' 0 71 0,nk' 71 72 64,fa' 2 1 72 73 192,ld' 1 73 74 448,mv' 2 75 0,cl' 239 [68,70,74,75] 76 2047,mv' 76 6 4095]
def c220:SC:=(sr ycvg <| .seq (sr ydig <| .block 0 (sr ydfv <| cn 9 (sr ycva <| .ret) (sr yddw <| cn 13 (sr ydfl <| .ret) (sr ydhg <| cn 15 (sr ydiq <| .ret) (sr ydfk <| cn 17 (sr ycwo <| .ret) (sr ycjg <| cn 19 (.seq (.reg true ybzc) .ret) (sr yccf <| cn 35 (.seq (.reg true ycff) .ret) .skip))))))) (.seq (.reg true yceh) .ret))
theorem ydoq:Fn 220 c220 [.t 6]:=fn_0 Tryz.func220
def ydcn:LO:=[mc 0 6 0,mc 0 7 1]
def ycyu:LO:=[o3 (.alloc 150 24 [.i .i64 0]) 8 0]
def yczc:LO:=[mv' 0 11 0,nk' 11 12 1,fa' 0 1 12 13 3,ld' 1 13 14 7,nk' 14 15 15,fa' 3 2 15 16 31,fa' 1 1 16 17 63,ld' 1 17 18 127,mv' 0 19 0,nk' 19 20 256,fa' 2 1 20 21 768,ld' 1 21 22 1792,ix' 1 18 22 23 4095,ld' 1 23 24 8191,ln' 24 25 16383,mv' 25 9 32767]
def ydeg:LO:=[mv' 9 26 0,mc 0 27 0]
def ydkm:LO:=[bn' .lss 27 26 28 0]
def ydie:LO:=[mv' 27 29 0,mv' 29 10 1]
def ydjh:LO:=[mv' 10 31 0,mv' 0 32 0,mv' 2 33 0,bc .add 33 1 34 4,mv' 10 35 0,cl' 205 [32,34,35] 36 30,mv' 36 30 62,xt' 30 0 37 126,xt' 30 1 38 126,o3 (.idxA 24 1 (.tmp 8) (.tmp 31)) 39 255,sto 1 39 37 767,mv' 38 7 2047]
def ydjo:LO:=[bc .add 27 1 40 0,mv' 40 27 1]
def ycup:LO:=[mv' 9 41 0,bc .eql 41 0 42 1]
def ycwj:LO:=[mv' 0 43 0,nk' 43 44 1,fa' 3 1 44 45 3,ld' 1 45 46 7,mv' 2 47 0,cl' 215 [46,47] 48 31,mv' 48 7 63]
def ycas:LO:=[mv' 1 49 0,mv' 9 50 0,o3 (.cutA 24 1 (.tmp 8) none (some (.tmp 50))) 51 2,cl' 241 [49,51] 52 7,mv' 7 53 0,mv' 52 6 15,mv' 53 7 63]
def c222:SC:=(sr ydcn <| sr ycyu <| .seq (.reg true yczc) (.seq (sr ydeg <| .block 0 (.loop (sr ydkm <| .seq (cn 28 .skip (.exit 0)) (.seq (.block 1 (sr ydie <| .reg false ydjh)) (.reg false ydjo))))) (.seq (sr ycup <| cn 42 (.reg false ycwj) .skip) (sr ycas <| .ret))))
theorem ydts:Fn 222 c222 [.t 6,.t 7]:=fn_0 Tryz.func222
end Sh
end
section
def adj(g:Gr)(u v:Nat):Prop:=∃a,g.ports[u]?=some a/\∃l∈a,l.1=(v:Int)
def Walk(g:Gr)(a:Nat):Nat->Nat->Prop
 |0,v=>v=a
 |k+1,v=>∃u,Walk g a k u/\adj g u v
def ybeo(g:Gr)(a v:Nat)(x:Int):Prop:=(x = -1/\∀k,¬Walk g a k v)\/∃k:Nat,x=k/\Walk g a k v/\∀j,j<k->¬Walk g a j v
def yyx(g:Gr)(a:Nat)(D:List Int):Prop:=D.length=g.ports.length/\∀v x,D[v]?=some x->ybeo g a v x
theorem ybeo.unique{g:Gr}{a v:Nat}{x y:Int}(h:ybeo g a v x)(h':ybeo g a v y):x=y:=by
 rcases h with⟨rfl,b⟩|⟨k,rfl,b,d⟩<;>rcases h' with⟨rfl,c⟩|⟨j,rfl,c,e⟩
 .rfl
 .exact absurd c (b j)
 .exact absurd b (c k)
 .rcases zBA k j with h|h|h
  .exact absurd b (e k h)
  .rw[h]
  .exact absurd c (d j h)
theorem yyx.unique{g:Gr}{a:Nat}{D b:List Int}(h:yyx g a D)(h':yyx g a b):D=b:=by
 apply zBF (by rw[h.1,h'.1])
 intro i c d;exact(h.2 i _ (zF c)).unique (h'.2 i _ (zF d))
theorem ybi.link{g:Gr}(h:ybi g){v:Nat}{ls:List (Int×Int)}(c:g.ports[v]?=some ls){l:Int×Int}(b:l∈ls):0<=l.1/\l.1<g.ports.length/\l.1≠v/\1<=l.2/\l.2<=15:=by
 obtain⟨a,e⟩:=List.getElem?_eq_some_iff.1 c;have:=(h.2.2.2.2.2.1 ⟨v,a⟩).1 l (by simp only[Fin.getElem_fin,e];exact b)
 unfold yrn at this;simp only at this;omega
theorem ybi.adj_lt{g:Gr}(h:ybi g){u v:Nat}(b:adj g u v):u<g.ports.length/\v<g.ports.length:=by
 obtain⟨d,a,l,c,e⟩:=b;have:=h.link a c;exact⟨(List.getElem?_eq_some_iff.1 a).1,by omega⟩
theorem ybi.adj_symm{g:Gr}(h:ybi g){u v:Nat}(b:adj g u v):adj g v u:=by
 obtain⟨j,c⟩:=h.adj_lt b;obtain⟨k,f,l,i,e⟩:=b;obtain⟨a,d⟩:=List.getElem?_eq_some_iff.1 f;have:=h.2.2.2.2.2.2 ⟨u,a⟩ l (by simp only[Fin.getElem_fin,d];exact i)
 rw[e,zV]at this;simp only[zL,zF c,Option.getD_some]at this;exact⟨_,zF c,_,this,rfl⟩
structure BfsInv(g:Gr)(a:Nat)(R:List Int)(Q:List Nat):Prop where
 len:R.length=g.ports.length
 src:R[a]?=some 0
 val:∀(v:Nat) (x:Int),R[v]?=some x->x = -1\/∃k:Nat,x=k/\Walk g a k v/\∀j,j<k->¬Walk g a j v
 qin:∀q∈Q,∃k:Nat,R[q]?=some (k:Int)
 sorted:Q.Pairwise (fun p q=>∀x y,R[p]?=some x->R[q]?=some y->x<=y/\y<=x+1)
 done:∀(v k:Nat),R[v]?=some (k:Int)->v∉Q->∀u,adj g v u->∃j:Nat,R[u]?=some (j:Int)
structure BfsIn(g:Gr)(a v d:Nat)(ls:List (Int×Int))(i:Nat)(R:List Int)(Q:List Nat):Prop where
 len:R.length=g.ports.length
 src:R[a]?=some 0
 val:∀(v:Nat) (x:Int),R[v]?=some x->x = -1\/∃k:Nat,x=k/\Walk g a k v/\∀j,j<k->¬Walk g a j v
 qin:∀q∈Q,∃k:Nat,R[q]?=some (k:Int)
 sorted:Q.Pairwise (fun p q=>∀x y,R[p]?=some x->R[q]?=some y->x<=y/\y<=x+1)
 rv:R[v]?=some (d:Int)
 low:∀q∈Q,∀y,R[q]?=some y->(d:Int)<=y/\y<=d+1
 done:∀(u k:Nat),R[u]?=some (k:Int)->u∉Q->u≠v->∀t,adj g u t->∃j:Nat,R[t]?=some (j:Int)
 part:∀l∈ls.take i,∃j:Nat,R[l.1.toNat]?=some (j:Int)
theorem BfsInv.start{g:Gr}{a:Nat}(ha:a<g.ports.length):BfsInv g a ((zQ g.ports.length (-1)).set a 0) [a] where
 len:=by simp
 src:=by simp[ha]
 val := by
  intro v x h;rw[zS]at h;split at h
  .rename_i e
   subst e;simp[ha]at h;subst h;exact .inr ⟨0,rfl,rfl,fun j hj=>absurd hj (by omega)⟩
  .rw[zAA]at h;split at h
   .cases h;exact .inl rfl
   .cases h
 qin:=by
  intro q hq;obtain rfl:q=a:=by simpa using hq
  exact⟨0,by simp[ha]⟩
 sorted:=by simp
 done:=by
  intro v k h hv u _;rw[zS]at h;split at h
  .rename_i e
   exact absurd (by simp[e]) hv
  .rw[zAA]at h;split at h
   .cases h
   .cases h
theorem BfsInv.pop{g:Gr}{a:Nat}{R:List Int}{v:Nat}{Q:List Nat}(h:BfsInv g a R (v::Q)){d:Nat}(hd:R[v]?=some (d:Int))(ls:List (Int×Int)):BfsIn g a v d ls 0 R Q where
 len:=h.len
 src:=h.src
 val:=h.val
 qin:=fun q hq=>h.qin q (zAB _ hq)
 sorted:=(List.pairwise_cons.1 h.sorted).2
 rv:=hd
 low:=fun q hq y hy=>(List.pairwise_cons.1 h.sorted).1 q hq _ y hd hy
 done:=fun u k hu hq hv t ht=>h.done u k hu (by simp[hq,hv]) t ht
 part:=by simp
theorem BfsIn.finish{g:Gr}{a v d:Nat}{ls:List (Int×Int)}{R:List Int}{Q:List Nat}(h:BfsIn g a v d ls ls.length R Q)(hls:g.ports[v]?=some ls):BfsInv g a R Q where
 len:=h.len
 src:=h.src
 val:=h.val
 qin:=h.qin
 sorted:=h.sorted
 done:=by
  intro u k hu hq t ht
  by_cases e:u=v
  .subst e;obtain⟨ls',h1,l,hl,e2⟩:=ht;rw[hls]at h1;cases h1
   have:=h.part l (by rw[zAI];exact hl)
   rwa [e2,zV]at this
  .exact h.done u k hu hq e t ht
theorem BfsIn.skip{g:Gr}{a v d:Nat}{ls:List (Int×Int)}{i:Nat}{R:List Int}{Q:List Nat}(h:BfsIn g a v d ls i R Q)(c:i<ls.length){j:Nat}(e:R[ls[i].1.toNat]?=some (j:Int)):BfsIn g a v d ls (i+1) R Q :=
 ⟨h.len,h.src,h.val,h.qin,h.sorted,h.rv,h.low,h.done,by
   intro l b;rw[take_snoc ls i c]at b;rcases List.mem_append.1 b with b|b
   .exact h.part l b
   .obtain rfl:l=ls[i]:=by simpa using b
    exact⟨j,e⟩⟩
theorem BfsIn.found{g:Gr}{a v d:Nat}{ls:List (Int×Int)}{i:Nat}{R:List Int}{Q:List Nat}(h:BfsIn g a v d ls i R Q) :
 ∀k,k<=d->∀t,Walk g a k t->∃j:Nat,R[t]?=some (j:Int):=by
 intro k
 induction k with
 |zero=>intro _ t q;obtain rfl:t=a:=q;exact⟨0,h.src⟩
 | succ k r =>
   intro hk t ⟨p,hp,hpt⟩;obtain⟨j,c⟩:=r (by omega) p hp
   have n:j<=k:=by
    rcases h.val p _ c with e|⟨s,e,_,b⟩
    .omega
    .have:j=s:=by omega
     subst this;rcases zBU k j with l|f
     .exact absurd hp (b k l)
     .exact f
   refine h.done p j c ?_ ?_ t hpt
   .intro o;have:=(h.low p o _ c).1;omega
   .rintro rfl;have m:=h.rv;rw[c]at m;have u:=Option.some.inj m;omega
theorem BfsIn.discover{g:Gr}{a v d:Nat}{ls:List (Int×Int)}{i:Nat}{R:List Int}{Q:List Nat}(h:BfsIn g a v d ls i R Q)(D:g.ports[v]?=some ls)(I:i<ls.length){u:Nat}(J:ls[i].1=(u:Int))(H:R[u]?=some (-1)) :
 BfsIn g a v d ls (i+1) (R.set u ((d:Int)+1)) (Q++[u]):=by
 have G:u<R.length:=(List.getElem?_eq_some_iff.1 H).1
 have f:∀t (k:Nat),R[t]?=some (k:Int)->t≠u:=by
  rintro t k z rfl;rw[H]at z;have:=Option.some.inj z;omega
 have b:∀t,t≠u->(R.set u ((d:Int)+1))[t]?=R[t]?:=fun t z=>by rw[zS,if_neg (by omega)]
 have m:(R.set u ((d:Int)+1))[u]?=some ((d:Int)+1):=by rw[zS,if_pos rfl,if_pos G]
 have keep:∀t:Nat,(∃j:Nat,R[t]?=some (j:Int))->∃j:Nat,(R.set u ((d:Int)+1))[t]?=some (j:Int):=by
  rintro t ⟨j,C⟩;exact⟨j,by rw[b t (f t j C)];exact C⟩
 have A:adj g v u:=⟨ls,D,ls[i],zO I,J⟩
 have r:u∉Q:=fun c=>by
  obtain⟨k,hk⟩:=h.qin u c;exact f u k hk rfl
 refine⟨by simp[h.len],?_,?_,?_,?_,?_,?_,?_,?_⟩
 .rw[b a (f a 0 h.src)];exact h.src
 .intro t x n
  by_cases e:t=u
  .subst e;rw[m]at n;cases n
   refine .inr ⟨d+1,by omega,?_,?_⟩
   .rcases h.val v _ h.rv with e|⟨k,e,hk,_⟩
    .omega
    .have:d=k:=by omega
     subst this;exact⟨v,hk,A⟩
   .intro j C N;obtain⟨k,hk⟩:=h.found j (by omega) t N
    exact f t k hk rfl
  .rw[b t e]at n;exact h.val t x n
 .intro q c;rcases List.mem_append.1 c with c|c
  .exact keep q (h.qin q c)
  .obtain rfl:q=u:=by simpa using c
   exact⟨d+1,by rw[m];rfl⟩
 .rw[List.pairwise_append];refine⟨?_,by simp,?_⟩
  .refine(List.Pairwise.and_mem.1 h.sorted).imp ?_;rintro p q ⟨B,c,E⟩ x y n o;rw[b p (fun e=>r (e▸B))]at n;rw[b q (fun e=>r (e▸c))]at o;exact E x y n o
  .intro p B q c x y n o;obtain rfl:q=u:=by simpa using c
   rw[b p (fun e=>r (e▸B))]at n;rw[m]at o;cases o
   have:=h.low p B x n;omega
 .rw[b v (f v d h.rv)];exact h.rv
 .intro q c y o;rcases List.mem_append.1 c with c|c
  .rw[b q (fun e=>r (e▸c))]at o;exact h.low q c y o
  .obtain rfl:q=u:=by simpa using c
   rw[m]at o;cases o
   omega
 .intro t k z c M s L;have F:t≠u:=fun e=>c (by simp[e])
  rw[b t F]at z;exact keep s (h.done t k z (fun K=>c (zAU _ K)) M s L)
 .intro l w;rw[take_snoc ls i I]at w;rcases List.mem_append.1 w with w|w
  .exact keep _ (h.part l w)
  .obtain rfl:l=ls[i]:=by simpa using w
   rw[J,zV];exact⟨d+1,by rw[m];rfl⟩
theorem BfsInv.isDist{g:Gr}{a:Nat}{R:List Int}(h:BfsInv g a R []):yyx g a R:=by
 have found:∀k t,Walk g a k t->∃j:Nat,R[t]?=some (j:Int):=by
  intro k
  induction k with
  |zero=>intro t e;obtain rfl:t=a:=e;exact⟨0,h.src⟩
  | succ k f =>
    intro t ⟨p,hp,hpt⟩;obtain⟨j,b⟩:=f p hp;exact h.done p j b (by simp) t hpt
 refine⟨h.len,fun v x c=>?_⟩;rcases h.val v x c with rfl|d
 .refine .inl ⟨rfl,fun k hk=>?_⟩;obtain⟨j,b⟩:=found k v hk;rw[c]at b;have:=Option.some.inj b;omega
 .exact .inr d
def ydh(R:List Int):Nat:=R.countP (fun x=>decide (x<0))
theorem yzi{R:List Int}{u:Nat}{x:Int}(f:R[u]?=some (-1))(g:0<=x):ydh (R.set u x)+1=ydh R:=by
 obtain⟨a,e⟩:=List.getElem?_eq_some_iff.1 f;have c:R=R.take u++R[u]::R.drop (u+1):=by rw[List.getElem_cons_drop,List.take_append_drop]
 have d:R.set u x=R.take u++x::R.drop (u+1):=by rw[List.set_eq_take_append_cons_drop,if_pos a]
 have b:decide (x<0)=false:=by simp;omega
 unfold ydh;rw[d]
 conv=>rhs;rw[c]
 rw[zAY,zAY,zBG,zBG,e,b];simp;omega
end
section
def ycul(R:List Int)(x:Int)(ls:List (Int×Int)):Bool:=ls.any (fun l=>decide (R[l.1.toNat]?=some x))
def ycqq(g:Gr)(d:Int)(R:List Int)(v:Nat):List Int :=
 if decide (R.getD v 0<0)&&ycul R (d-1) (g.ports.getD v [])then R.set v d else R
def stepD(g:Gr)(R:List Int)(d:Nat):List Int:=(zT g.ports.length).foldl (ycqq g d) R
def start(g:Gr)(a:Nat):List Int:=(zQ g.ports.length (-1)).set a 0
def yck(g:Gr)(a:Nat):List Int:=(zT (g.ports.length-1)).foldl (fun R d=>stepD g R (d+1)) (start g a)
def Upto(g:Gr)(a d v:Nat)(x:Int):Prop:=(x = -1/\∀k,k<=d->¬Walk g a k v)\/∃k:Nat,k<=d/\x=k/\Walk g a k v/\∀j,j<k->¬Walk g a j v
theorem Upto.eq{g:Gr}{a d v:Nat}{x:Int}(h:Upto g a d v x){k:Nat}(hk:k<=d):x=k↔Walk g a k v/\∀j,j<k->¬Walk g a j v:=by
 rcases h with⟨rfl,b⟩|⟨i,m,rfl,b,c⟩
 .exact⟨fun e=>by omega,fun e=>absurd e.1 (b k hk)⟩
 .constructor
  .intro e;obtain rfl:i=k:=by omega
   exact⟨b,c⟩
  .rintro⟨f,l⟩;rcases zBA i k with h|h|h
   .exact absurd b (l i h)
   .omega
   .exact absurd f (c k h)
theorem Upto.more{g:Gr}{a d v:Nat}{x:Int}(h:Upto g a d v x)(f:0<=x):Upto g a (d+1) v x:=by
 rcases h with⟨rfl,b⟩|⟨i,e,rfl,b,c⟩
 .omega
 .exact .inr ⟨i,by omega,rfl,b,c⟩
structure LayerInv(g:Gr)(a d v:Nat)(R:List Int):Prop where
 len:R.length=g.ports.length
 new:∀(u:Nat) (x:Int),R[u]?=some x->u<v->Upto g a (d+1) u x
 old:∀(u:Nat) (x:Int),R[u]?=some x->v<=u->Upto g a d u x
theorem LayerInv.at_{g:Gr}{a d v:Nat}{R:List Int}(h:LayerInv g a d v R){u:Nat}(i:u<g.ports.length):R[u]?=some (d:Int)↔Walk g a d u/\∀j,j<d->¬Walk g a j u:=by
 have f:=h.len;have e:R[u]?=some R[u]:=zF (by omega)
 have c:R[u]=(d:Int)↔Walk g a d u/\∀j,j<d->¬Walk g a j u:=by
  by_cases b:u<v
  .exact(h.new u _ e b).eq (by omega)
  .exact(h.old u _ e (by omega)).eq (by omega)
 rw[e]
 simpa using c
theorem LayerInv.step{g:Gr}(r:ybi g){a d v:Nat}{R:List Int}(h:LayerInv g a d v R)(w:v<g.ports.length):LayerInv g a d (v+1) (ycqq g ((d:Int)+1) R v):=by
 have c:=h.len;have ev:R[v]?=some R[v]:=zF (by omega)
 have E:R.getD v 0=R[v]:=by simp[zL,ev]
 have F:g.ports.getD v []=g.ports[v]:=by simp[zL,zF w]
 have m:ycul R ((d:Int)+1-1) g.ports[v]=true↔∃u,adj g u v/\Walk g a d u/\∀j,j<d->¬Walk g a j u:=by
  unfold ycul;rw[List.any_eq_true];constructor
  .rintro⟨l,s,i⟩;have H:=r.link (zF w) s;have i:=of_decide_eq_true i;rw[show(d:Int)+1-1=d by omega]at i
   refine⟨l.1.toNat,r.adj_symm ⟨_,zF w,l,s,by omega⟩,?_⟩
   exact(h.at_ (by omega)).1 i
  .rintro⟨u,b,o⟩;obtain⟨C,_⟩:=r.adj_lt b;obtain⟨K,i,l,s,e⟩:=r.adj_symm b;rw[zF w]at i;cases i
   refine⟨l,s,decide_eq_true ?_⟩;rw[e,zV,show(d:Int)+1-1=d by omega]
   exact(h.at_ C).2 o
 have A:=h.old v _ ev (zK _);unfold ycqq;rw[E,F]
 by_cases c1:R[v]<0
 .have y:R[v] = -1/\∀k,k<=d->¬Walk g a k v:=by
   rcases A with i|⟨k,_,e,_⟩
   .exact i
   .omega
  by_cases c2:ycul R ((d:Int)+1-1) g.ports[v]=true
  .rw[if_pos (by rw[zG];exact⟨decide_eq_true c1,c2⟩)]
   obtain⟨p,B,o,_⟩:=m.1 c2;have n:∀t,t≠v->(R.set v ((d:Int)+1))[t]?=R[t]?:=fun t J=>by rw[zS,if_neg (by omega)]
   refine⟨by simp[c],fun u x b f=>?_,fun u x b f=>?_⟩
   .by_cases e:u=v
    .subst e;rw[zS,if_pos rfl,if_pos (by omega)]at b
     cases b
     exact .inr ⟨d+1,zK _,by omega,⟨p,o,B⟩,fun j G=>y.2 j (by omega)⟩
    .rw[n u e]at b;exact h.new u x b (by omega)
   .rw[n u (by omega)]at b
    exact h.old u x b (by omega)
  .rw[if_neg (fun e=>c2 (zG _ _▸e).2)];refine⟨c,fun u x b f=>?_,fun u x b f=>h.old u x b (by omega)⟩
   by_cases e:u=v
   .subst e;rw[ev]at b;cases b
    refine .inl ⟨y.1,fun k hk o=>?_⟩;rcases zBU d k with I|z
    .obtain rfl:k=d+1:=by omega
     obtain⟨p,B,q⟩:=o;refine c2 (m.2 ⟨p,q,B,fun j G D=>y.2 (j+1) (by omega) ⟨p,D,q⟩⟩)
    .exact y.2 k z o
   .exact h.new u x b (by omega)
 .rw[if_neg (by simp[c1])]
  refine⟨c,fun u x b f=>?_,fun u x b f=>h.old u x b (by omega)⟩
  by_cases e:u=v
  .subst e;exact(h.old u x b (zK _)).more (by rw[ev]at b;cases b;omega)
  .exact h.new u x b (by omega)
theorem ybbh{g:Gr}(b:ybi g){a d:Nat}{R:List Int}(h:LayerInv g a d 0 R):∀v,v<=g.ports.length->LayerInv g a d v ((zT v).foldl (ycqq g ((d:Int)+1)) R)
 |0,_=>h
 | v+1,c=>by
   rw[zBK,zW];exact(ybbh b h v (by omega)).step b (by omega)
def ybdk(g:Gr)(a d:Nat)(R:List Int):Prop:=R.length=g.ports.length/\∀(u:Nat) (x:Int),R[u]?=some x->Upto g a d u x
theorem ybyo{g:Gr}{a:Nat}(c:a<g.ports.length):ybdk g a 0 (start g a):=by
 refine⟨by simp[start],fun u x b=>?_⟩
 unfold start at b;rw[zS]at b;split at b
 .rename_i e
  subst e;simp[c]at b;subst b;exact .inr ⟨0,zK _,rfl,rfl,fun j d=>absurd d (by omega)⟩
 .rename_i e
  rw[zAA]at b;split at b
  .cases b
   refine .inl ⟨rfl,fun k hk f=>?_⟩;obtain rfl:k=0:=by omega
   exact e f.symm
  .cases b
theorem ybyc{g:Gr}(f:ybi g){a d:Nat}{R:List Int}(h:ybdk g a d R):ybdk g a (d+1) (stepD g R (d+1)):=by
 have e:LayerInv g a d 0 R:=⟨h.1,fun _ _ _ b=>absurd b (by omega),fun u x b _=>h.2 u x b⟩
 have c:=ybbh f e g.ports.length (zK _);unfold stepD;rw[show((d+1:Nat):Int)=(d:Int)+1 by omega]
 exact⟨c.len,fun u x b=>c.new u x b (by rw[<-c.len];exact(List.getElem?_eq_some_iff.1 b).1)⟩
theorem yxf{g:Gr}(c:ybi g){a:Nat}(b:a<g.ports.length):∀d,ybdk g a d ((zT d).foldl (fun R d=>stepD g R (d+1)) (start g a))
 |0=>ybyo b
 |d+1=>by rw[zBK,zW];exact ybyc c (yxf c b d)
theorem chain{g:Gr}{a:Nat}:∀k v,Walk g a k v->(∀j,j<k->¬Walk g a j v)->∃f:Nat->Nat,∀j,j<=k->Walk g a j (f j)/\∀i,i<j->¬Walk g a i (f j)
 | 0,v,h,_=>⟨fun _=>v,fun j d=>by obtain rfl:j=0:=by omega
                                  exact⟨h,fun i n=>absurd n (by omega)⟩⟩
 | k + 1,v,h,e=>by
   obtain⟨p,l,c⟩:=h;obtain⟨f,m⟩:=chain k p l (fun j d o=>e (j+1) (by omega) ⟨p,o,c⟩)
   refine⟨fun j=>if j<=k then f j else v,fun j d=>?_⟩
   by_cases b:j<=k
   .simp only[if_pos b];exact m j b
   .obtain rfl:j=k+1:=by omega
    simp only[if_neg b];exact⟨⟨p,l,c⟩,e⟩
theorem walk_lt{g:Gr}(c:ybi g){a:Nat}(b:a<g.ports.length):∀k v,Walk g a k v->v<g.ports.length
 |0,v,h=>by obtain rfl:v=a:=h;exact b
 |k+1,v,h=>by obtain⟨u,_,d⟩:=h;exact(c.adj_lt d).2
theorem least_walk{g:Gr}{a v:Nat}:∀k,Walk g a k v->∃j,j<=k/\Walk g a j v/\∀i,i<j->¬Walk g a i v:=by
 intro k
 induction k using Nat.strongRecOn with
 | _ k l =>
   intro f
   by_cases h:∃j,j<k/\Walk g a j v
   .obtain⟨j,e,c⟩:=h;obtain⟨i,d,r⟩:=l j e c;exact⟨i,by omega,r⟩
   .exact⟨k,zK _,f,fun i d b=>h ⟨i,d,b⟩⟩
theorem yye{g:Gr}(p:ybi g){a v k:Nat}(o:a<g.ports.length)(h:Walk g a k v)(q:∀j,j<k->¬Walk g a j v):k<g.ports.length:=by
 obtain⟨f,l⟩:=chain k v h q;have c:∀i j,i<j->j<=k->f i≠f j:=fun i j b d e=>(l j d).2 i b (by rw[<-e];exact(l i (by omega)).1)
 have m:((zT (k+1)).map f).Nodup:=by
  rw[List.Nodup,zBB];refine(List.Pairwise.and_mem.1 List.pairwise_lt_range).imp ?_;rintro i j ⟨_,d,b⟩;exact c i j b (by simp at d;omega)
 have n:(zT (k+1)).map f ⊆ zT g.ports.length:=by
  intro x r;obtain⟨j,d,rfl⟩:=List.mem_map.1 r;simp only[List.mem_range]at d ⊢;exact walk_lt p o j _ (l j (by omega)).1
 have:=List.Nodup.length_le_of_subset m n;simp at this;omega
theorem yfx{g:Gr}(c:ybi g){a:Nat}(b:a<g.ports.length):yyx g a (yck g a):=by
 obtain⟨e,f⟩:=yxf c b (g.ports.length-1);refine⟨e,fun v x l=>?_⟩;rcases f v x l with⟨rfl,h⟩|⟨k,_,r⟩
 .refine .inl ⟨rfl,fun k hk=>?_⟩;obtain⟨j,_,d,i⟩:=least_walk k hk;have:=yye c b d i;exact h j (by omega) d
 .exact .inr ⟨k,r⟩
theorem yyx.bound{g:Gr}(b:ybi g){a:Nat}(f:a<g.ports.length){D:List Int}(h:yyx g a D):∀x∈D,-1<=x/\x<=24:=by
 intro x j;obtain⟨v,i,rfl⟩:=List.mem_iff_getElem.1 j;rcases h.2 v _ (zF i)with⟨e,_⟩|⟨k,e,c,d⟩
 .omega
 .have:=yye b f c d;have:=b.2.1;omega
end
section
def yht(g:Gr):Bool:=yii g&&(yck g 0).all (fun x=>decide (0<=x))
def ycy(D:List Int):Int:=D.foldl max (-1)
theorem yuz(D:List Int):∀m:Int,m<=D.foldl max m:=by
 induction D with
 |nil=>intro m;exact Int.le_refl _
 |cons x D a=>intro m;exact zBV (Int.le_max_left m x) (a _)
theorem ybav(D:List Int)(k:Nat)(hk:k<D.length):ycy (D.take (k+1))=max (ycy (D.take k)) D[k]:=by
 unfold ycy;rw[take_snoc D k hk,zW];rfl
theorem ybgo(D:List Int)(m:Int)(c:-1<=m)(h:∀x∈D,x<=m):ycy D<=m:=by
 unfold ycy
 suffices ∀a:Int,a<=m->D.foldl max a<=m from this _ c
 induction D with
 |nil=>intro a b;exact b
 |cons x D e=>intro a b;exact e (fun y d=>h y (by simp[d])) _ (Int.max_le.2 ⟨b,h x (by simp)⟩)
theorem ybij(D:List Int):∀x∈D,x<=ycy D:=by
 unfold ycy
 suffices ∀a:Int,∀x∈D,x<=D.foldl max a from this _
 induction D with
 |nil=>intro a x b;simp at b
 | cons y D c =>
   intro a x b;rcases List.mem_cons.1 b with rfl|b
   .exact zBV (Int.le_max_right a x) (yuz D _)
   .exact c _ x b
theorem yjs{g:Gr}(c:ybi g){a:Nat}(b:a<g.ports.length):(yck g a).length=g.ports.length:=(yfx c b).1
theorem Walk.trans{g:Gr}{a b:Nat}:∀{j:Nat}{c:Nat}{k:Nat},Walk g a k b->Walk g b j c->Walk g a (k+j) c
 |0,c,k,d,e=>by obtain rfl:c=b:=e;exact d
 | j+1,c,k,d,e=>by
   obtain⟨u,h,f⟩:=e;exact⟨u,Walk.trans d h,f⟩
theorem Walk.one{g:Gr}{a b:Nat}(h:adj g a b):Walk g a 1 b:=⟨a,rfl,h⟩
theorem Walk.symm{g:Gr}(d:ybi g){a:Nat}:∀{k:Nat}{b:Nat},Walk g a k b->Walk g b k a
 |0,b,h=>by obtain rfl:b=a:=h;exact rfl
 | k+1,b,h=>by
   obtain⟨u,e,c⟩:=h;have:=Walk.trans (Walk.one (d.adj_symm c)) (Walk.symm d e)
   rwa [Nat.add_comm]at this
theorem ybmc{g:Gr}(j:ybi g){a:Nat}(i:a<g.ports.length):(yck g a).all (fun x=>decide (0<=x))=true↔∀v,v<g.ports.length->∃k,Walk g a k v:=by
 have c:=yfx j i;rw[zAJ];constructor
 .intro h v d;have b:v<(yck g a).length:=by rw[c.1];exact d
  rcases c.2 v _ (zF b)with⟨e,_⟩|⟨k,_,hk,_⟩
  .have:=of_decide_eq_true (h _ (zO b));omega
  .exact⟨k,hk⟩
 .intro h x l;obtain⟨v,d,rfl⟩:=List.mem_iff_getElem.1 l;obtain⟨k,hk⟩:=h v (by rw[<-c.1];exact d)
  rcases c.2 v _ (zF d)with⟨e,f⟩|⟨k,e,_⟩
  .exact absurd hk (f k)
  .rw[e];simp
theorem ycql{g:Gr}(c:ybi g){a b:Nat}(e:a<g.ports.length)(d:b<g.ports.length)(h:(yck g a).all (fun x=>decide (0<=x))=true):(yck g b).all (fun x=>decide (0<=x))=true:=by
 rw[ybmc c e]at h;rw[ybmc c d];intro v i;obtain⟨k,hk⟩:=h v i;obtain⟨j,f⟩:=h b d;exact⟨_,Walk.trans (Walk.symm c f) hk⟩
end
section
abbrev Conf:=List (List Int)
abbrev Bounds:=List (Int×Int)
def ycfm(bs:Bounds)(s:List Int):Bool:=decide (s.length=bs.length)&&(bs.zip s).all (fun p=>decide (p.1.1<=p.2)&&decide (p.2<=p.1.2))
def yxr(n:Nat)(bs:Nat->Bounds)(c:Conf):Bool:=decide (c.length=n)&&c.zipIdx.all (fun p=>ycfm (bs p.2) p.1)
def yjy(bs:Bounds)(s:List Int):Prop:=s.length=bs.length/\∀(i:Nat) b x,bs[i]?=some b->s[i]?=some x->b.1<=x/\x<=b.2
def ybrm(n:Nat)(bs:Nat->Bounds)(c:Conf):Prop:=c.length=n/\∀(v:Nat) s,c[v]?=some s->yjy (bs v) s
theorem ybcq(bs:Bounds)(s:List Int):ycfm bs s=true↔yjy bs s:=by
 unfold ycfm yjy;rw[zG,decide_eq_true_iff,zAJ];refine and_congr_right fun _=>⟨fun h i b x c e=>?_,fun h p d=>?_⟩
 .have:=h (b,x) (zN (i:=i) (by simp[zAN,c,e]))
  simpa using this
 .obtain⟨i,a⟩:=List.mem_iff_getElem?.1 d;obtain⟨b,x⟩:=p;rw[zAN]at a
  simpa using h i b x a.1 a.2
theorem ygh(n:Nat)(bs:Nat->Bounds)(c:Conf):yxr n bs c=true↔ybrm n bs c:=by
 unfold yxr ybrm;rw[zG,decide_eq_true_iff,zAJ];refine and_congr_right fun _=>⟨fun h v s b=>?_,fun h p a=>?_⟩
 .refine(ybcq _ _).1 (h (s,v) ?_);rw[zAL];exact b
 .rw[zAL]at a;exact(ybcq _ _).2 (h p.2 p.1 a)
theorem yyi{n:Nat}{bs:Nat->Bounds}{c:Conf}(h:¬ybrm n bs c):yxr n bs c=false:=by
 cases a:yxr n bs c with
 |false=>rfl
 |true=>exact absurd ((ygh n bs c).1 a) h
theorem ybxl{n:Nat}{bs:Nat->Bounds}{c:Conf}(h:ybrm n bs c):yxr n bs c=true:=(ygh n bs c).2 h
def ydtu(g:Gr)(v:Nat):Nat:=(g.ports.getD v []).length
def yeg(g:Gr)(G:List Int)(v:Nat):Bounds:=G.map (fun h=>if h = -1 then(-1,(ydtu g v:Int)-1)else(0,h))
def ybvv(g:Gr):Int:=g.ids.foldl max 0
end
section
open Go.RowKit
end
section
open Go.RowKit
end
section
open Go.RowKit
end
section
end
section
def ybkw(ids:List Int)(k:Nat):Int:=(ids.take k).tail.foldl max (ids.headD 0)
abbrev maxI(ids:List Int):Int:=ybkw ids ids.length
theorem ycdm{ids:List Int}{k:Nat}(a:1<=k)(hk:k<ids.length):(ids.take (k+1)).tail=(ids.take k).tail++[ids[k]]:=by
 rw[zJ hk,List.tail_append_of_ne_nil];intro h;have:=congrArg zAS h;rw[zBH,zAQ]at this;omega
theorem ycbh(ids:List Int):ybkw ids 1=ids.headD 0:=by cases ids<;>simp[ybkw]
theorem ybwl{ids:List Int}{k:Nat}(a:1<=k)(hk:k<ids.length):ybkw ids (k+1)=max (ybkw ids k) ids[k]:=by
 unfold ybkw;rw[ycdm a hk,zW];rfl
theorem ycnq{ids:List Int}(a:0<ids.length)(h:∀x∈ids,0<=x):maxI ids=ids.foldl max 0:=by
 cases ids with
 |nil=>simp at a
 | cons x l =>
   have b:max 0 x=x:=Int.max_eq_right (h x (by simp))
   simp[maxI,ybkw,b]
def idxP(ids:List Int)(x:Int):Int:=match ids.findIdx? (fun y=>x==y)with
 |some i=>i
 |none=>-1
theorem ycum{ids:List Int}{x:Int}{k:Nat}(hk:k<ids.length)(h:x=ids[k])(a:(ids.take k).findIdx? (fun y=>x==y)=none):idxP ids x=k:=by
 unfold idxP
 have:ids.findIdx? (fun y=>x==y)=some k:=by
  rw[zAH];refine⟨hk,by simp[h],fun j b=>?_⟩
  rw[zAC]at a;simp[a ids[j] (List.mem_take_iff_getElem.2 ⟨j,by omega,rfl⟩)]
 rw[this]
theorem ycjn{ids:List Int}{x:Int}(a:(ids.take ids.length).findIdx? (fun y=>x==y)=none):idxP ids x = -1:=by
 rw[zAI]at a;unfold idxP;rw[a]
theorem ycsr{ids:List Int}{x:Int}{k:Nat}(hk:k<ids.length)(h:x≠ids[k])(a:(ids.take k).findIdx? (fun y=>x==y)=none):(ids.take (k+1)).findIdx? (fun y=>x==y)=none:=by
 rw[zJ hk,zAV,a];simp[h]
end
section
namespace Sh
open Go Ev
def ybb(l:List Int):SV:=.sl 1 l.length (fun k=>[.i .i64 (l.getD k 0)])
def yx(ls:List (Int×Int)):SV:=.sl 2 ls.length (fun j=>[.i .i64 (ls.getD j (0,0)).1,.i .i64 (ls.getD j (0,0)).2])
def yg(ps:List (List (Int×Int))):SV:=.sl 1 ps.length (fun v=>[yx (ps.getD v [])])
def ydi(c:List (List Int)):SV:=.sl 1 c.length (fun v=>[ybb (c.getD v [])])
def grV(g:Gr):SV:=.ag [ybb g.ids,yg g.ports]
theorem ik{n:Int}(a:-1000000000000<=n)(b:n<=1000000000000):inK .i64 n:=by
 unfold inK;simp[IntKind.min,IntKind.max,IntKind.bits,IntKind.signed];omega
theorem ikw{n:Int}(a:-4611686018427387904<=n)(b:n<=4611686018427387904):inK .i64 n:=by
 unfold inK;simp[IntKind.min,IntKind.max,IntKind.bits,IntKind.signed];omega
theorem ybd{a b:Prop}(k:b)(h:a:=by first|omega|decide|exact ikw (by omega) (by omega)):a/\b:=⟨h,k⟩
theorem getD_at{a:Type}{l:List a}{k:Nat}{d:a}(h:k<l.length):l.getD k d=l[k]:=by simp[zL,h]
theorem ybfs{l:List Int}{i k:Nat}{x:Int}(h:i<l.length):(l.set i x).getD k 0=if k=i then x else l.getD k 0:=by
 simp only[zL,zS]
 by_cases q:i=k
 .subst q;simp[h]
 .rw[if_neg q,if_neg (Ne.symm q)]
theorem ycgq(l:List Int)(x:Int)(c:l.length<=100000):Returns zD 143 [ybb l,.i .i64 x] (.i .i64 (idxP l x)):=by
 refine Returns.of (ydmp _ _ ?_);simp only[c143,ycxq,ycwu,ybb,go_sem,zB,↓reduceIte,reduceCtorEq];refine ybe (σ:=Nat) (fun k=>⟨[(8,.i .i64 k),(0,ybb l),(1,.i .i64 x),(7,.i .i64 l.length)],[]⟩) (fun k=>k<=l.length/\(l.take k).findIdx? (fun y=>x==y)=none) (fun k=>l.length-k) 0 ⟨zM _,by simp⟩ ?_ ?_
 .refine yj ?_;simp only[ybb,wk,go_sem,zA,↓reduceIte,reduceCtorEq]
 .intro k ⟨hk,hno⟩;simp only[ycve,ydgn,ydbt,yczq,ycyz,ycyf,ybb,ycj,go_sem,zA,zB,↓reduceIte,reduceCtorEq];refine⟨fun h=>⟨by omega,fun b=>?_,fun b=>⟨ik (by omega) (by omega),?_⟩⟩,fun h=>?_⟩
  .have a:k<l.length:=by omega
   rw[ycum a (by rw[b,getD_at a]) hno]
  .have a:k<l.length:=by omega
   refine yu (k+1) ⟨by omega,ycsr a (by rw[<-getD_at (d:=0) a];exact b) hno⟩ (by omega) ?_
   refine yj ?_;simp only[wk,go_sem,zA,↓reduceIte,reduceCtorEq];simp
  .obtain rfl:k=l.length:=by omega
   rw[ycjn hno]
theorem ydls(l:List Int)(b:0<l.length)(c:l.length<=100000):Returns zD 54 [ybb l] (.i .i64 (maxI l)):=by
 refine Returns.of (yeau _ _ ?_);simp only[c54,yecn,yedv,yees,yeeg,yejp,ybb,go_sem,zAR,zA,zB];refine⟨fun h=>by omega,fun _=>⟨by omega,?_⟩⟩
 refine ybe (σ:=Nat) (fun k=>⟨[(4,.i .i64 k),(3,.i .i64 (ybkw l k)),(0,ybb l)],[]⟩) (fun k=>1<=k/\k<=l.length) (fun k=>l.length-k) 1 ⟨by omega,by omega⟩ ?_ ?_
 .refine yj ?_;simp only[ybb,ycbh,wk,go_sem,zA];cases l<;>simp at b ⊢
 .intro k ⟨hk1,hk⟩;simp only[ydxx,yefj,yeaw,yecw,ybb,ycj,go_sem,zA,zB];refine⟨fun h=>⟨by omega,ik (by omega) (by omega),?_⟩,fun h=>?_⟩
  .refine yu (k+1) ⟨by omega,by omega⟩ (by omega) ?_
   refine yj ?_;have a:k<l.length:=by omega
   simp only[ybwl hk1 a,getD_at a,wk,go_sem,zA];simp
  .obtain rfl:k=l.length:=by omega
   rfl
theorem ybht(l:List Int)(b:l.length<=100000):Returns zD 141 [ybb l] (.i .i64 (ycy l)):=by
 refine Returns.of (ydpp _ _ ?_);simp only[c141,ydja,yddp,ydjt,ybb,go_sem,zB,↓reduceIte,reduceCtorEq];refine ybe (σ:=Nat) (fun k=>⟨[(8,.i .i64 k),(3,.i .i64 (ycy (l.take k))),(6,ybb l),(7,.i .i64 l.length)],[]⟩) (fun k=>k<=l.length) (fun k=>l.length-k) 0 (zM _) ?_ ?_
 .refine yj ?_;simp only[ybb,wk,go_sem,zA,↓reduceIte,reduceCtorEq];simp[ycy]
 .intro k hk;simp only[ydbx,ydlb,ycyp,ycyx,ydbw,ybb,ycj,go_sem,zA,zB,↓reduceIte,reduceCtorEq];refine⟨fun h=>⟨by omega,ik (by omega) (by omega),?_⟩,fun h=>?_⟩
  .refine ybv (k+1) ?_;refine yj ?_;have a:k<l.length:=by omega
   simp only[ybav l k a,getD_at a,wk,go_sem,zA,↓reduceIte,reduceCtorEq];simp
  .obtain rfl:k=l.length:=by omega
   simp
end Sh
end
section
namespace Sh
open Go Ev Go.RowKit
def GrI(g:Gr):Prop:=(∀x∈g.ids,I64 x)/\∀a∈g.ports,∀l∈a,I64 l.1/\I64 l.2
def ycsh(c:List (List Int)):Prop:=∀s∈c,∀x∈s,I64 x
section
variable {G:AM}{m:Mem}{φ:Phi}{M:AM}{w:World}{u u':Value}
theorem ycqg {X:Type}{z n:Nat}{K:Nat->List SV}{xs:List X}{E:Elem X}(hG:Le G m.b.get) (hr:RV G om0 (.sl z n K) u) (d:VR φ u u') (hR:Rel φ M w) (hs:Sub m M) (R:xs.length=n)
 (hE:∀k x b o L r,xs[k]?=some x->RVL G om0 (K k) L->VRL φ L r->(∀j v,r[j]?=some v->w.cell? ⟨b,o+j,none⟩=some v)->E w b o x):SlAt z E w u' xs:=by
 rcases hr.sl_inv with⟨rfl,O⟩|⟨Y,p,cp,T,N,e,zz,L,rfl,g1,g2,g3,g4,g5,g6,g7⟩
 .have:xs=[]:=zX R;subst this;rcases O with rfl|⟨b,o,c,rfl⟩
  .have e:=d.eq_simple rfl;subst e;exact SlAt.nil w
  .obtain⟨g,A,t,V,k2,F,W,k5,H,I⟩:=d.slice_inv;subst F;exact⟨some A,t,rfl,zM _,H,fun q=>absurd q (by simp)⟩
 .obtain⟨g,A,t,V,k2,F,W,k5,H,I⟩:=d.slice_inv;subst F;subst R;refine⟨some A,t,rfl,W,H,fun S=>?_⟩;rcases I with⟨rfl,_⟩|I
  .obtain⟨a2,P,h2⟩:=hR.blk _ _ (hs _ _ (hG _ _ g1));have D:φ Y=some g:=V;rw[D]at P;cases P
   obtain⟨h3,h4,y,J,a0,O,Q,h6,h7⟩:=h2;refine⟨g.blk,g.base+p,rfl,(Array.getElem?_eq_some_iff.1 Q).1,fun k x U=>?_⟩;have hk:k<xs.length:=(List.getElem?_eq_some_iff.1 U).1;have a1:=ymb (z:=z) hk;have f:∀j v,j<z->(L k)[j]?=some v->∃i,y[g.base+(p+k*z+j)]?=some i/\VR φ v i:=fun j v C d=>h7 _ v (by omega) (by rw[g5 k hk j C];exact d)
   have B:∀(l:List Value) (q:Nat),(∀j v,l[j]?=some v->∃i,y[q+j]?=some i/\VR φ v i)->∃s,VRL φ l s/\∀j v,s[j]?=some v->y[q+j]?=some v:=by
    intro l
    induction l with
    |nil=>intro q _;exact⟨[],.nil,fun j v h=>by simp at h⟩
    | cons a l ih =>
      intro q h;obtain⟨i,Z,J⟩:=h 0 a rfl;obtain⟨s,e3,e4⟩:=ih (q+1) (fun j v d=>by have:=h (j+1) v (by simpa using d);rw[show q+1+j=q+(j+1)by omega];exact this)
      refine⟨i::s,.cons J e3,fun j v d=>?_⟩;cases j with
      |zero=>simp at d;subst d;exact Z
      |succ j=>have:=e4 j v (by simpa using d);rw[show q+(j+1)=q+1+j by omega];exact this
   obtain⟨r,r1,r2⟩:=B (L k) (g.base+p+k*z) (fun j v d=>by
    have C:j<z:=by rw[<-g4 k hk];exact(List.getElem?_eq_some_iff.1 d).1
    have:=f j v C d;rw[show g.base+p+k*z+j=g.base+(p+k*z+j)by omega]
    exact this)
   exact hE k x _ _ (L k) r U (g6 k hk) r1 fun j v d=>cell_of Q (by have:=r2 j v d;exact this)
  .omega
theorem ints_at{l:List Int}(h:Le G m.b.get)(p:RV G om0 (ybb l) u)(r:VR φ u u')(j:Rel φ M w)(q:Sub m M)(i:∀x∈l,I64 x):yru w u' l:=by
 refine ycqg h p r j q rfl fun k x b o L s e g c n=>?_;have hk:k<l.length:=(List.getElem?_eq_some_iff.1 e).1;have f:l.getD k 0=x:=by simp[zL,e]
 rw[f]at g;cases g with
 | cons a b =>
   cases b
   cases a.int_inv
   obtain⟨t,rfl,d⟩:=yge c;have:=d.eq_simple rfl;subst this;exact⟨n 0 _ rfl,i x (zN e)⟩
theorem ycrc{ls:List (Int×Int)}(p:Le G m.b.get)(s:RV G om0 (yx ls) u)(v:VR φ u u')(r:Rel φ M w)(t:Sub m M)(q:∀l∈ls,I64 l.1/\I64 l.2):yckp w u' ls:=by
 refine ycqg p s v r t rfl fun k x b o L y g e c f=>?_;have d:ls.getD k (0,0)=x:=by simp[zL,g]
 rw[d]at e;cases e with
 | cons a b =>
   cases b with
   | cons h i =>
     cases i
     cases a.int_inv
     cases h.int_inv
     obtain⟨v1,v2,rfl,j,n⟩:=ybfk c;have:=j.eq_simple rfl;subst this;have:=n.eq_simple rfl;subst this;exact⟨f 0 _ rfl,f 1 _ rfl,q x (zN g)⟩
theorem ycqs{ps:List (List (Int×Int))}(f:Le G m.b.get)(q:RV G om0 (yg ps) u)(r:VR φ u u')(h:Rel φ M w)(i:Sub m M)(n:∀ls∈ps,∀l∈ls,I64 l.1/\I64 l.2):ybeh w u' ps:=by
 refine ycqg f q r h i rfl fun k x b o L t j g c p=>?_;have e:ps.getD k []=x:=by simp[zL,j]
 rw[e]at g;cases g with
 | cons a b =>
   cases b
   obtain⟨s,rfl,d⟩:=yge c;exact⟨s,p 0 _ rfl,ycrc f a d h i (n x (zN j))⟩
theorem ydpe{c:List (List Int)}(g:Le G m.b.get)(q:RV G om0 (ydi c) u)(r:VR φ u u')(i:Rel φ M w)(j:Sub m M)(n:ycsh c):ydgr w u' c:=by
 refine ycqg g q r i j rfl fun k x b o L t l h d p=>?_;have f:c.getD k []=x:=by simp[zL,l]
 rw[f]at h;cases h with
 | cons a b =>
   cases b
   obtain⟨s,rfl,e⟩:=yge d;exact⟨s,p 0 _ rfl,ints_at g a e i j (n x (zN l))⟩
theorem ydor{g:Gr}(d:Le G m.b.get)(o:RV G om0 (grV g) u)(p:VR φ u u')(f:Rel φ M w)(h:Sub m M)(e:GrI g):GrAt w u' g:=by
 obtain⟨L,rfl,n⟩:=o.ag_inv;cases n with
 | cons a b =>
   cases b with
   | cons i j =>
     cases j
     obtain⟨q,rfl,c⟩:=p.agg_inv;obtain⟨v1,v2,rfl,k,l⟩:=ybfk c;exact⟨v1,v2,rfl,ints_at d a k f h e.1,ycqs d i l f h e.2⟩
end
theorem ybry {g:FuncId}{args:List SV}{r:SV}{v:Value}(n:∃fn c,Tryz.prog.funcs[g]?=some fn/\fn.body=some c) (f:∀F,RV F om0 r v) (i:∀φ,VR φ v v)
 (h:∀(G:AM) (m:Mem) (us:List Value),Le G m.b.get->RVL G om0 args us->∀φ M w a,Rel φ M w->Sub m M->VRL φ us a->Calls zD g a.toArray w fun e j=>e = .returned v/\Below w.heap.size w j):Returns zD g args r:=by
 intro G m us s d o;refine⟨v,ygn m,r,ypa ytb n fun φ M w a k p q=>(h G m us d o φ M w a k p q).mono ?_,zK _,Le.refl _,rfl,f _⟩;rintro e j ⟨rfl,l⟩;exact⟨v,rfl,i φ,l⟩
theorem rvl1{F:AM}{ω:Om}{a:SV}{us:List Value}(h:RVL F ω [a] us):∃u,us=[u]/\RV F ω a u:=by
 cases h with|cons x y=>cases y;exact⟨_,rfl,x⟩
theorem rvl2{F:AM}{ω:Om}{a b:SV}{us:List Value}(h:RVL F ω [a,b] us):∃u v,us=[u,v]/\RV F ω a u/\RV F ω b v:=by
 cases h with|cons x y=>obtain⟨v,rfl,q⟩:=rvl1 y;exact⟨_,v,rfl,x,q⟩
end Sh
end
section
open Go.RowKit
theorem yckr(n k:Nat)(hk:k<n):(zQ k (-1:Int)++zQ (n-k) 0).set k (-1)=zQ (k+1) (-1)++zQ (n-(k+1)) 0:=by
 apply zBF
 .simp;omega
 .intro i b c;rw[List.getElem_set];split
  .subst_vars
   rw[zAE (by simp)]
   simp
  .by_cases a:i<k
   .rw[zAE (by simpa using a),zAE (by simp;omega)];simp
   .rw[zAO (by simp;omega),zAO (by simp;omega)];simp
theorem yrq(g:Gr)(a:Nat)(h:g.ports.length<=24):1+ydh (start g a)<=30:=by
 have b:=List.countP_le_length (p:=fun x:Int=>decide (x<0)) (l:=start g a);have c:(start g a).length=g.ports.length:=by simp[start]
 unfold ydh;omega
set_option maxHeartbeats 2000000 in
theorem ybwp(gv:Value)(g:Gr)(a:Nat)(w:World)(hg:GrAt w gv g)(r:ybi g)(N:a<g.ports.length) :
 Calls zD 142 #[gv,.int .i64 a] w (ydtm (yck g a) w):=by
 have U:=r.2.1;have Hgood:=zC r
 clear r
 obtain⟨i,p,rfl,hi,hp⟩:=hg;obtain⟨A2,c2,rfl,d5,d6⟩:=ycf hp;have Hp:=zC hp
 clear hi hp
 have b7:=ybko g.ports.length (by omega)
 go_enter zBT,Tryz.ntmps142
 go_wp2
 go_loopg [17] g.ports.length (fun q t wr=>∃k:Nat,q+k=g.ports.length/\t = .int .i64 k/\Hid (Below (w.heap.size+1) (w.alloc (.cells #[i,.slice A2 g.ports.length c2] 27)) wr)/\Hid (IBlk wr (w.heap.size+1) (zQ k (-1)++zQ (g.ports.length-k) 0)))
 case atStart =>
  refine⟨0,by omega,rfl,zC ((Below.refl _ _).alloc (by simp) _),zC ?_⟩
  have:=IBlk.new (w.alloc (.cells #[i,.slice A2 g.ports.length c2] 27)) (zQ g.ports.length (0:Int))
  simpa using this
 case round =>
  obtain⟨k,hq,rfl,c,b⟩:=hrel
  by_cases B:k<g.ports.length
  .obtain⟨x,L⟩:∃x,wr.cell? ⟨w.heap.size+1,k,none⟩=some (.int .i64 x):=⟨_,b.out.cell (by simp;omega)⟩
   have hf:=b.out.frozen k
   go_wp2
   go_roundg (gk-1)
   case measure=>omega
   case rel =>
    refine⟨k+1,by omega,by go_num,zC (c.out.setCell (by simp) _),zC ?_⟩
    have:=b.out.set_ k (-1)
    rwa [yckr _ _ B]at this
  .obtain rfl:k=g.ports.length:=by omega
   have m:IBlk wr (w.heap.size+1) (zQ g.ports.length (-1)):=by simpa using b.out
   obtain⟨x,L⟩:∃x,wr.cell? ⟨w.heap.size+1,a,none⟩=some (.int .i64 x):=⟨_,m.cell (by simpa using N)⟩
   have hf:=m.frozen a;have Hb0:=zC m
   clear m b b7
   go_wp2
   go_loopg [7] (1+ydh (start g a)) (fun q t wr=>∃R Q,q=Q.length+ydh R/\q<=30/\Hid (Below (w.heap.size+1) (w.alloc (.cells #[i,.slice A2 g.ports.length c2] 27)) wr)/\Hid (IBlk wr (w.heap.size+1) R)/\Hid (BfsInv g a R Q)/\Hid (Owns wr (w.heap.size+2) 3 1 t Q.length (Q.map (fun q:Nat=>Value.int .i64 (q:Int)))))
   case atStart =>
    refine⟨start g a,[a],rfl,yrq g a U,zC ((c.out.setCell (by simp) _).alloc (by have:=c.out.size;simp at this ⊢;omega) _),zC ((Hb0.out.set_ a 0).alloc _),zC (BfsInv.start N),zC ?_⟩
    refine⟨rfl,.inr ⟨_,0,1,#[.int .i64 (a:Int)],rfl,?_,?_,zK _,by simp[maxLen],by simp,?_⟩⟩
    .have:=Hb0.out.lt;simp;omega
    .have:=heap_alloc_new (wr.setCell ⟨w.heap.size+1,a,none⟩ (.int .i64 0)) (.cells #[.int .i64 (a:Int)] 3);simpa using this
    .intro j u hu
     simpa using hu
   case round =>
    clear c Hb0 L hf
    obtain⟨R,Q,hq,d2,c,b,f,hown⟩:=hrel;obtain⟨AQ,cQ,rfl⟩:=hown.out.val;cases Q with
    | nil =>
      have Hd:=zC (f.out.isDist.unique (yfx Hgood.out N))
      go_wp2
      go_ret
      have h:=b.out.ints (fun x L=>by have:=f.out.isDist.bound Hgood.out N x L;unfold I64;omega) (by rw[f.out.len];omega)
      rw[f.out.len,Hd.out]at h;exact⟨_,rfl,h,(box2 c.out).2.2.1⟩
    | cons v Q =>
      obtain⟨gQ,oQ,d4,hv,e1,e2,b1,b4,o⟩:=hown.out.form (by simp)
      cases hv
      have O:=o 0 (.int .i64 (v:Int)) rfl;simp only[zBS]at O;have a7:=zC o;obtain⟨d,hd⟩:=f.out.qin v (by simp)
      have a3:v<g.ports.length:=by rw[<-f.out.len];exact(List.getElem?_eq_some_iff.1 hd).1
      obtain⟨q0,q1,n,a0⟩:=box2 c.out;obtain⟨b2,a6,lv,rfl,d7,E,D⟩:=yqt Hp.out (zF a3);have S:=ynj n _ _ E
      clear E
      obtain⟨A3,c3,rfl,b6,e3⟩:=ycf D;obtain⟨z,s⟩:∃z,g.ports[v]=z:=⟨_,rfl⟩;have Hlp:=zC (show g.ports[v]?=some z by rw[zF a3,s])
      rw[s]at D S b6;have Hls:=zC D;have Hin:=zC (f.out.pop hd z);have M:=zC n
      clear s D n o f hd
      simp only[zAP]at hq b1 hown O;obtain⟨i0,H,a4,K,a5⟩:=info_parts ybra;obtain⟨vQ,Y,J,V⟩:=ycoc (P:=zD) zBC H K hown.out (k:=1) (by simp) (by simp)
      simp only[Nat.add_sub_cancel,Nat.mul_one,zBP,zAW,zBM]at J;have Z:∀W,(Instr.slice 22 (.slice (some ⟨gQ,oQ,none⟩) (Q.length+1) cQ) (some (.int .i64 1)) none none).run zD W = .ok vQ W:=fun W=>by simpa using Y W
      have HoQ:=zC J;have Hi0:=zC (show _/\_/\_/\_ from⟨H,a4,K,a5⟩)
      clear J hown Y V H a4 K a5
      unfold maxLen at b4
      go_wp2
      clear Z
      obtain⟨go,rfl⟩:∃go,go=gk:=⟨_,rfl⟩
      go_loopg [43,7] z.length (fun q t tq wr=>∃(k:Nat) (R:List Int) (Q:List Nat),q+k=z.length/\t = .int .i64 k/\Hid (go=Q.length+1+ydh R)/\Hid (Below (w.heap.size+1) (w.alloc (.cells #[i,.slice (some ⟨b2,a6,none⟩) g.ports.length c2] 27)) wr)/\Hid (IBlk wr (w.heap.size+1) R)/\Hid (BfsIn g a v d z k R Q)/\Hid (Owns wr (w.heap.size+2) 3 1 tq Q.length (Q.map (fun q:Nat=>Value.int .i64 (q:Int)))))
      case atStart=>exact⟨0,R,Q,by omega,rfl,zC (by omega),c,b,Hin,HoQ⟩
      case round =>
       clear c b Hin HoQ hq S q0 q1 M a0
       obtain⟨k,R,Q,hq,rfl,Hgk,c,b,Hin,HoQ⟩:=hrel
       by_cases B:k<z.length
       .obtain⟨q0,q1,n,a0⟩:=box2 c.out;have M:=zC n;obtain⟨A4,c4,e4,_,_,hE⟩:=Hls.out.below Stable.link n;cases e4
        obtain⟨b3,d3,rfl,d8,hE⟩:=hE (by omega)
        obtain⟨⟨l1,wt⟩,s⟩:∃l,z[k]=l:=⟨_,rfl⟩;have I:z[k]?=some (l1,wt):=by rw[zF B,s]
        obtain⟨c8,c9,⟨b9,c0⟩,⟨c6,c7⟩⟩:=hE k _ I;obtain⟨k1,k2,k3,k4,k5⟩:=Hgood.out.link Hlp.out (zN I);simp only at k1 k2 k3 k4 k5 c8 c9 b9 c0 c6 c7;obtain⟨u,rfl⟩:=zY k1;have a1:u<R.length:=by rw[Hin.out.len];omega
        have a2:v<R.length:=by rw[Hin.out.len];omega
        have G:R[v]?=some (d:Int):=Hin.out.rv;have b0:=b.out.cell a2;rw[show R[v]=(d:Int)by have:=zF a2;rw[G]at this;exact(Option.some.inj this).symm]at b0
        have d9:=b.out.cell a1;have e0:=b.out.frozen u
        have d0:d<g.ports.length:=by
         rcases Hin.out.val v _ G with e|⟨k',e,h1,h2⟩
         .omega
         .obtain rfl:d=k':=by omega
          exact yye Hgood.out N h1 h2
        have y:z[k].1=(u:Int):=by rw[s]
        have A:R[u]?=some R[u]:=zF a1;have hB:w.heap.size+1<wr.heap.size:=b.out.lt
        clear hE I s n k1 k3 G
        by_cases d1:R[u]<0
        .have F:R[u]?=some (-1):=by
          rcases Hin.out.val u _ A with e|⟨k',e,_⟩
          .exact A.trans (congrArg some e)
          .exact absurd e (by omega)
         have Hd:=zC (Hin.out.discover Hlp.out B y F);have Hun:=zC (yzi (R:=R) (u:=u) (x:=(d:Int)+1) F (by omega))
         clear A F y
         go_wp2
         go_region
         go_wp2_with (at_builtin;refine yqs _ rfl _ _ 22 rfl (w.heap.size+2) 3 i0 (.int .i64 0) 1 8 zBC Hi0.out.1 Hi0.out.2.1 Hi0.out.2.2.1 Hi0.out.2.2.2 rfl (by decide) u7 Q.length (Q.map (fun q:Nat=>Value.int .i64 (q:Int))) (by rfl) ?hown _ 1 1 [.int .i64 (u:Int)] (by rfl) rfl ?c1 ?c2 ?c3 ?c4 ?c5 ?_)
         case hown=>exact(((HoQ.out.low (p:=⟨w.heap.size+1,u,none⟩) (by simp) _).alloc _).alloc _).drew
         case c1=>exact ycrp (by simp)
         case c2=>simp[Value.oneCell']
         case c3=>have:=Hgk.out;simp only[maxLen];omega
         case c4=>have:=Hgk.out;omega
         case c5=>simp;omega
         intro e5 w' C T b8;have hgo:=Hgk.out;have Hown:=zC C;have Hgr:=zC T
         clear C T b8
         go_wp2
         go_roundg (gk-1)
         case measure=>omega
         case rel =>
          have a9:=(((c.out.setCell (p:=⟨w.heap.size+1,u,none⟩) (by simp) (.int .i64 ((d:Int)+1))).alloc (by simp;omega) (.cells #[.int .i64 (u:Int),.int .i64 wt] 68)).alloc (by simp;omega) (.cells #[.int .i64 (u:Int)] 3)).drew
          have b5:=((((b.out.set_ u ((d:Int)+1)).alloc (.cells #[.int .i64 (u:Int),.int .i64 wt] 68)).alloc (.cells #[.int .i64 (u:Int)] 3)).drew);refine⟨k+1,R.set u ((d:Int)+1),Q++[u],by omega,by go_num,zC ?_,zC (a9.grown Hgr.out (by simp;omega) (fun x L=>?_)),zC (b5.grown Hgr.out (fun e=>?_)),Hd,zC ?_⟩
          .have:=Hun.out;simp;omega
          .have:=(HoQ.out.lt L).1;omega
          .have:=(HoQ.out.lt e.symm).1;omega
          .have:=Hown.out
           simpa using this
        .have X:0<=R[u]:=by omega
         obtain⟨j,hj⟩:=zY X;have a8:=zC (Hin.out.skip B (j:=j) (by rw[y,zV,A,hj]))
         clear A y hj
         go_wp2
         have hgo:=Hgk.out
         go_roundg (gk-1)
         case measure=>omega
         case rel=>exact⟨k+1,R,Q,by omega,by go_num,Hgk,zC (c.out.alloc (by omega) _),zC (b.out.alloc _),a8,zC (HoQ.out.alloc _)⟩
       .obtain rfl:k=z.length:=by omega
        go_wp2
        have hgo:=Hgk.out
        go_roundg (Q.length+ydh R)
        case measure=>omega
        case rel=>exact⟨R,Q,rfl,by omega,c,b,zC (Hin.out.finish Hlp.out),HoQ⟩
end
section
open Go.RowKit
theorem ybkg:zBD=Array.replicate 256 (.bool false):=by kernel_rfl
def Seen(w:World)(g:Nat)(S:List Int):Prop:=∃a,w.heap[g]?=some (.cells a 241 (0,0))/\a.size=256/\∀i:Nat,i<256->a[i]?=some (.bool (decide ((i:Int)∈S)))
theorem Seen.cell{w:World}{g:Nat}{S:List Int}(h:Seen w g S){i:Nat}(d:i<256):w.cell? ⟨g,i,none⟩=some (.bool (decide ((i:Int)∈S))):=by
 obtain⟨a,b,e,c⟩:=h;simp[World.cell?,b,c i d]
theorem Seen.frozen{w:World}{g:Nat}{S:List Int}(h:Seen w g S)(i:Nat):w.frozen? ⟨g,i,none⟩=false:=by
 obtain⟨a,b,c,d⟩:=h;simp[World.frozen?,b]
theorem Seen.set_{w:World}{g:Nat}{S:List Int}(h:Seen w g S){i:Nat}:Seen (w.setCell ⟨g,i,none⟩ (.bool true)) g (S++[(i:Int)]):=by
 obtain⟨a,b,c,d⟩:=h;refine⟨a.setIfInBounds i (.bool true),by simp[World.setCell,Array.getElem?_modify,b],by simp[c],fun j e=>?_⟩
 rw[Array.getElem?_setIfInBounds];split
 .subst_vars
  rw[if_pos (by omega)]
  simp
 .rw[d j e];congr 3;simp;omega
theorem Seen.start(w:World):Seen (w.alloc (.cells zBD 241)) w.heap.size []:=by
 refine⟨_,heap_alloc_new w _,by rw[ybkg];simp,fun i a=>?_⟩
 rw[ybkg];simp[a]
def ybmp(ids:List Int):Bool:=decide ((∀x∈ids,0<=x/\x<=255)/\ids.Nodup)
def yxv(ids:List Int)(k:Nat):Prop:=(∀x∈ids.take k,0<=x/\x<=255)/\(ids.take k).Nodup
theorem yckf{ids:List Int}{k:Nat}(hk:k<ids.length):yxv ids (k+1)↔yxv ids k/\(0<=ids[k]/\ids[k]<=255)/\ids[k]∉ids.take k:=by
 unfold yxv;rw[take_snoc ids k hk,List.nodup_append];constructor
 .rintro⟨d,f,_,g⟩;exact⟨⟨fun x c=>d x (zAU _ c),f⟩,d _ (List.mem_append_right _ (by simp)),fun l=>g _ l _ (by simp) rfl⟩
 .rintro⟨⟨d,f⟩,g,i⟩;refine⟨fun x c=>?_,f,by simp,fun a j b h e=>?_⟩
  .rcases List.mem_append.1 c with c|c
   .exact d x c
   .simp at c;subst c;exact g
  .simp at h;subst h e;exact i j
theorem ybqb{ids:List Int}{k:Nat}(h:¬yxv ids k):ybmp ids=false:=by
 unfold ybmp;rw[decide_eq_false_iff_not];exact fun a=>h ⟨fun x b=>a.1 x (List.mem_of_mem_take b),a.2.sublist (List.take_sublist _ _)⟩
theorem ybvd{ids:List Int}(h:yxv ids ids.length):ybmp ids=true:=by
 unfold yxv at h;rw[zAI]at h;exact decide_eq_true h
set_option maxRecDepth 100000 in
set_option maxHeartbeats 1000000 in
theorem yvq(s:Value)(ids:List Int)(w:World)(o:yru w s ids) :
 Calls zD 174 #[s] w fun e F=>e = .returned (.bool (ybmp ids))/\Below w.heap.size w F:=by
 obtain⟨A,c,rfl,y,z⟩:=ycf o;have Hi:=zC o
 clear o
 go_enter Tryz.func174,Tryz.ntmps174
 go_wp2
 go_loopg [8] ids.length (fun q t wr=>∃k:Nat,q+k=ids.length/\t = .int .i64 k/\Hid (Below w.heap.size w wr)/\Hid (Seen wr w.heap.size (ids.take k))/\Hid (yxv ids k))
 case atStart=>exact⟨0,by omega,rfl,zC ((Below.refl _ _).alloc (zK _) _),zC (Seen.start w),zC ⟨by simp,by simp⟩⟩
 case round =>
  obtain⟨k,H,rfl,a,d,l⟩:=hrel
  by_cases f:k<ids.length
  .obtain⟨b,E,rfl,G,g,r⟩:=yrv (Hi.out.below Stable.int a.out) f;obtain⟨x,p⟩:∃x,ids[k]=x:=⟨_,rfl⟩;have Hsn:=zC (yckf f);rw[p]at g r Hsn;obtain⟨C,D⟩:=r;have Hbad:=zC (fun h=>ybqb (ids:=ids) (k:=k+1) h);have Hts:=zC (take_snoc ids k f);rw[p]at Hts
   clear p
   by_cases c1:0<=x/\x<=255
   .obtain⟨m,v⟩:=c1;obtain⟨n,rfl⟩:=zY m;have j:=d.out.cell (i:=n) (by omega)
    have B:=d.out.frozen n
    by_cases c2:(n:Int)∈ids.take k
    .rw[decide_eq_true c2]at j;have Hf:=zC (Hbad.out (fun h=>(Hsn.out.1 h).2.2 c2))
     clear c2
     go_wp2
     go_ret
     exact⟨ybw Hf.out.symm,a.out⟩
    .rw[decide_eq_false c2]at j;have u:=zC (Hsn.out.2 ⟨l.out,⟨by omega,by omega⟩,c2⟩)
     clear c2
     go_wp2
     go_roundg (gk-1)
     case measure=>omega
     case rel =>
      refine⟨k+1,by omega,by go_num,zC (a.out.setCell (zK _) _),zC ?_,u⟩
      rw[Hts.out];exact d.out.set_
   .have Hf:=zC (Hbad.out (fun h=>c1 (Hsn.out.1 h).2.1))
    by_cases c3:x<0
    .clear c1
     go_wp2
     go_ret
     exact⟨ybw Hf.out.symm,a.out⟩
    .have c4:255<x:=by omega
     clear c1
     go_wp2
     go_ret
     exact⟨ybw Hf.out.symm,a.out⟩
  .obtain rfl:k=ids.length:=by omega
   have Ht:=zC (ybvd l.out)
   go_wp2
   go_ret
   exact⟨ybw Ht.out.symm,a.out⟩
theorem yccs(g:Gr)(e:1<=g.ids.length)(f:g.ids.length<=24)(h:g.ports.length=g.ids.length):yii g=(ybmp g.ids&&symB g.ports):=by
 unfold yii ybmp symB;rw[<-Bool.decide_and];congr 1;apply propext;unfold ybi ycrg;constructor
 .rintro⟨_,_,_,a,b,c,d⟩;exact⟨⟨a,b⟩,c,d⟩
 .rintro⟨⟨a,b⟩,c,d⟩;exact⟨by omega,by omega,by omega,a,b,c,d⟩
set_option maxHeartbeats 1000000 in
theorem yyd(gv:Value)(g:Gr)(w:World)(t:GrAt w gv g) :
 Calls zD 131 #[gv] w fun e v=>e = .returned (.bool (yii g))/\Below w.heap.size w v:=by
 obtain⟨i,p,rfl,f,j⟩:=t;obtain⟨A,c,rfl,o,q⟩:=ycf f;obtain⟨x,c2,rfl,r,s⟩:=ycf j;have Hi:=zC f;have Hp:=zC j
 clear f j
 by_cases m:1<=g.ids.length
 .by_cases n:g.ids.length<=24
  .by_cases b:g.ports.length=g.ids.length
   .have k:((g.ports.length:Int)!=(g.ids.length:Int))=false:=by simp[b]
    have He:=zC (yccs g m n b);have u:g.ports.length<=24:=by omega
    clear b
    go_enter zAK,zAM
    go_wp2_with fail
    refine(yvq _ g.ids _ (Hi.out.below Stable.int ((Below.refl _ _).alloc (zK _) _))).mono ?_;rintro e B ⟨rfl,a⟩;have Hb1:=zC (ycco a);obtain⟨y,z⟩:=ydvs a
    clear a
    cases l:ybmp g.ids with
    | false =>
      have Hv:=zC (show yii g=false by rw[He.out,l];rfl)
      go_wp2_with fail
      go_ret
      exact⟨ybw Hv.out.symm,Hb1.out⟩
    | true =>
      have Hv:=zC (show yii g=symB g.ports by rw[He.out,l];rfl)
      go_wp2_with fail
      refine(yra _ g.ports _ (Hp.out.below (Stable.sl Stable.link) Hb1.out) (by omega)).mono ?_
      rintro e C ⟨rfl,d⟩
      go_wp2_with fail
      go_ret
      exact⟨ybw Hv.out.symm,Hb1.out.trans (d.mono Hb1.out.size)⟩
   .have k:((g.ports.length:Int)!=(g.ids.length:Int))=true:=by simp;omega
    have Hf:=zC (yjv (g:=g) (fun h=>b h.2.2.symm))
    clear b
    go_enter zAK,zAM
    go_wp2
    go_ret
    exact⟨ybw Hf.out.symm,(Below.refl _ _).alloc (zK _) _⟩
  .have Hf:=zC (yjv (g:=g) (fun h=>n (by omega)))
   go_enter zAK,zAM
   go_wp2
   go_ret
   exact⟨ybw Hf.out.symm,(Below.refl _ _).alloc (zK _) _⟩
 .have Hf:=zC (yjv (g:=g) (fun h=>m (by omega)))
  go_enter zAK,zAM
  go_wp2
  go_ret
  exact⟨ybw Hf.out.symm,(Below.refl _ _).alloc (zK _) _⟩
end
section
namespace Sh
open Go Ev Go.RowKit
theorem yhk{x:Int}(h:-4611686018427387904<=x/\x<=4611686018427387904):I64 x:=by
 unfold I64;omega
theorem ydqk{g:Gr}(d:ybi g):GrI g:=by
 obtain⟨o,p,q,b,r,c,s⟩:=d;refine⟨fun x h=>yhk (by have:=b x h;omega),fun t a l e=>?_⟩
 obtain⟨v,f,rfl⟩:=List.getElem_of_mem a;obtain⟨i,j,k,m,n⟩:=(c ⟨v,f⟩).1 l e;exact⟨yhk (by omega),yhk (by omega)⟩
theorem ybcf{g:Gr}(e:GrI g):Returns zD 131 [grV g] (.b (yii g)):=by
 refine ybry ⟨_,_,zAK,rfl⟩ (fun _=>.b) (fun _=>.simple rfl) fun G m n d h o M w l f i j=>?_;obtain⟨u,rfl,a⟩:=rvl1 h;obtain⟨k,rfl,c⟩:=yge j;exact yyd k g w (ydor d a c f i e)
end Sh
end
section
namespace Sh
open Go Ev
end Sh
end
section
structure VarR where
 name:ByteArray
 kind:Int
 lo:Int
 hi:Int
 perNode:Int
 perID:Int
theorem ybvq(ids:List Int)(k:Nat)(hk:k<ids.length):(ids.take (k+1)).foldl max 0=max ((ids.take k).foldl max 0) ids[k]:=by
 rw[take_snoc ids k hk,zW];rfl
theorem ybiu(D:List Int)(m:Int)(h:∀x∈D,x<=m):∀a:Int,a<=m->D.foldl max a<=m:=by
 induction D with
 |nil=>intro a b;exact b
 |cons x D d=>intro a b;exact d (fun y c=>h y (by simp[c])) _ (Int.max_le.2 ⟨b,h x (by simp)⟩)
theorem yxt{g:Gr}(a:ybi g):0<=ybvv g/\ybvv g<=255:=⟨yuz _ _,ybiu _ _ (fun x b=>(a.2.2.2.1 x b).2) _ (by omega)⟩
end
section
abbrev Tm:=Int×Int
structure SetR where
 var:Int
 val:List Tm
structure RuleR where
 name:ByteArray
 guard:List Tm
 sets:List SetR
structure ProgR where
 name:ByteArray
 vars:List VarR
 rules:List RuleR
instance:Inhabited VarR:=⟨⟨.empty,0,0,0,0,0⟩⟩
instance:Inhabited SetR:=⟨⟨0,[]⟩⟩
instance:Inhabited RuleR:=⟨⟨.empty,[],[]⟩⟩
inductive Ex where
 |leaf (op arg:Int)
 |un (op:Int) (a:Ex)
 |agg (op:Int) (a:Ex)
 |bin (op:Int) (a b:Ex)
 |ite (c a b:Ex)
def Ex.ser:Ex->List Tm
 |.leaf d arg=>[(d,arg)]
 |.un d a=>(d,0)::a.ser
 |.agg d a=>(d,0)::a.ser
 |.bin d a b=>(d,0)::(a.ser++b.ser)
 |.ite c a b=>(43,0)::(c.ser++(a.ser++b.ser))
def satP(a:Int):Int:=max (-1073741824) (min a 1073741824)
def ycc(b:Bool):Int:=if b then 1 else 0
def ybaq(a b:Int):Int:=if b=0 then 0 else if a.tmod b≠0/\(decide (a<0)≠decide (b<0))then a.tdiv b-1 else a.tdiv b
def unP(b a:Int):Int:=if b=18 then -a else ycc (a==0)
def cmpP(c a b:Int):Bool:=if c=35 then a==b else if c=36 then a != b else if c=37 then decide (a<b)else if c=38 then decide (a<=b)else if c=39 then decide (a>b)else decide (a>=b)
def binP(c a b:Int):Int :=
 if c=30 then satP (a*b)else if c=31 then satP (ybaq a b)else if c=32 then(if b=0 then 0 else satP (a-b*ybaq a b))else if c=33 then satP (a+b)else if c=34 then satP (a-b)
 else if c=41 then ycc (a != 0&&b != 0)else if c=42 then ycc (a != 0||b != 0)else ycc (cmpP c a b)
def countP(l:List Int):Int:=((l.filter (· != 0)).length:Int)
def yuq(l:List Int):Int:=l.foldl min 1073741824
def yeh(l:List Int):Int×Int:=l.foldl (fun p a=>if a>p.1 then(a,p.1)else(p.1,max p.2 a)) (-1073741824,-1073741824)
def ybaf(l:List Int):Nat->Int->Int
 |0,r=>r
 |n+1,r=>if l.elem r then ybaf l n (r+1)else r
def mexP(l:List Int):Int:=ybaf l (l.length+1) 0
def yhi(l:List Int):Int:=match l.findIdx? (· != 0)with|some i=>i|none=>-1
def yiw(a:Int)(l:List Int):Int :=
 if a=20 then ycc (countP l==l.length)else if a=21 then ycc (decide (countP l>0))else if a=22 then countP l else if a=23 then yhi l else if a=24 then yuq l else if a=25 then(yeh l).1
 else if a=26 then satP l.sum else if a=27 then mexP l else if a=28 then(yeh l).2 else l.headD 0
structure Sc where
 g:Gr
 c:Conf
def ydd(g:Gr)(v a:Nat):Int×Int:=(g.ports.getD v []).getD a (0,0)
def ymq(g:Gr)(v:Nat):List Int:=(g.ports.getD v []).map fun l=>ypc (g.ports.getD l.1.toNat []) v
def yro(g:Gr)(b:Int)(v:Nat)(a:Int):Int :=
 if b=6 then g.ids.length else if b=7 then ybvv g else if b=8 then g.ids.getD v 0 else if b=9 then((g.ports.getD v []).length:Int)else if b=10 then ycc ((v:Int)==0)else if b=11 then a
 else(let l:=ydd g v a.toNat
  if b=13 then g.ids.getD l.1.toNat 0 else if b=14 then((g.ports.getD l.1.toNat []).length:Int)else if b=15 then ycc (l.1==0)else if b=16 then l.2 else(ymq g v).getD a.toNat 0)
def yxs(g:Gr)(c:Conf)(b arg:Int)(v:Nat)(a:Int):Int :=
 if b=1 then arg else if b=2 then 1 else if b=3 then 0 else if b=4 then -1 else if b=5 then(c.getD v []).getD arg.toNat 0 else if b=12 then(c.getD (ydd g v a.toNat).1.toNat []).getD arg.toNat 0
 else yro g b v a
def ydp(g:Gr)(c:Conf)(v:Nat):Ex->Int->Int
 |.leaf d arg,p=>yxs g c d arg v p
 |.un d a,p=>unP d (ydp g c v a p)
 |.agg d a,_=>yiw d ((zT (g.ports.getD v []).length).map fun(q:Nat)=>ydp g c v a (q:Int))
 |.bin d a b,p=>binP d (ydp g c v a p) (ydp g c v b p)
 |.ite x a b,p=>if ydp g c v x p≠0 then ydp g c v a p else ydp g c v b p
def Ex.ok(e:Int)(c:Bool):Ex->Bool
 |.leaf d arg=>decide (1<=d/\d<=17)&&(if d=1 then decide (0<=arg/\arg<=1073741824)else if d=5\/d=12 then decide (0<=arg/\arg<e)else true)&&(if 11<=d then c else true)
 |.un d a=>decide (d=18\/d=19)&&a.ok e c
 |.agg d a=>decide (20<=d/\d<=29)&&a.ok e true
 |.bin d a b=>decide (30<=d/\d<=42)&&a.ok e c&&b.ok e c
 |.ite x a b=>x.ok e c&&a.ok e c&&b.ok e c
def InB(x:Int):Prop:=-1073741824<=x/\x<=1073741824
theorem ytn(a:Int):InB (satP a):=by unfold InB satP;omega
theorem yhc(b:Bool):InB (ycc b):=by unfold InB ycc;cases b<;>simp
theorem ydwp{b a:Int}(h:InB a):InB (unP b a):=by
 unfold unP;split
 .unfold InB at *;omega
 .exact yhc _
theorem ydmb(c a b:Int):InB (binP c a b):=by
 unfold binP;split;· exact ytn _
 split;· exact ytn _
 split
 .split
  .unfold InB;omega
  .exact ytn _
 split;· exact ytn _
 split;· exact ytn _
 split;· exact yhc _
 split;· exact yhc _
 exact yhc _
theorem countP_le(l:List Int):0<=countP l/\countP l<=l.length:=by
 unfold countP;have:=List.length_filter_le (· != 0) l;omega
theorem yckl(l:List Int)(h:∀x∈l,InB x):InB (yuq l):=by
 unfold yuq
 have:∀(l:List Int) (a:Int),InB a->(∀x∈l,InB x)->InB (l.foldl min a):=by
  intro l
  induction l with
  |nil=>intro a b _;exact b
  | cons x l e =>
    intro a b c;refine e _ ?_ fun y d=>c y (zAB _ d);have:=c x zAF;unfold InB at *;omega
 exact this l _ (by unfold InB;omega) h
theorem ybbl(l:List Int)(h:∀x∈l,InB x):InB (yeh l).1/\InB (yeh l).2:=by
 unfold yeh
 have:∀(l:List Int) (p:Int×Int),InB p.1/\InB p.2->(∀x∈l,InB x)->InB (l.foldl (fun p a=>if a>p.1 then(a,p.1)else(p.1,max p.2 a)) p).1/\InB (l.foldl (fun p a=>if a>p.1 then(a,p.1)else(p.1,max p.2 a)) p).2:=by
  intro l
  induction l with
  |nil=>intro p c _;exact c
  | cons x l e =>
    intro p c b;refine e _ ?_ fun y d=>b y (zAB _ d);have:=b x zAF;unfold InB at *
    dsimp only
    split<;>dsimp only<;>omega
 exact this l _ (by unfold InB;simp) h
theorem ybrp(l:List Int):∀(n:Nat) (r:Int),r<=ybaf l n r/\ybaf l n r<=r+n
 |0,r=>by unfold ybaf;omega
 | n+1,r=>by
   unfold ybaf;have:=ybrp l n (r+1);split<;>omega
theorem ybhd(l:List Int):-1<=yhi l/\yhi l<l.length\/yhi l = -1:=by
 unfold yhi;split
 .rename_i i a
  obtain⟨h,_⟩:=List.findIdx?_eq_some_iff_getElem.1 a;left;omega
 .exact .inr rfl
theorem ycuk{a:Int}{l:List Int}(c:l.length<=1000)(h:∀x∈l,InB x):InB (yiw a l):=by
 have b:=countP_le l;unfold yiw;split;· exact yhc _
 split;· exact yhc _
 split;· unfold InB;omega
 split;· have:=ybhd l;unfold InB;omega
 split;· exact yckl l h
 split;· exact(ybbl l h).1
 split;· exact ytn _
 split;· have:=ybrp l (l.length+1) 0;unfold mexP InB;omega
 split;· exact(ybbl l h).2
 cases l with
 |nil=>unfold InB;simp
 |cons x l=>exact h x zAF
structure ConfIn(n nv:Nat)(c:Conf):Prop where
 len:c.length=n
 row:∀s∈c,s.length=nv/\∀x∈s,InB x
theorem ConfIn.at_{n b:Nat}{c:Conf}(h:ConfIn n b c){v:Nat}(g:v<n):(c.getD v []).length=b/\∀k,InB ((c.getD v []).getD k 0):=by
 have a:v<c.length:=by rw[h.len];exact g
 have e:c.getD v []=c[v]:=by simp[zL,a]
 obtain⟨d,f⟩:=h.row c[v] (zO a);rw[e];refine⟨d,fun k=>?_⟩;rw[zU];cases hk:c[v][k]? with
 |none=>simp;unfold InB;omega
 |some x=>simp;exact f x (zN hk)
theorem ybi.ydd{g:Gr}(h:ybi g){v p:Nat}(b:v<g.ports.length)(a:p<(g.ports.getD v []).length):0<=(ydd g v p).1/\(ydd g v p).1<g.ports.length/\1<=(ydd g v p).2/\(ydd g v p).2<=15:=by
 have e:g.ports.getD v []=g.ports[v]:=by simp[zL,b]
 have d:=h.2.2.2.2.2.1 ⟨v,b⟩;rw[e]at a;have i:(g.ports[v])[p]∈g.ports[v]:=zO a;have f:=d.1 _ i;unfold yrn at f;have c:Go.Proofs.YthclbjjgfcgbgaaGreatDoor.ydd g v p=(g.ports[v])[p]:=by unfold Go.Proofs.YthclbjjgfcgbgaaGreatDoor.ydd;rw[e];simp[zL,a]
 rw[c];omega
theorem ybi.deg_lt{g:Gr}(b:ybi g){v:Nat}:(g.ports.getD v []).length<24:=by
 by_cases a:v<g.ports.length
 .have c:=b.2.2.2.2.2.1 ⟨v,a⟩;have:=ybpu a c;have e:g.ports.getD v []=g.ports[v]:=by simp[zL,a]
  rw[e];have:=b.2.1;have d:g.ports[(⟨v,a⟩:Fin g.ports.length)].length=g.ports[v].length:=rfl;omega
 .rw[zU,zAT (by omega)]
  simp
theorem ybi.id_in{g:Gr}(a:ybi g)(v:Nat):0<=g.ids.getD v 0/\g.ids.getD v 0<=255:=by
 rw[zU];cases h:g.ids[v]? with
 |none=>simp
 |some x=>exact a.2.2.2.1 x (zN h)
theorem ycpw{g:Gr}{c:Conf}{n s:Nat}(a:ybi g)(A:g.ports.length=n)(o:ConfIn n s c){t arg:Int}{d:Bool}(q:(Ex.leaf t arg).ok s d=true){v:Nat}(m:v<n){p:Int}(r:d=true->0<=p/\p<(g.ports.getD v []).length)(j:InB p):InB (yxs g c t arg v p):=by
 subst A;have y:=a.2.1;have I:=a.deg_lt (v:=v);unfold yxs;simp only[Ex.ok,zG,decide_eq_true_eq]at q;obtain⟨⟨B,f⟩,b⟩:=q;split
 .rename_i h;rw[if_pos h]at f;simp at f;unfold InB;omega
 split;· unfold InB;omega
 split;· unfold InB;omega
 split;· unfold InB;omega
 split;· exact(o.at_ m).2 _
 split
 .rename_i h
  rw[if_pos (by omega)]at b
  obtain⟨C,D⟩:=r b;have z:=a.ydd m (p:=p.toNat) (by omega)
  exact(o.at_ (v:=(ydd g v p.toNat).1.toNat) (by omega)).2 _
 .unfold yro;split;· rw[a.2.2.1];unfold InB;omega
  split;· have:=yxt a;unfold InB;omega
  split;· have:=a.id_in v;unfold InB;omega
  split;· unfold InB;omega
  split;· exact yhc _
  split;· exact j
  rename_i E F G H w x
  rw[if_pos (by omega)]at b
  obtain⟨C,D⟩:=r b;have z:=a.ydd m (p:=p.toNat) (by omega)
  simp only;split;· have:=a.id_in (ydd g v p.toNat).1.toNat;unfold InB;omega
  split;· have:=a.deg_lt (v:=(ydd g v p.toNat).1.toNat);unfold InB;omega
  split;· exact yhc _
  split;· unfold InB;omega
  .unfold ymq;rw[zU,List.getElem?_map];cases hk:(g.ports.getD v [])[p.toNat]? with
   |none=>simp;unfold InB;omega
   | some l =>
     simp;have i:=a.deg_lt (v:=l.1.toNat);rcases ybdp (ls:=g.ports.getD l.1.toNat []) (u:=(v:Int))with e|⟨k,e,hk⟩
     .simp at e;rw[e];unfold InB;omega
     .simp at e hk i;rw[e];unfold InB;omega
theorem yjt{g:Gr}{c:Conf}{n r:Nat}(i:ybi g)(k:g.ports.length=n)(j:ConfIn n r c){v:Nat}(l:v<n):∀(x:Ex) {e:Bool}{p:Int},x.ok r e=true->(e=true->0<=p/\p<(g.ports.getD v []).length)->InB p->InB (ydp g c v x p)
 |.leaf m arg,e,p,h,f,d=>ycpw i k j h l f d
 | .un m a,e,p,h,f,d=>by
   simp only[Ex.ok,zG]at h;exact ydwp (yjt i k j l a h.2 f d)
 | .agg m a,e,p,h,f,d=>by
   simp only[Ex.ok,zG]at h;have:=i.deg_lt (v:=v);refine ycuk (by simp;simp at this;omega) fun x s=>?_
   obtain⟨q,o,rfl⟩:=List.mem_map.1 s;have o:=List.mem_range.1 o;exact yjt i k j l a h.2 (fun _=>by omega) (by unfold InB;omega)
 |.bin m a b,e,p,h,f,d=>ydmb _ _ _
 | .ite x a b,e,p,h,f,d=>by
   simp only[Ex.ok,zG]at h;unfold ydp;split
   .exact yjt i k j l a h.1.2 f d
   .exact yjt i k j l b h.2 f d
end
section
namespace Sh
open Go Ev
def varC(x:VarR):List SV:=[.a (.string x.name),.i .i64 x.kind,.i .i64 x.lo,.i .i64 x.hi,.i .i64 x.perNode,.i .i64 x.perID]
def yfq(l:List VarR):SV:=.sl 6 l.length (fun k=>varC (l.getD k default))
def yka(l:List SetR):SV:=.sl 2 l.length (fun k=>[.i .i64 (l.getD k default).var,yx (l.getD k default).val])
def ydo(l:List RuleR):SV:=.sl 3 l.length (fun k=>[.a (.string (l.getD k default).name),yx (l.getD k default).guard,yka (l.getD k default).sets])
def ypj(p:ProgR):List SV:=[.a (.string p.name),yfq p.vars,ydo p.rules]
def yeq(g:Gr):SV:=.sl 1 g.ports.length (fun v=>[ybb (ymq g v)])
def yhj(p:ProgR)(g:Gr):List SV:=[.a (.string p.name),yfq p.vars,ydo p.rules,ybb g.ids,yg g.ports,.i .i64 (ybvv g),yeq g]
def ykx(p:ProgR)(g:Gr)(c:Conf)(v:Nat)(e:List Tm):List SV:=[.rf (yhj p g),ydi c,.i .i64 v,yx e]
theorem ybwi(l:List Int):one1 (ybb l)=true:=rfl
theorem ybng{n:Nat}(l:List Int):owned (n+1) (ybb l)=false:=rfl
theorem ybjz{n:Nat}(l:List Int):scalar (n+1) (ybb l)=false:=rfl
theorem ybxa{n:Nat}(o:Own)(l:List Int):view o (n+1) (ybb l)=ybb l:=rfl
theorem ycbo{n:Nat}(o:Own)(l:List Int):vok o (n+1) (ybb l)=True:=rfl
theorem ycdv{n:Nat}(h:Nm->Nm)(l:List Int):ren h (n+1) (ybb l)=ybb l:=rfl
theorem yccw{n:Nat}(L:Nm->Bool)(l:List Int):cln L (n+1) (ybb l)=true:=rfl
theorem ybpe(l:List (Int×Int)):one1 (yx l)=true:=rfl
theorem ybim{n:Nat}(l:List (Int×Int)):owned (n+1) (yx l)=false:=rfl
theorem ybet{n:Nat}(l:List (Int×Int)):scalar (n+1) (yx l)=false:=rfl
theorem ybnc{n:Nat}(o:Own)(l:List (Int×Int)):view o (n+1) (yx l)=yx l:=rfl
theorem ybwr{n:Nat}(o:Own)(l:List (Int×Int)):vok o (n+1) (yx l)=True:=rfl
theorem ybum{n:Nat}(h:Nm->Nm)(l:List (Int×Int)):ren h (n+1) (yx l)=yx l:=rfl
theorem ybwz{n:Nat}(L:Nm->Bool)(l:List (Int×Int)):cln L (n+1) (yx l)=true:=rfl
theorem ybnn(l:List (List (Int×Int))):one1 (yg l)=true:=rfl
theorem ybki{n:Nat}(l:List (List (Int×Int))):owned (n+1) (yg l)=false:=rfl
theorem ybga{n:Nat}(l:List (List (Int×Int))):scalar (n+1) (yg l)=false:=rfl
theorem ybly{n:Nat}(o:Own)(l:List (List (Int×Int))):view o (n+1) (yg l)=yg l:=rfl
theorem ybxf{n:Nat}(o:Own)(l:List (List (Int×Int))):vok o (n+1) (yg l)=True:=rfl
theorem ybya{n:Nat}(h:Nm->Nm)(l:List (List (Int×Int))):ren h (n+1) (yg l)=yg l:=rfl
theorem ybyf{n:Nat}(L:Nm->Bool)(l:List (List (Int×Int))):cln L (n+1) (yg l)=true:=rfl
theorem ybvy(l:List (List Int)):one1 (ydi l)=true:=rfl
theorem ybnf{n:Nat}(l:List (List Int)):owned (n+1) (ydi l)=false:=rfl
theorem ybjp{n:Nat}(l:List (List Int)):scalar (n+1) (ydi l)=false:=rfl
theorem ybvl{n:Nat}(o:Own)(l:List (List Int)):view o (n+1) (ydi l)=ydi l:=rfl
theorem yclk{n:Nat}(o:Own)(l:List (List Int)):vok o (n+1) (ydi l)=True:=rfl
theorem yciy{n:Nat}(h:Nm->Nm)(l:List (List Int)):ren h (n+1) (ydi l)=ydi l:=rfl
theorem ycen{n:Nat}(L:Nm->Bool)(l:List (List Int)):cln L (n+1) (ydi l)=true:=rfl
theorem ybvx(l:List VarR):one1 (yfq l)=true:=rfl
theorem ybov{n:Nat}(l:List VarR):owned (n+1) (yfq l)=false:=rfl
theorem ybkz{n:Nat}(l:List VarR):scalar (n+1) (yfq l)=false:=rfl
theorem ybxh{n:Nat}(o:Own)(l:List VarR):view o (n+1) (yfq l)=yfq l:=rfl
theorem yclr{n:Nat}(o:Own)(l:List VarR):vok o (n+1) (yfq l)=True:=rfl
theorem ycmz{n:Nat}(h:Nm->Nm)(l:List VarR):ren h (n+1) (yfq l)=yfq l:=rfl
theorem ycaf{n:Nat}(L:Nm->Bool)(l:List VarR):cln L (n+1) (yfq l)=true:=rfl
theorem ybvh(l:List SetR):one1 (yka l)=true:=rfl
theorem ybmh{n:Nat}(l:List SetR):owned (n+1) (yka l)=false:=rfl
theorem ybjn{n:Nat}(l:List SetR):scalar (n+1) (yka l)=false:=rfl
theorem ybvs{n:Nat}(o:Own)(l:List SetR):view o (n+1) (yka l)=yka l:=rfl
theorem yces{n:Nat}(o:Own)(l:List SetR):vok o (n+1) (yka l)=True:=rfl
theorem ycbc{n:Nat}(h:Nm->Nm)(l:List SetR):ren h (n+1) (yka l)=yka l:=rfl
theorem yccr{n:Nat}(L:Nm->Bool)(l:List SetR):cln L (n+1) (yka l)=true:=rfl
theorem ybnl(l:List RuleR):one1 (ydo l)=true:=rfl
theorem ybju{n:Nat}(l:List RuleR):owned (n+1) (ydo l)=false:=rfl
theorem ybff{n:Nat}(l:List RuleR):scalar (n+1) (ydo l)=false:=rfl
theorem ybls{n:Nat}(o:Own)(l:List RuleR):view o (n+1) (ydo l)=ydo l:=rfl
theorem ybyj{n:Nat}(o:Own)(l:List RuleR):vok o (n+1) (ydo l)=True:=rfl
theorem ybut{n:Nat}(h:Nm->Nm)(l:List RuleR):ren h (n+1) (ydo l)=ydo l:=rfl
theorem ybvr{n:Nat}(L:Nm->Bool)(l:List RuleR):cln L (n+1) (ydo l)=true:=rfl
theorem ybph(l:Gr):one1 (yeq l)=true:=rfl
theorem ybhh{n:Nat}(l:Gr):owned (n+1) (yeq l)=false:=rfl
theorem ybfq{n:Nat}(l:Gr):scalar (n+1) (yeq l)=false:=rfl
theorem yblz{n:Nat}(o:Own)(l:Gr):view o (n+1) (yeq l)=yeq l:=rfl
theorem ybwg{n:Nat}(o:Own)(l:Gr):vok o (n+1) (yeq l)=True:=rfl
theorem ybxs{n:Nat}(h:Nm->Nm)(l:Gr):ren h (n+1) (yeq l)=yeq l:=rfl
theorem ybuq{n:Nat}(L:Nm->Bool)(l:Gr):cln L (n+1) (yeq l)=true:=rfl
theorem yblr{n:Nat}(a:List Nm)(o:Own)(l:List Int):ydw a o (n+1) (ybb l)=ybb l:=rfl
theorem ybzw{n:Nat}(a:List Nm)(o:Own)(l:List Int):pok a o (n+1) (ybb l)=True:=rfl
theorem ybgt{n:Nat}(a:List Nm)(o:Own)(l:List (Int×Int)):ydw a o (n+1) (yx l)=yx l:=rfl
theorem ybys{n:Nat}(a:List Nm)(o:Own)(l:List (Int×Int)):pok a o (n+1) (yx l)=True:=rfl
theorem ybky{n:Nat}(a:List Nm)(o:Own)(l:List (List (Int×Int))):ydw a o (n+1) (yg l)=yg l:=rfl
theorem ybvt{n:Nat}(a:List Nm)(o:Own)(l:List (List (Int×Int))):pok a o (n+1) (yg l)=True:=rfl
theorem yblt{n:Nat}(a:List Nm)(o:Own)(l:List (List Int)):ydw a o (n+1) (ydi l)=ydi l:=rfl
theorem ycgt{n:Nat}(a:List Nm)(o:Own)(l:List (List Int)):pok a o (n+1) (ydi l)=True:=rfl
theorem yboo{n:Nat}(a:List Nm)(o:Own)(l:List VarR):ydw a o (n+1) (yfq l)=yfq l:=rfl
theorem ycdf{n:Nat}(a:List Nm)(o:Own)(l:List VarR):pok a o (n+1) (yfq l)=True:=rfl
theorem ybps{n:Nat}(a:List Nm)(o:Own)(l:List SetR):ydw a o (n+1) (yka l)=yka l:=rfl
theorem ycml{n:Nat}(a:List Nm)(o:Own)(l:List SetR):pok a o (n+1) (yka l)=True:=rfl
theorem ybip{n:Nat}(a:List Nm)(o:Own)(l:List RuleR):ydw a o (n+1) (ydo l)=ydo l:=rfl
theorem ybwv{n:Nat}(a:List Nm)(o:Own)(l:List RuleR):pok a o (n+1) (ydo l)=True:=rfl
theorem ybgs{n:Nat}(a:List Nm)(o:Own)(l:Gr):ydw a o (n+1) (yeq l)=yeq l:=rfl
theorem ybvk{n:Nat}(a:List Nm)(o:Own)(l:Gr):pok a o (n+1) (yeq l)=True:=rfl
theorem ybou(l:List Int):SV.cells (ybb l)=[ybb l]:=rfl
theorem ybiq(l:List (Int×Int)):SV.cells (yx l)=[yx l]:=rfl
theorem ybhu(l:List (List (Int×Int))):SV.cells (yg l)=[yg l]:=rfl
theorem ybpf(l:List (List Int)):SV.cells (ydi l)=[ydi l]:=rfl
theorem ybmj(l:List VarR):SV.cells (yfq l)=[yfq l]:=rfl
theorem yblw(l:List SetR):SV.cells (yka l)=[yka l]:=rfl
theorem ybhe(l:List RuleR):SV.cells (ydo l)=[ydo l]:=rfl
theorem ybkv(l:Gr):SV.cells (yeq l)=[yeq l]:=rfl
attribute [go_sem] ybwi ybng ybjz ybxa ycbo ycdv yccw ybpe ybim ybet ybnc ybwr ybum ybwz
attribute [go_sem] ybnn ybki ybga ybly ybxf ybya ybyf ybvy ybnf ybjp ybvl yclk yciy
attribute [go_sem] ycen ybvx ybov ybkz ybxh yclr ycmz ycaf ybvh ybmh ybjn ybvs yces ycbc
attribute [go_sem] yccr ybnl ybju ybff ybls ybyj ybut ybvr ybph ybhh ybfq yblz ybwg
attribute [go_sem] ybxs ybuq yblr ybzw ybgt ybys ybky ybvt yblt ycgt yboo ycdf ybps ycml
attribute [go_sem] ybip ybwv ybgs ybvk ybou ybiq ybhu ybpf ybmj yblw ybhe ybkv
end Sh
end
section
open Go.RowKit
theorem ybdu(gv:Value)(g:Gr)(w:World)(z:GrAt w gv g) :
 Calls zD 121 #[gv] w fun e L=>e = .returned (.bool (yht g))/\Below w.heap.size w L:=by
 have l:=zC z;obtain⟨i,p,rfl,F,I⟩:=z
 clear F I
 cases u:yii g with
 | false =>
   have Hf:=zC (show yht g=false by unfold yht;rw[u];rfl)
   go_enter zAZ,zBQ
   go_wp2_with fail
   refine(yyd _ g _ (l.out.below ((Below.refl _ _).alloc (zK _) _))).mono ?_;rintro e M ⟨rfl,f⟩
   go_wp2_with fail
   go_ret
   exact⟨ybw Hf.out.symm,ycco f⟩
 | true =>
   have d:=(ygu g).1 u;have H:=d.1;have B:=d.2.1;have Hgood:=zC d;have C:=zC (yjs d (a:=0) (by omega))
   have Hc:=zC (show yht g=(yck g 0).all (fun x=>decide (0<=x))by unfold yht;rw[u];rfl)
   clear d
   go_enter zAZ,zBQ
   go_wp2_with fail
   refine(yyd _ g _ (l.out.below ((Below.refl _ _).alloc (zK _) _))).mono ?_;rintro e M ⟨rfl,f⟩;obtain⟨S,T⟩:=ydvs f;have Hb1:=zC (ycco f)
   clear f
   go_wp2_with fail
   refine(ybwp _ g 0 _ (l.out.below Hb1.out) Hgood.out (by omega)).mono ?_
   rintro e N ⟨v,rfl,n,o⟩;have Hb2:=zC (Hb1.out.trans (o.mono Hb1.out.size));obtain⟨A,c,rfl,s,E⟩:=ycf n;have Hv2:=zC n
   clear o n
   obtain⟨D,y⟩:∃D,yck g 0=D:=⟨_,rfl⟩;rw[y]at Hv2 C s Hc ⊢
   clear y
   go_wp2
   go_loopg [11] D.length (fun q t wr=>∃k:Nat,q+k=D.length/\t = .int .i64 k/\wr=N/\Hid (∀j (m:j<D.length),j<k->0<=D[j]))
   case atStart=>exact⟨0,by omega,rfl,rfl,zC (fun j _ m=>absurd m (by omega))⟩
   case round =>
    obtain⟨k,Q,rfl,rfl,h⟩:=hrel
    by_cases r:k<D.length
    .obtain⟨b,K,rfl,O,P,R⟩:=yrv Hv2.out r
     by_cases c1:D[k]<0
     .have Hf:=zC (show yht g=false by
       rw[Hc.out,List.all_eq_false];exact⟨D[k],zO r,by simp;omega⟩)
      go_wp2
      go_ret
      exact⟨ybw Hf.out.symm,Hb2.out⟩
     .go_wp2
      go_roundg (gk-1)
      case measure=>omega
      case rel =>
       refine⟨k+1,by omega,by go_num,rfl,zC (fun j m G=>?_)⟩
       by_cases e:j=k
       .subst e;omega
       .exact h.out j m (by omega)
    .obtain rfl:k=D.length:=by omega
     have Ht:=zC (show yht g=true by
      rw[Hc.out,zAJ];intro x J;obtain⟨j,m,rfl⟩:=List.mem_iff_getElem.1 J;exact decide_eq_true (h.out j m m))
     go_wp2
     go_ret
     exact⟨ybw Ht.out.symm,Hb2.out⟩
theorem ypw{g:Gr}(h:yht g=true):yii g=true:=(zG _ _▸h).1
end
section
namespace Sh
open Ev Go.RowKit
theorem yemc{a:Type}(l:List a)(x d:a)(i:Nat):(l++[x]).getD i d=if i<l.length then l.getD i d else if i=l.length then x else d:=by
 by_cases h:i<l.length
 .simp[zL,List.getElem?_append_left h,h]
 .by_cases e:i=l.length
  .subst e;simp[zL]
  .rw[if_neg h,if_neg e,zL,zAT (by simp;omega)]
   rfl
theorem yely(k i:Nat)(a:i≠k):(if i<k+1 then(-1:Int)else 0)=if i<k then -1 else 0:=by
 by_cases h:i<k
 .rw[if_pos h,if_pos (by omega)]
 .rw[if_neg h,if_neg (by omega)]
theorem ybux(g:Gr)(a i:Nat)(b:a<g.ports.length)(c:i<g.ports.length):(start g a).getD i 0=if i=a then 0 else -1:=by
 unfold start;rw[ybfs (by simpa using b)]
 split
 .rfl
 .rw[zU,zAA,if_pos c];rfl
theorem ybwh{g:Gr}(N:ybi g){a:Nat}(ha:a<g.ports.length):Returns zD 142 [grV g,.i .i64 a] (ybb (yck g a)):=by
 refine Returns.of (ydne _ _ ?_);obtain⟨n,z⟩:∃n,g.ports.length=n:=⟨_,rfl⟩;have Y:=N.2.1;have X:=N.1;rw[z]at Y X ha;obtain⟨PV,a8⟩:∃P,yg g.ports=P:=⟨_,rfl⟩;simp only[c142,ydhz,ydgl,ydfy,grV,yg,z,go_sem,zA,zB,zH];refine⟨by omega,?_⟩
 refine ybe (σ:=Nat) (fun k=>⟨[(17,.i .i64 k),(16,.i .i64 n),(5,.os (14,0) 0 n true),(2,.pt (2,0) 0 0),(1,.i .i64 a)],
  [(2,.one (some ⟨27,true,2,1,fun _=>[ybb g.ids,yg g.ports]⟩)),(14,.one (some ⟨3,false,1,n,fun i=>[.i .i64 (if i<k then -1 else 0)]⟩))]⟩) (fun k=>k<=n) (fun k=>n-k) 0 (zM _) ?_ ?_
 .refine yj ?_;simp only[yg,z,wk,go_sem,zA,zH];exact fun i _=>by rw[if_neg (by omega)]
 .intro k hk
  by_cases a9:k<n
  .have ht:decide ((k:Int)<(n:Int))=true:=decide_eq_true (by omega)
   simp only[ycnb,ydla,yczv,ydim,ht,splice,and_false,go_sem,zA,zB];refine⟨by omega,by omega,ikw (by omega) (by omega),?_⟩
   refine ybv (k+1) ?_;refine yj ?_;simp only[go_sem,wk,go_sem,zA,zH];refine⟨by omega,fun i S=>?_⟩
   by_cases q:i=k
   .subst q;simp only[if_pos (Nat.lt_succ_self i)];simp only[wk,go_sem]
   .simp only[if_neg q,yely k i q];simp only[wk,go_sem]
  .obtain rfl:k=n:=by omega
   have ht:decide ((k:Int)<(k:Int))=false:=decide_eq_false (by omega)
   simp only[ycnb,yddh,ycwq,ht,splice,and_false,go_sem,zA,zB,zH];refine⟨⟨by omega,by omega⟩,by omega,?_⟩
   refine ybe (σ:=List Int×List Nat×Nat) (fun q=>⟨[(7,.os (128,0) q.2.2 (q.2.1.length-q.2.2) true),(5,.os (14,0) 0 k true),(2,.pt (2,0) 0 0)],
    [(2,.one (some ⟨27,true,2,1,fun _=>[ybb g.ids,yg g.ports]⟩)),(14,.one (some ⟨3,false,1,k,fun i=>[.i .i64 (q.1.getD i 0)]⟩)),(128,.one (some ⟨3,false,1,q.2.1.length,fun i=>[.i .i64 (q.2.1.getD i 0:Nat)]⟩))]⟩)
    (fun q=>q.2.2<=q.2.1.length/\BfsInv g a q.1 (q.2.1.drop q.2.2)/\q.2.1.length-q.2.2+ydh q.1<=30/\q.2.1.length<=31) (fun q=>q.2.1.length-q.2.2+ydh q.1) (start g a,[a],0) ⟨zM _,BfsInv.start (by omega),yrq g a (by omega),by simp⟩ ?_ ?_
   .refine yca [(128,fun i=>(28,i))] [] [] ?_;simp only[go_sem,wk,go_sem,zA,zH];refine⟨fun i S=>?_,fun i S=>?_⟩
    .rw[ybux g a i (by omega) (by omega),if_pos S]
     by_cases q:i=a
     .simp only[if_pos q];simp only[wk,go_sem]
     .simp only[if_neg q];simp only[wk,go_sem]
    .obtain rfl:i=0:=by omega
     simp only[List.getD_cons_zero,wk,go_sem]
   .rintro⟨R,W,o⟩ ⟨ho,c,s,w⟩;have ho:o<=W.length:=ho;have c:BfsInv g a R (W.drop o):=c;have s:W.length-o+ydh R<=30:=s;have w:W.length<=31:=w;obtain⟨m,U⟩:∃m,W.length=m:=⟨_,rfl⟩;rw[U]at ho s w
    by_cases T:o<m
    .have hQ : W.drop o=W[o]::W.drop (o+1):=(zAD (by omega))
     obtain⟨v,hv⟩:∃v,W.getD o 0=v:=⟨_,rfl⟩;have a4:W[o]=v:=by rw[<-hv,getD_at (show o<W.length by omega)]
     rw[a4]at hQ;rw[hQ]at c;obtain⟨d,hd⟩:=c.qin v (by simp)
     have a5:v<g.ports.length:=by rw[<-c.len];exact(List.getElem?_eq_some_iff.1 hd).1
     obtain⟨f,H⟩:∃f,g.ports.getD v []=f:=⟨_,rfl⟩;have r:g.ports[v]?=some f:=by rw[<-H];simp[zL,a5]
     have a0:=c.pop hd f;have a2:f.length<24:=by rw[<-H];exact N.deg_lt
     have J:decide (((m-o:Nat):Int)>0)=true:=decide_eq_true (by omega)
     simp only[ycbn,ycav,ycdl,ycln,J,U,hv,yg,yx,H,z,go_sem,zAR,zA,zB];refine⟨⟨by omega,by omega⟩,T,⟨by omega,by omega,by omega⟩,⟨by omega,by omega⟩,?_⟩
     refine ybe (σ:=Nat×List Int×List Nat×Nat) (fun q=>⟨[(43,.i .i64 q.1),(42,.i .i64 f.length),(41,yx f),(8,.i .i64 v),(7,.os (128,0) q.2.2.2 (q.2.2.1.length-q.2.2.2) true),(5,.os (14,0) 0 k true),(2,.pt (2,0) 0 0)],
      [(2,.one (some ⟨27,true,2,1,fun _=>[ybb g.ids,yg g.ports]⟩)),(14,.one (some ⟨3,false,1,k,fun i=>[.i .i64 (q.2.1.getD i 0)]⟩)),(128,.one (some ⟨3,false,1,q.2.2.1.length,fun i=>[.i .i64 (q.2.2.1.getD i 0:Nat)]⟩))]⟩)
      (fun q=>q.1<=f.length/\q.2.2.2<=q.2.2.1.length/\BfsIn g a v d f q.1 q.2.1 (q.2.2.1.drop q.2.2.2)/\q.2.2.1.length-q.2.2.2+1+ydh q.2.1=m-o+ydh R/\q.2.2.1.length<=31) (fun q=>f.length-q.1) (0,R,W,o+1) ⟨zM _,by show o+1<=W.length;omega,a0,by show W.length-(o+1)+1+ydh R=_;omega,by show W.length<=31;omega⟩ ?_ ?_
     .refine yj ?_;simp only[yg,yx,z,U,Nat.sub_sub,wk,go_sem,zA,zH]
     .rintro⟨j,R',W',h⟩ ⟨hj,I,b,t,M⟩;have hj:j<=f.length:=hj;have I:h<=W'.length:=I;have b:BfsIn g a v d f j R' (W'.drop h):=b;have t:W'.length-h+1+ydh R'=m-o+ydh R:=t;have M:W'.length<=31:=M;obtain⟨m',p⟩:∃m,W'.length=m:=⟨_,rfl⟩;rw[p]at I t M
      by_cases F:j<f.length
      .have A:decide ((j:Int)<(f.length:Int))=true:=decide_eq_true (by omega)
       obtain⟨l,hl⟩:∃l,f.getD j (0,0)=l:=⟨_,rfl⟩;have G:f[j]=l:=by rw[<-hl,getD_at F]
       have a1:l∈f:=by rw[<-G];exact zO _
       obtain⟨k1,k2,k3,k4,k5⟩:=N.link r a1;obtain⟨u,V⟩:=zY k1;have L:u<R'.length:=by rw[b.len];omega
       have Z:R'.getD v 0=(d:Int):=by have:=b.rv;simp[zL,this]
       have a6:d<g.ports.length:=by
        rcases b.val v _ b.rv with e|⟨k',e,X,h2⟩
        .omega
        .obtain rfl:d=k':=by omega
         exact yye N (by omega) X h2
       have D:R'[u]?=some (R'.getD u 0):=by rw[getD_at L];exact zF L
       by_cases C:R'.getD u 0<0
       .have K:decide (R'.getD u 0<0)=true:=decide_eq_true C;simp only[ybfo,ybfn,ybea,ybdx,ybfu,ybed,yx,hl,V,A,K,p,Z,splice,and_false,go_sem,zA,zB,zI,zH];refine⟨⟨by omega,by omega⟩,⟨by omega,by omega⟩,by omega,⟨by omega,by omega⟩,by omega,ikw (by omega) (by omega),⟨by omega,by omega⟩,by omega,by decide,⟨by omega,by omega,by omega⟩,ikw (by omega) (by omega),?_⟩
        have O:R'[u]?=some (-1):=by
         rcases b.val u _ D with e|⟨k',e,_⟩
         .rw[D,e]
         .omega
        have Q:=b.discover r F (u:=u) (by rw[G];exact V) O
        have a7:=yzi (R:=R') (u:=u) (x:=(d:Int)+1) O (by omega)
        have B:(W'.drop h++[u]).length=m'-h+1:=by rw[zAG,zBI,p];rfl
        refine yu (j+1,R'.set u ((d:Int)+1),W'.drop h++[u],0) ⟨by show j+1<=_;omega,zM _,Q,by show(W'.drop h++[u]).length-0+1+ydh (R'.set u ((d:Int)+1))=_;omega,by show(W'.drop h++[u]).length<=31;omega⟩ (by show f.length-(j+1)<f.length-j;omega) ?_
        refine yca [(128,fun i=>(66,i))] [] [] ?_;simp only[yg,yx,z,B,wk,go_sem,zA,zH];refine⟨⟨by omega,Sim.refl _⟩,fun i S=>?_,fun i S=>?_⟩
        .rw[ybfs L]
         by_cases q:i=u
         .simp only[if_pos q];simp only[wk,go_sem]
         .simp only[if_neg q];simp only[wk,go_sem]
        .rw[yemc,zBI,p]
         by_cases q:i<m'-h
         .have e:(W'.drop h).getD i 0=W'.getD (h+i) 0:=by simp[zL,List.getElem?_drop]
          simp only[if_pos q,e];simp only[wk,go_sem]
         .obtain rfl:i=m'-h:=by omega
          simp only[if_neg q,zBW,zBX];simp only[wk,go_sem]
       .have K:decide (R'.getD u 0<0)=false:=decide_eq_false C;simp only[ybfo,ybfn,ybea,ybdx,ybfu,ybed,yx,hl,V,A,K,p,splice,go_sem,zA,zB,zI,zH];refine⟨⟨by omega,by omega⟩,⟨by omega,by omega⟩,by omega,ikw (by omega) (by omega),?_⟩
        obtain⟨y,hy⟩:=zY (show 0<=R'.getD u 0 by omega)
        have a3:=b.skip F (j:=y) (by rw[G,V,zV,D,hy])
        refine yu (j+1,R',W',h) ⟨by show j+1<=_;omega,by show h<=W'.length;omega,a3,by show W'.length-h+1+ydh R'=_;omega,by show W'.length<=31;omega⟩ (by show f.length-(j+1)<f.length-j;omega) ?_
        refine yj ?_;simp only[yg,yx,z,p,wk,go_sem,zA,zH];omega
      .obtain rfl:j=f.length:=by omega
       have A:decide ((f.length:Int)<(f.length:Int))=false:=decide_eq_false (by omega)
       simp only[ybfo,ybfn,ybea,ybdx,ybfu,ybed,A,go_sem,zA];refine yu (R',W',h) ⟨by show h<=W'.length;omega,b.finish r,by show W'.length-h+ydh R'<=30;omega,by show W'.length<=31;omega⟩ (by show W'.length-h+ydh R'<m-o+ydh R;omega) ?_
       refine yj ?_;simp only[yg,yx,z,p,wk,go_sem,zA,zH]
    .obtain rfl:o=m:=by omega
     have J:decide (((o-o:Nat):Int)>0)=false:=decide_eq_false (by omega)
     rw[List.drop_eq_nil_of_le (by omega)]at c
     have E:=c.isDist.unique (yfx N (by omega))
     subst E;have B:=c.len;simp only[ycbn,ycmo,J,U,yg,yx,z,go_sem,zA,zB];have e:(yck g a).length=k:=by omega
     unfold ybb;rw[e];exact Sim.refl _
theorem ybjh{g:Gr}(f:GrI g):Returns zD 121 [grV g] (.b (yht g)):=by
 refine ybry ⟨_,_,zAZ,rfl⟩ (fun _=>.b) (fun _=>.simple rfl) fun G m n e h o M w l a i j=>?_;obtain⟨u,rfl,c⟩:=rvl1 h;obtain⟨k,rfl,d⟩:=yge j;exact ybdu k g w (ydor e c d a i f)
end Sh
end
section
open Go.RowKit
theorem ypf(g:Gr)(G:List Int)(v:Nat):(yeg g G v).length=G.length:=by simp[yeg]
set_option maxHeartbeats 2000000 in
theorem yth(gv cv Gv:Value)(g:Gr)(c:Conf)(G:List Int)(w:World)(hg:GrAt w gv g)(J:ydgr w cv c)(Y:yru w Gv G)(a:ybi g) :
 Calls zD 89 #[gv,cv,Gv] w fun e w'=>e = .returned (.bool (yxr g.ports.length (yeg g G) c))/\Below w.heap.size w w':=by
 have a7:=a.2.1;have hid:=a.2.2.1;have a5:=zC hid
 clear a
 obtain⟨i,p,rfl,hi,hp⟩:=hg;obtain⟨A,c0,rfl,b4,b8⟩:=ycf hi;obtain⟨A2,c2,rfl,b9,c6⟩:=ycf hp;obtain⟨A3,c3,rfl,c7,c9⟩:=ycf J;obtain⟨A4,c4,rfl,d0,d1⟩:=ycf Y;have Hp:=zC hp;have Hc:=zC J;have HG:=zC Y
 clear hi hp J Y
 by_cases Q:c.length=g.ids.length
 .have a4:((c.length:Int)!=(g.ids.length:Int))=false:=by simp[Q]
  have Hn:=zC (Q.trans hid);have d8:c.length<=24:=by omega
  clear Q hid
  go_enter zBE,zBY
  go_wp2
  obtain⟨W1,k⟩:∃W,W=w.alloc (.cells #[.slice A g.ids.length c0,.slice A2 g.ports.length c2] 27):=⟨_,rfl⟩;have a6:W1.cell? ⟨w.heap.size,1,none⟩=some (.slice A2 g.ports.length c2):=by subst k;simp
  have HbW:=zC (show Below w.heap.size w W1 by subst k;exact(Below.refl _ _).alloc (zK _) _)
  rw[<-k]
  clear k
  go_loopg [21] c.length (fun q t wr=>∃v n:Nat,q+v=c.length/\t = .int .i64 v/\wr=W1.drewN n/\Hid (∀(u:Nat) s,u<v->c[u]?=some s->yjy (yeg g G u) s))
  case atStart=>exact⟨0,0,by omega,rfl,rfl,zC (fun u s hu=>absurd hu (by omega))⟩
  case round =>
   obtain⟨v,n,hq,rfl,rfl,L⟩:=hrel
   by_cases B:v<c.length
   .obtain⟨b3,b2,sv,rfl,d4,a2,C⟩:=yqt (Hc.out.below (Stable.sl Stable.int) HbW.out) (zF B);obtain⟨A5,c5,rfl,V,d2⟩:=ycf C;obtain⟨s,E⟩:∃s,c[v]=s:=⟨_,rfl⟩;have Hs?:=zC (show c[v]?=some s by rw[zF B,E])
    rw[E]at C a2 V;have Hbad:=zC (show ¬yjy (yeg g G v) s->yxr g.ports.length (yeg g G) c=false from fun h=>yyi (fun J=>h (J.2 v s Hs?.out)))
    have Hs:=zC C
    clear C E
    by_cases c1:s.length=G.length
    .have R:((s.length:Int)!=(G.length:Int))=false:=by simp[c1]
     have Hsl:=zC c1
     clear c1
     have O:v<g.ports.length:=by rw[<-Hn.out];exact B
     go_wp2
     obtain⟨U,rfl⟩:∃U,U=gk:=⟨_,rfl⟩
     go_loopg [33] s.length (fun q t wr=>∃x n:Nat,q+x=s.length/\t = .int .i64 x/\wr=W1.drewN n/\Hid (∀(j:Nat) b z,j<x->(yeg g G v)[j]?=some b->s[j]?=some z->b.1<=z/\z<=b.2))
     case atStart=>exact⟨0,n,by omega,rfl,rfl,zC (fun j b z hj=>absurd hj (by omega))⟩
     case round =>
      obtain⟨x,n,d9,rfl,rfl,F⟩:=hrel
      by_cases H:x<s.length
      .have P:x<G.length:=by rw[<-Hsl.out];exact H
       obtain⟨b5,o5,rfl,d5,Z,M⟩:=yrv (Hs.out) H;obtain⟨b6,o6,rfl,d6,a0,N⟩:=yrv (HG.out.below Stable.int HbW.out) P;obtain⟨b7,o7,lv,rfl,d7,a1,K⟩:=yqt (Hp.out.below (Stable.sl Stable.link) HbW.out) (zF O);obtain⟨A8,c8,rfl,X,d3⟩:=ycf K;obtain⟨I,o⟩:∃I,g.ports[v]=I:=⟨_,rfl⟩;have m:ydtu g v=I.length:=by simp[ydtu,zL,zF O,o]
       rw[o]at a1 X;obtain⟨y,hy⟩:∃y,s[x]=y:=⟨_,rfl⟩;obtain⟨h,hh⟩:∃h,G[x]=h:=⟨_,rfl⟩;have Hy?:=zC (show s[x]?=some y by rw[zF H,hy])
       have d:(yeg g G v)[x]?=some (if h = -1 then(-1,(I.length:Int)-1)else(0,h)):=by
        simp[yeg,P,hh,m]
       rw[hy]at Z M;rw[hh]at a0 N;obtain⟨a8,a9⟩:=M;obtain⟨b0,b1⟩:=N
       clear K o m hy hh
       by_cases c2:h = -1
       .have S:(h == -1)=true:=by simp[c2]
        rw[if_pos c2]at d;have Hb?:=zC d
        clear d c2
        by_cases c3:y < -1
        .have Hf:=zC (Hbad.out (fun h=>by have:=h.2 x _ y Hb?.out Hy?.out;simp only at this;omega))
         go_wp2
         go_quiet (fail)
         go_wp2
         go_quiet (fail)
         go_wp2
         go_ret
         exact⟨ybw Hf.out.symm,below_drewN HbW.out _⟩
        .by_cases c4:(I.length:Int)-1<y
         .have Hf:=zC (Hbad.out (fun h=>by have:=h.2 x _ y Hb?.out Hy?.out;simp only at this;omega))
          go_wp2
          go_quiet (fail)
          go_wp2
          go_quiet (fail)
          go_wp2
          go_ret
          exact⟨ybw Hf.out.symm,below_drewN HbW.out _⟩
         .have T:decide ((I.length:Int)-1<y)=false:=by simp;omega
          go_wp2
          go_quiet (fail)
          go_wp2
          go_quiet (fail)
          go_wp2
          go_roundg (gk-1)
          case measure=>omega
          case rel =>
           refine⟨x+1,_,by omega,by go_num,rfl,zC (fun j b z hj l f=>?_)⟩
           by_cases r:j<x
           .exact F.out j b z r l f
           .obtain rfl:j=x:=by omega
            rw[Hb?.out]at l;rw[Hy?.out]at f;cases l
            cases f
            simp only;omega
       .have S:(h == -1)=false:=by simp[c2]
        rw[if_neg c2]at d;have Hb?:=zC d
        clear d c2
        by_cases c3:y<0
        .have Hf:=zC (Hbad.out (fun h=>by have:=h.2 x _ y Hb?.out Hy?.out;simp only at this;omega))
         go_wp2
         go_quiet (fail)
         go_wp2
         go_ret
         exact⟨ybw Hf.out.symm,below_drewN HbW.out _⟩
        .by_cases c4:h<y
         .have Hf:=zC (Hbad.out (fun h=>by have:=h.2 x _ y Hb?.out Hy?.out;simp only at this;omega))
          go_wp2
          go_quiet (fail)
          go_wp2
          go_ret
          exact⟨ybw Hf.out.symm,below_drewN HbW.out _⟩
         .have T:decide (h<y)=false:=by simp;omega
          go_wp2
          go_quiet (fail)
          go_wp2
          go_roundg (gk-1)
          case measure=>omega
          case rel =>
           refine⟨x+1,_,by omega,by go_num,rfl,zC (fun j b z hj l f=>?_)⟩
           by_cases r:j<x
           .exact F.out j b z r l f
           .obtain rfl:j=x:=by omega
            rw[Hb?.out]at l;rw[Hy?.out]at f;cases l
            cases f
            simp only;omega
      .obtain rfl:x=s.length:=by omega
       go_wp2
       go_roundg (U-1)
       case measure=>omega
       case rel =>
        refine⟨v+1,_,by omega,by go_num,rfl,zC (fun u s' hu D=>?_)⟩
        by_cases a3:u<v
        .exact L.out u s' a3 D
        .obtain rfl:u=v:=by omega
         rw[Hs?.out]at D;cases D
         refine⟨by rw[ypf,Hsl.out],fun j b z l f=>F.out j b z (List.getElem?_eq_some_iff.1 f).1 l f⟩
    .have R:((s.length:Int)!=(G.length:Int))=true:=by simp;omega
     have Hf:=zC (Hbad.out (fun h=>c1 (by rw[h.1,ypf])))
     clear c1
     go_wp2
     go_ret
     exact⟨ybw Hf.out.symm,below_drewN HbW.out _⟩
   .obtain rfl:v=c.length:=by omega
    have Ht:=zC (ybxl (n:=g.ports.length) (bs:=yeg g G) (c:=c) ⟨Hn.out,fun v s C=>L.out v s (List.getElem?_eq_some_iff.1 C).1 C⟩)
    go_wp2
    go_ret
    exact⟨ybw Ht.out.symm,below_drewN HbW.out _⟩
 .have a4:((c.length:Int)!=(g.ids.length:Int))=true:=by simp;omega
  have Hf:=zC (yyi (n:=g.ports.length) (bs:=yeg g G) (c:=c) (fun h=>Q (h.1.trans hid.symm)))
  clear Q hid
  go_enter zBE,zBY
  go_wp2
  go_ret
  exact⟨ybw Hf.out.symm,(Below.refl _ _).alloc (zK _) _⟩
end
section
namespace Sh
open Ev Go.RowKit
def clmV(kind:Int)(a silent:Bool)(rounds moves:Int):List SV:=[.i .i64 kind,.b a,.b silent,.i .i64 rounds,.i .i64 moves]
theorem ycph{g:Gr}(n:ybi g){c:Conf}(C:ycsh c){G:List Int}(B:∀x∈G,I64 x):Returns zD 89 [grV g,ydi c,ybb G] (.b (yxr g.ports.length (yeg g G) c)):=by
 refine ybry ⟨_,_,zBE,rfl⟩ (fun _=>.b) (fun _=>.simple rfl) fun H m J h D o M w l a i E=>?_
 obtain⟨u,d,rfl,p,q⟩:∃u d,J=u::d/\RV H om0 (grV g) u/\RVL H om0 [ydi c,ybb G] d:=by
  cases D with|cons x y=>exact⟨_,_,rfl,x,y⟩
 obtain⟨F,I,rfl,r,s⟩:=rvl2 q
 obtain⟨f,e,rfl,t,v⟩:∃f e,l=f::e/\VR o u f/\VRL o [F,I] e:=by
  cases E with|cons x y=>exact⟨_,_,rfl,x,y⟩
 obtain⟨j,k,rfl,z,A⟩:=ybfk v;exact yth f j k g c G w (ydor h p t a i (ydqk n)) (ydpe h r z a i C) (ints_at h s A a i B) n
end Sh
end
section
open Go.RowKit
end
section
open Go.RowKit
end
section
namespace Sh
open Ev Go.RowKit
end Sh
end
section
namespace Sh
open Go Ev
def ybbt:List Nat:=[0,1,1,2,1,2,2,3,1,2,2,3,2,3,3,4,1,2,2,3,2,3,3,4,2,3,3,4,3,4,4,5,1,2,2,3,2,3,3,4,2,3,3,4,3,4,4,5,2,3,3,4,3,4,4,5,3,4,4,5,4,5,5,6,1,2,2,3,2,3,3,4,2,3,3,4,3,4,4,5,2,3,3,4,3,4,4,5,3,4,4,5,4,5,5,6,2,3,3,4,3,4,4,5,3,4,4,5,4,5,5,6,3,4,4,5,4,5,5,6,4,5,5,6,5,6,6,7,1,2,2,3,2,3,3,4,2,3,3,4,3,4,4,5,2,3,3,4,3,4,4,5,3,4,4,5,4,5,5,6,2,3,3,4,3,4,4,5,3,4,4,5,4,5,5,6,3,4,4,5,4,5,5,6,4,5,5,6,5,6,6,7,2,3,3,4,3,4,4,5,3,4,4,5,4,5,5,6,3,4,4,5,4,5,5,6,4,5,5,6,5,6,6,7,3,4,4,5,4,5,5,6,4,5,5,6,5,6,6,7,4,5,5,6,5,6,6,7,5,6,6,7,6,7,7,8]
def ycxw:LO:=[bx' 160 0 3 0,bx' 27 1 4 0,mc 0 6 0,mc 0 7 4]
def ydha:LO:=[o3 (.build [.i .i64 0,.a (.nilFunc)] [(0,1,(ci' 1)),(1,1,(.func 176))]) 11 0,o3 (.build [.i .i64 0,.a (.nilFunc)] [(0,1,(ci' 2)),(1,1,(.func 177))]) 12 0,o3 (.build [.i .i64 0,.a (.nilFunc)] [(0,1,(ci' 3)),(1,1,(.func 178))]) 13 0,o3 (.bslice 210 2 3 [.i .i64 0,.a (.nilFunc),.i .i64 0,.a (.nilFunc),.i .i64 0,.a (.nilFunc)] [(0,2,(.tmp 11)),(2,2,(.tmp 12)),(4,2,(.tmp 13))]) 14 7,mv' 14 8 15]
def ydlh:LO:=[mv' 8 15 0,ln' 15 16 1,mc 0 17 0]
def ybqq:LO:=[bn' .lss 17 16 18 0]
def ybrt:LO:=[ix' 2 15 17 19 0,la' 2 19 20 1,o3 (.alloc 210 1 [.i .i64 0,.a (.nilFunc)]) 10 0,sto 2 10 20 7]
def ybqu:LO:=[fa' 0 1 10 21 0,ld' 1 21 22 1,fa' 1 1 3 23 0,ld' 1 23 24 4,bn' .eql 22 24 25 15]
def ybsh:LO:=[fa' 1 1 10 26 0,ld' 1 26 27 1,la' 6 3 28 0,la' 2 4 29 0,mv' 2 30 0,o3 (.call (.tmp 27) [(.tmp 28),(.tmp 29),(.tmp 30)]) 31 31,xt' 31 0 32 63,xt' 31 1 33 63,mv' 32 6 255,mv' 33 7 511]
def ybrq:LO:=[bc .add 17 1 34 0,mv' 34 17 1]
def ybrk:LO:=[mc 0 6 0,mc (-1) 7 1]
def c132:SC:=(sr ycxw <| sr ydha <| .seq (sr ydlh <| .block 0 (.loop (sr ybqq <| .seq (cn 18 .skip (.exit 0)) (.seq (.block 1 (sr ybrt <| sr ybqu <| cn 25 (sr ybsh <| .ret) .skip)) (.reg false ybrq))))) (sr ybrk <| .ret))
theorem ydsg:Fn 132 c132 [.t 6,.t 7]:=fn_0 Tryz.func132
def yczj:LO:=[bx' 160 0 3 0,bx' 27 1 4 0,mc 0 6 0,mc 0 7 4]
def yddr:LO:=[fa' 2 1 3 8 0,ld' 1 8 9 1,fa' 3 1 3 10 0,ld' 1 10 11 4,fa' 4 1 3 12 0,ld' 1 12 13 16,fa' 0 1 4 14 0,ld' 1 14 15 64,ln' 15 16 192,bn' .mul 13 16 17 496,bn' .add 11 17 18 1020,fa' 5 1 3 19 0,ld' 1 19 20 2048,fa' 0 1 4 21 0,ld' 1 21 22 8192,cl' 54 [22] 23 24576,bn' .mul 20 23 24 63488,bn' .add 18 24 25 131068,mv' 9 6 57347,mv' 25 7 524287]
def c176:SC:=(sr yczj <| .seq (.reg true yddr) .ret)
theorem ydob:Fn 176 c176 [.t 6,.t 7]:=fn_0 Tryz.func176
def ydac:LO:=[bx' 160 0 3 0,bx' 27 1 4 0,mc 0 6 0,mc 0 7 4]
def ydli:LO:=[mc 0 6 0,mc 1 7 1]
def c177:SC:=(sr ydac <| sr ydli <| .ret)
theorem ydqe:Fn 177 c177 [.t 6,.t 7]:=fn_0 Tryz.func177
def ydhy:LO:=[bx' 160 0 3 0,bx' 27 1 4 0,mc 0 6 0,mc 0 7 4]
def yddk:LO:=[fa' 1 1 4 8 0,ld' 1 8 9 1,mv' 2 10 0,ix' 1 9 10 11 7,ld' 1 11 12 15,ln' 12 13 31,bc .sub 13 1 14 63,mc (-1) 6 0,mv' 14 7 255]
def c178:SC:=(sr ydhy <| .seq (.reg true yddk) .ret)
theorem ydtk:Fn 178 c178 [.t 6,.t 7]:=fn_0 Tryz.func178
def yedn:LO:=[bx' 32 0 2 0,bx' 27 1 3 0,nl' 4 0]
def ydye:LO:=[fa' 0 1 3 9 0,ld' 1 9 10 1,ln' 10 11 3,o3 (.mk 92 1 24 [.a (.slice none 0 0)] (.tmp 11) (.tmp 11)) 12 7,mv' 12 5 15]
def yedk:LO:=[mv' 5 13 0,ln' 13 14 1,mc 0 15 0]
def yegu:LO:=[bn' .lss 15 14 16 0]
def yefc:LO:=[mv' 15 17 0,mv' 17 6 1]
def yehp:LO:=[mv' 5 18 0,mv' 6 19 0,fa' 1 1 2 20 0,ld' 1 20 21 4,ln' 21 22 12,o3 (.mk 91 2 16 [.i .i64 0,.i .i64 0] (.tmp 22) (.tmp 22)) 23 28,ix' 1 18 19 24 63,sto 1 24 23 127]
def yedr:LO:=[fa' 1 1 2 25 0,ld' 1 25 26 1,ln' 26 27 3,mc 0 28 0]
def yeih:LO:=[bn' .lss 28 27 29 0]
def yecj:LO:=[mv' 28 30 0,ix' 6 26 28 31 0,la' 6 31 32 2,o3 (.alloc 160 1 [.a (.string (ByteArray.mk #[])),.i .i64 0,.i .i64 0,.i .i64 0,.i .i64 0,.i .i64 0]) 8 0,mv' 30 7 15,sto 6 8 32 31]
def ydzm:LO:=[mv' 5 34 0,mv' 6 35 0,ix' 1 34 35 36 3,ld' 1 36 37 7,mv' 7 38 0,mv' 5 39 0,mv' 6 40 0,ix' 1 39 40 41 96,ld' 1 41 42 224,mv' 7 43 0,la' 6 8 44 0,la' 2 3 45 0,mv' 6 46 0,cl' 132 [44,45,46] 47 7168,mv' 47 33 15360,xt' 33 0 48 31744,xt' 33 1 49 31744,ix' 2 37 38 50 31,o3 (.idxA 2 1 (.tmp 50) (ci' 0)) 51 196095,sto 1 51 48 458239,ix' 2 42 43 52 992,o3 (.idxA 2 1 (.tmp 52) (ci' 1)) 53 2097151,sto 1 53 49 4194303]
def ydce:LO:=[bc .add 28 1 54 0,mv' 54 28 1]
def ydga:LO:=[bc .add 15 1 55 0,mv' 55 15 1]
def ycvt:LO:=[mv' 5 56 0,mv' 56 4 1]
def c63:SC:=(sr yedn <| sr ydye <| .seq (sr yedk <| .block 0 (.loop (sr yegu <| .seq (cn 16 .skip (.exit 0)) (.seq (.block 1 (sr yefc <| sr yehp <| sr yedr <| .block 2 (.loop (sr yeih <| .seq (cn 29 .skip (.exit 2)) (.seq (.block 3 (sr yecj <| .reg true ydzm)) (.reg false ydce)))))) (.reg false ydga))))) (sr ycvt <| .ret))
theorem yehl:Fn 63 c63 [.t 4]:=fn_0 Tryz.func63
def ycyh:LO:=[bx' 91 1 4 0,mc 0 6 0]
def ydhp:LO:=[mv' 2 8 0,o3 (.idxA 2 1 (.tmp 4) (ci' 0)) 9 0,ld' 1 9 10 2,bn' .geq 8 10 11 7,mv' 11 12 15,gt (.mv (.tmp 2)) 13 12 31,gt (.idxA 2 1 (.tmp 4) (ci' 1)) 14 12 31,gt (.load false 1 (.tmp 14)) 15 12 95,gt (.bin .leq (.tmp 13) (.tmp 15)) 16 12 255,o3 (.pick (.tmp 12) (.tmp 16) (.const (.bool false))) 17 511,mv' 17 7 1023]
def ydcz:LO:=[mv' 2 18 0,mv' 18 6 1]
def ydgk:LO:=[mv' 0 20 0,bc .eql 20 3 21 1,mv' 21 19 3]
def yddy:LO:=[mc (-1) 6 0]
def ydjx:LO:=[mv' 2 23 0,o3 (.idxA 2 1 (.tmp 4) (ci' 0)) 24 0,ld' 1 24 25 2,bn' .lss 23 25 26 7,mv' 26 22 15]
def ydav:LO:=[o3 (.idxA 2 1 (.tmp 4) (ci' 0)) 27 0,ld' 1 27 28 1,mv' 28 6 3]
def ydbv:LO:=[o3 (.idxA 2 1 (.tmp 4) (ci' 1)) 29 0,ld' 1 29 30 1,mv' 30 6 3]
def c170:SC:=(sr ycyh <| .seq (.block 0 (sr ydhp <| cn 7 (sr ydcz <| .ret) (sr ydgk <| cn 19 (sr yddy <| .ret) (sr ydjx <| cn 22 (sr ydav <| .ret) .skip)))) (sr ydbv <| .ret))
theorem ydmh:Fn 170 c170 [.t 6]:=fn_0 Tryz.func170
def yeev:LO:=[bx' 32 0 2 0,bx' 27 1 3 0,mc 0 4 0]
def yegd:LO:=[la' 3 2 9 0,cl' 130 [9] 10 1,o3 (.un .not (.tmp 10)) 11 3]
def yedh:LO:=[mc 8 4 0]
def yegk:LO:=[la' 2 3 12 0,cl' 131 [12] 13 1,o3 (.un .not (.tmp 13)) 14 3]
def yegj:LO:=[mc 1 4 0]
def yeby:LO:=[fa' 1 1 2 15 0,ld' 1 15 16 1,ln' 16 17 3,mc 0 18 0]
def yeam:LO:=[bn' .lss 18 17 19 0]
def yeef:LO:=[ix' 6 16 18 20 0,la' 6 20 21 1,o3 (.alloc 160 1 [.a (.string (ByteArray.mk #[])),.i .i64 0,.i .i64 0,.i .i64 0,.i .i64 0,.i .i64 0]) 6 0,sto 6 6 21 7]
def yejk:LO:=[fa' 1 1 6 22 0,ld' 1 22 23 1,bc .neq 23 1 24 3]
def yeci:LO:=[la' 6 6 26 0,la' 2 3 27 0,o3 (.call (.func 132) [(.tmp 26),(.tmp 27),(ci' 0)]) 28 3,mv' 28 25 7,xt' 25 0 29 15,xt' 25 1 30 15,mv' 29 7 31,mv' 30 8 127]
def ydcv:LO:=[mv' 8 31 0,mv' 7 32 0,bn' .lss 31 32 33 3,mv' 33 34 7,gf (.mv (.tmp 8)) 35 34 15,gf (.mv (.tmp 7)) 36 34 15,gf (.bin .sub (.tmp 35) (.tmp 36)) 37 34 63,gf (.bin .add (.tmp 37) (ci' 1)) 38 34 127,gf (.bin .gtr (.tmp 38) (ci' 4096)) 39 34 255,pk' 34 39 40 511]
def ydhe:LO:=[mc 9 4 0]
def ydap:LO:=[bc .add 18 1 41 0,mv' 41 18 1]
def ydel:LO:=[mc 0 4 0]
def c62:SC:=(sr yeev <| .seq (sr yegd <| cn 11 (sr yedh <| .ret) .skip) (.seq (sr yegk <| cn 14 (sr yegj <| .ret) .skip) (.seq (sr yeby <| .block 0 (.loop (sr yeam <| .seq (cn 19 .skip (.exit 0)) (.seq (.block 1 (sr yeef <| .seq (sr yejk <| cn 24 (.exit 1) .skip) (sr yeci <| sr ydcv <| cn 40 (sr ydhe <| .ret) .skip))) (.reg false ydap))))) (sr ydel <| .ret))))
theorem yejo:Fn 62 c62 [.t 4]:=fn_0 Tryz.func62
def yddo:LO:=[bx' 32 0 2 0,bx' 27 1 3 0,o3 (.mv (.const (.pointer none))) 4 0]
def ycvq:LO:=[la' 3 2 5 0,la' 3 2 6 0,la' 2 3 7 0,cl' 167 [6,7] 8 6,la' 3 2 9 0,la' 2 3 10 0,cl' 63 [9,10] 11 62,o3 (.build [.a (.string (ByteArray.mk #[])),.a (.slice none 0 0),.a (.slice none 0 0),.a (.pointer none),.a (.slice none 0 0)] [(0,3,(.tmp 5)),(3,1,(.tmp 8)),(4,1,(.tmp 11))]) 12 127,bx' 200 12 13 255,mv' 13 4 511]
def c123:SC:=(sr yddo <| .seq (.reg true ycvq) .ret)
theorem ydmn:Fn 123 c123 [.t 4]:=fn_0 Tryz.func123
def ycyy:LO:=[mc 0 6 0]
def ydee:LO:=[mv' 0 8 0,nk' 8 9 1,fa' 0 3 9 10 3,fa' 2 1 10 11 7,ld' 1 11 12 15,ln' 12 13 31,mc 0 14 0]
def ydao:LO:=[bn' .lss 14 13 15 0]
def ydje:LO:=[mv' 14 16 0,mv' 16 7 1]
def ydfo:LO:=[mv' 0 17 0,nk' 17 18 1,fa' 3 1 18 19 3,ld' 1 19 20 7,mv' 1 21 0,mv' 2 22 0,mv' 7 23 0,cl' 168 [20,21,22,23] 24 127]
def ydhk:LO:=[mv' 7 25 0,mv' 25 6 1]
def ydci:LO:=[bc .add 14 1 26 0,mv' 26 14 1]
def ydgg:LO:=[mc (-1) 6 0]
def c126:SC:=(sr ycyy <| .seq (sr ydee <| .block 0 (.loop (sr ydao <| .seq (cn 15 .skip (.exit 0)) (.seq (.block 1 (sr ydje <| sr ydfo <| cn 24 (sr ydhk <| .ret) .skip)) (.reg false ydci))))) (sr ydgg <| .ret))
theorem ydmy:Fn 126 c126 [.t 6]:=fn_0 Tryz.func126
def ydle:LO:=[nl' 8 0]
def ydfi:LO:=[mv' 1 13 0,mv' 2 14 0,ix' 1 13 14 15 3,ld' 1 15 16 7,o3 (.app 3 1 8 (.const (.slice none 0 0)) (.tmp 16)) 17 15,mv' 17 9 31]
def ydcd:LO:=[mv' 0 18 0,nk' 18 19 1,fa' 0 3 19 20 3,fa' 2 1 20 21 7,ld' 1 21 22 15,mv' 3 23 0,ix' 3 22 23 24 63,fa' 2 1 24 25 127,ld' 1 25 26 255,ln' 26 27 511,mc 0 28 0]
def ycvi:LO:=[bn' .lss 28 27 29 0]
def ydcj:LO:=[ix' 2 26 28 30 0,la' 2 30 31 1,o3 (.alloc 203 1 [.i .i64 0,.a (.slice none 0 0)]) 11 0,sto 2 11 31 7]
def ydgv:LO:=[mv' 0 32 0,nk' 32 33 1,fa' 3 1 33 34 3,ld' 1 34 35 7,mv' 1 36 0,mv' 2 37 0,fa' 1 1 11 38 0,ld' 1 38 39 64,cl' 169 [35,36,37,39] 40 255,mv' 40 12 511]
def ydew:LO:=[mv' 9 41 0,fa' 0 1 11 42 0,ld' 1 42 43 2,mv' 0 44 0,nk' 44 45 8,fa' 0 3 45 46 24,fa' 1 1 46 47 56,ld' 1 47 48 120,fa' 0 1 11 49 0,ld' 1 49 50 256,ix' 6 48 50 51 1016,fa' 1 1 51 52 2040,ld' 1 52 53 4088,mv' 0 54 0,nk' 54 55 8192,fa' 4 1 55 56 24576,ld' 1 56 57 57344,mv' 2 58 0,ix' 1 57 58 59 253952,ld' 1 59 60 516096,fa' 0 1 11 61 0,ld' 1 61 62 1048576,ix' 2 60 62 63 4186112,la' 2 63 64 8380416,mv' 12 65 0,cl' 170 [53,64,65] 66 33554424,ix' 1 41 43 67 67108863,sto 1 67 66 134217727]
def ycym:LO:=[bc .add 28 1 68 0,mv' 68 28 1]
def yczi:LO:=[mv' 9 69 0,mv' 69 8 1]
def c127:SC:=(sr ydle <| sr ydfi <| .seq (sr ydcd <| .block 0 (.loop (sr ycvi <| .seq (cn 29 .skip (.exit 0)) (.seq (.block 1 (sr ydcj <| .seq (.reg true ydgv) (.reg true ydew))) (.reg false ycym))))) (sr yczi <| .ret))
theorem ycpa:FnM 127 c127 [.t 8]:=fn_m Tryz.func127
def ycyt:LO:=[mc 0 2 0]
def ydks:LO:=[mv' 0 3 0,o3 (.bin .shr (.tmp 3) (.const (.int .u64 24))) 4 1,o3 (.stri ybbt (.tmp 4)) 5 3,mv' 0 6 0,o3 (.bin .shr (.tmp 6) (.const (.int .u64 16))) 7 8,o3 (.bin .and (.tmp 7) (.const (.int .u32 255))) 8 24,o3 (.stri ybbt (.tmp 8)) 9 56,bn' .add 5 9 10 127,mv' 0 11 0,o3 (.bin .shr (.tmp 11) (.const (.int .u64 8))) 12 256,o3 (.bin .and (.tmp 12) (.const (.int .u32 255))) 13 768,o3 (.stri ybbt (.tmp 13)) 14 1792,bn' .add 10 14 15 4095,mv' 0 16 0,o3 (.bin .and (.tmp 16) (.const (.int .u32 255))) 17 8192,o3 (.stri ybbt (.tmp 17)) 18 24576,bn' .add 15 18 19 65535,o3 (.conv .i64 (.tmp 19)) 20 131071,mv' 20 2 262143]
def c113:SC:=(sr ycyt <| .seq (.reg true ydks) .ret)
theorem ydui:Fn 113 c113 [.t 2]:=fn_0 Tryz.func113
def ydii:LO:=[bx' 27 0 1 0,nl' 2 0]
def ydaa:LO:=[fa' 1 1 1 8 0,ld' 1 8 9 1,ln' 9 10 3,o3 (.mk 77 1 4 [.i .u32 0] (.tmp 10) (.tmp 10)) 11 7,mv' 11 3 15]
def ycwb:LO:=[fa' 1 1 1 12 0,ld' 1 12 13 1,ln' 13 14 3,mc 0 15 0]
def ycwl:LO:=[bn' .lss 15 14 16 0]
def ydki:LO:=[mv' 15 17 0,ix' 1 13 15 18 0,ld' 1 18 19 2,mv' 17 4 7,mv' 19 5 15]
def ycwx:LO:=[mv' 5 20 0,ln' 20 21 1,mc 0 22 0]
def ydde:LO:=[bn' .lss 22 21 23 0]
def ycyi:LO:=[ix' 2 20 22 24 0,la' 2 24 25 1,o3 (.alloc 68 1 [.i .i64 0,.i .i64 0]) 7 0,sto 2 7 25 7]
def ydbz:LO:=[mv' 3 26 0,mv' 4 27 0,ix' 1 26 27 28 3,ld' 1 28 29 7,fa' 0 1 7 30 0,ld' 1 30 31 16,o3 (.bin .shl (.const (.int .u32 1)) (.tmp 31)) 32 48,bn' .or 29 32 33 127,ix' 1 26 27 34 255,sto 1 34 33 511]
def ycxu:LO:=[bc .add 22 1 35 0,mv' 35 22 1]
def yclv:LO:=[bc .add 15 1 36 0,mv' 36 15 1]
def ycgz:LO:=[mv' 3 37 0,mv' 37 2 1]
def c124:SC:=(sr ydii <| sr ydaa <| .seq (sr ycwb <| .block 0 (.loop (sr ycwl <| .seq (cn 16 .skip (.exit 0)) (.seq (.block 1 (sr ydki <| sr ycwx <| .block 2 (.loop (sr ydde <| .seq (cn 23 .skip (.exit 2)) (.seq (.block 3 (sr ycyi <| .reg true ydbz)) (.reg false ycxu)))))) (.reg false yclv))))) (sr ycgz <| .ret))
theorem yduk:Fn 124 c124 [.t 2]:=fn_0 Tryz.func124
def ydda:LO:=[mb false 8 0]
def yder:LO:=[mv' 3 9 0,o3 (.bin .eql (.tmp 9) (.const (.int .u32 0))) 10 1,mv' 10 11 3,gf (.mv (.tmp 3)) 12 11 7,gf (.mv (.tmp 2)) 13 11 7,gf (.bin .andNot (.tmp 12) (.tmp 13)) 14 11 31,gf (.bin .neq (.tmp 14) (.const (.int .u32 0))) 15 11 63,pk' 11 15 16 127]
def ydvq:LO:=[mb false 8 0]
def ydgf:LO:=[mv' 1 17 0]
def yddm:LO:=[bc .eql 17 1 19 0,mv' 19 18 1]
def yeex:LO:=[mv' 3 20 0,mv' 3 21 0,o3 (.bin .sub (.tmp 21) (.const (.int .u32 1))) 22 2,bn' .and 20 22 23 7,o3 (.bin .eql (.tmp 23) (.const (.int .u32 0))) 24 15,mv' 24 8 31]
def ydka:LO:=[bc .eql 17 2 26 0,mv' 26 25 1]
def ydby:LO:=[mv' 0 27 0,mv' 3 28 0,cl' 206 [27,28] 29 3,mv' 29 8 7]
def yefu:LO:=[bc .eql 17 4 31 0,mv' 31 30 1]
def yeji:LO:=[mv' 3 32 0,mv' 2 33 0,bn' .eql 32 33 34 3,mv' 34 8 7]
def ydsv:LO:=[mb true 8 0]
def c171:SC:=(sr ydda <| .seq (sr yder <| cn 16 (sr ydvq <| .ret) .skip) (.seq (sr ydgf <| .block 0 (sr yddm <| cn 18 (sr yeex <| .ret) (sr ydka <| cn 25 (sr ydby <| .ret) (sr yefu <| cn 30 (sr yeji <| .ret) .skip)))) (sr ydsv <| .ret)))
theorem ydqu:Fn 171 c171 [.t 8]:=fn_0 Tryz.func171
def yefw:LO:=[mb false 2 0]
def yefp:LO:=[mv' 0 3 0,bc .geq 3 1 4 1,mv' 4 5 3,gt (.mv (.tmp 0)) 6 5 7,gt (.bin .leq (.tmp 6) (ci' 4)) 7 5 15,o3 (.pick (.tmp 5) (.tmp 7) (.const (.bool false))) 8 31,mv' 8 2 63]
def c57:SC:=(sr yefw <| sr yefp <| .ret)
theorem yeeb:Fn 57 c57 [.t 2]:=fn_0 Tryz.func57
end Sh
end
section
namespace Sh
open Go Ev
theorem mulB{a b:Int}(c:InB a)(d:InB b):-1152921504606846976<=a*b/\a*b<=1152921504606846976:=by
 unfold InB at *
 have h:(a*b).natAbs<=1073741824*1073741824:=by
  rw[zBN];exact zBO (by omega) (by omega)
 omega
theorem yff(b:Bool):Returns zD 240 [.b b] (.i .i64 (ycc b)):=by
 refine Returns.of (ydtr _ _ ?_);simp only[c240,ydhi,ydei,ydcg,ycyr,ycj,ycc,go_sem,↓reduceIte,reduceCtorEq];cases b<;>simp
theorem yex(a:Int):Returns zD 242 [.i .i64 a] (.i .i64 (satP a)):=by
 refine Returns.of (ydri _ _ ?_);simp only[c242,ydak,ycws,ycj,satP,go_sem,zA,zB]
theorem yehy{a b:Int}(e:InB a):-1073741824<=a.tdiv b/\a.tdiv b<=1073741824:=by
 have c:(a.tdiv b).natAbs=a.natAbs/b.natAbs:=Int.natAbs_tdiv a b;have d:a.natAbs/b.natAbs<=a.natAbs:=Nat.div_le_self _ _;rw[<-c]at d;unfold InB at e;omega
theorem ycnw{a b:Int}(c:InB a):-1073741825<=ybaq a b/\ybaq a b<=1073741824:=by
 have:=yehy (b:=b) c;unfold ybaq;split
 .omega
 .split<;>omega
theorem ycaq{a b:Int}(c:InB a)(e:InB b):-1152921505680588800<=b*ybaq a b/\b*ybaq a b<=1152921505680588800:=by
 have d:=ycnw (b:=b) c
 have h:(b*ybaq a b).natAbs<=1073741824*1073741825:=by
  unfold InB at *;rw[zBN];exact zBO (by omega) (by omega)
 omega
theorem ycec(b a:Int)(c:InB a):Returns zD 221 [.i .i64 b,.i .i64 a] (.i .i64 (unP b a)):=by
 refine Returns.of (ydsn _ _ ?_);simp only[c221,ydcc,ydaj,ydhv,ydfe,ycj,unP,IntKind.signed,go_sem,zA,zB];unfold InB at c;refine⟨fun h=>⟨ikw (by omega) (by omega),by rw[if_pos h];omega⟩,fun h=>(yff _).use ?_⟩
 simp only[ybj,ycj,go_sem,zA,zB];rw[if_neg h]
theorem yuu(a b:Int)(e:InB a):Returns zD 243 [.i .i64 a,.i .i64 b] (.i .i64 (ybaq a b)):=by
 refine Returns.of (ydtc _ _ ?_);simp only[c243,ydic,ycxa,ycvv,ycyk,yczn,ydiw,ydeh,ycj,ybaq,go_sem,zA,zB];have:=yehy (b:=b) e;refine⟨fun h=>by rw[if_pos h],fun h=>⟨⟨h,ikw (by omega) (by omega)⟩,h,fun c=>⟨fun d=>⟨ikw (by omega) (by omega),?_⟩,fun d=>?_⟩,fun c=>?_⟩⟩
 .rw[if_neg h,if_pos ⟨c,d⟩]
 .rw[if_neg h,if_neg (fun q=>q.2 d)]
 .rw[if_neg h,if_neg (fun q=>q.1 c)]
theorem ybhf(j a b:Int):Returns zD 244 [.i .i64 j,.i .i64 a,.i .i64 b] (.b (cmpP j a b)):=by
 refine Returns.of (ydmt _ _ ?_);simp only[c244,ydet,ycxl,ydjl,yczy,ydgo,yczd,ydfp,ydfa,ydiu,ycyo,ycjt,ycei,ycgf,ybat,cmpP,go_sem,zA,zB];refine⟨fun h=>by rw[if_pos h],fun c=>⟨fun h=>by rw[if_neg c,if_pos h],fun d=>⟨fun h=>by rw[if_neg c,if_neg d,if_pos h],fun e=>⟨fun h=>by rw[if_neg c,if_neg d,if_neg e,if_pos h],fun f=>⟨fun h=>by rw[if_neg c,if_neg d,if_neg e,if_neg f,if_pos h],fun g=>by rw[if_neg c,if_neg d,if_neg e,if_neg f,if_neg g]⟩⟩⟩⟩⟩
theorem ybyh(p a b:Int)(d:InB a)(o:InB b):Returns zD 223 [.i .i64 p,.i .i64 a,.i .i64 b] (.i .i64 (binP p a b)):=by
 refine Returns.of (ydug _ _ ?_);simp only[c223,ycwt,ycuz,ydcx,ydgd,ycxo,ydfc,ydhr,ycyb,ycvs,ydht,ycau,yckb,ycia,ycmg,ychc,ycfn,yccm,ycca,ycge,ycj,go_sem,zA,zB];have s:=mulB d o;have t:=ycaq d o;have q:=d;have r:=o;unfold InB at q r;refine⟨fun h=>⟨ikw (by omega) (by omega),(yex _).use ?_⟩,fun f=>⟨fun h=>(yuu a b d).use ?_,fun g=>⟨fun h=>⟨fun e=>?_,fun e=>(yuu a b d).use ?_⟩,fun j=>⟨fun h=>⟨ikw (by omega) (by omega),(yex _).use ?_⟩,fun k=>⟨fun h=>⟨ikw (by omega) (by omega),(yex _).use ?_⟩,fun l=>?_⟩⟩⟩⟩⟩
 .simp only[ybj,ycj,go_sem,zA,zB];simp[binP,h]
 .simp only[ybj,go_sem,zA,zB];refine(yex _).use ?_;simp only[ycj,go_sem];simp[binP,h]
 .simp[binP,h,e]
 .simp only[ybj,go_sem,zA,zB];refine⟨ikw (by omega) (by omega),ikw (by omega) (by omega),(yex _).use ?_⟩
  simp only[ycj,go_sem];simp[binP,h,e]
 .simp only[ybj,ycj,go_sem,zA,zB];simp[binP,h]
 .simp only[ybj,ycj,go_sem,zA,zB];simp[binP,h]
 .refine⟨fun h=>?_,fun m=>⟨fun h=>?_,fun n=>?_⟩⟩
  .refine⟨fun c=>(yff _).use ?_,fun c=>(yff _).use ?_⟩
   .simp only[ybj,ycj,go_sem,zA,zB];simp[binP,h];rw[show(a != 0)=true by simpa using c];simp
   .simp only[ybj,ycj,go_sem,zA,zB];simp[binP,h,c]
  .refine⟨fun c=>(yff _).use ?_,fun c=>(yff _).use ?_⟩
   .simp only[ybj,ycj,go_sem,zA,zB];simp[binP,h,c]
   .simp only[ybj,ycj,go_sem,zA,zB];simp[binP,h];rw[show(a != 0)=true by simpa using c];simp
  .refine(ybhf p a b).use ?_;simp only[ybj,go_sem,zA,zB];refine(yff _).use ?_;simp only[ycj,go_sem];simp[binP,f,g,j,k,l,m,n]
end Sh
end
section
namespace Sh
open Go Ev
theorem yyf{l:List Int}{k:Nat}(h:k<l.length):countP (l.take (k+1))=countP (l.take k)+(if l.getD k 0≠0 then 1 else 0):=by
 unfold countP;rw[zJ h,List.filter_append,zAG,getD_at h]
 by_cases q:l[k]=0
 .simp[q]
 .simp[q]
theorem ybor{l:List Int}(k:Nat):0<=countP (l.take k)/\countP (l.take k)<=k:=by
 have:=countP_le (l.take k);simp only[zBH]at this;omega
theorem ybzo(l:List Int)(e:l.length<=1000):Returns zD 250 [ybb l] (.i .i64 (countP l)):=by
 refine Returns.of (ydov _ _ ?_);simp only[c250,yczt,ycxz,ydjk,ybb,go_sem,zB,↓reduceIte,reduceCtorEq];refine ybe (σ:=Nat) (fun k=>⟨[(8,.i .i64 k),(3,.i .i64 (countP (l.take k))),(6,ybb l),(7,.i .i64 l.length)],[]⟩) (fun k=>k<=l.length) (fun k=>l.length-k) 0 (zM _) ?_ ?_
 .refine yj ?_;simp only[ybb,wk,go_sem,zA,↓reduceIte,reduceCtorEq];simp[countP]
 .intro k hk;simp only[ydgs,ycvu,ydjm,ydhf,ydam,ydlo,ybb,ycj,go_sem,zA,zB,↓reduceIte,reduceCtorEq];have d:=ybor (l:=l) k;refine⟨fun c=>⟨by omega,fun b=>⟨ikw (by omega) (by omega),ikw (by omega) (by omega),?_⟩,fun b=>⟨ikw (by omega) (by omega),?_⟩⟩,fun c=>?_⟩
  .have a:k<l.length:=by omega
   refine ybv (k+1) ?_;refine yj ?_;simp only[yyf a,if_pos b,wk,go_sem,zA,↓reduceIte,reduceCtorEq];simp
  .have a:k<l.length:=by omega
   refine ybv (k+1) ?_;refine yj ?_;simp only[yyf a,if_neg (not_not_intro b),wk,go_sem,zA,↓reduceIte,reduceCtorEq];simp
  .rw[zZ (by omega)]
theorem yug{l:List Int}{k:Nat}(h:k<l.length):yeh (l.take (k+1))=(if l.getD k 0>(yeh (l.take k)).1 then(l.getD k 0,(yeh (l.take k)).1)else((yeh (l.take k)).1,max (yeh (l.take k)).2 (l.getD k 0))):=by
 unfold yeh;rw[zJ h,zW,getD_at h];rfl
theorem yzr(l:List Int)(d:l.length<=1000):Returns zD 253 [ybb l] (.tp [.i .i64 (yeh l).1,.i .i64 (yeh l).2]):=by
 refine Returns.of (ydmr _ _ ?_);simp only[c253,ycyn,ycys,ydlk,ybb,go_sem,zB,↓reduceIte,reduceCtorEq];refine ybe (σ:=Nat) (fun k=>⟨[(8,.i .i64 k),(2,.i .i64 (yeh (l.take k)).1),(3,.i .i64 (yeh (l.take k)).2),(6,ybb l),(7,.i .i64 l.length)],[]⟩) (fun k=>k<=l.length) (fun k=>l.length-k) 0 (zM _) ?_ ?_
 .refine yj ?_;simp only[ybb,wk,go_sem,zA,↓reduceIte,reduceCtorEq];simp[yeh]
 .intro k hk;simp only[yddn,ydkl,ycvk,yczu,ycvx,ydjy,ycvl,ybb,go_sem,zA,zB,↓reduceIte,reduceCtorEq];refine⟨fun c=>⟨by omega,fun b=>⟨ikw (by omega) (by omega),?_⟩,fun b=>⟨ikw (by omega) (by omega),?_⟩⟩,fun c=>?_⟩
  .have a:k<l.length:=by omega
   refine ybv (k+1) ?_;refine yj ?_;simp only[yug a,if_pos b,wk,go_sem,zA,↓reduceIte,reduceCtorEq];simp
  .have a:k<l.length:=by omega
   refine ybv (k+1) ?_;refine yj ?_;simp only[yug a,if_neg b,wk,go_sem,zA,↓reduceIte,reduceCtorEq];simp
  .rw[zZ (by omega)]
   exact Sim.refl _
theorem ybhb(l:List Int)(x:Int)(d:l.length<=100000):Returns zD 258 [ybb l,.i .i64 x] (.b (l.elem x)):=by
 refine Returns.of (ydqa _ _ ?_);simp only[c258,ycwi,ydjn,ybb,go_sem,zA,zB];refine(ycgq l x d).use ?_;simp only[ybj,ybat,go_sem,zA,zB];unfold idxP;cases h:l.findIdx? (fun y=>x==y)with
 | none =>
   rw[zAC]at h
   have:l.elem x=false:=by
    rw[zBJ,decide_eq_false_iff_not];intro e;have:=h x e;simp at this
   rw[this];simp
 | some i =>
   obtain⟨a,c,_⟩:=List.findIdx?_eq_some_iff_getElem.1 h
   have:l.elem x=true:=by
    rw[zBJ,decide_eq_true_eq];have:x=l[i]:=by simpa using c
    rw[this];exact zO a
   rw[this];simp
theorem ybuk{l:List Int}{n:Nat}{r:Int}(h:l.elem r=true):ybaf l (n+1) r=ybaf l n (r+1):=by
 show(if l.elem r then _ else _)=_;rw[if_pos h]
theorem ybun{l:List Int}{n:Nat}{r:Int}(h:l.elem r=false):ybaf l n r=r:=by
 cases n with
 |zero=>rfl
 |succ n=>show(if l.elem r then _ else _)=_;rw[if_neg (by rw[h];simp)]
theorem ybjx{l:List Int}{k:Nat}(h:∀j:Nat,j<k->l.elem (j:Int)=true):k<=l.length:=by
 have d:((zT k).map fun(j:Nat)=>(j:Int)).Nodup:=by
  rw[List.Nodup,zBB];exact List.nodup_range.imp fun {a b} c e=>c (by omega)
 have f:((zT k).map fun(j:Nat)=>(j:Int)) ⊆ l:=fun x i=>by
  obtain⟨j,g,rfl⟩:=List.mem_map.1 i;have:=h j (List.mem_range.1 g)
  simpa using this
 have:=List.Nodup.length_le_of_subset d f
 simpa using this
theorem ydlz(l:List Int)(e:l.length<=1000):Returns zD 254 [ybb l] (.i .i64 (mexP l)):=by
 refine Returns.of (ydre _ _ ?_);simp only[c254,ydch,yddj,ybb,go_sem];refine ybe (σ:=Nat) (fun k=>⟨[(3,.i .i64 k),(0,ybb l)],[]⟩) (fun k=>(∀j:Nat,j<k->l.elem (j:Int)=true)/\mexP l=ybaf l (l.length+1-k) k) (fun k=>l.length+1-k) 0 ⟨fun j h=>absurd h (Nat.not_lt_zero _),rfl⟩ ?_ ?_
 .refine yj ?_;simp only[ybb,wk,go_sem,↓reduceIte,reduceCtorEq]
 .intro k ⟨hk,he⟩;have c:=ybjx hk;simp only[yden,ydkx,ycyq,ybb,go_sem,zA,zB,↓reduceIte,reduceCtorEq];refine(ybhb l k (by omega)).use ?_
  simp only[ybj,ycj,go_sem,zA,zB,↓reduceIte,reduceCtorEq];refine⟨fun h=>⟨ikw (by omega) (by omega),?_⟩,fun h=>?_⟩
  .have a:∀j:Nat,j<k+1->l.elem (j:Int)=true:=fun j d=>by
    by_cases q:j<k
    .exact hk j q
    .obtain rfl:j=k:=by omega
     exact h
   have b:=ybjx a;refine yu (k+1) ⟨a,?_⟩ (by omega) ?_
   .rw[he,show l.length+1-k=(l.length+1-(k+1))+1 by omega,ybuk h];simp
   .refine yj ?_;simp only[wk,go_sem,↓reduceIte,reduceCtorEq];simp
  .rw[he,ybun h]
theorem ycke(x:Int):Returns zD 252 [.i .i64 x] (.b (x != 0)):=by
 refine Returns.of (ydsh _ _ ?_);simp only[c252,ydfu,ydfx,ybat,go_sem,zA,zB]
theorem ybdt(l:List Int)(d:l.length<=1000):Returns zD 251 [ybb l,.fn 252 [] []] (.i .i64 (yhi l)):=by
 refine Returns.of (ydur _ _ ?_);simp only[c251,ycya,ycwz,ybb,go_sem,zB,↓reduceIte,reduceCtorEq];refine ybe (σ:=Nat) (fun k=>⟨[(8,.i .i64 k),(0,ybb l),(1,.fn 252 [] []),(7,.i .i64 l.length)],[]⟩) (fun k=>k<=l.length/\(l.take k).findIdx? (· != 0)=none) (fun k=>l.length-k) 0 ⟨zM _,by simp⟩ ?_ ?_
 .refine yj ?_;simp only[ybb,wk,go_sem,zA,↓reduceIte,reduceCtorEq]
 .intro k ⟨hk,hno⟩;simp only[ydeo,ydjg,ycwm,ycux,yczk,yday,ybb,ycj,go_sem,zA,zB,↓reduceIte,reduceCtorEq];refine⟨fun a=>⟨by omega,(ycke _).use ?_⟩,fun a=>?_⟩
  .have a:k<l.length:=by omega
   simp only[ybj,ycj,go_sem,zA,zB,↓reduceIte,reduceCtorEq];rw[getD_at a];refine⟨fun b=>?_,fun b=>⟨ikw (by omega) (by omega),?_⟩⟩
   .have:l.findIdx? (· != 0)=some k:=by
     rw[zAH];refine⟨a,by simpa using b,fun j c=>?_⟩
     rw[zAC]at hno;have:=hno l[j] (List.mem_take_iff_getElem.2 ⟨j,by omega,rfl⟩)
     simpa using this
    unfold yhi;rw[this]
   .refine yu (k+1) ⟨by omega,?_⟩ (by omega) ?_
    .rw[zJ a,zAV,hno];simp[b]
    .refine yj ?_;simp only[wk,go_sem,zA,↓reduceIte,reduceCtorEq];simp
  .obtain rfl:k=l.length:=by omega
   rw[zAI]at hno;unfold yhi;rw[hno]
end Sh
end
section
namespace Sh
open Go Ev
theorem yboc{l:List Int}{k:Nat}(h:k<l.length):yuq (l.take (k+1))=min (yuq (l.take k)) (l.getD k 0):=by
 unfold yuq;rw[zJ h,zW,getD_at h];rfl
theorem ybgl{l:List Int}{k:Nat}(h:k<l.length):(l.take (k+1)).sum=(l.take k).sum+l.getD k 0:=by
 rw[zJ h,List.sum_append,getD_at h];simp
theorem ycmm{l:List Int}(h:∀x∈l,InB x):∀k,k<=l.length -> -1073741824*(k:Int)<=(l.take k).sum/\(l.take k).sum<=1073741824*(k:Int)
 |0,_=>by simp
 | k+1,hk=>by
   have a:=ycmm h k (by omega)
   rw[ybgl (by omega)]
   have:=h l[k] (zO (by omega))
   rw[<-getD_at (d:=0) (show k<l.length by omega)]at this
   unfold InB at this;omega
theorem ycny(t:Int)(l:List Int)(y:l.length<=24)(q:∀x∈l,InB x):Returns zD 241 [.i .i64 t,ybb l] (.i .i64 (yiw t l)):=by
 refine Returns.of (ydtw _ _ ?_);have w:∀k,k<l.length->InB (l.getD k 0):=fun k hk=>by rw[getD_at hk];exact q _ (zO hk)
 obtain⟨L,u⟩:∃L,ybb l=L:=⟨_,rfl⟩;have v:L = .sl 1 l.length (fun k=>[.i .i64 (l.getD k 0)]):=u.symm;simp only[c241,ydfd,ydag,ydat,ycwh,ydey,ydae,ydkk,yczs,yddv,yddz,ybzq,ycdi,ycjx,ycjz,ycbe,ycmk,ybza,ychl,ycik,ycmj,ycfj,ybzh,yckx,ybyz,yckz,ycne,ycjw,yclf,ycai,ycer,ybyx,ycdt,yccj,yced,ychy,yche,ycdk,ybb,go_sem,zAR,zA,zB];have a:=ybzo l (by omega)
 have c:=yzr l (by omega)
 simp only[ybb]at a c;refine⟨fun d=>a.use ?_,fun d=>⟨fun e=>a.use ?_,fun e=>⟨fun f=>a.use ?_,fun f=>⟨fun g=>?_,fun g=>⟨fun h=>?_,fun h=>⟨fun j=>c.use ?_,fun j=>⟨fun m=>?_,fun m=>⟨fun n=>?_,fun n=>⟨fun o=>c.use ?_,fun o=>?_⟩⟩⟩⟩⟩⟩⟩⟩⟩
 .simp only[ybj,go_sem,zA,zB];refine(yff _).use ?_;simp only[ycj,go_sem];simp[yiw,d]
 .simp only[ybj,go_sem,zA,zB];refine(yff _).use ?_;simp only[ycj,go_sem];simp[yiw,e]
 .simp only[ybj,ycj,go_sem,zA,zB];simp[yiw,f]
 .have:=ybdt l (by omega)
  simp only[ybb]at this;refine this.use ?_;simp only[ybj,ycj,go_sem,zA,zB];simp[yiw,g]
 .refine ybe (σ:=Nat) (fun k=>⟨[(42,.i .i64 k),(5,.i .i64 (yuq (l.take k))),(40,ybb l),(41,.i .i64 l.length)],[]⟩) (fun k=>k<=l.length) (fun k=>l.length-k) 0 (zM _) ?_ ?_
  .refine yj ?_;simp only[ybb,wk,go_sem,zA];simp[yuq]
  .intro k hk;simp only[ybb,ycj,go_sem,zA,zB];refine⟨fun p=>⟨by omega,ikw (by omega) (by omega),?_⟩,fun p=>?_⟩
   .have b:k<l.length:=by omega
    refine ybv (k+1) ?_;refine yj ?_;simp only[yboc b,wk,go_sem,zA];simp
   .rw[zZ (by omega)]
    simp[yiw,h]
 .simp only[ybj,ycj,go_sem,zA,zB];simp[yiw,j]
 .refine ybe (σ:=Nat) (fun k=>⟨[(63,.i .i64 k),(10,.i .i64 (l.take k).sum),(61,ybb l),(62,.i .i64 l.length)],[]⟩) (fun k=>k<=l.length) (fun k=>l.length-k) 0 (zM _) ?_ ?_
  .refine yj ?_;simp only[ybb,wk,go_sem,zA];simp
  .intro k hk;simp only[ybb,go_sem,zA,zB];have z:=ycmm q k hk;refine⟨fun p=>?_,fun p=>(yex _).use ?_⟩
   .have b:k<l.length:=by omega
    have r:=ycmm q (k+1) b;rw[ybgl b]at r;refine⟨by omega,ikw (by omega) (by omega),ikw (by omega) (by omega),?_⟩
    refine ybv (k+1) ?_;refine yj ?_;simp only[ybgl b,wk,go_sem,zA];simp
   .simp only[ybj,ycj,go_sem,zA,zB];rw[zZ (by omega)]
    simp[yiw,m]
 .have:=ydlz l (by omega)
  simp only[ybb]at this;refine this.use ?_;simp only[ybj,ycj,go_sem,zA,zB];simp[yiw,n]
 .simp only[ybj,ycj,go_sem,zA,zB];simp[yiw,o]
 .refine⟨fun s=>?_,fun s=>⟨by omega,?_⟩⟩
  .simp only[ycj,go_sem];have:l=[]:=zX (by omega)
   simp[yiw,d,e,f,g,h,j,m,n,o,this]
  .cases l with
   |nil=>simp at s
   | cons x l=>
     simp only[ycj,go_sem];simp[yiw,d,e,f,g,h,j,m,n,o]
end Sh
end
section
def Ex.shp:Ex->Bool
 |.leaf c _=>decide (1<=c/\c<=17)
 |.un c a=>decide (18<=c/\c<=29)&&a.shp
 |.agg c a=>decide (18<=c/\c<=29)&&a.shp
 |.bin c a b=>decide (30<=c/\c<=42)&&a.shp&&b.shp
 |.ite x a b=>x.shp&&a.shp&&b.shp
theorem Ex.ok_shp{e:Int}:∀(x:Ex) {c:Bool},x.ok e c=true->x.shp=true
 | .leaf d arg,c,h=>by
   simp only[Ex.ok,zG]at h;exact h.1.1
 | .un d a,c,h=>by
   simp only[Ex.ok,zG,decide_eq_true_eq]at h;simp only[Ex.shp,zG,decide_eq_true_eq];exact⟨by omega,Ex.ok_shp a h.2⟩
 | .agg d a,c,h=>by
   simp only[Ex.ok,zG,decide_eq_true_eq]at h;simp only[Ex.shp,zG,decide_eq_true_eq];exact⟨by omega,Ex.ok_shp a h.2⟩
 | .bin d a b,c,h=>by
   simp only[Ex.ok,zG,decide_eq_true_eq]at h;simp only[Ex.shp,zG,decide_eq_true_eq];exact⟨⟨h.1.1,Ex.ok_shp a h.1.2⟩,Ex.ok_shp b h.2⟩
 | .ite x a b,c,h=>by
   simp only[Ex.ok,zG]at h;simp only[Ex.shp,zG];exact⟨⟨Ex.ok_shp x h.1.1,Ex.ok_shp a h.1.2⟩,Ex.ok_shp b h.2⟩
def ype(a:Int):Int:=if a<1\/a>43 then -1 else if a<=17 then 0 else if a<=29 then 1 else if a<=42 then 2 else 3
def serL(a:List Ex):List Tm:=(a.map Ex.ser).flatten
def Ex.head:Ex->Tm
 |.leaf a arg=>(a,arg)
 |.un a _=>(a,0)
 |.agg a _=>(a,0)
 |.bin a _ _=>(a,0)
 |.ite _ _ _=>(43,0)
def Ex.subs:Ex->List Ex
 |.leaf _ _=>[]
 |.un _ a=>[a]
 |.agg _ a=>[a]
 |.bin _ a b=>[a,b]
 |.ite x a b=>[x,a,b]
theorem Ex.ser_eq(x:Ex):x.ser=x.head::serL x.subs:=by
 cases x<;>simp[Ex.ser,Ex.head,Ex.subs,serL]
theorem ycqe{a:Int}(h:1<=a/\a<=17):ype a=0:=by
 unfold ype;rw[if_neg (by omega),if_pos (by omega)]
theorem ybsu{a:Int}(h:18<=a/\a<=29):ype a=1:=by
 unfold ype;rw[if_neg (by omega),if_neg (by omega),if_pos (by omega)]
theorem ycoo{a:Int}(h:30<=a/\a<=42):ype a=2:=by
 unfold ype;rw[if_neg (by omega),if_neg (by omega),if_neg (by omega),if_pos (by omega)]
theorem Ex.arity(x:Ex)(h:x.shp=true):ype x.head.1=x.subs.length:=by
 cases x with
 |leaf c arg=>simp only[Ex.shp,decide_eq_true_eq]at h;exact ycqe h
 |un c a=>simp only[Ex.shp,zG,decide_eq_true_eq]at h;exact ybsu h.1
 |agg c a=>simp only[Ex.shp,zG,decide_eq_true_eq]at h;exact ybsu h.1
 |bin c a b=>simp only[Ex.shp,zG,decide_eq_true_eq]at h;exact ycoo h.1.1
 |ite x a b=>simp[Ex.head,Ex.subs,ype]
theorem Ex.subs_shp(x:Ex)(h:x.shp=true):∀y∈x.subs,y.shp=true:=by
 cases x with
 |leaf d arg=>intro y c;cases c
 |un d a=>simp only[Ex.shp,zG]at h;intro y c;simp[Ex.subs]at c;subst c;exact h.2
 |agg d a=>simp only[Ex.shp,zG]at h;intro y c;simp[Ex.subs]at c;subst c;exact h.2
 |bin d a b=>simp only[Ex.shp,zG]at h;intro y c;simp[Ex.subs]at c;rcases c with rfl|rfl<;>first|exact h.1.2|exact h.2
 |ite x a b=>simp only[Ex.shp,zG]at h;intro y c;simp[Ex.subs]at c;rcases c with rfl|rfl|rfl<;>first|exact h.1.1|exact h.1.2|exact h.2
theorem ygc{e:List Tm}{at_:Nat}{t:Tm}{r:List Tm}(h:e.drop at_=t::r):at_<e.length/\e.getD at_ (0,0)=t/\e.drop (at_+1)=r:=by
 have a:at_<e.length:=by
  refine zBR fun b=>?_;rw[List.drop_of_length_le (by omega)]at h;cases h
 refine⟨a,?_,?_⟩
 .rw[zAD a]at h;simp only[List.cons.injEq]at h;simp[zL,a,h.1]
 .rw[zAD a]at h;simp only[List.cons.injEq]at h;exact h.2
namespace Sh
open Go Ev
theorem ycct(c:Int):Returns zD 231 [.i .i64 c] (.i .i64 (ype c)):=by
 refine Returns.of (ydtb _ _ ?_);simp only[c231,ycwv,ydju,ydcr,ycxe,yddf,ydfz,ydan,ycye,ydbg,ydcf,ycj,ype,go_sem,zA,zB];refine⟨fun e=>⟨fun h=>by rw[if_pos (.inr h)],fun f=>⟨fun h=>by rw[if_neg (by omega),if_pos h],fun a=>⟨fun h=>by rw[if_neg (by omega),if_neg a,if_pos h],fun b=>⟨fun h=>by rw[if_neg (by omega),if_neg a,if_neg b,if_pos h],fun d=>by rw[if_neg (by omega),if_neg a,if_neg b,if_neg d]⟩⟩⟩⟩,fun h=>by rw[if_pos (.inl h)]⟩
theorem ydoa(e:List Tm)(x:Ex)(at_:Nat)(rest:List Tm)(u:x.shp=true)(j:e.drop at_=x.ser++rest)(B:e.length<=1000):Returns zD 215 [yx e,.i .i64 at_] (.i .i64 ((at_+x.ser.length:Nat):Int)):=by
 refine Returns.of (ydpv _ _ ?_)
 have A:at_<e.length:=by
  rw[x.ser_eq]at j;exact(ygc j).1
 simp only[c215,ydhh,ydds,ydid,ydln,yx,ycj,go_sem,zA,zB];refine⟨fun _=>⟨fun h=>by omega,fun _=>?_⟩,fun h=>by omega⟩
 refine ybe (σ:=Nat×List Ex) (fun p=>⟨[(1,.i .i64 p.1),(5,.i .i64 p.2.length),(0,yx e)],[]⟩)
  (fun p=>e.drop p.1=serL p.2++rest/\p.2≠[]/\(∀y∈p.2,y.shp=true)/\p.1+(serL p.2).length=at_+x.ser.length/\p.2.length<=3*p.1+1) (fun p=>e.length-p.1) (at_,[x]) ⟨by simpa[serL]using j,by simp,by simpa using u,by simp[serL],by simp⟩ ?_ ?_
 .refine yj ?_;simp only[yx,wk,go_sem,zA];simp
 .rintro⟨k,b⟩ ⟨hk,m,f,a,n⟩;cases b with
  |nil=>exact absurd rfl m
  | cons y b =>
    dsimp only at hk a n ⊢
    have d:serL (y::b)=y.head::(serL y.subs++serL b):=by
     show(y.ser++serL b)=_;rw[y.ser_eq];rfl
    rw[d]at hk a;obtain⟨d1,d2,d3⟩:=ygc hk;have r:=f y zAF;have g:=y.arity r;have o:y.subs.length<=3:=by cases y<;>simp[Ex.subs]
    simp only[zAP]at n a;simp only[ydff,ydcw,ycxx,ycwr,ydkg,ydll,ycjh,ycgy,ycfw,yx,ycj,go_sem,zA,zB,zI];refine⟨fun l=>⟨by omega,(ycct _).use ?_⟩,fun l=>by omega⟩
    rw[d2,g];simp only[ybj,ycj,go_sem,zA,zB];refine⟨fun h=>by omega,fun _=>⟨ikw (by omega) (by omega),ikw (by simp;omega) (by simp;omega),fun h=>⟨ikw (by omega) (by omega),?_⟩,fun h=>⟨ikw (by omega) (by omega),?_⟩⟩⟩
    .have s:b=[]:=zX (by omega)
     have t:y.subs=[]:=zX (by omega)
     subst s;rw[t]at a;simp[serL]at a;omega
    .have c:y.subs++b≠[]:=fun q=>by
      have w:=congrArg zAS q;simp only[zAG,zAQ]at w;omega
     refine yu (k+1,y.subs++b) ⟨?_,c,?_,?_,?_⟩ (by dsimp only;omega) ?_
     .dsimp only
      rw[d3];simp[serL]
     .intro z v;rcases List.mem_append.1 v with q|q
      .exact y.subs_shp r z q
      .exact f z (zAB _ q)
     .dsimp only
      have:(serL (y.subs++b)).length=(serL y.subs++serL b).length:=by simp[serL]
      rw[this];omega
     .dsimp only
      simp only[zAG];omega
     .refine yj ?_;simp only[wk,go_sem,zA];simp;omega
end Sh
end
section
namespace Sh
open Go Ev
theorem ycrf(p:ProgR){g:Gr}(q:ybi g)(b:Int){v:Nat}(u:v<g.ports.length)(a:Int)(t:b=6\/b=7\/b=8\/b=9\/b=10\/b=11\/(0<=a/\a<(g.ports.getD v []).length)) :
 Returns zD 239 [.rf (yhj p g),.i .i64 b,.i .i64 v,.i .i64 a] (.i .i64 (yro g b v a)):=by
 refine Returns.of (ydnv _ _ ?_);have r:=q.2.2.1;simp only[c239,ydir,ydix,yczx,ydbf,ydev,ydar,yczo,ydfs,ydhl,ydcp,ycfh,ycfd,ycbf,yclo,ycih,ycmi,yciu,ycjv,ycmh,ycay,ycfi,yceu,ycfx,ycju,yciz,yhj,ybb,yg,yx,yeq,ycj,go_sem,zA,zB,zI,zH];refine⟨fun k=>?_,fun k=>⟨fun l=>?_,fun l=>⟨fun m=>⟨by omega,?_⟩,fun m=>⟨fun n=>⟨by omega,?_⟩,fun n=>⟨fun c=>(yff _).use ?_,fun c=>⟨fun d=>?_,fun d=>?_⟩⟩⟩⟩⟩⟩
 .simp[yro,k]
 .simp[yro,l]
 .simp[yro,m]
 .simp[yro,n]
 .simp only[ybj,ycj,go_sem,zA,zB];simp[yro,c]
 .simp[yro,d]
 .have t:0<=a/\a<(g.ports.getD v []).length:=by omega
  have o:a.toNat<(g.ports.getD v []).length:=by omega
  have s:=q.ydd u o;unfold ydd at s;refine⟨by omega,by omega,fun e=>⟨by omega,?_⟩,fun e=>⟨fun f=>⟨by omega,?_⟩,fun f=>⟨fun h=>(yff _).use ?_,fun h=>⟨fun j=>?_,fun j=>⟨by omega,?_⟩⟩⟩⟩⟩
  .simp[yro,e,ydd]
  .simp[yro,f,ydd]
  .simp only[ybj,ycj,go_sem,zA,zB];simp[yro,h,ydd]
  .simp[yro,j,ydd]
  .refine⟨by rw[show(ymq g v).length=(g.ports.getD v []).length from zBL _];omega,?_⟩
   simp[yro,k,l,m,n,c,d,e,f,h,j]
theorem ycpi(p:ProgR){g:Gr}(y:ybi g){C:Nat}{c:Conf}(r:ConfIn g.ports.length C c){v:Nat}(w:v<g.ports.length)(e:List Tm){j arg:Int}{h:Bool}(A:(Ex.leaf j arg).ok C h=true)(a:Int)(s:h=true->0<=a/\a<(g.ports.getD v []).length) :
 Returns zD 220 [.rf (ykx p g c v e),.ag [.i .i64 j,.i .i64 arg],.i .i64 a] (.i .i64 (yxs g c j arg v a)):=by
 refine Returns.of (ydoq _ _ ?_);simp only[Ex.ok,zG,decide_eq_true_eq]at A;obtain⟨⟨E,b⟩,d⟩:=A;have z:=r.len;have B:=r.at_ w;have x:=ycrf p y j w a;simp only[yhj,ybb,yg,yx,yeq]at x;simp only[c220,ycvg,ydig,ydfv,ycva,yddw,ydfl,ydhg,ydiq,ydfk,ycwo,ycjg,ybzc,yccf,ycff,yceh,ykx,ydi,yhj,ybb,yg,yx,yeq,ycj,go_sem,zA,zB,zI,zH];refine⟨fun k=>?_,fun k=>⟨fun l=>?_,fun l=>⟨fun m=>?_,fun m=>⟨fun n=>?_,fun n=>⟨fun o=>?_,fun o=>⟨fun f=>?_,fun f=>(x ?_).use ?_⟩⟩⟩⟩⟩⟩
 .simp[yxs,k]
 .simp[yxs,l]
 .simp[yxs,m]
 .simp[yxs,n]
 .rw[if_neg (by omega),if_pos (by omega)]at b
  have b:=of_decide_eq_true b;refine⟨by omega,by omega,?_⟩
  simp[yxs,o]
 .rw[if_neg (by omega),if_pos (by omega)]at b
  have b:=of_decide_eq_true b;rw[if_pos (by omega)]at d
  have s:=s d;have t:a.toNat<(g.ports.getD v []).length:=by omega
  have D:=y.ydd w t;have u:=r.at_ (v:=(ydd g v a.toNat).1.toNat) (by omega)
  unfold ydd at D u;refine⟨by omega,by omega,by omega,by omega,?_⟩
  simp[yxs,f,ydd]
 .by_cases q:11<=j
  .rw[if_pos q]at d;have:=s d;omega
  .omega
 .simp only[ybj,ycj,go_sem,zA,zB];simp[yxs,k,l,m,n,o,f]
theorem ywd{e:List Tm}{at_:Nat}{a b:List Tm}(h:e.drop at_=a++b):e.drop (at_+a.length)=b:=by
 rw[<-List.drop_drop,h,List.drop_left]
theorem yctn{n:Nat}{a:Nat->List SV}{l:List Int}(b:n=l.length)(h:∀k,k<n->a k=[.i .i64 (l.getD k 0)]):Sim (.sl 1 n a) (ybb l):=by
 subst b;exact ybln h
def yceg(p:ProgR)(g:Gr)(d:Nat)(c:Conf)(v:Nat)(e:List Tm)(x:Ex):Prop :=
 ∀ (b:Bool) (a:Int) (at_:Nat) (rest:List Tm),x.ok d b=true->(b=true->0<=a/\a<(g.ports.getD v []).length)->InB a->e.drop at_=x.ser++rest ->
   Returns zD 205 [.rf (ykx p g c v e),.i .i64 at_,.i .i64 a] (.tp [.i .i64 (ydp g c v x a),.i .i64 ((at_+x.ser.length:Nat):Int)])
theorem ybek(p:ProgR){g:Gr}(C:ybi g){y:Nat}{c:Conf}(H:ConfIn g.ports.length y c){v:Nat}(M:v<g.ports.length)(e:List Tm)(L:e.length<=1000){f:Int}{a:Ex}(o:(Ex.agg f a).ok y true=true)(O:yceg p g y c v e a)(at_:Nat)(rest:List Tm)(r:e.drop at_=(Ex.agg f a).ser++rest) :
 Returns zD 222 [.rf (ykx p g c v e),.i .i64 f,.i .i64 at_] (.tp [.i .i64 (ydp g c v (.agg f a) 0),.i .i64 ((at_+(Ex.agg f a).ser.length:Nat):Int)]):=by
 have u:=o;simp only[Ex.ok,zG,decide_eq_true_eq]at o;have I:=C.deg_lt (v:=v);obtain⟨b,h⟩:∃d,(g.ports.getD v []).length=d:=⟨_,rfl⟩;rw[h]at I;have s:∀q:Nat,q<b->InB (ydp g c v a q):=fun q D=>yjt C rfl H M a o.2 (fun _=>by omega) (by unfold InB;omega)
 have w:=Ex.ok_shp _ u;have j:e.drop (at_+1)=a.ser++rest:=(ygc (show e.drop at_=(f,0)::(a.ser++rest)from r)).2.2
 have G:=(ygc (show e.drop at_=(f,0)::(a.ser++rest)from r)).1
 have B:at_+1+a.ser.length<=e.length:=by
  have:=congrArg zAS j;simp at this;omega
 refine Returns.of (ydts _ _ ?_);simp only[c222,ydcn,ycyu,yczc,ydeg,ykx,ydi,yhj,ybb,yg,yx,yeq,h,go_sem,zA,zB,zI,zH];refine⟨by omega,?_⟩
 let val:Nat->Int:=fun q=>ydp g c v a q
 refine ybe (σ:=Nat) (fun k=>⟨[(27,.i .i64 k),(26,.i .i64 b),(9,.i .i64 b),(0,.rf (ykx p g c v e)),(1,.i .i64 f),(2,.i .i64 at_),(8,.pt (8,0) 0 0),(7,.i .i64 (if k=0 then 0 else((at_+1+a.ser.length:Nat):Int)))],
  [(8,.one (some ⟨150,true,1,24,fun i=>[.i .i64 (if i<k then val i else 0)]⟩))]⟩) (fun k=>k<=b) (fun k=>b-k) 0 (zM _) ?_ ?_
 .refine yj ?_;simp only[ykx,ydi,yhj,ybb,yg,yx,yeq,wk,go_sem,zA,zH];intro i _;rw[if_neg (by omega)]
 .intro k hk;simp only[ydkm,ydie,ydjh,ydjo,ycup,ycwj,ycas,go_sem,zA,zB,zI,zH];refine⟨fun t=>⟨ikw (by omega) (by omega),?_⟩,fun t=>?_⟩
  .have K:k<b:=by omega
   have n:=O true (k:Int) (at_+1) rest o.2 (fun _=>by rw[h];omega) (by unfold InB;omega) j
   rw[show((at_+1:Nat):Int)=(at_:Int)+1 by omega]at n
   refine n.use ?_;simp only[ybj,splice,go_sem,zA,zB];refine⟨by omega,by omega,ikw (by omega) (by omega),?_⟩
   refine ybv (k+1) ?_;refine yj ?_;simp only[wk,go_sem,zA,zH];refine⟨by omega,?_⟩
   intro i J
   by_cases q:i=k
   .rw[if_pos q,if_pos (by omega)]
    subst q;simp only[val,wk,go_sem]
   .rw[if_neg q]
    by_cases E:i<k
    .rw[if_pos E,if_pos (by omega)]
     simp only[wk,go_sem]
    .rw[if_neg E,if_neg (by omega)]
     simp only[wk,go_sem]
  .obtain rfl:k=b:=by omega
   have z:=ydoa e _ at_ rest w r L
   have A:=ycny f ((zT k).map val) (by simp;omega) (fun x N=>by
    obtain⟨q,D,rfl⟩:=List.mem_map.1 N;exact s q (List.mem_range.1 D))
   have m:ydp g c v (.agg f a) 0=yiw f ((zT k).map val):=by
    show yiw f _=_;rw[h]
   rw[m];simp only[ykx,yx,go_sem,zA,zB];simp only[yx]at z
   have l:SimL [.i .i64 f,.sl 1 (k-0) fun i=>[.i .i64 (if i<k then val i else 0)]] [.i .i64 f,ybb ((zT k).map val)]:=by
    refine⟨Sim.refl _,yctn (by simp) fun i J=>?_,trivial⟩
    rw[if_pos (by omega)]
    simp[zL,show i<k by omega]
   refine⟨fun F=>z.use ?_,fun F=>?_⟩
   .simp only[ybj,go_sem,zA,zB,zI,zH];refine⟨by simp;omega,.inl ⟨by omega,A.useS l ?_⟩⟩
    simp only[go_sem];exact Sim.refl _
   .refine⟨by simp;omega,.inl ⟨by omega,A.useS l ?_⟩⟩
    simp only[ybj,if_neg (show ¬k=0 by omega),go_sem,zA,zB]
    rw[show at_+(Ex.agg f a).ser.length=at_+1+a.ser.length by simp[Ex.ser];omega]
    exact Sim.refl _
end Sh
end
section
namespace Sh
open Go Ev
theorem ybxg(g:Gr)(v:Nat)(f:v<g.ports.length)(u:Int)(e:(g.ports.getD v []).length<=100000):Returns zD 204 [grV g,.i .i64 v,.i .i64 u] (.i .i64 (ypc (g.ports.getD v []) u)):=by
 refine Returns.of (ydsl _ _ ?_);simp only[c204,ycxn,ycvb,grV,yg,yx,ybb,go_sem,zA,zB,zH];refine⟨by omega,?_⟩
 obtain⟨b,d⟩:∃b,g.ports.getD v []=b:=⟨_,rfl⟩;rw[d]at e ⊢;refine ybe (σ:=Nat) (fun k=>⟨[(15,.i .i64 k),(13,yx b),(14,.i .i64 b.length),(2,.i .i64 u)],[]⟩) (fun k=>k<=b.length/\(b.take k).findIdx? (fun l=>l.1==u)=none) (fun k=>b.length-k) 0 ⟨zM _,by simp⟩ ?_ ?_
 .refine yj ?_;simp only[yx,wk,go_sem,zA]
 .intro k ⟨hk,hno⟩;simp only[ydik,yddi,ycvz,ydca,ycxt,ydgp,yx,ycj,splice,go_sem,zA,zB,zI,zH];refine⟨fun a=>⟨by omega,fun c=>?_,fun c=>⟨ikw (by omega) (by omega),?_⟩⟩,fun a=>?_⟩
  .have a:k<b.length:=by omega
   rw[getD_at a]at c;rw[ybuy b u k a c hno]
  .have a:k<b.length:=by omega
   rw[getD_at a]at c;refine yu (k+1) ⟨by omega,ybiy b u k a c hno⟩ (by omega) ?_
   refine yj ?_;simp only[wk,go_sem,zA];simp
  .obtain rfl:k=b.length:=by omega
   rw[ybpp b u hno]
theorem ybwk{ids:List Int}{k:Nat}(h:k<ids.length):(ids.take (k+1)).foldl max 0=max ((ids.take k).foldl max 0) (ids.getD k 0):=by
 rw[ybvq ids k h,getD_at h]
theorem ybio(p:ProgR){g:Gr}(o:ybi g):Returns zD 167 [.ag (ypj p),grV g] (.rf (yhj p g)):=by
 refine Returns.of (ydnc _ _ ?_);have t:=o.2.1;have hid:=o.2.2.1;obtain⟨n,h⟩:∃n,g.ports.length=n:=⟨_,rfl⟩;rw[h]at t hid;simp only[c167,ydho,ydhs,ydjv,grV,yg,yx,ybb,ypj,splice,h,go_sem,zA,zB,zI,zH];refine⟨by omega,?_⟩
 refine ybe (σ:=Nat) (fun k=>⟨[(21,.i .i64 k),(19,yg g.ports),(20,.i .i64 n),(3,.pt (3,0) 0 0),(5,.pt (17,0) 0 0)],
  [(3,.one (some ⟨27,true,2,1,fun _=>[ybb g.ids,yg g.ports]⟩)),(17,.one (some ⟨235,true,7,1,fun _=>[.a (.string p.name),yfq p.vars,ydo p.rules,ybb g.ids,yg g.ports,.i .i64 ((g.ids.take k).foldl max 0),.os (15,0) 0 n true]⟩)),
   (15,.one (some ⟨22,false,1,n,fun i=>[if i<k then ybb (ymq g i)else .a (.slice none 0 0)]⟩))]⟩) (fun k=>k<=n) (fun k=>n-k) 0 (zM _) ?_ ?_
 .refine yj ?_;simp only[yg,yx,ybb,h,wk,go_sem,zA,zH];refine⟨fun i _=>by simp,fun i _=>?_⟩
  rw[if_neg (by omega)]
  simp only[wk,go_sem]
 .intro k hk;simp only[ydky,ydcy,ydas,ydjr,yg,yx,ybb,splice,h,go_sem,zA,zB,zI];refine⟨fun e=>⟨by omega,by omega,by decide,?_⟩,fun e=>?_⟩
  .have A:k<n:=by omega
   obtain⟨c,b⟩:∃c,g.ports.getD k []=c:=⟨_,rfl⟩;have s:=o.deg_lt (v:=k);rw[b]at s;rw[b]
   have l:∀j,j<c.length->(ymq g k).getD j 0=ypc (g.ports.getD (c.getD j (0,0)).1.toNat []) k:=fun j z=>by
    unfold ymq;rw[b];simp[zL,z]
   have u:(ymq g k).length=c.length:=by unfold ymq;rw[b,zBL]
   refine ybe (σ:=Nat) (fun j=>⟨[(41,.i .i64 j),(39,yx c),(40,.i .i64 c.length),(6,.i .i64 k),(21,.i .i64 k),(19,yg g.ports),(20,.i .i64 n),(3,.pt (3,0) 0 0),(5,.pt (17,0) 0 0)],
    [(3,.one (some ⟨27,true,2,1,fun _=>[ybb g.ids,yg g.ports]⟩)),(17,.one (some ⟨235,true,7,1,fun _=>[.a (.string p.name),yfq p.vars,ydo p.rules,ybb g.ids,yg g.ports,.i .i64 ((g.ids.take (k+1)).foldl max 0),.os (15,0) 0 n true]⟩)),
     (15,.one (some ⟨22,false,1,n,fun i=>[if i<k then ybb (ymq g i)else if i=k then .os (100,0) 0 j true else .a (.slice none 0 0)]⟩)),
     (100,.one (some ⟨3,false,1,j,fun q=>[.i .i64 ((ymq g k).getD q 0)]⟩))]⟩) (fun j=>j<=c.length) (fun j=>c.length-j) 0 (zM _) ?_ ?_
   .refine yca [] [100] [] ?_;simp only[yg,yx,ybb,h,ybwk (show k<g.ids.length by omega),wk,go_sem,zA,zH,Nat.reduceBEq]
    intro i w
    by_cases f:i<k
    .simp only[if_pos f];simp only[wk,go_sem]
    .by_cases d:i=k
     .simp only[if_neg f,if_pos d];simp only[wk,go_sem,zA];simp
     .simp only[if_neg f,if_neg d];simp only[wk,go_sem]
   .intro j z;simp only[ycwf,ycxp,ydgm,ycdx,ychd,yg,yx,ybb,splice,h,go_sem,zA,zB,zI,zH]
    have r:=fun e:j<c.length=>ybxg g (c.getD j (0,0)).1.toNat (by
     have:=o.ydd (v:=k) (p:=j) (by omega) (by rw[b];omega)
     unfold ydd at this;rw[b]at this;omega) (k:Int) (by have:=o.deg_lt (v:=(c.getD j (0,0)).1.toNat);omega)
    have y:j<c.length->((c.getD j (0,0)).1.toNat:Int)=(c.getD j (0,0)).1:=fun e=>by
     have:=o.ydd (v:=k) (p:=j) (by omega) (by rw[b];omega)
     unfold ydd at this;rw[b]at this;omega
    refine⟨fun e=>⟨by omega,by omega,by omega,?_⟩,fun e=>?_⟩
    .have m:j<c.length:=by omega
     have r:=r m;rw[y m]at r;simp only[grV,yg,yx,ybb,h]at r;refine r.use ?_;simp only[ybj,splice,go_sem,zA,zB,zI,zH];refine⟨by decide,by omega,by decide,by omega,by omega,by decide,ikw (by omega) (by omega),?_⟩
     refine ybv (j+1) ?_;refine yca [(100,fun _=>(63,0))] [] [] ?_;simp only[wk,go_sem,zA,zH];refine⟨by omega,fun i w=>?_,fun i w=>?_⟩
     .by_cases d:i=k
      .simp only[if_pos d,if_neg (show ¬i<k by omega)]
       simp only[wk,go_sem,zA]
      .simp only[if_neg d]
       by_cases f:i<k
       .simp only[if_pos f];simp only[wk,go_sem]
       .simp only[if_neg f];simp only[wk,go_sem]
     .by_cases d:i<j
      .simp only[if_pos d];simp only[wk,go_sem]
      .obtain rfl:i=j:=by omega
       simp only[if_neg d,zBW,zBX];simp only[wk,go_sem];rw[l i m]
    .obtain rfl:j=c.length:=by omega
     refine⟨ikw (by omega) (by omega),?_⟩
     refine ybv (k+1) ?_;refine yca [] [] [(100,0)] ?_;simp only[wk,go_sem,zA,zI,zH];refine⟨by omega,fun i w=>?_⟩
     by_cases f:i<k
     .simp only[if_pos f,if_pos (show i<k+1 by omega)]
      simp only[wk,go_sem]
     .by_cases d:i=k
      .simp only[if_neg f,if_pos d,if_pos (show i<k+1 by omega)]
       subst d;simp only[u,wk,go_sem,zA]
      .simp only[if_neg f,if_neg d,if_neg (show ¬i<k+1 by omega)]
       simp only[wk,go_sem]
  .obtain rfl:k=n:=by omega
   simp only[yckm,go_sem,zA,zB,zI];refine⟨fun q x=>by simp only[if_pos x];simp only[go_sem],?_⟩
   refine ydbl ?_ (by simp only[yhj,go_sem])
   simp only[SimL,yhj,ybb,yg,yx,yeq,h,ywn,true_and,and_true];refine⟨?_,?_⟩
   .rw[ycj];refine⟨rfl,?_⟩;unfold ybvv;rw[zZ (by omega)]
   .refine yej fun q x=>?_;simp only[if_pos x];simp only[SimL,ywn,go_sem]
end Sh
end
end Go.Proofs.YthclbjjgfcgbgaaGreatDoor
