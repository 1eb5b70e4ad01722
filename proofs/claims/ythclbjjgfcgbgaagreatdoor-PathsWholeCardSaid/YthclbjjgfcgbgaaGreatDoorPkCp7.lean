/- Joined. -/
import Derived.Test.YthclbjjgfcgbgaaGreatDoorPkCp3
import Derived.Test.YthclbjjgfcgbgaaGreatDoorPkCp4
set_option linter.unusedSimpArgs false
set_option linter.unusedVariables false
set_option maxRecDepth 8000
open Nat renaming reduceEqDiff->zA,reduceAdd->zB,reduceLeDiff->zD,reduceLT->zG,zero_le->zK,le_refl->zY,testBit_lt_two_pow->zAI,mod_eq_of_lt->zAJ,pow_le_pow_right->zAL,lt_of_lt_of_le->zAO,lt_pow_two_of_testBit->zAS,eq_of_testBit_eq->zAV,lt_trichotomy->zAZ,not_lt_zero->zBH,testBit_and->zBJ,and_le_left->zBK,mul_le_mul->zBN,reduceMul->zBP,lt_or_ge->zBR
open Go.Proofs.Tryz renaming prog->zC
open Bool renaming and_eq_true->zF,false_eq_true->zAX
open List renaming take_succ_eq_append_getElem->zH,getElem?_eq_getElem->zI,getElem_mem->zJ,getD->zM,mem_of_getElem?->zN,getElem?_set->zO,findIdx?_eq_some_iff_getElem->zQ,range->zS,findIdx?_eq_none_iff->zT,foldl_append->zW,eq_nil_of_length_eq_zero->zX,take_of_length_le->zZ,getD_eq_getElem?_getD->zAA,mem_cons_of_mem->zAB,take_length->zAC,findIdx?_append->zAD,mem_cons_self->zAE,getElem?_replicate->zAG,length->zAH,mem_zipIdx_iff_getElem?->zAM,length_append->zAN,append_assoc->zAP,getElem?_zip_eq_some->zAQ,drop_eq_getElem_cons->zAR,all_eq_true->zAT,length_nil->zAU,countP_append->zAY,pairwise_map->zBA,length_cons->zBB,countP_cons->zBC,length_take->zBD,elem_eq_mem->zBE,range_succ->zBG,length_map->zBI,replicate->zBL,any_cons->zBO
open BitVec renaming ofInt->zL,ofInt_natCast->zU,toNat_ofNat->zAF,getLsbD_ofNat->zAW
open Int renaming toNat_natCast->zV,reduceToNat->zAK,natCast_zero->zBF,natAbs_mul->zBM
open Classical renaming byContradiction->zBQ
open Go
namespace Go.Proofs.YthclbjjgfcgbgaaGreatDoor
section
namespace Sh
open Go Ev
theorem yeac {g:FuncId}{fn:Func}{sc:SC}{rs:List SR}(f:Tryz.prog.funcs[g]?=some fn) (a:fn.body.bind (cmp zC fn.ntmps)=some sc) (b:cmpR zC fn.results.toList=some rs)
 {i:List FuncId}{args:List SV}{Q:SV->Prop}(h:vc ⟨Ct zC,Cm zC,ItC zC,[],i⟩ sc (retK rs Q) ⟨slots args 0,[]⟩):Ct zC g args Q:=by
 obtain⟨c,d,e⟩:=bind_some a;exact yclq mix ytd f d e b h
theorem ydwc {g:FuncId}{fn:Func}{sc:SC}{rs:List SR}(i:Tryz.prog.funcs[g]?=some fn) (a:fn.body.bind (cmp zC fn.ntmps)=some sc) (b:cmpR zC fn.results.toList=some rs)
 {d:List Nm}{j:List FuncId}{o:Own}{args:List SV}{Q:SV->Own->Prop}(h:vc ⟨Ct zC,Cm zC,ItC zC,d,j⟩ sc (retM rs d Q) ⟨slots args 0,o⟩):Cm zC g d o args Q:=by
 obtain⟨c,e,f⟩:=bind_some a;exact ycgc mix ytd i e f b h
def Fn(g:FuncId)(c:SC)(rs:List SR):Prop:=∀(a:List SV) (Q:SV->Prop),vc ⟨Ct zC,Cm zC,ItC zC,[],[]⟩ c (retK rs Q) ⟨slots a 0,[]⟩->Ct zC g a Q
def FnU(g:FuncId)(c:SC)(rs:List SR):Prop:=∀(b:List FuncId) (a:List SV) (Q:SV->Prop),vc ⟨Ct zC,Cm zC,ItC zC,[],b⟩ c (retK rs Q) ⟨slots a 0,[]⟩->Ct zC g a Q
def FnM(g:FuncId)(c:SC)(rs:List SR):Prop:=∀(b:List Nm) (d:List FuncId) (o:Own) (a:List SV) (Q:SV->Own->Prop),vc ⟨Ct zC,Cm zC,ItC zC,b,d⟩ c (retM rs b Q) ⟨slots a 0,o⟩->Cm zC g b o a Q
section
variable {g:FuncId}{fn:Func}{sc:SC}{rs:List SR}
theorem fn_0(c:Tryz.prog.funcs[g]?=some fn)(a:fn.body.bind (cmp zC fn.ntmps)=some sc:=by kernel_rfl)(b:cmpR zC fn.results.toList=some rs:=by kernel_rfl):Fn g sc rs:=fun _ _ h=>yeac c a b h
theorem fn_u(c:Tryz.prog.funcs[g]?=some fn)(a:fn.body.bind (cmp zC fn.ntmps)=some sc:=by kernel_rfl)(b:cmpR zC fn.results.toList=some rs:=by kernel_rfl):FnU g sc rs:=fun _ _ _ h=>yeac c a b h
theorem fn_m(c:Tryz.prog.funcs[g]?=some fn)(a:fn.body.bind (cmp zC fn.ntmps)=some sc:=by kernel_rfl)(b:cmpR zC fn.results.toList=some rs:=by kernel_rfl):FnM g sc rs:=fun _ _ _ _ _ h=>ydwc c a b h
end
def o3(x:SOp)(d a:Nat):SOper:=⟨x,some d,none,a⟩
def o0(x:SOp)(a:Nat):SOper:=⟨x,none,none,a⟩
abbrev LO:=List SOper
def mv'(x d a:Nat):SOper:=⟨.mv (.tmp x),some d,none,a⟩
def bn'(b:BinOp)(x y d a:Nat):SOper:=⟨.bin b (.tmp x) (.tmp y),some d,none,a⟩
def ld'(n x d a:Nat):SOper:=⟨.load false n (.tmp x),some d,none,a⟩
def fa'(o n x d a:Nat):SOper:=⟨.faddr o n (.tmp x),some d,none,a⟩
def ix'(z x k d a:Nat):SOper:=⟨.idx z (.tmp x) (.tmp k),some d,none,a⟩
def ln'(x d a:Nat):SOper:=⟨.len (.tmp x),some d,none,a⟩
def xt'(x k d a:Nat):SOper:=⟨.extract (.tmp x) k,some d,none,a⟩
def cl'(g:FuncId)(xs:List Nat)(d a:Nat):SOper:=⟨.call (.func g) (xs.map .tmp),some d,none,a⟩
def ci'(n:Int):Operand:=.const (.int .i64 n)
def mc(n:Int)(d a:Nat):SOper:=⟨.mv (.const (.int .i64 n)),some d,none,a⟩
def bc(b:BinOp)(x:Nat)(n:Int)(d a:Nat):SOper:=⟨.bin b (.tmp x) (.const (.int .i64 n)),some d,none,a⟩
def mb(b:Bool)(d a:Nat):SOper:=⟨.mv (.const (.bool b)),some d,none,a⟩
def nl'(d a:Nat):SOper:=⟨.mv (.const (.slice none 0 0)),some d,none,a⟩
def sto(n x y a:Nat):SOper:=⟨.store n (.tmp x) (.tmp y),none,none,a⟩
def la'(n x d a:Nat):SOper:=⟨.load true n (.tmp x),some d,none,a⟩
def nk'(x d a:Nat):SOper:=⟨.nilck (.tmp x),some d,none,a⟩
def bx'(t x d a:Nat):SOper:=⟨.box t (.tmp x),some d,none,a⟩
def pk'(x y d a:Nat):SOper:=⟨.pick (.tmp x) (.const (.bool true)) (.tmp y),some d,none,a⟩
def gf(x:SOp)(d g a:Nat):SOper:=⟨x,some d,some (g,false),a⟩
def gt(x:SOp)(d g a:Nat):SOper:=⟨x,some d,some (g,true),a⟩
def sr(l:LO)(k:SC):SC:=.seq (.reg false l) k
def cn(t:Nat)(a b:SC):SC:=.cond (.tmp t) a b
attribute [go_sem] o3 o0 mv' bn' ld' fa' ix' ln' xt' cl' ci' mc bc mb nl' sto la' nk' bx' pk' gf gt sr cn
attribute [go_sem] yeel ydnu ycop ycjg yedj ydhy ydwf ydir yclm ydhk ycqw ybfi ybcp ybwc ybkt puts ydnr
attribute [go_sem] yeci yeei ydpm ybhy ybwn ychl ybea ybku ybta ybvr ybya ybnl ycmo ybll ycpi
attribute [go_sem] yuk Fam.at Prod.mk.injEq ydhe ydkq ydgo ydfs ydke ydjq ybtf oldX oldV ylr yrc ycbz ydnh gb_x yedq resX yji slots ycmw
attribute [go_sem] yckj ycfk runO opO ycbz xOp SS.get SS.pget SS.gets SS.lit look lookO SS.put SS.own ydjx ydiw ydnl yclh ycng ycli ycmp
attribute [go_sem] ycnx yclw yclp ycou ycox yboy simple yoi yyv ybjg part idxX natX ytg ybwk xbin xun eqL splice fill OB.set ofV fits ydly
attribute [go_sem] ybqe allP SRec.no SRec.pure clash nmem List.isEmpty_nil List.isEmpty_cons List.drop List.take List.all List.any List.map zAH List.head? List.append
attribute [go_sem] List.nil_append List.append_nil List.cons_append List.all_cons List.all_nil List.drop_succ_cons List.drop_zero List.take_succ_cons List.take_zero List.drop_nil
attribute [go_sem] List.take_nil zBB zAU List.map_cons List.map_nil List.getElem?_cons_zero List.getElem?_cons_succ List.elem zV Nat.zero_add
attribute [go_sem] Nat.add_zero if_true if_false ite_true ite_false Option.isNone Option.isNone_none Option.map_some Option.map_none Bool.not_true Bool.not_false Bool.true_or
attribute [go_sem] Bool.or_true Bool.false_or Bool.or_false Bool.and_true Bool.true_and Bool.and_false Bool.false_and Bool.and_self Bool.or_self true_and and_true and_self
attribute [go_sem] true_implies false_implies implies_true forall_const Nat.lt_add_one Nat.one_pos Nat.zero_lt_one Nat.lt_irrefl zY decide_true decide_false zAX
attribute [go_sem] Bool.true_eq_false forall_eq BEq.rfl beq_self_eq_true decide_eq_true_eq decide_eq_false_iff_not beq_iff_eq beq_eq_false_iff_ne bne_iff_ne bne_eq_false_iff_eq
attribute [go_sem] Bool.not_eq_true Bool.not_eq_false Bool.not_eq_true' Bool.not_eq_false' ydhw ydkt ydgc ycky ycql ycdg yckg yclu ycpy
attribute [go_sem] ycpa ycat ydjz ydxv ydgu ycmv ycne ycko yclc ycoi yckr ycdj ycex ybun yccv ycif ychg
attribute [go_sem] ycil ycfr ycdn ydsj yeda yebv ydgm ydgi ycnj ydhq ydjv ydkm ydmz ydms ydmy yedt yeez yeef ydui yecx
attribute [go_sem] ydhh ydpu yeaa ydyf ydvo ydpz ydwk yeab ydtg ydta ydhi ydmj ycnm ydnp ydmv ydnj ydmu ydkd ydfz
attribute [go_sem] yyt ybih idxF ydql yug ymh own1 ybsn ydkj ydjt zAX false_implies Tel telL yeh yii ychd ydjl ydnb
attribute [go_sem] ycpb ycqy ycoz ycor ycnp ycks ycnb yclj ycny yefv yefu yeep ydzw ydub yedb ydsg ydpp yeaj ydwx yduu
attribute [go_sem] ydrp lv nmem rid yih ybyn ydtk ybbe ydua ydlg ydcj yrh ycrp ydxc yduv ycwd yjw ybpg yefc yefg yefw ydwm yeau ydgp
attribute [go_sem] ydpi yeaw ydsr ydpd ydzu ydzp zBO List.any_nil Option.isSome ydfu or_false false_or or_true true_or false_and exists_const exists_false
attribute [go_sem] List.not_mem_nil and_false
attribute [go_sem ↓] gb_t gb_f yeer yeem
end Sh
end
section
namespace Sh
open Go Ev
def ybbv:List Nat:=[0,1,1,2,1,2,2,3,1,2,2,3,2,3,3,4,1,2,2,3,2,3,3,4,2,3,3,4,3,4,4,5,1,2,2,3,2,3,3,4,2,3,3,4,3,4,4,5,2,3,3,4,3,4,4,5,3,4,4,5,4,5,5,6,1,2,2,3,2,3,3,4,2,3,3,4,3,4,4,5,2,3,3,4,3,4,4,5,3,4,4,5,4,5,5,6,2,3,3,4,3,4,4,5,3,4,4,5,4,5,5,6,3,4,4,5,4,5,5,6,4,5,5,6,5,6,6,7,1,2,2,3,2,3,3,4,2,3,3,4,3,4,4,5,2,3,3,4,3,4,4,5,3,4,4,5,4,5,5,6,2,3,3,4,3,4,4,5,3,4,4,5,4,5,5,6,3,4,4,5,4,5,5,6,4,5,5,6,5,6,6,7,2,3,3,4,3,4,4,5,3,4,4,5,4,5,5,6,3,4,4,5,4,5,5,6,4,5,5,6,5,6,6,7,3,4,4,5,4,5,5,6,4,5,5,6,5,6,6,7,4,5,5,6,5,6,6,7,5,6,6,7,6,7,7,8]
def ydem:LO:=[bx' 160 0 3 0,bx' 27 1 4 0,mc 0 6 0,mc 0 7 4]
def ydbt:LO:=[o3 (.build [.i .i64 0,.a (.nilFunc)] [(0,1,(ci' 1)),(1,1,(.func 176))]) 11 0,o3 (.build [.i .i64 0,.a (.nilFunc)] [(0,1,(ci' 2)),(1,1,(.func 177))]) 12 0,o3 (.build [.i .i64 0,.a (.nilFunc)] [(0,1,(ci' 3)),(1,1,(.func 178))]) 13 0,o3 (.bslice 210 2 3 [.i .i64 0,.a (.nilFunc),.i .i64 0,.a (.nilFunc),.i .i64 0,.a (.nilFunc)] [(0,2,(.tmp 11)),(2,2,(.tmp 12)),(4,2,(.tmp 13))]) 14 7,mv' 14 8 15]
def ydck:LO:=[mv' 8 15 0,ln' 15 16 1,mc 0 17 0]
def ybra:LO:=[bn' .lss 17 16 18 0]
def ybpl:LO:=[ix' 2 15 17 19 0,la' 2 19 20 1,o3 (.alloc 210 1 [.i .i64 0,.a (.nilFunc)]) 10 0,sto 2 10 20 7]
def ybse:LO:=[fa' 0 1 10 21 0,ld' 1 21 22 1,fa' 1 1 3 23 0,ld' 1 23 24 4,bn' .eql 22 24 25 15]
def ybpf:LO:=[fa' 1 1 10 26 0,ld' 1 26 27 1,la' 6 3 28 0,la' 2 4 29 0,mv' 2 30 0,o3 (.call (.tmp 27) [(.tmp 28),(.tmp 29),(.tmp 30)]) 31 31,xt' 31 0 32 63,xt' 31 1 33 63,mv' 32 6 255,mv' 33 7 511]
def ybpd:LO:=[bc .add 17 1 34 0,mv' 34 17 1]
def ybrk:LO:=[mc 0 6 0,mc (-1) 7 1]
def c132:SC:=(sr ydem <| sr ydbt <| .seq (sr ydck <| .block 0 (.loop (sr ybra <| .seq (cn 18 .skip (.exit 0)) (.seq (.block 1 (sr ybpl <| sr ybse <| cn 25 (sr ybpf <| .ret) .skip)) (.reg false ybpd))))) (sr ybrk <| .ret))
theorem ydho:Fn 132 c132 [.t 6,.t 7]:=fn_0 Tryz.func132
def ydec:LO:=[bx' 160 0 3 0,bx' 27 1 4 0,mc 0 6 0,mc 0 7 4]
def ycyb:LO:=[fa' 2 1 3 8 0,ld' 1 8 9 1,fa' 3 1 3 10 0,ld' 1 10 11 4,fa' 4 1 3 12 0,ld' 1 12 13 16,fa' 0 1 4 14 0,ld' 1 14 15 64,ln' 15 16 192,bn' .mul 13 16 17 496,bn' .add 11 17 18 1020,fa' 5 1 3 19 0,ld' 1 19 20 2048,fa' 0 1 4 21 0,ld' 1 21 22 8192,cl' 54 [22] 23 24576,bn' .mul 20 23 24 63488,bn' .add 18 24 25 131068,mv' 9 6 57347,mv' 25 7 524287]
def c176:SC:=(sr ydec <| .seq (.reg true ycyb) .ret)
theorem ydgx:Fn 176 c176 [.t 6,.t 7]:=fn_0 Tryz.func176
def ycrr:LO:=[bx' 160 0 3 0,bx' 27 1 4 0,mc 0 6 0,mc 0 7 4]
def yczc:LO:=[mc 0 6 0,mc 1 7 1]
def c177:SC:=(sr ycrr <| sr yczc <| .ret)
theorem ydkf:Fn 177 c177 [.t 6,.t 7]:=fn_0 Tryz.func177
def ydcv:LO:=[bx' 160 0 3 0,bx' 27 1 4 0,mc 0 6 0,mc 0 7 4]
def ydac:LO:=[fa' 1 1 4 8 0,ld' 1 8 9 1,mv' 2 10 0,ix' 1 9 10 11 7,ld' 1 11 12 15,ln' 12 13 31,bc .sub 13 1 14 63,mc (-1) 6 0,mv' 14 7 255]
def c178:SC:=(sr ydcv <| .seq (.reg true ydac) .ret)
theorem ydjf:Fn 178 c178 [.t 6,.t 7]:=fn_0 Tryz.func178
def ydof:LO:=[bx' 32 0 2 0,bx' 27 1 3 0,nl' 4 0]
def ydzx:LO:=[fa' 0 1 3 9 0,ld' 1 9 10 1,ln' 10 11 3,o3 (.mk 92 1 24 [.a (.slice none 0 0)] (.tmp 11) (.tmp 11)) 12 7,mv' 12 5 15]
def ydrb:LO:=[mv' 5 13 0,ln' 13 14 1,mc 0 15 0]
def yebr:LO:=[bn' .lss 15 14 16 0]
def ydoe:LO:=[mv' 15 17 0,mv' 17 6 1]
def ydxh:LO:=[mv' 5 18 0,mv' 6 19 0,fa' 1 1 2 20 0,ld' 1 20 21 4,ln' 21 22 12,o3 (.mk 91 2 16 [.i .i64 0,.i .i64 0] (.tmp 22) (.tmp 22)) 23 28,ix' 1 18 19 24 63,sto 1 24 23 127]
def ydvm:LO:=[fa' 1 1 2 25 0,ld' 1 25 26 1,ln' 26 27 3,mc 0 28 0]
def ydtl:LO:=[bn' .lss 28 27 29 0]
def ydyl:LO:=[mv' 28 30 0,ix' 6 26 28 31 0,la' 6 31 32 2,o3 (.alloc 160 1 [.a (.string (ByteArray.mk #[])),.i .i64 0,.i .i64 0,.i .i64 0,.i .i64 0,.i .i64 0]) 8 0,mv' 30 7 15,sto 6 8 32 31]
def ydwn:LO:=[mv' 5 34 0,mv' 6 35 0,ix' 1 34 35 36 3,ld' 1 36 37 7,mv' 7 38 0,mv' 5 39 0,mv' 6 40 0,ix' 1 39 40 41 96,ld' 1 41 42 224,mv' 7 43 0,la' 6 8 44 0,la' 2 3 45 0,mv' 6 46 0,cl' 132 [44,45,46] 47 7168,mv' 47 33 15360,xt' 33 0 48 31744,xt' 33 1 49 31744,ix' 2 37 38 50 31,o3 (.idxA 2 1 (.tmp 50) (ci' 0)) 51 196095,sto 1 51 48 458239,ix' 2 42 43 52 992,o3 (.idxA 2 1 (.tmp 52) (ci' 1)) 53 2097151,sto 1 53 49 4194303]
def ycsx:LO:=[bc .add 28 1 54 0,mv' 54 28 1]
def yczn:LO:=[bc .add 15 1 55 0,mv' 55 15 1]
def ycuh:LO:=[mv' 5 56 0,mv' 56 4 1]
def c63:SC:=(sr ydof <| sr ydzx <| .seq (sr ydrb <| .block 0 (.loop (sr yebr <| .seq (cn 16 .skip (.exit 0)) (.seq (.block 1 (sr ydoe <| sr ydxh <| sr ydvm <| .block 2 (.loop (sr ydtl <| .seq (cn 29 .skip (.exit 2)) (.seq (.block 3 (sr ydyl <| .reg true ydwn)) (.reg false ycsx)))))) (.reg false yczn))))) (sr ycuh <| .ret))
theorem ydwl:Fn 63 c63 [.t 4]:=fn_0 Tryz.func63
def ycsq:LO:=[bx' 91 1 4 0,mc 0 6 0]
def ydbp:LO:=[mv' 2 8 0,o3 (.idxA 2 1 (.tmp 4) (ci' 0)) 9 0,ld' 1 9 10 2,bn' .geq 8 10 11 7,mv' 11 12 15,gt (.mv (.tmp 2)) 13 12 31,gt (.idxA 2 1 (.tmp 4) (ci' 1)) 14 12 31,gt (.load false 1 (.tmp 14)) 15 12 95,gt (.bin .leq (.tmp 13) (.tmp 15)) 16 12 255,o3 (.pick (.tmp 12) (.tmp 16) (.const (.bool false))) 17 511,mv' 17 7 1023]
def ycsm:LO:=[mv' 2 18 0,mv' 18 6 1]
def yday:LO:=[mv' 0 20 0,bc .eql 20 3 21 1,mv' 21 19 3]
def ydcg:LO:=[mc (-1) 6 0]
def ycys:LO:=[mv' 2 23 0,o3 (.idxA 2 1 (.tmp 4) (ci' 0)) 24 0,ld' 1 24 25 2,bn' .lss 23 25 26 7,mv' 26 22 15]
def ycsr:LO:=[o3 (.idxA 2 1 (.tmp 4) (ci' 0)) 27 0,ld' 1 27 28 1,mv' 28 6 3]
def ycxp:LO:=[o3 (.idxA 2 1 (.tmp 4) (ci' 1)) 29 0,ld' 1 29 30 1,mv' 30 6 3]
def c170:SC:=(sr ycsq <| .seq (.block 0 (sr ydbp <| cn 7 (sr ycsm <| .ret) (sr yday <| cn 19 (sr ydcg <| .ret) (sr ycys <| cn 22 (sr ycsr <| .ret) .skip)))) (sr ycxp <| .ret))
theorem ydkr:Fn 170 c170 [.t 6]:=fn_0 Tryz.func170
def ydyu:LO:=[bx' 32 0 2 0,bx' 27 1 3 0,mc 0 4 0]
def yect:LO:=[la' 3 2 9 0,cl' 130 [9] 10 1,o3 (.un .not (.tmp 10)) 11 3]
def ydri:LO:=[mc 8 4 0]
def yecr:LO:=[la' 2 3 12 0,cl' 131 [12] 13 1,o3 (.un .not (.tmp 13)) 14 3]
def ydqc:LO:=[mc 1 4 0]
def ydud:LO:=[fa' 1 1 2 15 0,ld' 1 15 16 1,ln' 16 17 3,mc 0 18 0]
def ydpw:LO:=[bn' .lss 18 17 19 0]
def ydrf:LO:=[ix' 6 16 18 20 0,la' 6 20 21 1,o3 (.alloc 160 1 [.a (.string (ByteArray.mk #[])),.i .i64 0,.i .i64 0,.i .i64 0,.i .i64 0,.i .i64 0]) 6 0,sto 6 6 21 7]
def ydym:LO:=[fa' 1 1 6 22 0,ld' 1 22 23 1,bc .neq 23 1 24 3]
def ydqx:LO:=[la' 6 6 26 0,la' 2 3 27 0,o3 (.call (.func 132) [(.tmp 26),(.tmp 27),(ci' 0)]) 28 3,mv' 28 25 7,xt' 25 0 29 15,xt' 25 1 30 15,mv' 29 7 31,mv' 30 8 127]
def ycyw:LO:=[mv' 8 31 0,mv' 7 32 0,bn' .lss 31 32 33 3,mv' 33 34 7,gf (.mv (.tmp 8)) 35 34 15,gf (.mv (.tmp 7)) 36 34 15,gf (.bin .sub (.tmp 35) (.tmp 36)) 37 34 63,gf (.bin .add (.tmp 37) (ci' 1)) 38 34 127,gf (.bin .gtr (.tmp 38) (ci' 4096)) 39 34 255,pk' 34 39 40 511]
def ydan:LO:=[mc 9 4 0]
def ycxq:LO:=[bc .add 18 1 41 0,mv' 41 18 1]
def ycup:LO:=[mc 0 4 0]
def c62:SC:=(sr ydyu <| .seq (sr yect <| cn 11 (sr ydri <| .ret) .skip) (.seq (sr yecr <| cn 14 (sr ydqc <| .ret) .skip) (.seq (sr ydud <| .block 0 (.loop (sr ydpw <| .seq (cn 19 .skip (.exit 0)) (.seq (.block 1 (sr ydrf <| .seq (sr ydym <| cn 24 (.exit 1) .skip) (sr ydqx <| sr ycyw <| cn 40 (sr ydan <| .ret) .skip))) (.reg false ycxq))))) (sr ycup <| .ret))))
theorem ydpe:Fn 62 c62 [.t 4]:=fn_0 Tryz.func62
def ycvm:LO:=[bx' 32 0 2 0,bx' 27 1 3 0,o3 (.mv (.const (.pointer none))) 4 0]
def ydew:LO:=[la' 3 2 5 0,la' 3 2 6 0,la' 2 3 7 0,cl' 167 [6,7] 8 6,la' 3 2 9 0,la' 2 3 10 0,cl' 63 [9,10] 11 62,o3 (.build [.a (.string (ByteArray.mk #[])),.a (.slice none 0 0),.a (.slice none 0 0),.a (.pointer none),.a (.slice none 0 0)] [(0,3,(.tmp 5)),(3,1,(.tmp 8)),(4,1,(.tmp 11))]) 12 127,bx' 200 12 13 255,mv' 13 4 511]
def c123:SC:=(sr ycvm <| .seq (.reg true ydew) .ret)
theorem ydma:Fn 123 c123 [.t 4]:=fn_0 Tryz.func123
def ycry:LO:=[mc 0 6 0]
def ycwm:LO:=[mv' 0 8 0,nk' 8 9 1,fa' 0 3 9 10 3,fa' 2 1 10 11 7,ld' 1 11 12 15,ln' 12 13 31,mc 0 14 0]
def yddf:LO:=[bn' .lss 14 13 15 0]
def ycto:LO:=[mv' 14 16 0,mv' 16 7 1]
def yctb:LO:=[mv' 0 17 0,nk' 17 18 1,fa' 3 1 18 19 3,ld' 1 19 20 7,mv' 1 21 0,mv' 2 22 0,mv' 7 23 0,cl' 168 [20,21,22,23] 24 127]
def ycsc:LO:=[mv' 7 25 0,mv' 25 6 1]
def ydfn:LO:=[bc .add 14 1 26 0,mv' 26 14 1]
def ycuo:LO:=[mc (-1) 6 0]
def c126:SC:=(sr ycry <| .seq (sr ycwm <| .block 0 (.loop (sr yddf <| .seq (cn 15 .skip (.exit 0)) (.seq (.block 1 (sr ycto <| sr yctb <| cn 24 (sr ycsc <| .ret) .skip)) (.reg false ydfn))))) (sr ycuo <| .ret))
theorem ydis:Fn 126 c126 [.t 6]:=fn_0 Tryz.func126
def ycrw:LO:=[nl' 8 0]
def ydfc:LO:=[mv' 1 13 0,mv' 2 14 0,ix' 1 13 14 15 3,ld' 1 15 16 7,o3 (.app 3 1 8 (.const (.slice none 0 0)) (.tmp 16)) 17 15,mv' 17 9 31]
def ydfp:LO:=[mv' 0 18 0,nk' 18 19 1,fa' 0 3 19 20 3,fa' 2 1 20 21 7,ld' 1 21 22 15,mv' 3 23 0,ix' 3 22 23 24 63,fa' 2 1 24 25 127,ld' 1 25 26 255,ln' 26 27 511,mc 0 28 0]
def ycyz:LO:=[bn' .lss 28 27 29 0]
def ycrn:LO:=[ix' 2 26 28 30 0,la' 2 30 31 1,o3 (.alloc 203 1 [.i .i64 0,.a (.slice none 0 0)]) 11 0,sto 2 11 31 7]
def ydbk:LO:=[mv' 0 32 0,nk' 32 33 1,fa' 3 1 33 34 3,ld' 1 34 35 7,mv' 1 36 0,mv' 2 37 0,fa' 1 1 11 38 0,ld' 1 38 39 64,cl' 169 [35,36,37,39] 40 255,mv' 40 12 511]
def yddq:LO:=[mv' 9 41 0,fa' 0 1 11 42 0,ld' 1 42 43 2,mv' 0 44 0,nk' 44 45 8,fa' 0 3 45 46 24,fa' 1 1 46 47 56,ld' 1 47 48 120,fa' 0 1 11 49 0,ld' 1 49 50 256,ix' 6 48 50 51 1016,fa' 1 1 51 52 2040,ld' 1 52 53 4088,mv' 0 54 0,nk' 54 55 8192,fa' 4 1 55 56 24576,ld' 1 56 57 57344,mv' 2 58 0,ix' 1 57 58 59 253952,ld' 1 59 60 516096,fa' 0 1 11 61 0,ld' 1 61 62 1048576,ix' 2 60 62 63 4186112,la' 2 63 64 8380416,mv' 12 65 0,cl' 170 [53,64,65] 66 33554424,ix' 1 41 43 67 67108863,sto 1 67 66 134217727]
def ydbg:LO:=[bc .add 28 1 68 0,mv' 68 28 1]
def ycwl:LO:=[mv' 9 69 0,mv' 69 8 1]
def c127:SC:=(sr ycrw <| sr ydfc <| .seq (sr ydfp <| .block 0 (.loop (sr ycyz <| .seq (cn 29 .skip (.exit 0)) (.seq (.block 1 (sr ycrn <| .seq (.reg true ydbk) (.reg true yddq))) (.reg false ydbg))))) (sr ycwl <| .ret))
theorem yclz:FnM 127 c127 [.t 8]:=fn_m Tryz.func127
def ydaw:LO:=[mc 0 2 0]
def ycvi:LO:=[mv' 0 3 0,o3 (.bin .shr (.tmp 3) (.const (.int .u64 24))) 4 1,o3 (.stri ybbv (.tmp 4)) 5 3,mv' 0 6 0,o3 (.bin .shr (.tmp 6) (.const (.int .u64 16))) 7 8,o3 (.bin .and (.tmp 7) (.const (.int .u32 255))) 8 24,o3 (.stri ybbv (.tmp 8)) 9 56,bn' .add 5 9 10 127,mv' 0 11 0,o3 (.bin .shr (.tmp 11) (.const (.int .u64 8))) 12 256,o3 (.bin .and (.tmp 12) (.const (.int .u32 255))) 13 768,o3 (.stri ybbv (.tmp 13)) 14 1792,bn' .add 10 14 15 4095,mv' 0 16 0,o3 (.bin .and (.tmp 16) (.const (.int .u32 255))) 17 8192,o3 (.stri ybbv (.tmp 17)) 18 24576,bn' .add 15 18 19 65535,o3 (.conv .i64 (.tmp 19)) 20 131071,mv' 20 2 262143]
def c113:SC:=(sr ydaw <| .seq (.reg true ycvi) .ret)
theorem ydgk:Fn 113 c113 [.t 2]:=fn_0 Tryz.func113
def ydfo:LO:=[bx' 27 0 1 0,nl' 2 0]
def ydfi:LO:=[fa' 1 1 1 8 0,ld' 1 8 9 1,ln' 9 10 3,o3 (.mk 77 1 4 [.i .u32 0] (.tmp 10) (.tmp 10)) 11 7,mv' 11 3 15]
def ydeq:LO:=[fa' 1 1 1 12 0,ld' 1 12 13 1,ln' 13 14 3,mc 0 15 0]
def ydcs:LO:=[bn' .lss 15 14 16 0]
def ydep:LO:=[mv' 15 17 0,ix' 1 13 15 18 0,ld' 1 18 19 2,mv' 17 4 7,mv' 19 5 15]
def ycsg:LO:=[mv' 5 20 0,ln' 20 21 1,mc 0 22 0]
def ycxz:LO:=[bn' .lss 22 21 23 0]
def ycwx:LO:=[ix' 2 20 22 24 0,la' 2 24 25 1,o3 (.alloc 68 1 [.i .i64 0,.i .i64 0]) 7 0,sto 2 7 25 7]
def ydal:LO:=[mv' 3 26 0,mv' 4 27 0,ix' 1 26 27 28 3,ld' 1 28 29 7,fa' 0 1 7 30 0,ld' 1 30 31 16,o3 (.bin .shl (.const (.int .u32 1)) (.tmp 31)) 32 48,bn' .or 29 32 33 127,ix' 1 26 27 34 255,sto 1 34 33 511]
def yden:LO:=[bc .add 22 1 35 0,mv' 35 22 1]
def ycib:LO:=[bc .add 15 1 36 0,mv' 36 15 1]
def ybxt:LO:=[mv' 3 37 0,mv' 37 2 1]
def c124:SC:=(sr ydfo <| sr ydfi <| .seq (sr ydeq <| .block 0 (.loop (sr ydcs <| .seq (cn 16 .skip (.exit 0)) (.seq (.block 1 (sr ydep <| sr ycsg <| .block 2 (.loop (sr ycxz <| .seq (cn 23 .skip (.exit 2)) (.seq (.block 3 (sr ycwx <| .reg true ydal)) (.reg false yden)))))) (.reg false ycib))))) (sr ybxt <| .ret))
theorem ydhr:Fn 124 c124 [.t 2]:=fn_0 Tryz.func124
def ycyg:LO:=[mb false 8 0]
def yddb:LO:=[mv' 3 9 0,o3 (.bin .eql (.tmp 9) (.const (.int .u32 0))) 10 1,mv' 10 11 3,gf (.mv (.tmp 3)) 12 11 7,gf (.mv (.tmp 2)) 13 11 7,gf (.bin .andNot (.tmp 12) (.tmp 13)) 14 11 31,gf (.bin .neq (.tmp 14) (.const (.int .u32 0))) 15 11 63,pk' 11 15 16 127]
def yeap:LO:=[mb false 8 0]
def yczz:LO:=[mv' 1 17 0]
def yczq:LO:=[bc .eql 17 1 19 0,mv' 19 18 1]
def ydqm:LO:=[mv' 3 20 0,mv' 3 21 0,o3 (.bin .sub (.tmp 21) (.const (.int .u32 1))) 22 2,bn' .and 20 22 23 7,o3 (.bin .eql (.tmp 23) (.const (.int .u32 0))) 24 15,mv' 24 8 31]
def ydet:LO:=[bc .eql 17 2 26 0,mv' 26 25 1]
def ydzq:LO:=[mv' 0 27 0,mv' 3 28 0,cl' 206 [27,28] 29 3,mv' 29 8 7]
def ycvr:LO:=[bc .eql 17 4 31 0,mv' 31 30 1]
def yduf:LO:=[mv' 3 32 0,mv' 2 33 0,bn' .eql 32 33 34 3,mv' 34 8 7]
def ycfl:LO:=[mb true 8 0]
def c171:SC:=(sr ycyg <| .seq (sr yddb <| cn 16 (sr yeap <| .ret) .skip) (.seq (sr yczz <| .block 0 (sr yczq <| cn 18 (sr ydqm <| .ret) (sr ydet <| cn 25 (sr ydzq <| .ret) (sr ycvr <| cn 30 (sr yduf <| .ret) .skip)))) (sr ycfl <| .ret)))
theorem ydnv:Fn 171 c171 [.t 8]:=fn_0 Tryz.func171
def ydum:LO:=[mb false 2 0]
def ydxb:LO:=[mv' 0 3 0,bc .geq 3 1 4 1,mv' 4 5 3,gt (.mv (.tmp 0)) 6 5 7,gt (.bin .leq (.tmp 6) (ci' 4)) 7 5 15,o3 (.pick (.tmp 5) (.tmp 7) (.const (.bool false))) 8 31,mv' 8 2 63]
def c57:SC:=(sr ydum <| sr ydxb <| .ret)
theorem ydrl:Fn 57 c57 [.t 2]:=fn_0 Tryz.func57
end Sh
end
section
namespace Sh
open Go Ev
def ycxh:LO:=[mc 0 4 0]
def yddx:LO:=[mv' 0 6 0,ln' 6 7 1,mc 0 8 0]
def ydfm:LO:=[bn' .lss 8 7 9 0]
def ycsk:LO:=[mv' 8 10 0,mv' 10 5 1]
def yczs:LO:=[mv' 1 11 0,mv' 0 12 0,mv' 5 13 0,ix' 1 12 13 14 6,ld' 1 14 15 14,bn' .eql 11 15 16 31]
def yctr:LO:=[mv' 5 17 0,mv' 17 4 1]
def ydbz:LO:=[bc .add 8 1 18 0,mv' 18 8 1]
def ycvk:LO:=[mc (-1) 4 0]
def c143:SC:=(sr ycxh <| .seq (sr yddx <| .block 0 (.loop (sr ydfm <| .seq (cn 9 .skip (.exit 0)) (.seq (.block 1 (sr ycsk <| sr yczs <| cn 16 (sr yctr <| .ret) .skip)) (.reg false ydbz))))) (sr ycvk <| .ret))
theorem ydmq:Fn 143 c143 [.t 4]:=fn_0 Tryz.func143
def yead:LO:=[mc 0 2 0]
def yduw:LO:=[mv' 0 5 0,ln' 5 6 1,bc .lss 6 1 7 3]
def yeck:LO:=[o3 (.no) 8 0,o0 (.no) 1]
def ydqh:LO:=[mv' 0 9 0,o3 (.idx 1 (.tmp 9) (ci' 0)) 10 1,ld' 1 10 11 3,mv' 11 3 7]
def yebo:LO:=[mc 1 4 0]
def yeaq:LO:=[mv' 4 12 0,mv' 0 13 0,ln' 13 14 2,bn' .lss 12 14 15 7]
def yeby:LO:=[mv' 3 18 0,mv' 0 19 0,mv' 4 20 0,ix' 1 19 20 21 6,ld' 1 21 22 14,o3 (.mm true (.tmp 18) (.tmp 22)) 23 31,mv' 23 3 63]
def yebm:LO:=[mv' 4 16 0,bc .add 16 1 17 1,mv' 17 4 3]
def ydun:LO:=[mv' 3 24 0,mv' 24 2 1]
def c54:SC:=(sr yead <| .seq (sr yduw <| cn 7 (.reg false yeck) .skip) (sr ydqh <| .seq (sr yebo <| .block 0 (.loop (.seq (sr yeaq <| cn 15 .skip (.exit 0)) (.seq (.block 1 (.reg false yeby)) (.reg false yebm))))) (sr ydun <| .ret)))
theorem ydrt:Fn 54 c54 [.t 2]:=fn_0 Tryz.func54
def yczv:LO:=[mb false 4 0]
def ydff:LO:=[mv' 0 5 0,mv' 1 6 0,cl' 143 [5,6] 7 3,bc .geq 7 0 8 7,mv' 8 4 15]
def c258:SC:=(sr yczv <| sr ydff <| .ret)
theorem ydkk:Fn 258 c258 [.t 4]:=fn_0 Tryz.func258
def ycrt:LO:=[mc 0 4 0]
def ycsp:LO:=[mv' 0 6 0,ln' 6 7 1,mc 0 8 0]
def ycxf:LO:=[bn' .lss 8 7 9 0]
def ycwh:LO:=[mv' 8 10 0,mv' 10 5 1]
def yczx:LO:=[mv' 1 11 0,mv' 0 12 0,mv' 5 13 0,ix' 1 12 13 14 6,ld' 1 14 15 14,o3 (.call (.tmp 11) [(.tmp 15)]) 16 31]
def ydbh:LO:=[mv' 5 17 0,mv' 17 4 1]
def ycyy:LO:=[bc .add 8 1 18 0,mv' 18 8 1]
def ycvn:LO:=[mc (-1) 4 0]
def c251:SC:=(sr ycrt <| .seq (sr ycsp <| .block 0 (.loop (sr ycxf <| .seq (cn 9 .skip (.exit 0)) (.seq (.block 1 (sr ycwh <| sr yczx <| cn 16 (sr ydbh <| .ret) .skip)) (.reg false ycyy))))) (sr ycvn <| .ret))
theorem ydni:Fn 251 c251 [.t 4]:=fn_0 Tryz.func251
def ycxs:LO:=[mc 0 2 0]
def ydbv:LO:=[mv' 0 4 0,bc .lss 4 1 5 1,mv' 5 6 3,gf (.mv (.tmp 0)) 7 6 7,gf (.bin .gtr (.tmp 7) (ci' 43)) 8 6 15,pk' 6 8 9 31,mv' 9 3 63]
def ydfh:LO:=[mc (-1) 2 0]
def ycwp:LO:=[mv' 0 11 0,bc .leq 11 17 12 1,mv' 12 10 3]
def ycuk:LO:=[mc 0 2 0]
def ycyc:LO:=[mv' 0 14 0,bc .leq 14 29 15 1,mv' 15 13 3]
def ycrh:LO:=[mc 1 2 0]
def ydcw:LO:=[mv' 0 17 0,bc .leq 17 42 18 1,mv' 18 16 3]
def ycyp:LO:=[mc 2 2 0]
def ydax:LO:=[mc 3 2 0]
def c231:SC:=(sr ycxs <| .seq (.block 0 (sr ydbv <| cn 3 (sr ydfh <| .ret) (sr ycwp <| cn 10 (sr ycuk <| .ret) (sr ycyc <| cn 13 (sr ycrh <| .ret) (sr ydcw <| cn 16 (sr ycyp <| .ret) .skip))))) (sr ydax <| .ret))
theorem ydji:Fn 231 c231 [.t 2]:=fn_0 Tryz.func231
def ycwg:LO:=[mc 0 4 0]
def ycvq:LO:=[mv' 1 7 0,bc .lss 7 0 8 1,mv' 8 9 3,gf (.mv (.tmp 1)) 10 9 7,gf (.mv (.tmp 0)) 11 9 7,gf (.len (.tmp 11)) 12 9 23,gf (.bin .geq (.tmp 10) (.tmp 12)) 13 9 63,pk' 9 13 14 127]
def ydcy:LO:=[mc (-1) 4 0]
def yddu:LO:=[mc 1 5 0]
def ydbo:LO:=[mv' 1 15 0,mv' 0 16 0,ln' 16 17 2,bn' .lss 15 17 18 7]
def ycyq:LO:=[mv' 0 21 0,mv' 1 22 0,ix' 2 21 22 23 3,fa' 0 1 23 24 7,ld' 1 24 25 15,cl' 231 [25] 26 31,mv' 26 6 63]
def ycxe:LO:=[mv' 6 27 0,bc .lss 27 0 28 1]
def ycws:LO:=[mc (-1) 4 0]
def ycri:LO:=[mv' 5 29 0,mv' 6 30 0,bc .sub 30 1 31 2,bn' .add 29 31 32 7,mv' 32 5 15]
def ycdm:LO:=[mv' 5 33 0,bc .eql 33 0 34 1]
def ycdb:LO:=[mv' 1 35 0,bc .add 35 1 36 1,mv' 36 4 3]
def ycyk:LO:=[mv' 1 19 0,bc .add 19 1 20 1,mv' 20 1 3]
def yccd:LO:=[mc (-1) 4 0]
def c215:SC:=(sr ycwg <| .seq (sr ycvq <| cn 14 (sr ydcy <| .ret) .skip) (.seq (sr yddu <| .block 0 (.loop (.seq (sr ydbo <| cn 18 .skip (.exit 0)) (.seq (.block 1 (sr ycyq <| .seq (sr ycxe <| cn 28 (sr ycws <| .ret) .skip) (sr ycri <| sr ycdm <| cn 34 (sr ycdb <| .ret) .skip))) (.reg false ycyk))))) (sr yccd <| .ret)))
theorem ydha:Fn 215 c215 [.t 4]:=fn_0 Tryz.func215
def yduj:LO:=[bx' 27 0 3 0,mc 0 6 0]
def ydtm:LO:=[fa' 1 1 3 9 0,ld' 1 9 10 1,mv' 1 11 0,ix' 1 10 11 12 7,ld' 1 12 13 15,ln' 13 14 31,mc 0 15 0]
def ydyz:LO:=[bn' .lss 15 14 16 0]
def ydot:LO:=[mv' 15 17 0,ix' 2 13 15 18 0,la' 2 18 19 2,o3 (.alloc 68 1 [.i .i64 0,.i .i64 0]) 8 0,mv' 17 7 15,sto 2 8 19 31]
def ydqk:LO:=[mv' 2 20 0,la' 2 8 21 0,o3 (.call (.tmp 20) [(.tmp 21)]) 22 3]
def ydzj:LO:=[mv' 7 23 0,mv' 23 6 1]
def ydow:LO:=[bc .add 15 1 24 0,mv' 24 15 1]
def ydxw:LO:=[mc (-1) 6 0]
def c70:SC:=(sr yduj <| .seq (sr ydtm <| .block 0 (.loop (sr ydyz <| .seq (cn 16 .skip (.exit 0)) (.seq (.block 1 (sr ydot <| sr ydqk <| cn 22 (sr ydzj <| .ret) .skip)) (.reg false ydow))))) (sr ydxw <| .ret))
theorem ydou:Fn 70 c70 [.t 6]:=fn_0 Tryz.func70
def yctn:LO:=[bx' 27 0 3 0,mc 0 6 0]
def yddo:LO:=[fa' 1 1 3 9 0,ld' 1 9 10 1,mv' 1 11 0,ix' 1 10 11 12 7,ld' 1 12 13 15,ln' 13 14 31,mc 0 15 0]
def ycyh:LO:=[bn' .lss 15 14 16 0]
def ycxo:LO:=[mv' 15 17 0,ix' 2 13 15 18 0,la' 2 18 19 2,o3 (.alloc 68 1 [.i .i64 0,.i .i64 0]) 8 0,mv' 17 7 15,sto 2 8 19 31]
def ycwb:LO:=[fa' 0 1 8 20 0,ld' 1 20 21 1,mv' 2 22 0,bn' .eql 21 22 23 7]
def ycwy:LO:=[mv' 7 24 0,mv' 24 6 1]
def ydbm:LO:=[bc .add 15 1 25 0,mv' 25 15 1]
def ycvz:LO:=[mc (-1) 6 0]
def c204:SC:=(sr yctn <| .seq (sr yddo <| .block 0 (.loop (sr ycyh <| .seq (cn 16 .skip (.exit 0)) (.seq (.block 1 (sr ycxo <| sr ycwb <| cn 23 (sr ycwy <| .ret) .skip)) (.reg false ydbm))))) (sr ycvz <| .ret))
theorem ydjd:Fn 204 c204 [.t 6]:=fn_0 Tryz.func204
def ycvv:LO:=[mc 0 2 0]
def ycyf:LO:=[mv' 0 3 0]
def ycuv:LO:=[mc 1 2 0]
def yczl:LO:=[mc 0 2 0]
def c240:SC:=(sr ycvv <| .seq (sr ycyf <| cn 3 (sr ycuv <| .ret) .skip) (sr yczl <| .ret))
theorem ydlr:Fn 240 c240 [.t 2]:=fn_0 Tryz.func240
def ycuu:LO:=[mc 0 2 0]
def ycrq:LO:=[mv' 0 3 0,o3 (.mm false (.tmp 3) (ci' 1073741824)) 4 1,o3 (.mm true (.const (.int .i64 (-1073741824))) (.tmp 4)) 5 3,mv' 5 2 7]
def c242:SC:=(sr ycuu <| sr ycrq <| .ret)
theorem ydmc:Fn 242 c242 [.t 2]:=fn_0 Tryz.func242
def yddr:LO:=[mc 0 4 0]
def ydak:LO:=[mv' 0 5 0,bc .eql 5 18 6 1]
def yctg:LO:=[mv' 1 7 0,o3 (.un .neg (.tmp 7)) 8 1,mv' 8 4 3]
def ycta:LO:=[mv' 1 9 0,bc .eql 9 0 10 1,cl' 240 [10] 11 3,mv' 11 4 7]
def c221:SC:=(sr yddr <| .seq (sr ydak <| cn 6 (sr yctg <| .ret) .skip) (sr ycta <| .ret))
theorem ydhb:Fn 221 c221 [.t 4]:=fn_0 Tryz.func221
def ycso:LO:=[mc 0 6 0]
def ycwe:LO:=[mv' 0 7 0]
def yddc:LO:=[bc .eql 7 30 9 0,mv' 9 8 1]
def yctj:LO:=[mv' 1 10 0,mv' 2 11 0,bn' .mul 10 11 12 3,cl' 242 [12] 13 7,mv' 13 6 15]
def ycvb:LO:=[bc .eql 7 31 15 0,mv' 15 14 1]
def ydfl:LO:=[mv' 1 16 0,mv' 2 17 0,cl' 243 [16,17] 18 3,cl' 242 [18] 19 7,mv' 19 6 15]
def yded:LO:=[bc .eql 7 32 21 0,mv' 21 20 1]
def ydfb:LO:=[mv' 2 22 0,bc .eql 22 0 23 1]
def ycru:LO:=[mc 0 6 0]
def yctp:LO:=[mv' 1 24 0,mv' 2 25 0,mv' 1 26 0,mv' 2 27 0,cl' 243 [26,27] 28 12,bn' .mul 25 28 29 30,bn' .sub 24 29 30 63,cl' 242 [30] 31 127,mv' 31 6 255]
def ycfp:LO:=[bc .eql 7 33 33 0,mv' 33 32 1]
def ycar:LO:=[mv' 1 34 0,mv' 2 35 0,bn' .add 34 35 36 3,cl' 242 [36] 37 7,mv' 37 6 15]
def ybza:LO:=[bc .eql 7 34 39 0,mv' 39 38 1]
def ybxe:LO:=[mv' 1 40 0,mv' 2 41 0,bn' .sub 40 41 42 3,cl' 242 [42] 43 7,mv' 43 6 15]
def ybyk:LO:=[bc .eql 7 41 45 0,mv' 45 44 1]
def ycbx:LO:=[mv' 1 46 0,bc .neq 46 0 47 1,mv' 47 48 3,gt (.mv (.tmp 2)) 49 48 7,gt (.bin .neq (.tmp 49) (ci' 0)) 50 48 15,o3 (.pick (.tmp 48) (.tmp 50) (.const (.bool false))) 51 31,cl' 240 [51] 52 63,mv' 52 6 127]
def ycix:LO:=[bc .eql 7 42 54 0,mv' 54 53 1]
def ybzl:LO:=[mv' 1 55 0,bc .neq 55 0 56 1,mv' 56 57 3,gf (.mv (.tmp 2)) 58 57 7,gf (.bin .neq (.tmp 58) (ci' 0)) 59 57 15,pk' 57 59 60 31,cl' 240 [60] 61 63,mv' 61 6 127]
def ycdc:LO:=[mv' 0 62 0,mv' 1 63 0,mv' 2 64 0,cl' 244 [62,63,64] 65 7,cl' 240 [65] 66 15,mv' 66 6 31]
def c223:SC:=(sr ycso <| .seq (sr ycwe <| .block 0 (sr yddc <| cn 8 (sr yctj <| .ret) (sr ycvb <| cn 14 (sr ydfl <| .ret) (sr yded <| cn 20 (.seq (sr ydfb <| cn 23 (sr ycru <| .ret) .skip) (sr yctp <| .ret)) (sr ycfp <| cn 32 (sr ycar <| .ret) (sr ybza <| cn 38 (sr ybxe <| .ret) (sr ybyk <| cn 44 (sr ycbx <| .ret) (sr ycix <| cn 53 (sr ybzl <| .ret) .skip)))))))) (sr ycdc <| .ret))
theorem ydlx:Fn 223 c223 [.t 6]:=fn_0 Tryz.func223
def yctv:LO:=[mc 0 4 0]
def ydam:LO:=[mv' 1 6 0,bc .eql 6 0 7 1]
def yddl:LO:=[mc 0 4 0]
def ycwr:LO:=[mv' 0 8 0,mv' 1 9 0,bn' .quo 8 9 10 3,mv' 10 5 7]
def ycrx:LO:=[mv' 0 11 0,mv' 1 12 0,bn' .rem 11 12 13 3,bc .neq 13 0 14 7,mv' 14 15 15,gt (.mv (.tmp 0)) 16 15 31,gt (.bin .lss (.tmp 16) (ci' 0)) 17 15 63,gt (.mv (.tmp 1)) 18 15 31,gt (.bin .lss (.tmp 18) (ci' 0)) 19 15 159,gt (.beq true (.tmp 17) (.tmp 19)) 20 15 511,o3 (.pick (.tmp 15) (.tmp 20) (.const (.bool false))) 21 1023]
def ycuw:LO:=[mv' 5 22 0,bc .sub 22 1 23 1,mv' 23 5 3]
def ycsj:LO:=[mv' 5 24 0,mv' 24 4 1]
def c243:SC:=(sr yctv <| .seq (sr ydam <| cn 7 (sr yddl <| .ret) .skip) (sr ycwr <| .seq (sr ycrx <| cn 21 (.reg false ycuw) .skip) (sr ycsj <| .ret)))
theorem ydlo:Fn 243 c243 [.t 4]:=fn_0 Tryz.func243
def ycro:LO:=[mb false 6 0]
def ydef:LO:=[mv' 0 7 0]
def ydbd:LO:=[bc .eql 7 35 9 0,mv' 9 8 1]
def yczi:LO:=[mv' 1 10 0,mv' 2 11 0,bn' .eql 10 11 12 3,mv' 12 6 7]
def ydcn:LO:=[bc .eql 7 36 14 0,mv' 14 13 1]
def ycwt:LO:=[mv' 1 15 0,mv' 2 16 0,bn' .neq 15 16 17 3,mv' 17 6 7]
def yddp:LO:=[bc .eql 7 37 19 0,mv' 19 18 1]
def ycsb:LO:=[mv' 1 20 0,mv' 2 21 0,bn' .lss 20 21 22 3,mv' 22 6 7]
def ycvu:LO:=[bc .eql 7 38 24 0,mv' 24 23 1]
def ycyx:LO:=[mv' 1 25 0,mv' 2 26 0,bn' .leq 25 26 27 3,mv' 27 6 7]
def yceu:LO:=[bc .eql 7 39 29 0,mv' 29 28 1]
def ycfi:LO:=[mv' 1 30 0,mv' 2 31 0,bn' .gtr 30 31 32 3,mv' 32 6 7]
def yccu:LO:=[mv' 1 33 0,mv' 2 34 0,bn' .geq 33 34 35 3,mv' 35 6 7]
def c244:SC:=(sr ycro <| .seq (sr ydef <| .block 0 (sr ydbd <| cn 8 (sr yczi <| .ret) (sr ydcn <| cn 13 (sr ycwt <| .ret) (sr yddp <| cn 18 (sr ycsb <| .ret) (sr ycvu <| cn 23 (sr ycyx <| .ret) (sr yceu <| cn 28 (sr ycfi <| .ret) .skip)))))) (sr yccu <| .ret))
theorem ydgb:Fn 244 c244 [.t 6]:=fn_0 Tryz.func244
def yddi:LO:=[mc 0 4 0]
def ycyv:LO:=[mv' 0 15 0]
def ycze:LO:=[bc .eql 15 20 17 0,mv' 17 16 1]
def ycur:LO:=[mv' 1 18 0,cl' 250 [18] 19 1,mv' 1 20 0,ln' 20 21 4,bn' .eql 19 21 22 15,cl' 240 [22] 23 31,mv' 23 4 63]
def ycue:LO:=[bc .eql 15 21 25 0,mv' 25 24 1]
def yddj:LO:=[mv' 1 26 0,cl' 250 [26] 27 1,bc .gtr 27 0 28 3,cl' 240 [28] 29 7,mv' 29 4 15]
def yczf:LO:=[bc .eql 15 22 31 0,mv' 31 30 1]
def ycss:LO:=[mv' 1 32 0,cl' 250 [32] 33 1,mv' 33 4 3]
def ydao:LO:=[bc .eql 15 23 35 0,mv' 35 34 1]
def ycxk:LO:=[mv' 1 36 0,o3 (.call (.func 251) [(.tmp 36),(.func 252)]) 37 1,mv' 37 4 3]
def ycgb:LO:=[bc .eql 15 24 39 0,mv' 39 38 1]
def ybzj:LO:=[mc 1073741824 5 0]
def yccf:LO:=[mv' 1 40 0,ln' 40 41 1,mc 0 42 0]
def ybyj:LO:=[bn' .lss 42 41 43 0]
def ybxy:LO:=[ix' 1 40 42 44 0,ld' 1 44 45 1,mv' 45 7 3]
def yces:LO:=[mv' 5 46 0,mv' 7 47 0,o3 (.mm false (.tmp 46) (.tmp 47)) 48 3,mv' 48 5 7]
def ycgj:LO:=[bc .add 42 1 49 0,mv' 49 42 1]
def ycir:LO:=[mv' 5 50 0,mv' 50 4 1]
def ychw:LO:=[bc .eql 15 25 52 0,mv' 52 51 1]
def ybxw:LO:=[mv' 1 54 0,cl' 253 [54] 55 1,mv' 55 53 3,xt' 53 0 56 7,xt' 53 1 57 7,mv' 56 8 15,mv' 57 9 63]
def ycka:LO:=[mv' 8 58 0,mv' 58 4 1]
def ycen:LO:=[bc .eql 15 26 60 0,mv' 60 59 1]
def ychy:LO:=[mc 0 10 0]
def yccw:LO:=[mv' 1 61 0,ln' 61 62 1,mc 0 63 0]
def ycbt:LO:=[bn' .lss 63 62 64 0]
def yciy:LO:=[ix' 1 61 63 65 0,ld' 1 65 66 1,mv' 66 12 3]
def ycaj:LO:=[mv' 10 67 0,mv' 12 68 0,bn' .add 67 68 69 3,mv' 69 10 7]
def ycfe:LO:=[bc .add 63 1 70 0,mv' 70 63 1]
def ycel:LO:=[mv' 10 71 0,cl' 242 [71] 72 1,mv' 72 4 3]
def ycjs:LO:=[bc .eql 15 27 74 0,mv' 74 73 1]
def ybyf:LO:=[mv' 1 75 0,cl' 254 [75] 76 1,mv' 76 4 3]
def ycda:LO:=[bc .eql 15 28 78 0,mv' 78 77 1]
def ybye:LO:=[mv' 1 80 0,cl' 253 [80] 81 1,mv' 81 79 3,xt' 79 0 82 7,xt' 79 1 83 7,mv' 82 13 15,mv' 83 14 63]
def ycja:LO:=[mv' 14 84 0,mv' 84 4 1]
def ycis:LO:=[mv' 1 85 0,ln' 85 86 1,bc .eql 86 0 87 3]
def ychs:LO:=[mc 0 4 0]
def ycev:LO:=[mv' 1 88 0,o3 (.idx 1 (.tmp 88) (ci' 0)) 89 1,ld' 1 89 90 3,mv' 90 4 7]
def c241:SC:=(sr yddi <| .seq (sr ycyv <| .block 0 (sr ycze <| cn 16 (sr ycur <| .ret) (sr ycue <| cn 24 (sr yddj <| .ret) (sr yczf <| cn 30 (sr ycss <| .ret) (sr ydao <| cn 34 (sr ycxk <| .ret) (sr ycgb <| cn 38 (sr ybzj <| .seq (sr yccf <| .block 1 (.loop (sr ybyj <| .seq (cn 43 .skip (.exit 1)) (.seq (.block 2 (sr ybxy <| .reg false yces)) (.reg false ycgj))))) (sr ycir <| .ret)) (sr ychw <| cn 51 (sr ybxw <| sr ycka <| .ret) (sr ycen <| cn 59 (sr ychy <| .seq (sr yccw <| .block 3 (.loop (sr ycbt <| .seq (cn 64 .skip (.exit 3)) (.seq (.block 4 (sr yciy <| .reg false ycaj)) (.reg false ycfe))))) (sr ycel <| .ret)) (sr ycjs <| cn 73 (sr ybyf <| .ret) (sr ycda <| cn 77 (sr ybye <| sr ycja <| .ret) .skip)))))))))) (.seq (sr ycis <| cn 87 (sr ychs <| .ret) .skip) (sr ycev <| .ret)))
theorem ydid:Fn 241 c241 [.t 4]:=fn_0 Tryz.func241
def ydfr:LO:=[mb false 2 0]
def ydch:LO:=[mv' 0 3 0,bc .neq 3 0 4 1,mv' 4 2 3]
def c252:SC:=(sr ydfr <| sr ydch <| .ret)
theorem ydle:Fn 252 c252 [.t 2]:=fn_0 Tryz.func252
def ycwj:LO:=[mc 0 2 0]
def yczk:LO:=[mc 0 3 0]
def ydcp:LO:=[mv' 0 6 0,ln' 6 7 1,mc 0 8 0]
def yczw:LO:=[bn' .lss 8 7 9 0]
def ycrs:LO:=[ix' 1 6 8 10 0,ld' 1 10 11 1,mv' 11 5 3]
def ydcx:LO:=[mv' 5 12 0,bc .neq 12 0 13 1]
def ycza:LO:=[mv' 3 14 0,bc .add 14 1 15 1,mv' 15 3 3]
def ycsv:LO:=[bc .add 8 1 16 0,mv' 16 8 1]
def ycvh:LO:=[mv' 3 17 0,mv' 17 2 1]
def c250:SC:=(sr ycwj <| sr yczk <| .seq (sr ydcp <| .block 0 (.loop (sr yczw <| .seq (cn 9 .skip (.exit 0)) (.seq (.block 1 (sr ycrs <| sr ydcx <| cn 13 (.reg false ycza) .skip)) (.reg false ycsv))))) (sr ycvh <| .ret))
theorem ydlt:Fn 250 c250 [.t 2]:=fn_0 Tryz.func250
def ycte:LO:=[mc 0 2 0,mc 0 3 1]
def ydav:LO:=[mc (-1073741824) 2 0,mc (-1073741824) 3 1]
def yddn:LO:=[mv' 0 6 0,ln' 6 7 1,mc 0 8 0]
def ycug:LO:=[bn' .lss 8 7 9 0]
def ydbq:LO:=[ix' 1 6 8 10 0,ld' 1 10 11 1,mv' 11 5 3]
def yczp:LO:=[mv' 5 12 0,mv' 2 13 0,bn' .gtr 12 13 14 3]
def ycun:LO:=[mv' 5 15 0,mv' 2 16 0,mv' 15 2 3,mv' 16 3 7]
def yczt:LO:=[mv' 3 17 0,mv' 5 18 0,o3 (.mm true (.tmp 17) (.tmp 18)) 19 3,mv' 19 3 7]
def yctl:LO:=[bc .add 8 1 20 0,mv' 20 8 1]
def ydcl:LO:=[mv' 2 21 0,mv' 3 22 0,mv' 21 2 1,mv' 22 3 7]
def c253:SC:=(sr ycte <| sr ydav <| .seq (sr yddn <| .block 0 (.loop (sr ycug <| .seq (cn 9 .skip (.exit 0)) (.seq (.block 1 (sr ydbq <| sr yczp <| cn 14 (.reg false ycun) (.reg false yczt))) (.reg false yctl))))) (sr ydcl <| .ret))
theorem ydnf:Fn 253 c253 [.t 2,.t 3]:=fn_0 Tryz.func253
def yddw:LO:=[mc 0 2 0]
def ydbr:LO:=[mc 0 3 0]
def yczg:LO:=[mv' 0 4 0,mv' 3 5 0,cl' 258 [4,5] 6 3]
def ycux:LO:=[mv' 3 7 0,bc .add 7 1 8 1,mv' 8 3 3]
def ydev:LO:=[mv' 3 9 0,mv' 9 2 1]
def c254:SC:=(sr yddw <| sr ydbr <| .seq (.block 0 (.loop (.seq (sr yczg <| cn 6 .skip (.exit 0)) (.block 1 (.reg false ycux))))) (sr ydev <| .ret))
theorem ydhs:Fn 254 c254 [.t 2]:=fn_0 Tryz.func254
def ydde:LO:=[bx' 32 0 2 0,bx' 27 1 3 0,o3 (.mv (.const (.pointer none))) 4 0]
def ydcc:LO:=[la' 3 2 10 0,la' 2 3 11 0,fa' 1 1 3 12 0,ld' 1 12 13 4,ln' 13 14 12,o3 (.mk 22 1 24 [.a (.slice none 0 0)] (.tmp 14) (.tmp 14)) 15 28,o3 (.build [.a (.string (ByteArray.mk #[])),.a (.slice none 0 0),.a (.slice none 0 0),.a (.slice none 0 0),.a (.slice none 0 0),.i .i64 0,.a (.slice none 0 0)] [(0,3,(.tmp 10)),(3,2,(.tmp 11)),(6,1,(.tmp 15))]) 16 63,bx' 235 16 17 127,mv' 17 5 255]
def ycvx:LO:=[fa' 1 1 3 18 0,ld' 1 18 19 1,ln' 19 20 3,mc 0 21 0]
def yder:LO:=[bn' .lss 21 20 22 0]
def ycwi:LO:=[mv' 21 23 0,ix' 1 19 21 24 0,ld' 1 24 25 2,mv' 23 6 7,mv' 25 7 15]
def ydab:LO:=[mv' 5 26 0,mv' 5 27 0,nk' 27 28 2,fa' 5 1 28 29 6,ld' 1 29 30 14,fa' 0 1 3 31 0,ld' 1 31 32 32,mv' 6 33 0,ix' 1 32 33 34 224,ld' 1 34 35 480,o3 (.mm true (.tmp 30) (.tmp 35)) 36 1022,nk' 26 37 2047,fa' 5 1 37 38 4095,sto 1 38 36 8191]
def ycrb:LO:=[mv' 7 39 0,ln' 39 40 1,mc 0 41 0]
def ycrf:LO:=[bn' .lss 41 40 42 0]
def ycsu:LO:=[ix' 2 39 41 43 0,la' 2 43 44 1,o3 (.alloc 68 1 [.i .i64 0,.i .i64 0]) 9 0,sto 2 9 44 7]
def ycyt:LO:=[mv' 5 45 0,nk' 45 46 1,fa' 6 1 46 47 3,ld' 1 47 48 7,mv' 6 49 0,mv' 5 50 0,nk' 50 51 32,fa' 6 1 51 52 96,ld' 1 52 53 224,mv' 6 54 0,ix' 1 53 54 55 992,ld' 1 55 56 2016,la' 2 3 57 0,fa' 0 1 9 58 0,ld' 1 58 59 8192,mv' 6 60 0,cl' 204 [57,59,60] 61 61440,o3 (.bslice 3 1 1 [.i .i64 0] [(0,1,(.tmp 61))]) 62 126976,o3 (.app 3 1 8 (.tmp 56) (.tmp 62)) 63 262112,ix' 1 48 49 64 524287,sto 1 64 63 1048575]
def ybyz:LO:=[bc .add 41 1 65 0,mv' 65 41 1]
def ybyl:LO:=[bc .add 21 1 66 0,mv' 66 21 1]
def ybym:LO:=[mv' 5 67 0,mv' 67 4 1]
def c167:SC:=(sr ydde <| .seq (.reg true ydcc) (.seq (sr ycvx <| .block 0 (.loop (sr yder <| .seq (cn 22 .skip (.exit 0)) (.seq (.block 1 (sr ycwi <| .seq (.reg true ydab) (sr ycrb <| .block 2 (.loop (sr ycrf <| .seq (cn 42 .skip (.exit 2)) (.seq (.block 3 (sr ycsu <| .reg true ycyt)) (.reg false ybyz))))))) (.reg false ybyl))))) (sr ybym <| .ret)))
theorem ydlj:Fn 167 c167 [.t 4]:=fn_0 Tryz.func167
def ydcu:LO:=[mc 0 8 0]
def ycye:LO:=[mv' 1 10 0]
def ycsz:LO:=[bc .eql 10 6 12 0,mv' 12 11 1]
def ydda:LO:=[mv' 0 13 0,nk' 13 14 1,fa' 3 2 14 15 3,fa' 0 1 15 16 7,ld' 1 16 17 15,ln' 17 18 31,mv' 18 8 63]
def ydaq:LO:=[bc .eql 10 7 20 0,mv' 20 19 1]
def ydba:LO:=[mv' 0 21 0,nk' 21 22 1,fa' 5 1 22 23 3,ld' 1 23 24 7,mv' 24 8 15]
def ycxr:LO:=[bc .eql 10 8 26 0,mv' 26 25 1]
def ycst:LO:=[mv' 0 27 0,nk' 27 28 1,fa' 3 2 28 29 3,fa' 0 1 29 30 7,ld' 1 30 31 15,mv' 2 32 0,ix' 1 31 32 33 63,ld' 1 33 34 127,mv' 34 8 255]
def ydbu:LO:=[bc .eql 10 9 36 0,mv' 36 35 1]
def ycyd:LO:=[mv' 0 37 0,nk' 37 38 1,fa' 3 2 38 39 3,fa' 1 1 39 40 7,ld' 1 40 41 15,mv' 2 42 0,ix' 1 41 42 43 63,ld' 1 43 44 127,ln' 44 45 255,mv' 45 8 511]
def ybww:LO:=[bc .eql 10 10 47 0,mv' 47 46 1]
def ybzc:LO:=[mv' 2 48 0,bc .eql 48 0 49 1,cl' 240 [49] 50 3,mv' 50 8 7]
def ychf:LO:=[bc .eql 10 11 52 0,mv' 52 51 1]
def ycgt:LO:=[mv' 3 53 0,mv' 53 8 1]
def ycgf:LO:=[mv' 0 54 0,nk' 54 55 1,fa' 3 2 55 56 3,fa' 1 1 56 57 7,ld' 1 57 58 15,mv' 2 59 0,ix' 1 58 59 60 63,ld' 1 60 61 127,mv' 3 62 0,ix' 2 61 62 63 511,la' 2 63 64 1023,o3 (.alloc 68 1 [.i .i64 0,.i .i64 0]) 9 0,sto 2 9 64 4095]
def ycga:LO:=[mv' 1 65 0]
def ycac:LO:=[bc .eql 65 13 67 0,mv' 67 66 1]
def ycgq:LO:=[mv' 0 68 0,nk' 68 69 1,fa' 3 2 69 70 3,fa' 0 1 70 71 7,ld' 1 71 72 15,fa' 0 1 9 73 0,ld' 1 73 74 32,ix' 1 72 74 75 127,ld' 1 75 76 255,mv' 76 8 511]
def ycer:LO:=[bc .eql 65 14 78 0,mv' 78 77 1]
def ycjj:LO:=[mv' 0 79 0,nk' 79 80 1,fa' 3 2 80 81 3,fa' 1 1 81 82 7,ld' 1 82 83 15,fa' 0 1 9 84 0,ld' 1 84 85 32,ix' 1 83 85 86 127,ld' 1 86 87 255,ln' 87 88 511,mv' 88 8 1023]
def ycff:LO:=[bc .eql 65 15 90 0,mv' 90 89 1]
def ycap:LO:=[fa' 0 1 9 91 0,ld' 1 91 92 1,bc .eql 92 0 93 3,cl' 240 [93] 94 7,mv' 94 8 15]
def ycdq:LO:=[bc .eql 65 16 96 0,mv' 96 95 1]
def yccq:LO:=[fa' 1 1 9 97 0,ld' 1 97 98 1,mv' 98 8 3]
def ycfd:LO:=[mv' 0 99 0,nk' 99 100 1,fa' 6 1 100 101 3,ld' 1 101 102 7,mv' 2 103 0,ix' 1 102 103 104 31,ld' 1 104 105 63,mv' 3 106 0,ix' 1 105 106 107 255,ld' 1 107 108 511,mv' 108 8 1023]
def c239:SC:=(sr ydcu <| .seq (sr ycye <| .block 0 (sr ycsz <| cn 11 (sr ydda <| .ret) (sr ydaq <| cn 19 (sr ydba <| .ret) (sr ycxr <| cn 25 (sr ycst <| .ret) (sr ydbu <| cn 35 (sr ycyd <| .ret) (sr ybww <| cn 46 (sr ybzc <| .ret) (sr ychf <| cn 51 (sr ycgt <| .ret) .skip))))))) (sr ycgf <| .seq (sr ycga <| .block 1 (sr ycac <| cn 66 (.seq (.reg true ycgq) .ret) (sr ycer <| cn 77 (.seq (.reg true ycjj) .ret) (sr ycff <| cn 89 (sr ycap <| .ret) (sr ycdq <| cn 95 (sr yccq <| .ret) .skip))))) (sr ycfd <| .ret)))
theorem ydie:Fn 239 c239 [.t 8]:=fn_0 Tryz.func239
def ycxg:LO:=[mc 0 8 0]
def yczu:LO:=[mv' 0 12 0,mv' 1 13 0,mv' 2 14 0,mv' 3 15 0,o3 (.build [.a (.pointer none),.a (.slice none 0 0),.i .i64 0,.a (.slice none 0 0)] [(0,1,(.tmp 12)),(1,1,(.tmp 13)),(2,1,(.tmp 14)),(3,1,(.tmp 15))]) 16 15,o3 (.alloc 237 1 [.a (.pointer none),.a (.slice none 0 0),.i .i64 0,.a (.slice none 0 0)]) 9 0,sto 4 9 16 63]
def yczd:LO:=[o3 (.call (.func 205) [(.tmp 9),(ci' 0),(.const (.int .i64 (-1)))]) 18 0,mv' 18 17 1,xt' 17 0 19 3,xt' 17 1 20 3,mv' 19 10 7,mv' 20 11 31]
def ydco:LO:=[mv' 10 21 0,mv' 21 8 1]
def c169:SC:=(sr ycxg <| sr yczu <| sr yczd <| sr ydco <| .ret)
theorem ydgl:Fn 169 c169 [.t 8]:=fn_0 Tryz.func169
def ycvo:LO:=[mb false 8 0]
def ydcb:LO:=[mv' 0 9 0,mv' 1 10 0,mv' 2 11 0,mv' 0 12 0,nk' 12 13 8,fa' 0 3 13 14 24,fa' 2 1 14 15 56,ld' 1 15 16 120,mv' 3 17 0,ix' 3 16 17 18 504,fa' 1 1 18 19 1016,ld' 1 19 20 2040,cl' 169 [9,10,11,20] 21 4095,bc .neq 21 0 22 8191,mv' 22 8 16383]
def c168:SC:=(sr ycvo <| sr ydcb <| .ret)
theorem ydmp:Fn 168 c168 [.t 8]:=fn_0 Tryz.func168
def ybas:LO:=[mc 0 6 0,mc 0 7 1]
def ybaa:LO:=[mv' 0 18 0,nk' 18 19 1,fa' 3 1 19 20 3,ld' 1 20 21 7,mv' 1 22 0,ix' 2 21 22 23 31,la' 2 23 24 63,o3 (.alloc 251 1 [.i .i64 0,.i .i64 0]) 8 0,sto 2 8 24 255]
def yzp:LO:=[fa' 0 1 8 26 0,ld' 1 26 27 1,bc .leq 27 17 28 3,mv' 28 25 7]
def yban:LO:=[mv' 0 29 0,la' 2 8 30 0,mv' 2 31 0,cl' 220 [29,30,31] 32 7,mv' 1 33 0,bc .add 33 1 34 16,mv' 32 6 15,mv' 34 7 127]
def ybbc:LO:=[fa' 0 1 8 36 0,ld' 1 36 37 1,bc .leq 37 19 38 3,mv' 38 35 7]
def ybai:LO:=[mv' 0 40 0,mv' 1 41 0,bc .add 41 1 42 2,mv' 2 43 0,cl' 205 [40,42,43] 44 15,mv' 44 39 31,xt' 39 0 45 63,xt' 39 1 46 63,mv' 45 6 127,mv' 46 7 511]
def ybbs:LO:=[fa' 0 1 8 47 0,ld' 1 47 48 1,mv' 6 49 0,cl' 221 [48,49] 50 7,mv' 7 51 0,mv' 50 6 15,mv' 51 7 63]
def yzq:LO:=[fa' 0 1 8 53 0,ld' 1 53 54 1,bc .leq 54 29 55 3,mv' 55 52 7]
def yzw:LO:=[mv' 0 56 0,fa' 0 1 8 57 0,ld' 1 57 58 2,mv' 1 59 0,cl' 222 [56,58,59] 60 15,xt' 60 0 61 31,xt' 60 1 62 31,mv' 61 6 127,mv' 62 7 255]
def yzu:LO:=[fa' 0 1 8 64 0,ld' 1 64 65 1,bc .leq 65 42 66 3,mv' 66 63 7]
def yrp:LO:=[mv' 0 68 0,mv' 1 69 0,bc .add 69 1 70 2,mv' 2 71 0,cl' 205 [68,70,71] 72 15,mv' 72 67 31,xt' 67 0 73 63,xt' 67 1 74 63,mv' 73 9 127,mv' 74 10 511]
def ysw:LO:=[mv' 0 76 0,mv' 10 77 0,mv' 2 78 0,cl' 205 [76,77,78] 79 7,mv' 79 75 15,xt' 75 0 80 31,xt' 75 1 81 31,mv' 80 11 63,mv' 81 12 255]
def ysc:LO:=[fa' 0 1 8 82 0,ld' 1 82 83 1,mv' 9 84 0,mv' 11 85 0,cl' 223 [83,84,85] 86 15,mv' 12 87 0,mv' 86 6 31,mv' 87 7 127]
def yrz:LO:=[mv' 0 89 0,mv' 1 90 0,bc .add 90 1 91 2,mv' 2 92 0,cl' 205 [89,91,92] 93 15,mv' 93 88 31,xt' 88 0 94 63,xt' 88 1 95 63,mv' 94 13 127,mv' 95 14 511]
def ytc:LO:=[mv' 0 97 0,mv' 14 98 0,mv' 2 99 0,cl' 205 [97,98,99] 100 7,mv' 100 96 15,xt' 96 0 101 31,xt' 96 1 102 31,mv' 101 15 63,mv' 102 16 255]
def ytb:LO:=[mv' 0 104 0,mv' 16 105 0,mv' 2 106 0,cl' 205 [104,105,106] 107 7,mv' 107 103 15,xt' 103 0 108 31,xt' 103 1 109 31,mv' 108 17 63,mv' 109 7 255]
def yss:LO:=[mv' 13 110 0,bc .neq 110 0 111 1]
def ysj:LO:=[mv' 15 112 0,mv' 7 113 0,mv' 112 6 1,mv' 113 7 7]
def yry:LO:=[mv' 17 114 0,mv' 7 115 0,mv' 114 6 1,mv' 115 7 7]
def c205:SC:=(sr ybas <| sr ybaa <| .seq (.block 0 (sr yzp <| cn 25 (sr yban <| .ret) (sr ybbc <| cn 35 (sr ybai <| sr ybbs <| .ret) (sr yzq <| cn 52 (sr yzw <| .ret) (sr yzu <| cn 63 (sr yrp <| sr ysw <| sr ysc <| .ret) .skip))))) (sr yrz <| sr ytc <| sr ytb <| .seq (sr yss <| cn 111 (sr ysj <| .ret) .skip) (sr yry <| .ret)))
theorem ywc:Fn 205 c205 [.t 6,.t 7]:=fn_0 Tryz.func205
def ycvy:LO:=[bx' 251 1 4 0,mc 0 6 0]
def ycwv:LO:=[fa' 0 1 4 7 0,ld' 1 7 8 1]
def ycvt:LO:=[bc .eql 8 1 10 0,mv' 10 9 1]
def ycut:LO:=[fa' 1 1 4 11 0,ld' 1 11 12 1,mv' 12 6 3]
def ycxc:LO:=[bc .eql 8 2 14 0,mv' 14 13 1]
def ydee:LO:=[mc 1 6 0]
def ydcf:LO:=[bc .eql 8 3 16 0,mv' 16 15 1]
def yddd:LO:=[mc 0 6 0]
def ycsi:LO:=[bc .eql 8 4 18 0,mv' 18 17 1]
def yddy:LO:=[mc (-1) 6 0]
def ycaq:LO:=[bc .eql 8 5 20 0,mv' 20 19 1]
def ycfb:LO:=[mv' 0 21 0,nk' 21 22 1,fa' 1 1 22 23 3,ld' 1 23 24 7,mv' 0 25 0,nk' 25 26 16,fa' 2 1 26 27 48,ld' 1 27 28 112,ix' 1 24 28 29 255,ld' 1 29 30 511,fa' 1 1 4 31 0,ld' 1 31 32 1024,ix' 1 30 32 33 4095,ld' 1 33 34 8191,mv' 34 6 16383]
def yciw:LO:=[bc .eql 8 12 36 0,mv' 36 35 1]
def ycbe:LO:=[mv' 0 37 0,nk' 37 38 1,fa' 1 1 38 39 3,ld' 1 39 40 7,mv' 0 41 0,nk' 41 42 16,fa' 0 1 42 43 48,ld' 1 43 44 112,nk' 44 45 240,fa' 3 2 45 46 496,fa' 1 1 46 47 1008,ld' 1 47 48 2032,mv' 0 49 0,nk' 49 50 4096,fa' 2 1 50 51 12288,ld' 1 51 52 28672,ix' 1 48 52 53 65520,ld' 1 53 54 131056,mv' 2 55 0,ix' 2 54 55 56 524272,fa' 0 1 56 57 1048560,ld' 1 57 58 2097136,ix' 1 40 58 59 4194303,ld' 1 59 60 8388607,fa' 1 1 4 61 0,ld' 1 61 62 16777216,ix' 1 60 62 63 67108863,ld' 1 63 64 134217727,mv' 64 6 268435455]
def ybzd:LO:=[mv' 0 65 0,nk' 65 66 1,fa' 0 1 66 67 3,ld' 1 67 68 7,fa' 0 1 4 69 0,ld' 1 69 70 16,mv' 0 71 0,nk' 71 72 64,fa' 2 1 72 73 192,ld' 1 73 74 448,mv' 2 75 0,cl' 239 [68,70,74,75] 76 2047,mv' 76 6 4095]
def c220:SC:=(sr ycvy <| .seq (sr ycwv <| .block 0 (sr ycvt <| cn 9 (sr ycut <| .ret) (sr ycxc <| cn 13 (sr ydee <| .ret) (sr ydcf <| cn 15 (sr yddd <| .ret) (sr ycsi <| cn 17 (sr yddy <| .ret) (sr ycaq <| cn 19 (.seq (.reg true ycfb) .ret) (sr yciw <| cn 35 (.seq (.reg true ycbe) .ret) .skip))))))) (.seq (.reg true ybzd) .ret))
theorem ydjh:Fn 220 c220 [.t 6]:=fn_0 Tryz.func220
def yddt:LO:=[mc 0 6 0,mc 0 7 1]
def ydeu:LO:=[o3 (.alloc 150 24 [.i .i64 0]) 8 0]
def ydcr:LO:=[mv' 0 11 0,nk' 11 12 1,fa' 0 1 12 13 3,ld' 1 13 14 7,nk' 14 15 15,fa' 3 2 15 16 31,fa' 1 1 16 17 63,ld' 1 17 18 127,mv' 0 19 0,nk' 19 20 256,fa' 2 1 20 21 768,ld' 1 21 22 1792,ix' 1 18 22 23 4095,ld' 1 23 24 8191,ln' 24 25 16383,mv' 25 9 32767]
def ydae:LO:=[mv' 9 26 0,mc 0 27 0]
def ydbs:LO:=[bn' .lss 27 26 28 0]
def ycub:LO:=[mv' 27 29 0,mv' 29 10 1]
def ycwa:LO:=[mv' 10 31 0,mv' 0 32 0,mv' 2 33 0,bc .add 33 1 34 4,mv' 10 35 0,cl' 205 [32,34,35] 36 30,mv' 36 30 62,xt' 30 0 37 126,xt' 30 1 38 126,o3 (.idxA 24 1 (.tmp 8) (.tmp 31)) 39 255,sto 1 39 37 767,mv' 38 7 2047]
def ycww:LO:=[bc .add 27 1 40 0,mv' 40 27 1]
def yctt:LO:=[mv' 9 41 0,bc .eql 41 0 42 1]
def ydas:LO:=[mv' 0 43 0,nk' 43 44 1,fa' 3 1 44 45 3,ld' 1 45 46 7,mv' 2 47 0,cl' 215 [46,47] 48 31,mv' 48 7 63]
def ycfg:LO:=[mv' 1 49 0,mv' 9 50 0,o3 (.cutA 24 1 (.tmp 8) none (some (.tmp 50))) 51 2,cl' 241 [49,51] 52 7,mv' 7 53 0,mv' 52 6 15,mv' 53 7 63]
def c222:SC:=(sr yddt <| sr ydeu <| .seq (.reg true ydcr) (.seq (sr ydae <| .block 0 (.loop (sr ydbs <| .seq (cn 28 .skip (.exit 0)) (.seq (.block 1 (sr ycub <| .reg false ycwa)) (.reg false ycww))))) (.seq (sr yctt <| cn 42 (.reg false ydas) .skip) (sr ycfg <| .ret))))
theorem ydno:Fn 222 c222 [.t 6,.t 7]:=fn_0 Tryz.func222
end Sh
end
section
def adj(g:Gr)(u v:Nat):Prop:=∃a,g.ports[u]?=some a/\∃l∈a,l.1=(v:Int)
def Walk(g:Gr)(a:Nat):Nat->Nat->Prop
 |0,v=>v=a
 |k+1,v=>∃u,Walk g a k u/\adj g u v
def ybcl(g:Gr)(a v:Nat)(x:Int):Prop:=(x = -1/\∀k,¬Walk g a k v)\/∃k:Nat,x=k/\Walk g a k v/\∀j,j<k->¬Walk g a j v
def ywl(g:Gr)(a:Nat)(D:List Int):Prop:=D.length=g.ports.length/\∀v x,D[v]?=some x->ybcl g a v x
theorem ybcl.unique{g:Gr}{a v:Nat}{x y:Int}(h:ybcl g a v x)(h':ybcl g a v y):x=y:=by
 rcases h with⟨rfl,b⟩|⟨k,rfl,b,d⟩<;>rcases h' with⟨rfl,c⟩|⟨j,rfl,c,e⟩
 .rfl
 .exact absurd c (b j)
 .exact absurd b (c k)
 .rcases zAZ k j with h|h|h
  .exact absurd b (e k h)
  .rw[h]
  .exact absurd c (d j h)
theorem ywl.unique{g:Gr}{a:Nat}{D b:List Int}(h:ywl g a D)(h':ywl g a b):D=b:=by
 apply List.ext_getElem (by rw[h.1,h'.1])
 intro i c d;exact(h.2 i _ (zI c)).unique (h'.2 i _ (zI d))
theorem ybh.link{g:Gr}(h:ybh g){v:Nat}{ls:List (Int×Int)}(c:g.ports[v]?=some ls){l:Int×Int}(b:l∈ls):0<=l.1/\l.1<g.ports.length/\l.1≠v/\1<=l.2/\l.2<=15:=by
 obtain⟨a,e⟩:=List.getElem?_eq_some_iff.1 c;have:=(h.2.2.2.2.2.1 ⟨v,a⟩).1 l (by simp only[Fin.getElem_fin,e];exact b)
 unfold yqt at this;simp only at this;omega
theorem ybh.adj_lt{g:Gr}(h:ybh g){u v:Nat}(b:adj g u v):u<g.ports.length/\v<g.ports.length:=by
 obtain⟨d,a,l,c,e⟩:=b;have:=h.link a c;exact⟨(List.getElem?_eq_some_iff.1 a).1,by omega⟩
theorem ybh.adj_symm{g:Gr}(h:ybh g){u v:Nat}(b:adj g u v):adj g v u:=by
 obtain⟨j,c⟩:=h.adj_lt b;obtain⟨k,f,l,i,e⟩:=b;obtain⟨a,d⟩:=List.getElem?_eq_some_iff.1 f;have:=h.2.2.2.2.2.2 ⟨u,a⟩ l (by simp only[Fin.getElem_fin,d];exact i)
 rw[e,zV]at this;simp only[zM,zI c,Option.getD_some]at this;exact⟨_,zI c,_,this,rfl⟩
structure BfsInv(g:Gr)(a:Nat)(R:List Int)(Q:List Nat):Prop where
 len:R.length=g.ports.length
 src:R[a]?=some 0
 val:∀(v:Nat) (x:Int),R[v]?=some x->x = -1\/∃k:Nat,x=k/\Walk g a k v/\∀j,j<k->¬Walk g a j v
 qin:∀q∈Q,∃k:Nat,R[q]?=some (k:Int)
 sorted:Q.Pairwise (fun p q=>∀x y,R[p]?=some x->R[q]?=some y->x<=y/\y<=x+1)
 done:∀(v k:Nat),R[v]?=some (k:Int)->v∉Q->∀u,adj g v u->∃j:Nat,R[u]?=some (j:Int)
structure BfsIn(g:Gr)(a v d:Nat)(ls:List (Int×Int))(i:Nat)(R:List Int)(Q:List Nat):Prop where
 len:R.length=g.ports.length
 src:R[a]?=some 0
 val:∀(v:Nat) (x:Int),R[v]?=some x->x = -1\/∃k:Nat,x=k/\Walk g a k v/\∀j,j<k->¬Walk g a j v
 qin:∀q∈Q,∃k:Nat,R[q]?=some (k:Int)
 sorted:Q.Pairwise (fun p q=>∀x y,R[p]?=some x->R[q]?=some y->x<=y/\y<=x+1)
 rv:R[v]?=some (d:Int)
 low:∀q∈Q,∀y,R[q]?=some y->(d:Int)<=y/\y<=d+1
 done:∀(u k:Nat),R[u]?=some (k:Int)->u∉Q->u≠v->∀t,adj g u t->∃j:Nat,R[t]?=some (j:Int)
 part:∀l∈ls.take i,∃j:Nat,R[l.1.toNat]?=some (j:Int)
theorem BfsInv.start{g:Gr}{a:Nat}(ha:a<g.ports.length):BfsInv g a ((zBL g.ports.length (-1)).set a 0) [a] where
 len:=by simp
 src:=by simp[ha]
 val := by
  intro v x h;rw[zO]at h;split at h
  .rename_i e
   subst e;simp[ha]at h;subst h;exact .inr ⟨0,rfl,rfl,fun j hj=>absurd hj (by omega)⟩
  .rw[zAG]at h;split at h
   .cases h;exact .inl rfl
   .cases h
 qin:=by
  intro q hq;obtain rfl:q=a:=by simpa using hq
  exact⟨0,by simp[ha]⟩
 sorted:=by simp
 done:=by
  intro v k h hv u _;rw[zO]at h;split at h
  .rename_i e
   exact absurd (by simp[e]) hv
  .rw[zAG]at h;split at h
   .cases h
   .cases h
theorem BfsInv.pop{g:Gr}{a:Nat}{R:List Int}{v:Nat}{Q:List Nat}(h:BfsInv g a R (v::Q)){d:Nat}(hd:R[v]?=some (d:Int))(ls:List (Int×Int)):BfsIn g a v d ls 0 R Q where
 len:=h.len
 src:=h.src
 val:=h.val
 qin:=fun q hq=>h.qin q (zAB _ hq)
 sorted:=(List.pairwise_cons.1 h.sorted).2
 rv:=hd
 low:=fun q hq y hy=>(List.pairwise_cons.1 h.sorted).1 q hq _ y hd hy
 done:=fun u k hu hq hv t ht=>h.done u k hu (by simp[hq,hv]) t ht
 part:=by simp
theorem BfsIn.finish{g:Gr}{a v d:Nat}{ls:List (Int×Int)}{R:List Int}{Q:List Nat}(h:BfsIn g a v d ls ls.length R Q)(hls:g.ports[v]?=some ls):BfsInv g a R Q where
 len:=h.len
 src:=h.src
 val:=h.val
 qin:=h.qin
 sorted:=h.sorted
 done:=by
  intro u k hu hq t ht
  by_cases e:u=v
  .subst e;obtain⟨ls',h1,l,hl,e2⟩:=ht;rw[hls]at h1;cases h1
   have:=h.part l (by rw[zAC];exact hl)
   rwa [e2,zV]at this
  .exact h.done u k hu hq e t ht
theorem BfsIn.skip{g:Gr}{a v d:Nat}{ls:List (Int×Int)}{i:Nat}{R:List Int}{Q:List Nat}(h:BfsIn g a v d ls i R Q)(c:i<ls.length){j:Nat}(e:R[ls[i].1.toNat]?=some (j:Int)):BfsIn g a v d ls (i+1) R Q :=
 ⟨h.len,h.src,h.val,h.qin,h.sorted,h.rv,h.low,h.done,by
   intro l b;rw[take_snoc ls i c]at b;rcases List.mem_append.1 b with b|b
   .exact h.part l b
   .obtain rfl:l=ls[i]:=by simpa using b
    exact⟨j,e⟩⟩
theorem BfsIn.found{g:Gr}{a v d:Nat}{ls:List (Int×Int)}{i:Nat}{R:List Int}{Q:List Nat}(h:BfsIn g a v d ls i R Q) :
 ∀k,k<=d->∀t,Walk g a k t->∃j:Nat,R[t]?=some (j:Int):=by
 intro k
 induction k with
 |zero=>intro _ t q;obtain rfl:t=a:=q;exact⟨0,h.src⟩
 | succ k r =>
   intro hk t ⟨p,hp,hpt⟩;obtain⟨j,c⟩:=r (by omega) p hp
   have n:j<=k:=by
    rcases h.val p _ c with e|⟨s,e,_,b⟩
    .omega
    .have:j=s:=by omega
     subst this;rcases zBR k j with l|f
     .exact absurd hp (b k l)
     .exact f
   refine h.done p j c ?_ ?_ t hpt
   .intro o;have:=(h.low p o _ c).1;omega
   .rintro rfl;have m:=h.rv;rw[c]at m;have u:=Option.some.inj m;omega
theorem BfsIn.discover{g:Gr}{a v d:Nat}{ls:List (Int×Int)}{i:Nat}{R:List Int}{Q:List Nat}(h:BfsIn g a v d ls i R Q)(D:g.ports[v]?=some ls)(I:i<ls.length){u:Nat}(J:ls[i].1=(u:Int))(H:R[u]?=some (-1)) :
 BfsIn g a v d ls (i+1) (R.set u ((d:Int)+1)) (Q++[u]):=by
 have G:u<R.length:=(List.getElem?_eq_some_iff.1 H).1
 have f:∀t (k:Nat),R[t]?=some (k:Int)->t≠u:=by
  rintro t k z rfl;rw[H]at z;have:=Option.some.inj z;omega
 have b:∀t,t≠u->(R.set u ((d:Int)+1))[t]?=R[t]?:=fun t z=>by rw[zO,if_neg (by omega)]
 have m:(R.set u ((d:Int)+1))[u]?=some ((d:Int)+1):=by rw[zO,if_pos rfl,if_pos G]
 have keep:∀t:Nat,(∃j:Nat,R[t]?=some (j:Int))->∃j:Nat,(R.set u ((d:Int)+1))[t]?=some (j:Int):=by
  rintro t ⟨j,C⟩;exact⟨j,by rw[b t (f t j C)];exact C⟩
 have A:adj g v u:=⟨ls,D,ls[i],zJ I,J⟩
 have r:u∉Q:=fun c=>by
  obtain⟨k,hk⟩:=h.qin u c;exact f u k hk rfl
 refine⟨by simp[h.len],?_,?_,?_,?_,?_,?_,?_,?_⟩
 .rw[b a (f a 0 h.src)];exact h.src
 .intro t x n
  by_cases e:t=u
  .subst e;rw[m]at n;cases n
   refine .inr ⟨d+1,by omega,?_,?_⟩
   .rcases h.val v _ h.rv with e|⟨k,e,hk,_⟩
    .omega
    .have:d=k:=by omega
     subst this;exact⟨v,hk,A⟩
   .intro j C N;obtain⟨k,hk⟩:=h.found j (by omega) t N
    exact f t k hk rfl
  .rw[b t e]at n;exact h.val t x n
 .intro q c;rcases List.mem_append.1 c with c|c
  .exact keep q (h.qin q c)
  .obtain rfl:q=u:=by simpa using c
   exact⟨d+1,by rw[m];rfl⟩
 .rw[List.pairwise_append];refine⟨?_,by simp,?_⟩
  .refine(List.Pairwise.and_mem.1 h.sorted).imp ?_;rintro p q ⟨B,c,E⟩ x y n o;rw[b p (fun e=>r (e▸B))]at n;rw[b q (fun e=>r (e▸c))]at o;exact E x y n o
  .intro p B q c x y n o;obtain rfl:q=u:=by simpa using c
   rw[b p (fun e=>r (e▸B))]at n;rw[m]at o;cases o
   have:=h.low p B x n;omega
 .rw[b v (f v d h.rv)];exact h.rv
 .intro q c y o;rcases List.mem_append.1 c with c|c
  .rw[b q (fun e=>r (e▸c))]at o;exact h.low q c y o
  .obtain rfl:q=u:=by simpa using c
   rw[m]at o;cases o
   omega
 .intro t k z c M s L;have F:t≠u:=fun e=>c (by simp[e])
  rw[b t F]at z;exact keep s (h.done t k z (fun K=>c (List.mem_append_left _ K)) M s L)
 .intro l w;rw[take_snoc ls i I]at w;rcases List.mem_append.1 w with w|w
  .exact keep _ (h.part l w)
  .obtain rfl:l=ls[i]:=by simpa using w
   rw[J,zV];exact⟨d+1,by rw[m];rfl⟩
theorem BfsInv.isDist{g:Gr}{a:Nat}{R:List Int}(h:BfsInv g a R []):ywl g a R:=by
 have found:∀k t,Walk g a k t->∃j:Nat,R[t]?=some (j:Int):=by
  intro k
  induction k with
  |zero=>intro t e;obtain rfl:t=a:=e;exact⟨0,h.src⟩
  | succ k f =>
    intro t ⟨p,hp,hpt⟩;obtain⟨j,b⟩:=f p hp;exact h.done p j b (by simp) t hpt
 refine⟨h.len,fun v x c=>?_⟩;rcases h.val v x c with rfl|d
 .refine .inl ⟨rfl,fun k hk=>?_⟩;obtain⟨j,b⟩:=found k v hk;rw[c]at b;have:=Option.some.inj b;omega
 .exact .inr d
def yku(R:List Int):Nat:=R.countP (fun x=>decide (x<0))
theorem ybmp{R:List Int}{u:Nat}{x:Int}(f:R[u]?=some (-1))(g:0<=x):yku (R.set u x)+1=yku R:=by
 obtain⟨a,e⟩:=List.getElem?_eq_some_iff.1 f;have c:R=R.take u++R[u]::R.drop (u+1):=by rw[List.getElem_cons_drop,List.take_append_drop]
 have d:R.set u x=R.take u++x::R.drop (u+1):=by rw[List.set_eq_take_append_cons_drop,if_pos a]
 have b:decide (x<0)=false:=by simp;omega
 unfold yku;rw[d]
 conv=>rhs;rw[c]
 rw[zAY,zAY,zBC,zBC,e,b];simp;omega
end
section
def yckx(R:List Int)(x:Int)(ls:List (Int×Int)):Bool:=ls.any (fun l=>decide (R[l.1.toNat]?=some x))
def ycnk(g:Gr)(d:Int)(R:List Int)(v:Nat):List Int :=
 if decide (R.getD v 0<0)&&yckx R (d-1) (g.ports.getD v [])then R.set v d else R
def stepD(g:Gr)(R:List Int)(d:Nat):List Int:=(zS g.ports.length).foldl (ycnk g d) R
def start(g:Gr)(a:Nat):List Int:=(zBL g.ports.length (-1)).set a 0
def ydy(g:Gr)(a:Nat):List Int:=(zS (g.ports.length-1)).foldl (fun R d=>stepD g R (d+1)) (start g a)
def Upto(g:Gr)(a d v:Nat)(x:Int):Prop:=(x = -1/\∀k,k<=d->¬Walk g a k v)\/∃k:Nat,k<=d/\x=k/\Walk g a k v/\∀j,j<k->¬Walk g a j v
theorem Upto.eq{g:Gr}{a d v:Nat}{x:Int}(h:Upto g a d v x){k:Nat}(hk:k<=d):x=k↔Walk g a k v/\∀j,j<k->¬Walk g a j v:=by
 rcases h with⟨rfl,b⟩|⟨i,m,rfl,b,c⟩
 .exact⟨fun e=>by omega,fun e=>absurd e.1 (b k hk)⟩
 .constructor
  .intro e;obtain rfl:i=k:=by omega
   exact⟨b,c⟩
  .rintro⟨f,l⟩;rcases zAZ i k with h|h|h
   .exact absurd b (l i h)
   .omega
   .exact absurd f (c k h)
theorem Upto.more{g:Gr}{a d v:Nat}{x:Int}(h:Upto g a d v x)(f:0<=x):Upto g a (d+1) v x:=by
 rcases h with⟨rfl,b⟩|⟨i,e,rfl,b,c⟩
 .omega
 .exact .inr ⟨i,by omega,rfl,b,c⟩
structure LayerInv(g:Gr)(a d v:Nat)(R:List Int):Prop where
 len:R.length=g.ports.length
 new:∀(u:Nat) (x:Int),R[u]?=some x->u<v->Upto g a (d+1) u x
 old:∀(u:Nat) (x:Int),R[u]?=some x->v<=u->Upto g a d u x
theorem LayerInv.at_{g:Gr}{a d v:Nat}{R:List Int}(h:LayerInv g a d v R){u:Nat}(i:u<g.ports.length):R[u]?=some (d:Int)↔Walk g a d u/\∀j,j<d->¬Walk g a j u:=by
 have f:=h.len;have e:R[u]?=some R[u]:=zI (by omega)
 have c:R[u]=(d:Int)↔Walk g a d u/\∀j,j<d->¬Walk g a j u:=by
  by_cases b:u<v
  .exact(h.new u _ e b).eq (by omega)
  .exact(h.old u _ e (by omega)).eq (by omega)
 rw[e]
 simpa using c
theorem LayerInv.step{g:Gr}(r:ybh g){a d v:Nat}{R:List Int}(h:LayerInv g a d v R)(w:v<g.ports.length):LayerInv g a d (v+1) (ycnk g ((d:Int)+1) R v):=by
 have c:=h.len;have ev:R[v]?=some R[v]:=zI (by omega)
 have E:R.getD v 0=R[v]:=by simp[zM,ev]
 have F:g.ports.getD v []=g.ports[v]:=by simp[zM,zI w]
 have m:yckx R ((d:Int)+1-1) g.ports[v]=true↔∃u,adj g u v/\Walk g a d u/\∀j,j<d->¬Walk g a j u:=by
  unfold yckx;rw[List.any_eq_true];constructor
  .rintro⟨l,s,i⟩;have H:=r.link (zI w) s;have i:=of_decide_eq_true i;rw[show(d:Int)+1-1=d by omega]at i
   refine⟨l.1.toNat,r.adj_symm ⟨_,zI w,l,s,by omega⟩,?_⟩
   exact(h.at_ (by omega)).1 i
  .rintro⟨u,b,o⟩;obtain⟨C,_⟩:=r.adj_lt b;obtain⟨K,i,l,s,e⟩:=r.adj_symm b;rw[zI w]at i;cases i
   refine⟨l,s,decide_eq_true ?_⟩;rw[e,zV,show(d:Int)+1-1=d by omega]
   exact(h.at_ C).2 o
 have A:=h.old v _ ev (zY _);unfold ycnk;rw[E,F]
 by_cases c1:R[v]<0
 .have y:R[v] = -1/\∀k,k<=d->¬Walk g a k v:=by
   rcases A with i|⟨k,_,e,_⟩
   .exact i
   .omega
  by_cases c2:yckx R ((d:Int)+1-1) g.ports[v]=true
  .rw[if_pos (by rw[zF];exact⟨decide_eq_true c1,c2⟩)]
   obtain⟨p,B,o,_⟩:=m.1 c2;have n:∀t,t≠v->(R.set v ((d:Int)+1))[t]?=R[t]?:=fun t J=>by rw[zO,if_neg (by omega)]
   refine⟨by simp[c],fun u x b f=>?_,fun u x b f=>?_⟩
   .by_cases e:u=v
    .subst e;rw[zO,if_pos rfl,if_pos (by omega)]at b
     cases b
     exact .inr ⟨d+1,zY _,by omega,⟨p,o,B⟩,fun j G=>y.2 j (by omega)⟩
    .rw[n u e]at b;exact h.new u x b (by omega)
   .rw[n u (by omega)]at b
    exact h.old u x b (by omega)
  .rw[if_neg (fun e=>c2 (zF _ _▸e).2)];refine⟨c,fun u x b f=>?_,fun u x b f=>h.old u x b (by omega)⟩
   by_cases e:u=v
   .subst e;rw[ev]at b;cases b
    refine .inl ⟨y.1,fun k hk o=>?_⟩;rcases zBR d k with I|z
    .obtain rfl:k=d+1:=by omega
     obtain⟨p,B,q⟩:=o;refine c2 (m.2 ⟨p,q,B,fun j G D=>y.2 (j+1) (by omega) ⟨p,D,q⟩⟩)
    .exact y.2 k z o
   .exact h.new u x b (by omega)
 .rw[if_neg (by simp[c1])]
  refine⟨c,fun u x b f=>?_,fun u x b f=>h.old u x b (by omega)⟩
  by_cases e:u=v
  .subst e;exact(h.old u x b (zY _)).more (by rw[ev]at b;cases b;omega)
  .exact h.new u x b (by omega)
theorem ybaf{g:Gr}(b:ybh g){a d:Nat}{R:List Int}(h:LayerInv g a d 0 R):∀v,v<=g.ports.length->LayerInv g a d v ((zS v).foldl (ycnk g ((d:Int)+1)) R)
 |0,_=>h
 | v+1,c=>by
   rw[zBG,zW];exact(ybaf b h v (by omega)).step b (by omega)
def ybcs(g:Gr)(a d:Nat)(R:List Int):Prop:=R.length=g.ports.length/\∀(u:Nat) (x:Int),R[u]?=some x->Upto g a d u x
theorem ybws{g:Gr}{a:Nat}(c:a<g.ports.length):ybcs g a 0 (start g a):=by
 refine⟨by simp[start],fun u x b=>?_⟩
 unfold start at b;rw[zO]at b;split at b
 .rename_i e
  subst e;simp[c]at b;subst b;exact .inr ⟨0,zY _,rfl,rfl,fun j d=>absurd d (by omega)⟩
 .rename_i e
  rw[zAG]at b;split at b
  .cases b
   refine .inl ⟨rfl,fun k hk f=>?_⟩;obtain rfl:k=0:=by omega
   exact e f.symm
  .cases b
theorem ybtr{g:Gr}(f:ybh g){a d:Nat}{R:List Int}(h:ybcs g a d R):ybcs g a (d+1) (stepD g R (d+1)):=by
 have e:LayerInv g a d 0 R:=⟨h.1,fun _ _ _ b=>absurd b (by omega),fun u x b _=>h.2 u x b⟩
 have c:=ybaf f e g.ports.length (zY _);unfold stepD;rw[show((d+1:Nat):Int)=(d:Int)+1 by omega]
 exact⟨c.len,fun u x b=>c.new u x b (by rw[<-c.len];exact(List.getElem?_eq_some_iff.1 b).1)⟩
theorem yyn{g:Gr}(c:ybh g){a:Nat}(b:a<g.ports.length):∀d,ybcs g a d ((zS d).foldl (fun R d=>stepD g R (d+1)) (start g a))
 |0=>ybws b
 |d+1=>by rw[zBG,zW];exact ybtr c (yyn c b d)
theorem chain{g:Gr}{a:Nat}:∀k v,Walk g a k v->(∀j,j<k->¬Walk g a j v)->∃f:Nat->Nat,∀j,j<=k->Walk g a j (f j)/\∀i,i<j->¬Walk g a i (f j)
 | 0,v,h,_=>⟨fun _=>v,fun j d=>by obtain rfl:j=0:=by omega
                                  exact⟨h,fun i n=>absurd n (by omega)⟩⟩
 | k + 1,v,h,e=>by
   obtain⟨p,l,c⟩:=h;obtain⟨f,m⟩:=chain k p l (fun j d o=>e (j+1) (by omega) ⟨p,o,c⟩)
   refine⟨fun j=>if j<=k then f j else v,fun j d=>?_⟩
   by_cases b:j<=k
   .simp only[if_pos b];exact m j b
   .obtain rfl:j=k+1:=by omega
    simp only[if_neg b];exact⟨⟨p,l,c⟩,e⟩
theorem walk_lt{g:Gr}(c:ybh g){a:Nat}(b:a<g.ports.length):∀k v,Walk g a k v->v<g.ports.length
 |0,v,h=>by obtain rfl:v=a:=h;exact b
 |k+1,v,h=>by obtain⟨u,_,d⟩:=h;exact(c.adj_lt d).2
theorem least_walk{g:Gr}{a v:Nat}:∀k,Walk g a k v->∃j,j<=k/\Walk g a j v/\∀i,i<j->¬Walk g a i v:=by
 intro k
 induction k using Nat.strongRecOn with
 | _ k l =>
   intro f
   by_cases h:∃j,j<k/\Walk g a j v
   .obtain⟨j,e,c⟩:=h;obtain⟨i,d,r⟩:=l j e c;exact⟨i,by omega,r⟩
   .exact⟨k,zY _,f,fun i d b=>h ⟨i,d,b⟩⟩
theorem ybeb{g:Gr}(p:ybh g){a v k:Nat}(o:a<g.ports.length)(h:Walk g a k v)(q:∀j,j<k->¬Walk g a j v):k<g.ports.length:=by
 obtain⟨f,l⟩:=chain k v h q;have c:∀i j,i<j->j<=k->f i≠f j:=fun i j b d e=>(l j d).2 i b (by rw[<-e];exact(l i (by omega)).1)
 have m:((zS (k+1)).map f).Nodup:=by
  rw[List.Nodup,zBA];refine(List.Pairwise.and_mem.1 List.pairwise_lt_range).imp ?_;rintro i j ⟨_,d,b⟩;exact c i j b (by simp at d;omega)
 have n:(zS (k+1)).map f ⊆ zS g.ports.length:=by
  intro x r;obtain⟨j,d,rfl⟩:=List.mem_map.1 r;simp only[List.mem_range]at d ⊢;exact walk_lt p o j _ (l j (by omega)).1
 have:=List.Nodup.length_le_of_subset m n;simp at this;omega
theorem yjb{g:Gr}(c:ybh g){a:Nat}(b:a<g.ports.length):ywl g a (ydy g a):=by
 obtain⟨e,f⟩:=yyn c b (g.ports.length-1);refine⟨e,fun v x l=>?_⟩;rcases f v x l with⟨rfl,h⟩|⟨k,_,r⟩
 .refine .inl ⟨rfl,fun k hk=>?_⟩;obtain⟨j,_,d,i⟩:=least_walk k hk;have:=ybeb c b d i;exact h j (by omega) d
 .exact .inr ⟨k,r⟩
theorem ywl.bound{g:Gr}(b:ybh g){a:Nat}(f:a<g.ports.length){D:List Int}(h:ywl g a D):∀x∈D,-1<=x/\x<=24:=by
 intro x j;obtain⟨v,i,rfl⟩:=List.mem_iff_getElem.1 j;rcases h.2 v _ (zI i)with⟨e,_⟩|⟨k,e,c,d⟩
 .omega
 .have:=ybeb b f c d;have:=b.2.1;omega
end
section
def yil(g:Gr):Bool:=ylp g&&(ydy g 0).all (fun x=>decide (0<=x))
theorem yuf(D:List Int):∀m:Int,m<=D.foldl max m:=by
 induction D with
 |nil=>intro m;exact Int.le_refl _
 |cons x D a=>intro m;exact Int.le_trans (Int.le_max_left m x) (a _)
theorem ytq{g:Gr}(c:ybh g){a:Nat}(b:a<g.ports.length):(ydy g a).length=g.ports.length:=(yjb c b).1
theorem Walk.trans{g:Gr}{a b:Nat}:∀{j:Nat}{c:Nat}{k:Nat},Walk g a k b->Walk g b j c->Walk g a (k+j) c
 |0,c,k,d,e=>by obtain rfl:c=b:=e;exact d
 | j+1,c,k,d,e=>by
   obtain⟨u,h,f⟩:=e;exact⟨u,Walk.trans d h,f⟩
theorem Walk.one{g:Gr}{a b:Nat}(h:adj g a b):Walk g a 1 b:=⟨a,rfl,h⟩
theorem Walk.symm{g:Gr}(d:ybh g){a:Nat}:∀{k:Nat}{b:Nat},Walk g a k b->Walk g b k a
 |0,b,h=>by obtain rfl:b=a:=h;exact rfl
 | k+1,b,h=>by
   obtain⟨u,e,c⟩:=h;have:=Walk.trans (Walk.one (d.adj_symm c)) (Walk.symm d e)
   rwa [Nat.add_comm]at this
theorem ybny{g:Gr}(j:ybh g){a:Nat}(i:a<g.ports.length):(ydy g a).all (fun x=>decide (0<=x))=true↔∀v,v<g.ports.length->∃k,Walk g a k v:=by
 have c:=yjb j i;rw[zAT];constructor
 .intro h v d;have b:v<(ydy g a).length:=by rw[c.1];exact d
  rcases c.2 v _ (zI b)with⟨e,_⟩|⟨k,_,hk,_⟩
  .have:=of_decide_eq_true (h _ (zJ b));omega
  .exact⟨k,hk⟩
 .intro h x l;obtain⟨v,d,rfl⟩:=List.mem_iff_getElem.1 l;obtain⟨k,hk⟩:=h v (by rw[<-c.1];exact d)
  rcases c.2 v _ (zI d)with⟨e,f⟩|⟨k,e,_⟩
  .exact absurd hk (f k)
  .rw[e];simp
theorem ycnl{g:Gr}(c:ybh g){a b:Nat}(e:a<g.ports.length)(d:b<g.ports.length)(h:(ydy g a).all (fun x=>decide (0<=x))=true):(ydy g b).all (fun x=>decide (0<=x))=true:=by
 rw[ybny c e]at h;rw[ybny c d];intro v i;obtain⟨k,hk⟩:=h v i;obtain⟨j,f⟩:=h b d;exact⟨_,Walk.trans (Walk.symm c f) hk⟩
end
section
abbrev Conf:=List (List Int)
abbrev Bounds:=List (Int×Int)
def ycjo(bs:Bounds)(s:List Int):Bool:=decide (s.length=bs.length)&&(bs.zip s).all (fun p=>decide (p.1.1<=p.2)&&decide (p.2<=p.1.2))
def yyp(n:Nat)(bs:Nat->Bounds)(c:Conf):Bool:=decide (c.length=n)&&c.zipIdx.all (fun p=>ycjo (bs p.2) p.1)
def yjo(bs:Bounds)(s:List Int):Prop:=s.length=bs.length/\∀(i:Nat) b x,bs[i]?=some b->s[i]?=some x->b.1<=x/\x<=b.2
def ybop(n:Nat)(bs:Nat->Bounds)(c:Conf):Prop:=c.length=n/\∀(v:Nat) s,c[v]?=some s->yjo (bs v) s
theorem ybae(bs:Bounds)(s:List Int):ycjo bs s=true↔yjo bs s:=by
 unfold ycjo yjo;rw[zF,decide_eq_true_iff,zAT];refine and_congr_right fun _=>⟨fun h i b x c e=>?_,fun h p d=>?_⟩
 .have:=h (b,x) (zN (i:=i) (by simp[zAQ,c,e]))
  simpa using this
 .obtain⟨i,a⟩:=List.mem_iff_getElem?.1 d;obtain⟨b,x⟩:=p;rw[zAQ]at a
  simpa using h i b x a.1 a.2
theorem yid(n:Nat)(bs:Nat->Bounds)(c:Conf):yyp n bs c=true↔ybop n bs c:=by
 unfold yyp ybop;rw[zF,decide_eq_true_iff,zAT];refine and_congr_right fun _=>⟨fun h v s b=>?_,fun h p a=>?_⟩
 .refine(ybae _ _).1 (h (s,v) ?_);rw[zAM];exact b
 .rw[zAM]at a;exact(ybae _ _).2 (h p.2 p.1 a)
theorem yvy{n:Nat}{bs:Nat->Bounds}{c:Conf}(h:¬ybop n bs c):yyp n bs c=false:=by
 cases a:yyp n bs c with
 |false=>rfl
 |true=>exact absurd ((yid n bs c).1 a) h
theorem ybwj{n:Nat}{bs:Nat->Bounds}{c:Conf}(h:ybop n bs c):yyp n bs c=true:=(yid n bs c).2 h
def yclg(g:Gr)(v:Nat):Nat:=(g.ports.getD v []).length
def yfu(g:Gr)(G:List Int)(v:Nat):Bounds:=G.map (fun h=>if h = -1 then(-1,(yclg g v:Int)-1)else(0,h))
def ybtz(g:Gr):Int:=g.ids.foldl max 0
end
section
open Go.RowKit
end
section
open Go.RowKit
end
section
open Go.RowKit
def ylk(a:Int×Int->Bool)(ls:List (Int×Int)):Int:=match ls.findIdx? a with|some i=>i|none=>-1
end
section
end
section
def ybii(ids:List Int)(k:Nat):Int:=(ids.take k).tail.foldl max (ids.headD 0)
abbrev maxI(ids:List Int):Int:=ybii ids ids.length
theorem ycdo{ids:List Int}{k:Nat}(a:1<=k)(hk:k<ids.length):(ids.take (k+1)).tail=(ids.take k).tail++[ids[k]]:=by
 rw[zH hk,List.tail_append_of_ne_nil];intro h;have:=congrArg zAH h;rw[zBD,zAU]at this;omega
theorem ybxc(ids:List Int):ybii ids 1=ids.headD 0:=by cases ids<;>simp[ybii]
theorem ybum{ids:List Int}{k:Nat}(a:1<=k)(hk:k<ids.length):ybii ids (k+1)=max (ybii ids k) ids[k]:=by
 unfold ybii;rw[ycdo a hk,zW];rfl
theorem ybei{ids:List Int}(a:0<ids.length)(h:∀x∈ids,0<=x):maxI ids=ids.foldl max 0:=by
 cases ids with
 |nil=>simp at a
 | cons x l =>
   have b:max 0 x=x:=Int.max_eq_right (h x (by simp))
   simp[maxI,ybii,b]
def idxP(ids:List Int)(x:Int):Int:=match ids.findIdx? (fun y=>x==y)with
 |some i=>i
 |none=>-1
theorem ycqn{ids:List Int}{x:Int}{k:Nat}(hk:k<ids.length)(h:x=ids[k])(a:(ids.take k).findIdx? (fun y=>x==y)=none):idxP ids x=k:=by
 unfold idxP
 have:ids.findIdx? (fun y=>x==y)=some k:=by
  rw[zQ];refine⟨hk,by simp[h],fun j b=>?_⟩
  rw[zT]at a;simp[a ids[j] (List.mem_take_iff_getElem.2 ⟨j,by omega,rfl⟩)]
 rw[this]
theorem ycjv{ids:List Int}{x:Int}(a:(ids.take ids.length).findIdx? (fun y=>x==y)=none):idxP ids x = -1:=by
 rw[zAC]at a;unfold idxP;rw[a]
theorem ycmr{ids:List Int}{x:Int}{k:Nat}(hk:k<ids.length)(h:x≠ids[k])(a:(ids.take k).findIdx? (fun y=>x==y)=none):(ids.take (k+1)).findIdx? (fun y=>x==y)=none:=by
 rw[zH hk,zAD,a];simp[h]
end
section
namespace Sh
open Go Ev
def yba(l:List Int):SV:=.sl 1 l.length (fun k=>[.i .i64 (l.getD k 0)])
def ybc(ls:List (Int×Int)):SV:=.sl 2 ls.length (fun j=>[.i .i64 (ls.getD j (0,0)).1,.i .i64 (ls.getD j (0,0)).2])
def yu(ps:List (List (Int×Int))):SV:=.sl 1 ps.length (fun v=>[ybc (ps.getD v [])])
def ycn(c:List (List Int)):SV:=.sl 1 c.length (fun v=>[yba (c.getD v [])])
def grV(g:Gr):SV:=.ag [yba g.ids,yu g.ports]
theorem ik{n:Int}(a:-1000000000000<=n)(b:n<=1000000000000):inK .i64 n:=by
 unfold inK;simp[IntKind.min,IntKind.max,IntKind.bits,IntKind.signed];omega
theorem ikw{n:Int}(a:-4611686018427387904<=n)(b:n<=4611686018427387904):inK .i64 n:=by
 unfold inK;simp[IntKind.min,IntKind.max,IntKind.bits,IntKind.signed];omega
theorem ybd{a b:Prop}(k:b)(h:a:=by first|omega|decide|exact ikw (by omega) (by omega)):a/\b:=⟨h,k⟩
theorem getD_at{a:Type}{l:List a}{k:Nat}{d:a}(h:k<l.length):l.getD k d=l[k]:=by simp[zM,h]
theorem yra{l:List Int}{i k:Nat}{x:Int}(h:i<l.length):(l.set i x).getD k 0=if k=i then x else l.getD k 0:=by
 simp only[zM,zO]
 by_cases q:i=k
 .subst q;simp[h]
 .rw[if_neg q,if_neg (Ne.symm q)]
theorem ycia(l:List Int)(x:Int)(c:l.length<=100000):Returns zC 143 [yba l,.i .i64 x] (.i .i64 (idxP l x)):=by
 refine Returns.of (ydmq _ _ ?_);simp only[c143,ycxh,yddx,yba,go_sem,zB,↓reduceIte,reduceCtorEq];refine ybf (σ:=Nat) (fun k=>⟨[(8,.i .i64 k),(0,yba l),(1,.i .i64 x),(7,.i .i64 l.length)],[]⟩) (fun k=>k<=l.length/\(l.take k).findIdx? (fun y=>x==y)=none) (fun k=>l.length-k) 0 ⟨zK _,by simp⟩ ?_ ?_
 .refine yw ?_;simp only[yba,wk,go_sem,zA,↓reduceIte,reduceCtorEq]
 .intro k ⟨hk,hno⟩;simp only[ydfm,ycsk,yczs,yctr,ydbz,ycvk,yba,ycg,go_sem,zA,zB,↓reduceIte,reduceCtorEq];refine⟨fun h=>⟨by omega,fun b=>?_,fun b=>⟨ik (by omega) (by omega),?_⟩⟩,fun h=>?_⟩
  .have a:k<l.length:=by omega
   rw[ycqn a (by rw[b,getD_at a]) hno]
  .have a:k<l.length:=by omega
   refine yj (k+1) ⟨by omega,ycmr a (by rw[<-getD_at (d:=0) a];exact b) hno⟩ (by omega) ?_
   refine yw ?_;simp only[wk,go_sem,zA,↓reduceIte,reduceCtorEq];simp
  .obtain rfl:k=l.length:=by omega
   rw[ycjv hno]
theorem ybzk(l:List Int)(b:0<l.length)(c:l.length<=100000):Returns zC 54 [yba l] (.i .i64 (maxI l)):=by
 refine Returns.of (ydrt _ _ ?_);simp only[c54,yead,yduw,yeck,ydqh,yebo,yba,go_sem,zAK,zA,zB];refine⟨fun h=>by omega,fun _=>⟨by omega,?_⟩⟩
 refine ybf (σ:=Nat) (fun k=>⟨[(4,.i .i64 k),(3,.i .i64 (ybii l k)),(0,yba l)],[]⟩) (fun k=>1<=k/\k<=l.length) (fun k=>l.length-k) 1 ⟨by omega,by omega⟩ ?_ ?_
 .refine yw ?_;simp only[yba,ybxc,wk,go_sem,zA];cases l<;>simp at b ⊢
 .intro k ⟨hk1,hk⟩;simp only[yeaq,yebm,yeby,ydun,yba,ycg,go_sem,zA,zB];refine⟨fun h=>⟨by omega,ik (by omega) (by omega),?_⟩,fun h=>?_⟩
  .refine yj (k+1) ⟨by omega,by omega⟩ (by omega) ?_
   refine yw ?_;have a:k<l.length:=by omega
   simp only[ybum hk1 a,getD_at a,wk,go_sem,zA];simp
  .obtain rfl:k=l.length:=by omega
   rfl
theorem ybcq (g:Gr) (v:Nat) (s:v<g.ports.length) (h:FuncId) (cp:List SV) (e:Int×Int->Bool) (a:cp.any (owned 4)=false) (p:(g.ports.getD v []).length<=100000)
 (f:∀l∈g.ports.getD v [],Returns zC h (.ag [.i .i64 l.1,.i .i64 l.2]::cp) (.b (e l))):Returns zC 70 [grV g,.i .i64 v,.fn h [] cp] (.i .i64 (ylk e (g.ports.getD v []))):=by
 refine Returns.of (ydou _ _ ?_);have n:=yzc a;simp only[c70,yduj,ydtm,grV,yu,ybc,yba,go_sem,zA,zB,zG];refine⟨by omega,?_⟩
 obtain⟨d,o⟩:∃d,g.ports.getD v []=d:=⟨_,rfl⟩;rw[o]at p f ⊢;refine ybf (σ:=Nat) (fun k=>⟨[(15,.i .i64 k),(13,ybc d),(14,.i .i64 d.length),(2,.fn h [] cp)],[]⟩) (fun k=>k<=d.length/\(d.take k).findIdx? e=none) (fun k=>d.length-k) 0 ⟨zK _,by simp⟩ ?_ ?_
 .refine yw ?_;simp only[ybc,yrm _ a,yrb _ a,wk,go_sem,zA]
 .intro k ⟨hk,hno⟩;simp only[ydyz,ydot,ydqk,ydzj,ydow,ydxw,ybc,ycg,n,zBO,go_sem,zA,zB,zG];refine⟨fun c=>⟨by omega,?_⟩,fun c=>?_⟩
  .have c:k<d.length:=by omega
   have q:d.getD k (0,0)∈d:=by rw[getD_at c];exact zJ c
   refine(f _ q).use ?_;simp only[ybk,ycg,go_sem,zA,zB];refine⟨fun m=>?_,fun m=>⟨ik (by omega) (by omega),?_⟩⟩
   .rw[getD_at c]at m
    have:d.findIdx? e=some k:=by
     rw[zQ];refine⟨c,m,fun j r=>?_⟩;rw[zT]at hno;simp[hno d[j] (List.mem_take_iff_getElem.2 ⟨j,by omega,rfl⟩)]
    unfold ylk;rw[this]
   .rw[getD_at c]at m;refine yj (k+1) ⟨by omega,?_⟩ (by omega) ?_
    .rw[zH c,zAD,hno];simp[m]
    .refine yw ?_;simp only[yrm _ a,yrb _ a,wk,go_sem,zA];simp
  .obtain rfl:k=d.length:=by omega
   rw[zAC]at hno;unfold ylk;rw[hno]
end Sh
end
section
structure VarR where
 name:ByteArray
 kind:Int
 lo:Int
 hi:Int
 perNode:Int
 perID:Int
theorem ybuf(ids:List Int)(k:Nat)(hk:k<ids.length):(ids.take (k+1)).foldl max 0=max ((ids.take k).foldl max 0) ids[k]:=by
 rw[take_snoc ids k hk,zW];rfl
theorem yud(D:List Int)(m:Int)(h:∀x∈D,x<=m):∀a:Int,a<=m->D.foldl max a<=m:=by
 induction D with
 |nil=>intro a b;exact b
 |cons x D d=>intro a b;exact d (fun y c=>h y (by simp[c])) _ (Int.max_le.2 ⟨b,h x (by simp)⟩)
theorem yxm{g:Gr}(a:ybh g):0<=ybtz g/\ybtz g<=255:=⟨yuf _ _,yud _ _ (fun x b=>(a.2.2.2.1 x b).2) _ (by omega)⟩
end
section
abbrev Tm:=Int×Int
structure SetR where
 var:Int
 val:List Tm
structure RuleR where
 name:ByteArray
 guard:List Tm
 sets:List SetR
structure ProgR where
 name:ByteArray
 vars:List VarR
 rules:List RuleR
instance:Inhabited VarR:=⟨⟨.empty,0,0,0,0,0⟩⟩
instance:Inhabited SetR:=⟨⟨0,[]⟩⟩
instance:Inhabited RuleR:=⟨⟨.empty,[],[]⟩⟩
inductive Ex where
 |leaf (op arg:Int)
 |un (op:Int) (a:Ex)
 |agg (op:Int) (a:Ex)
 |bin (op:Int) (a b:Ex)
 |ite (c a b:Ex)
def Ex.ser:Ex->List Tm
 |.leaf d arg=>[(d,arg)]
 |.un d a=>(d,0)::a.ser
 |.agg d a=>(d,0)::a.ser
 |.bin d a b=>(d,0)::(a.ser++b.ser)
 |.ite c a b=>(43,0)::(c.ser++(a.ser++b.ser))
def satP(a:Int):Int:=max (-1073741824) (min a 1073741824)
def ydc(b:Bool):Int:=if b then 1 else 0
def yyx(a b:Int):Int:=if b=0 then 0 else if a.tmod b≠0/\(decide (a<0)≠decide (b<0))then a.tdiv b-1 else a.tdiv b
def unP(b a:Int):Int:=if b=18 then -a else ydc (a==0)
def cmpP(c a b:Int):Bool:=if c=35 then a==b else if c=36 then a != b else if c=37 then decide (a<b)else if c=38 then decide (a<=b)else if c=39 then decide (a>b)else decide (a>=b)
def binP(c a b:Int):Int :=
 if c=30 then satP (a*b)else if c=31 then satP (yyx a b)else if c=32 then(if b=0 then 0 else satP (a-b*yyx a b))else if c=33 then satP (a+b)else if c=34 then satP (a-b)
 else if c=41 then ydc (a != 0&&b != 0)else if c=42 then ydc (a != 0||b != 0)else ydc (cmpP c a b)
def countP(l:List Int):Int:=((l.filter (· != 0)).length:Int)
def ydw(l:List Int):Int:=l.foldl min 1073741824
def yex(l:List Int):Int×Int:=l.foldl (fun p a=>if a>p.1 then(a,p.1)else(p.1,max p.2 a)) (-1073741824,-1073741824)
def yzb(l:List Int):Nat->Int->Int
 |0,r=>r
 |n+1,r=>if l.elem r then yzb l n (r+1)else r
def mexP(l:List Int):Int:=yzb l (l.length+1) 0
def yfc(l:List Int):Int:=match l.findIdx? (· != 0)with|some i=>i|none=>-1
def yjm(a:Int)(l:List Int):Int :=
 if a=20 then ydc (countP l==l.length)else if a=21 then ydc (decide (countP l>0))else if a=22 then countP l else if a=23 then yfc l else if a=24 then ydw l else if a=25 then(yex l).1
 else if a=26 then satP l.sum else if a=27 then mexP l else if a=28 then(yex l).2 else l.headD 0
structure Sc where
 g:Gr
 c:Conf
def ycs(g:Gr)(v a:Nat):Int×Int:=(g.ports.getD v []).getD a (0,0)
def ymo(g:Gr)(v:Nat):List Int:=(g.ports.getD v []).map fun l=>yoq (g.ports.getD l.1.toNat []) v
def ypu(g:Gr)(b:Int)(v:Nat)(a:Int):Int :=
 if b=6 then g.ids.length else if b=7 then ybtz g else if b=8 then g.ids.getD v 0 else if b=9 then((g.ports.getD v []).length:Int)else if b=10 then ydc ((v:Int)==0)else if b=11 then a
 else(let l:=ycs g v a.toNat
  if b=13 then g.ids.getD l.1.toNat 0 else if b=14 then((g.ports.getD l.1.toNat []).length:Int)else if b=15 then ydc (l.1==0)else if b=16 then l.2 else(ymo g v).getD a.toNat 0)
def ywg(g:Gr)(c:Conf)(b arg:Int)(v:Nat)(a:Int):Int :=
 if b=1 then arg else if b=2 then 1 else if b=3 then 0 else if b=4 then -1 else if b=5 then(c.getD v []).getD arg.toNat 0 else if b=12 then(c.getD (ycs g v a.toNat).1.toNat []).getD arg.toNat 0
 else ypu g b v a
def yda(g:Gr)(c:Conf)(v:Nat):Ex->Int->Int
 |.leaf d arg,p=>ywg g c d arg v p
 |.un d a,p=>unP d (yda g c v a p)
 |.agg d a,_=>yjm d ((zS (g.ports.getD v []).length).map fun(q:Nat)=>yda g c v a (q:Int))
 |.bin d a b,p=>binP d (yda g c v a p) (yda g c v b p)
 |.ite x a b,p=>if yda g c v x p≠0 then yda g c v a p else yda g c v b p
def Ex.ok(e:Int)(c:Bool):Ex->Bool
 |.leaf d arg=>decide (1<=d/\d<=17)&&(if d=1 then decide (0<=arg/\arg<=1073741824)else if d=5\/d=12 then decide (0<=arg/\arg<e)else true)&&(if 11<=d then c else true)
 |.un d a=>decide (d=18\/d=19)&&a.ok e c
 |.agg d a=>decide (20<=d/\d<=29)&&a.ok e true
 |.bin d a b=>decide (30<=d/\d<=42)&&a.ok e c&&b.ok e c
 |.ite x a b=>x.ok e c&&a.ok e c&&b.ok e c
def InB(x:Int):Prop:=-1073741824<=x/\x<=1073741824
theorem ysy(a:Int):InB (satP a):=by unfold InB satP;omega
theorem ygz(b:Bool):InB (ydc b):=by unfold InB ydc;cases b<;>simp
theorem ydoi{b a:Int}(h:InB a):InB (unP b a):=by
 unfold unP;split
 .unfold InB at *;omega
 .exact ygz _
theorem ydgn(c a b:Int):InB (binP c a b):=by
 unfold binP;split;· exact ysy _
 split;· exact ysy _
 split
 .split
  .unfold InB;omega
  .exact ysy _
 split;· exact ysy _
 split;· exact ysy _
 split;· exact ygz _
 split;· exact ygz _
 exact ygz _
theorem countP_le(l:List Int):0<=countP l/\countP l<=l.length:=by
 unfold countP;have:=List.length_filter_le (· != 0) l;omega
theorem yccc(l:List Int)(h:∀x∈l,InB x):InB (ydw l):=by
 unfold ydw
 have:∀(l:List Int) (a:Int),InB a->(∀x∈l,InB x)->InB (l.foldl min a):=by
  intro l
  induction l with
  |nil=>intro a b _;exact b
  | cons x l e =>
    intro a b c;refine e _ ?_ fun y d=>c y (zAB _ d);have:=c x zAE;unfold InB at *;omega
 exact this l _ (by unfold InB;omega) h
theorem ybav(l:List Int)(h:∀x∈l,InB x):InB (yex l).1/\InB (yex l).2:=by
 unfold yex
 have:∀(l:List Int) (p:Int×Int),InB p.1/\InB p.2->(∀x∈l,InB x)->InB (l.foldl (fun p a=>if a>p.1 then(a,p.1)else(p.1,max p.2 a)) p).1/\InB (l.foldl (fun p a=>if a>p.1 then(a,p.1)else(p.1,max p.2 a)) p).2:=by
  intro l
  induction l with
  |nil=>intro p c _;exact c
  | cons x l e =>
    intro p c b;refine e _ ?_ fun y d=>b y (zAB _ d);have:=b x zAE;unfold InB at *
    dsimp only
    split<;>dsimp only<;>omega
 exact this l _ (by unfold InB;simp) h
theorem ybpi(l:List Int):∀(n:Nat) (r:Int),r<=yzb l n r/\yzb l n r<=r+n
 |0,r=>by unfold yzb;omega
 | n+1,r=>by
   unfold yzb;have:=ybpi l n (r+1);split<;>omega
theorem ybil(l:List Int):-1<=yfc l/\yfc l<l.length\/yfc l = -1:=by
 unfold yfc;split
 .rename_i i a
  obtain⟨h,_⟩:=List.findIdx?_eq_some_iff_getElem.1 a;left;omega
 .exact .inr rfl
theorem ycku{a:Int}{l:List Int}(c:l.length<=1000)(h:∀x∈l,InB x):InB (yjm a l):=by
 have b:=countP_le l;unfold yjm;split;· exact ygz _
 split;· exact ygz _
 split;· unfold InB;omega
 split;· have:=ybil l;unfold InB;omega
 split;· exact yccc l h
 split;· exact(ybav l h).1
 split;· exact ysy _
 split;· have:=ybpi l (l.length+1) 0;unfold mexP InB;omega
 split;· exact(ybav l h).2
 cases l with
 |nil=>unfold InB;simp
 |cons x l=>exact h x zAE
structure ConfIn(n nv:Nat)(c:Conf):Prop where
 len:c.length=n
 row:∀s∈c,s.length=nv/\∀x∈s,InB x
theorem ConfIn.at_{n b:Nat}{c:Conf}(h:ConfIn n b c){v:Nat}(g:v<n):(c.getD v []).length=b/\∀k,InB ((c.getD v []).getD k 0):=by
 have a:v<c.length:=by rw[h.len];exact g
 have e:c.getD v []=c[v]:=by simp[zM,a]
 obtain⟨d,f⟩:=h.row c[v] (zJ a);rw[e];refine⟨d,fun k=>?_⟩;rw[zAA];cases hk:c[v][k]? with
 |none=>simp;unfold InB;omega
 |some x=>simp;exact f x (zN hk)
theorem ybh.ycs{g:Gr}(h:ybh g){v p:Nat}(b:v<g.ports.length)(a:p<(g.ports.getD v []).length):0<=(ycs g v p).1/\(ycs g v p).1<g.ports.length/\1<=(ycs g v p).2/\(ycs g v p).2<=15:=by
 have e:g.ports.getD v []=g.ports[v]:=by simp[zM,b]
 have d:=h.2.2.2.2.2.1 ⟨v,b⟩;rw[e]at a;have i:(g.ports[v])[p]∈g.ports[v]:=zJ a;have f:=d.1 _ i;unfold yqt at f;have c:Go.Proofs.YthclbjjgfcgbgaaGreatDoor.ycs g v p=(g.ports[v])[p]:=by unfold Go.Proofs.YthclbjjgfcgbgaaGreatDoor.ycs;rw[e];simp[zM,a]
 rw[c];omega
theorem ybh.deg_lt{g:Gr}(b:ybh g){v:Nat}:(g.ports.getD v []).length<24:=by
 by_cases a:v<g.ports.length
 .have c:=b.2.2.2.2.2.1 ⟨v,a⟩;have:=ybob a c;have e:g.ports.getD v []=g.ports[v]:=by simp[zM,a]
  rw[e];have:=b.2.1;have d:g.ports[(⟨v,a⟩:Fin g.ports.length)].length=g.ports[v].length:=rfl;omega
 .rw[zAA,List.getElem?_eq_none (by omega)]
  simp
theorem ybh.id_in{g:Gr}(a:ybh g)(v:Nat):0<=g.ids.getD v 0/\g.ids.getD v 0<=255:=by
 rw[zAA];cases h:g.ids[v]? with
 |none=>simp
 |some x=>exact a.2.2.2.1 x (zN h)
theorem yclb{g:Gr}{c:Conf}{n s:Nat}(a:ybh g)(A:g.ports.length=n)(o:ConfIn n s c){t arg:Int}{d:Bool}(q:(Ex.leaf t arg).ok s d=true){v:Nat}(m:v<n){p:Int}(r:d=true->0<=p/\p<(g.ports.getD v []).length)(j:InB p):InB (ywg g c t arg v p):=by
 subst A;have y:=a.2.1;have I:=a.deg_lt (v:=v);unfold ywg;simp only[Ex.ok,zF,decide_eq_true_eq]at q;obtain⟨⟨B,f⟩,b⟩:=q;split
 .rename_i h;rw[if_pos h]at f;simp at f;unfold InB;omega
 split;· unfold InB;omega
 split;· unfold InB;omega
 split;· unfold InB;omega
 split;· exact(o.at_ m).2 _
 split
 .rename_i h
  rw[if_pos (by omega)]at b
  obtain⟨C,D⟩:=r b;have z:=a.ycs m (p:=p.toNat) (by omega)
  exact(o.at_ (v:=(ycs g v p.toNat).1.toNat) (by omega)).2 _
 .unfold ypu;split;· rw[a.2.2.1];unfold InB;omega
  split;· have:=yxm a;unfold InB;omega
  split;· have:=a.id_in v;unfold InB;omega
  split;· unfold InB;omega
  split;· exact ygz _
  split;· exact j
  rename_i E F G H w x
  rw[if_pos (by omega)]at b
  obtain⟨C,D⟩:=r b;have z:=a.ycs m (p:=p.toNat) (by omega)
  simp only;split;· have:=a.id_in (ycs g v p.toNat).1.toNat;unfold InB;omega
  split;· have:=a.deg_lt (v:=(ycs g v p.toNat).1.toNat);unfold InB;omega
  split;· exact ygz _
  split;· unfold InB;omega
  .unfold ymo;rw[zAA,List.getElem?_map];cases hk:(g.ports.getD v [])[p.toNat]? with
   |none=>simp;unfold InB;omega
   | some l =>
     simp;have i:=a.deg_lt (v:=l.1.toNat);rcases ybcr (ls:=g.ports.getD l.1.toNat []) (u:=(v:Int))with e|⟨k,e,hk⟩
     .simp at e;rw[e];unfold InB;omega
     .simp at e hk i;rw[e];unfold InB;omega
theorem yis{g:Gr}{c:Conf}{n r:Nat}(i:ybh g)(k:g.ports.length=n)(j:ConfIn n r c){v:Nat}(l:v<n):∀(x:Ex) {e:Bool}{p:Int},x.ok r e=true->(e=true->0<=p/\p<(g.ports.getD v []).length)->InB p->InB (yda g c v x p)
 |.leaf m arg,e,p,h,f,d=>yclb i k j h l f d
 | .un m a,e,p,h,f,d=>by
   simp only[Ex.ok,zF]at h;exact ydoi (yis i k j l a h.2 f d)
 | .agg m a,e,p,h,f,d=>by
   simp only[Ex.ok,zF]at h;have:=i.deg_lt (v:=v);refine ycku (by simp;simp at this;omega) fun x s=>?_
   obtain⟨q,o,rfl⟩:=List.mem_map.1 s;have o:=List.mem_range.1 o;exact yis i k j l a h.2 (fun _=>by omega) (by unfold InB;omega)
 |.bin m a b,e,p,h,f,d=>ydgn _ _ _
 | .ite x a b,e,p,h,f,d=>by
   simp only[Ex.ok,zF]at h;unfold yda;split
   .exact yis i k j l a h.1.2 f d
   .exact yis i k j l b h.2 f d
end
section
namespace Sh
open Go Ev
theorem mulB{a b:Int}(c:InB a)(d:InB b):-1152921504606846976<=a*b/\a*b<=1152921504606846976:=by
 unfold InB at *
 have h:(a*b).natAbs<=1073741824*1073741824:=by
  rw[zBM];exact zBN (by omega) (by omega)
 omega
theorem yfe(b:Bool):Returns zC 240 [.b b] (.i .i64 (ydc b)):=by
 refine Returns.of (ydlr _ _ ?_);simp only[c240,ycvv,ycyf,ycuv,yczl,ycg,ydc,go_sem,↓reduceIte,reduceCtorEq];cases b<;>simp
theorem yev(a:Int):Returns zC 242 [.i .i64 a] (.i .i64 (satP a)):=by
 refine Returns.of (ydmc _ _ ?_);simp only[c242,ycuu,ycrq,ycg,satP,go_sem,zA,zB]
theorem ydxo{a b:Int}(e:InB a):-1073741824<=a.tdiv b/\a.tdiv b<=1073741824:=by
 have c:(a.tdiv b).natAbs=a.natAbs/b.natAbs:=Int.natAbs_tdiv a b;have d:a.natAbs/b.natAbs<=a.natAbs:=Nat.div_le_self _ _;rw[<-c]at d;unfold InB at e;omega
theorem ycls{a b:Int}(c:InB a):-1073741825<=yyx a b/\yyx a b<=1073741824:=by
 have:=ydxo (b:=b) c;unfold yyx;split
 .omega
 .split<;>omega
theorem ybzr{a b:Int}(c:InB a)(e:InB b):-1152921505680588800<=b*yyx a b/\b*yyx a b<=1152921505680588800:=by
 have d:=ycls (b:=b) c
 have h:(b*yyx a b).natAbs<=1073741824*1073741825:=by
  unfold InB at *;rw[zBM];exact zBN (by omega) (by omega)
 omega
theorem ycek(b a:Int)(c:InB a):Returns zC 221 [.i .i64 b,.i .i64 a] (.i .i64 (unP b a)):=by
 refine Returns.of (ydhb _ _ ?_);simp only[c221,yddr,ydak,yctg,ycta,ycg,unP,IntKind.signed,go_sem,zA,zB];unfold InB at c;refine⟨fun h=>⟨ikw (by omega) (by omega),by rw[if_pos h];omega⟩,fun h=>(yfe _).use ?_⟩
 simp only[ybk,ycg,go_sem,zA,zB];rw[if_neg h]
theorem ytl(a b:Int)(e:InB a):Returns zC 243 [.i .i64 a,.i .i64 b] (.i .i64 (yyx a b)):=by
 refine Returns.of (ydlo _ _ ?_);simp only[c243,yctv,ydam,yddl,ycwr,ycrx,ycuw,ycsj,ycg,yyx,go_sem,zA,zB];have:=ydxo (b:=b) e;refine⟨fun h=>by rw[if_pos h],fun h=>⟨⟨h,ikw (by omega) (by omega)⟩,h,fun c=>⟨fun d=>⟨ikw (by omega) (by omega),?_⟩,fun d=>?_⟩,fun c=>?_⟩⟩
 .rw[if_neg h,if_pos ⟨c,d⟩]
 .rw[if_neg h,if_neg (fun q=>q.2 d)]
 .rw[if_neg h,if_neg (fun q=>q.1 c)]
theorem ybhc(j a b:Int):Returns zC 244 [.i .i64 j,.i .i64 a,.i .i64 b] (.b (cmpP j a b)):=by
 refine Returns.of (ydgb _ _ ?_);simp only[c244,ycro,ydef,ydbd,yczi,ydcn,ycwt,yddp,ycsb,ycvu,ycyx,yceu,ycfi,yccu,yyr,cmpP,go_sem,zA,zB];refine⟨fun h=>by rw[if_pos h],fun c=>⟨fun h=>by rw[if_neg c,if_pos h],fun d=>⟨fun h=>by rw[if_neg c,if_neg d,if_pos h],fun e=>⟨fun h=>by rw[if_neg c,if_neg d,if_neg e,if_pos h],fun f=>⟨fun h=>by rw[if_neg c,if_neg d,if_neg e,if_neg f,if_pos h],fun g=>by rw[if_neg c,if_neg d,if_neg e,if_neg f,if_neg g]⟩⟩⟩⟩⟩
theorem ybug(p a b:Int)(d:InB a)(o:InB b):Returns zC 223 [.i .i64 p,.i .i64 a,.i .i64 b] (.i .i64 (binP p a b)):=by
 refine Returns.of (ydlx _ _ ?_);simp only[c223,ycso,ycwe,yddc,yctj,ycvb,ydfl,yded,ydfb,ycru,yctp,ycfp,ycar,ybza,ybxe,ybyk,ycbx,ycix,ybzl,ycdc,ycg,go_sem,zA,zB];have s:=mulB d o;have t:=ybzr d o;have q:=d;have r:=o;unfold InB at q r;refine⟨fun h=>⟨ikw (by omega) (by omega),(yev _).use ?_⟩,fun f=>⟨fun h=>(ytl a b d).use ?_,fun g=>⟨fun h=>⟨fun e=>?_,fun e=>(ytl a b d).use ?_⟩,fun j=>⟨fun h=>⟨ikw (by omega) (by omega),(yev _).use ?_⟩,fun k=>⟨fun h=>⟨ikw (by omega) (by omega),(yev _).use ?_⟩,fun l=>?_⟩⟩⟩⟩⟩
 .simp only[ybk,ycg,go_sem,zA,zB];simp[binP,h]
 .simp only[ybk,go_sem,zA,zB];refine(yev _).use ?_;simp only[ycg,go_sem];simp[binP,h]
 .simp[binP,h,e]
 .simp only[ybk,go_sem,zA,zB];refine⟨ikw (by omega) (by omega),ikw (by omega) (by omega),(yev _).use ?_⟩
  simp only[ycg,go_sem];simp[binP,h,e]
 .simp only[ybk,ycg,go_sem,zA,zB];simp[binP,h]
 .simp only[ybk,ycg,go_sem,zA,zB];simp[binP,h]
 .refine⟨fun h=>?_,fun m=>⟨fun h=>?_,fun n=>?_⟩⟩
  .refine⟨fun c=>(yfe _).use ?_,fun c=>(yfe _).use ?_⟩
   .simp only[ybk,ycg,go_sem,zA,zB];simp[binP,h];rw[show(a != 0)=true by simpa using c];simp
   .simp only[ybk,ycg,go_sem,zA,zB];simp[binP,h,c]
  .refine⟨fun c=>(yfe _).use ?_,fun c=>(yfe _).use ?_⟩
   .simp only[ybk,ycg,go_sem,zA,zB];simp[binP,h,c]
   .simp only[ybk,ycg,go_sem,zA,zB];simp[binP,h];rw[show(a != 0)=true by simpa using c];simp
  .refine(ybhc p a b).use ?_;simp only[ybk,go_sem,zA,zB];refine(yfe _).use ?_;simp only[ycg,go_sem];simp[binP,f,g,j,k,l,m,n]
end Sh
end
section
namespace Sh
open Go Ev
theorem ywy{l:List Int}{k:Nat}(h:k<l.length):countP (l.take (k+1))=countP (l.take k)+(if l.getD k 0≠0 then 1 else 0):=by
 unfold countP;rw[zH h,List.filter_append,zAN,getD_at h]
 by_cases q:l[k]=0
 .simp[q]
 .simp[q]
theorem ybnv{l:List Int}(k:Nat):0<=countP (l.take k)/\countP (l.take k)<=k:=by
 have:=countP_le (l.take k);simp only[zBD]at this;omega
theorem ycje(l:List Int)(e:l.length<=1000):Returns zC 250 [yba l] (.i .i64 (countP l)):=by
 refine Returns.of (ydlt _ _ ?_);simp only[c250,ycwj,yczk,ydcp,yba,go_sem,zB,↓reduceIte,reduceCtorEq];refine ybf (σ:=Nat) (fun k=>⟨[(8,.i .i64 k),(3,.i .i64 (countP (l.take k))),(6,yba l),(7,.i .i64 l.length)],[]⟩) (fun k=>k<=l.length) (fun k=>l.length-k) 0 (zK _) ?_ ?_
 .refine yw ?_;simp only[yba,wk,go_sem,zA,↓reduceIte,reduceCtorEq];simp[countP]
 .intro k hk;simp only[yczw,ycrs,ydcx,ycza,ycsv,ycvh,yba,ycg,go_sem,zA,zB,↓reduceIte,reduceCtorEq];have d:=ybnv (l:=l) k;refine⟨fun c=>⟨by omega,fun b=>⟨ikw (by omega) (by omega),ikw (by omega) (by omega),?_⟩,fun b=>⟨ikw (by omega) (by omega),?_⟩⟩,fun c=>?_⟩
  .have a:k<l.length:=by omega
   refine ybz (k+1) ?_;refine yw ?_;simp only[ywy a,if_pos b,wk,go_sem,zA,↓reduceIte,reduceCtorEq];simp
  .have a:k<l.length:=by omega
   refine ybz (k+1) ?_;refine yw ?_;simp only[ywy a,if_neg (not_not_intro b),wk,go_sem,zA,↓reduceIte,reduceCtorEq];simp
  .rw[zZ (by omega)]
theorem yuj{l:List Int}{k:Nat}(h:k<l.length):yex (l.take (k+1))=(if l.getD k 0>(yex (l.take k)).1 then(l.getD k 0,(yex (l.take k)).1)else((yex (l.take k)).1,max (yex (l.take k)).2 (l.getD k 0))):=by
 unfold yex;rw[zH h,zW,getD_at h];rfl
theorem yxe(l:List Int)(d:l.length<=1000):Returns zC 253 [yba l] (.tp [.i .i64 (yex l).1,.i .i64 (yex l).2]):=by
 refine Returns.of (ydnf _ _ ?_);simp only[c253,ycte,ydav,yddn,yba,go_sem,zB,↓reduceIte,reduceCtorEq];refine ybf (σ:=Nat) (fun k=>⟨[(8,.i .i64 k),(2,.i .i64 (yex (l.take k)).1),(3,.i .i64 (yex (l.take k)).2),(6,yba l),(7,.i .i64 l.length)],[]⟩) (fun k=>k<=l.length) (fun k=>l.length-k) 0 (zK _) ?_ ?_
 .refine yw ?_;simp only[yba,wk,go_sem,zA,↓reduceIte,reduceCtorEq];simp[yex]
 .intro k hk;simp only[ycug,ydbq,yczp,ycun,yczt,yctl,ydcl,yba,go_sem,zA,zB,↓reduceIte,reduceCtorEq];refine⟨fun c=>⟨by omega,fun b=>⟨ikw (by omega) (by omega),?_⟩,fun b=>⟨ikw (by omega) (by omega),?_⟩⟩,fun c=>?_⟩
  .have a:k<l.length:=by omega
   refine ybz (k+1) ?_;refine yw ?_;simp only[yuj a,if_pos b,wk,go_sem,zA,↓reduceIte,reduceCtorEq];simp
  .have a:k<l.length:=by omega
   refine ybz (k+1) ?_;refine yw ?_;simp only[yuj a,if_neg b,wk,go_sem,zA,↓reduceIte,reduceCtorEq];simp
  .rw[zZ (by omega)]
   exact Sim.refl _
theorem ybgz(l:List Int)(x:Int)(d:l.length<=100000):Returns zC 258 [yba l,.i .i64 x] (.b (l.elem x)):=by
 refine Returns.of (ydkk _ _ ?_);simp only[c258,yczv,ydff,yba,go_sem,zA,zB];refine(ycia l x d).use ?_;simp only[ybk,yyr,go_sem,zA,zB];unfold idxP;cases h:l.findIdx? (fun y=>x==y)with
 | none =>
   rw[zT]at h
   have:l.elem x=false:=by
    rw[zBE,decide_eq_false_iff_not];intro e;have:=h x e;simp at this
   rw[this];simp
 | some i =>
   obtain⟨a,c,_⟩:=List.findIdx?_eq_some_iff_getElem.1 h
   have:l.elem x=true:=by
    rw[zBE,decide_eq_true_eq];have:x=l[i]:=by simpa using c
    rw[this];exact zJ a
   rw[this];simp
theorem ybvv{l:List Int}{n:Nat}{r:Int}(h:l.elem r=true):yzb l (n+1) r=yzb l n (r+1):=by
 show(if l.elem r then _ else _)=_;rw[if_pos h]
theorem ybtq{l:List Int}{n:Nat}{r:Int}(h:l.elem r=false):yzb l n r=r:=by
 cases n with
 |zero=>rfl
 |succ n=>show(if l.elem r then _ else _)=_;rw[if_neg (by rw[h];simp)]
theorem ybhr{l:List Int}{k:Nat}(h:∀j:Nat,j<k->l.elem (j:Int)=true):k<=l.length:=by
 have d:((zS k).map fun(j:Nat)=>(j:Int)).Nodup:=by
  rw[List.Nodup,zBA];exact List.nodup_range.imp fun {a b} c e=>c (by omega)
 have f:((zS k).map fun(j:Nat)=>(j:Int)) ⊆ l:=fun x i=>by
  obtain⟨j,g,rfl⟩:=List.mem_map.1 i;have:=h j (List.mem_range.1 g)
  simpa using this
 have:=List.Nodup.length_le_of_subset d f
 simpa using this
theorem ydft(l:List Int)(e:l.length<=1000):Returns zC 254 [yba l] (.i .i64 (mexP l)):=by
 refine Returns.of (ydhs _ _ ?_);simp only[c254,yddw,ydbr,yba,go_sem];refine ybf (σ:=Nat) (fun k=>⟨[(3,.i .i64 k),(0,yba l)],[]⟩) (fun k=>(∀j:Nat,j<k->l.elem (j:Int)=true)/\mexP l=yzb l (l.length+1-k) k) (fun k=>l.length+1-k) 0 ⟨fun j h=>absurd h (zBH _),rfl⟩ ?_ ?_
 .refine yw ?_;simp only[yba,wk,go_sem,↓reduceIte,reduceCtorEq]
 .intro k ⟨hk,he⟩;have c:=ybhr hk;simp only[yczg,ycux,ydev,yba,go_sem,zA,zB,↓reduceIte,reduceCtorEq];refine(ybgz l k (by omega)).use ?_
  simp only[ybk,ycg,go_sem,zA,zB,↓reduceIte,reduceCtorEq];refine⟨fun h=>⟨ikw (by omega) (by omega),?_⟩,fun h=>?_⟩
  .have a:∀j:Nat,j<k+1->l.elem (j:Int)=true:=fun j d=>by
    by_cases q:j<k
    .exact hk j q
    .obtain rfl:j=k:=by omega
     exact h
   have b:=ybhr a;refine yj (k+1) ⟨a,?_⟩ (by omega) ?_
   .rw[he,show l.length+1-k=(l.length+1-(k+1))+1 by omega,ybvv h];simp
   .refine yw ?_;simp only[wk,go_sem,↓reduceIte,reduceCtorEq];simp
  .rw[he,ybtq h]
theorem yceo(x:Int):Returns zC 252 [.i .i64 x] (.b (x != 0)):=by
 refine Returns.of (ydle _ _ ?_);simp only[c252,ydfr,ydch,yyr,go_sem,zA,zB]
theorem ybde(l:List Int)(d:l.length<=1000):Returns zC 251 [yba l,.fn 252 [] []] (.i .i64 (yfc l)):=by
 refine Returns.of (ydni _ _ ?_);simp only[c251,ycrt,ycsp,yba,go_sem,zB,↓reduceIte,reduceCtorEq];refine ybf (σ:=Nat) (fun k=>⟨[(8,.i .i64 k),(0,yba l),(1,.fn 252 [] []),(7,.i .i64 l.length)],[]⟩) (fun k=>k<=l.length/\(l.take k).findIdx? (· != 0)=none) (fun k=>l.length-k) 0 ⟨zK _,by simp⟩ ?_ ?_
 .refine yw ?_;simp only[yba,wk,go_sem,zA,↓reduceIte,reduceCtorEq]
 .intro k ⟨hk,hno⟩;simp only[ycxf,ycwh,yczx,ydbh,ycyy,ycvn,yba,ycg,go_sem,zA,zB,↓reduceIte,reduceCtorEq];refine⟨fun a=>⟨by omega,(yceo _).use ?_⟩,fun a=>?_⟩
  .have a:k<l.length:=by omega
   simp only[ybk,ycg,go_sem,zA,zB,↓reduceIte,reduceCtorEq];rw[getD_at a];refine⟨fun b=>?_,fun b=>⟨ikw (by omega) (by omega),?_⟩⟩
   .have:l.findIdx? (· != 0)=some k:=by
     rw[zQ];refine⟨a,by simpa using b,fun j c=>?_⟩
     rw[zT]at hno;have:=hno l[j] (List.mem_take_iff_getElem.2 ⟨j,by omega,rfl⟩)
     simpa using this
    unfold yfc;rw[this]
   .refine yj (k+1) ⟨by omega,?_⟩ (by omega) ?_
    .rw[zH a,zAD,hno];simp[b]
    .refine yw ?_;simp only[wk,go_sem,zA,↓reduceIte,reduceCtorEq];simp
  .obtain rfl:k=l.length:=by omega
   rw[zAC]at hno;unfold yfc;rw[hno]
end Sh
end
section
namespace Sh
open Go Ev
theorem ybkb{l:List Int}{k:Nat}(h:k<l.length):ydw (l.take (k+1))=min (ydw (l.take k)) (l.getD k 0):=by
 unfold ydw;rw[zH h,zW,getD_at h];rfl
theorem ybcd{l:List Int}{k:Nat}(h:k<l.length):(l.take (k+1)).sum=(l.take k).sum+l.getD k 0:=by
 rw[zH h,List.sum_append,getD_at h];simp
theorem ycaa{l:List Int}(h:∀x∈l,InB x):∀k,k<=l.length -> -1073741824*(k:Int)<=(l.take k).sum/\(l.take k).sum<=1073741824*(k:Int)
 |0,_=>by simp
 | k+1,hk=>by
   have a:=ycaa h k (by omega)
   rw[ybcd (by omega)]
   have:=h l[k] (zJ (by omega))
   rw[<-getD_at (d:=0) (show k<l.length by omega)]at this
   unfold InB at this;omega
theorem ycmj(t:Int)(l:List Int)(y:l.length<=24)(q:∀x∈l,InB x):Returns zC 241 [.i .i64 t,yba l] (.i .i64 (yjm t l)):=by
 refine Returns.of (ydid _ _ ?_);have w:∀k,k<l.length->InB (l.getD k 0):=fun k hk=>by rw[getD_at hk];exact q _ (zJ hk)
 obtain⟨L,u⟩:∃L,yba l=L:=⟨_,rfl⟩;have v:L = .sl 1 l.length (fun k=>[.i .i64 (l.getD k 0)]):=u.symm;simp only[c241,yddi,ycyv,ycze,ycur,ycue,yddj,yczf,ycss,ydao,ycxk,ycgb,ybzj,yccf,ybyj,ybxy,yces,ycgj,ycir,ychw,ybxw,ycka,ycen,ychy,yccw,ycbt,yciy,ycaj,ycfe,ycel,ycjs,ybyf,ycda,ybye,ycja,ycis,ychs,ycev,yba,go_sem,zAK,zA,zB];have a:=ycje l (by omega)
 have c:=yxe l (by omega)
 simp only[yba]at a c;refine⟨fun d=>a.use ?_,fun d=>⟨fun e=>a.use ?_,fun e=>⟨fun f=>a.use ?_,fun f=>⟨fun g=>?_,fun g=>⟨fun h=>?_,fun h=>⟨fun j=>c.use ?_,fun j=>⟨fun m=>?_,fun m=>⟨fun n=>?_,fun n=>⟨fun o=>c.use ?_,fun o=>?_⟩⟩⟩⟩⟩⟩⟩⟩⟩
 .simp only[ybk,go_sem,zA,zB];refine(yfe _).use ?_;simp only[ycg,go_sem];simp[yjm,d]
 .simp only[ybk,go_sem,zA,zB];refine(yfe _).use ?_;simp only[ycg,go_sem];simp[yjm,e]
 .simp only[ybk,ycg,go_sem,zA,zB];simp[yjm,f]
 .have:=ybde l (by omega)
  simp only[yba]at this;refine this.use ?_;simp only[ybk,ycg,go_sem,zA,zB];simp[yjm,g]
 .refine ybf (σ:=Nat) (fun k=>⟨[(42,.i .i64 k),(5,.i .i64 (ydw (l.take k))),(40,yba l),(41,.i .i64 l.length)],[]⟩) (fun k=>k<=l.length) (fun k=>l.length-k) 0 (zK _) ?_ ?_
  .refine yw ?_;simp only[yba,wk,go_sem,zA];simp[ydw]
  .intro k hk;simp only[yba,ycg,go_sem,zA,zB];refine⟨fun p=>⟨by omega,ikw (by omega) (by omega),?_⟩,fun p=>?_⟩
   .have b:k<l.length:=by omega
    refine ybz (k+1) ?_;refine yw ?_;simp only[ybkb b,wk,go_sem,zA];simp
   .rw[zZ (by omega)]
    simp[yjm,h]
 .simp only[ybk,ycg,go_sem,zA,zB];simp[yjm,j]
 .refine ybf (σ:=Nat) (fun k=>⟨[(63,.i .i64 k),(10,.i .i64 (l.take k).sum),(61,yba l),(62,.i .i64 l.length)],[]⟩) (fun k=>k<=l.length) (fun k=>l.length-k) 0 (zK _) ?_ ?_
  .refine yw ?_;simp only[yba,wk,go_sem,zA];simp
  .intro k hk;simp only[yba,go_sem,zA,zB];have z:=ycaa q k hk;refine⟨fun p=>?_,fun p=>(yev _).use ?_⟩
   .have b:k<l.length:=by omega
    have r:=ycaa q (k+1) b;rw[ybcd b]at r;refine⟨by omega,ikw (by omega) (by omega),ikw (by omega) (by omega),?_⟩
    refine ybz (k+1) ?_;refine yw ?_;simp only[ybcd b,wk,go_sem,zA];simp
   .simp only[ybk,ycg,go_sem,zA,zB];rw[zZ (by omega)]
    simp[yjm,m]
 .have:=ydft l (by omega)
  simp only[yba]at this;refine this.use ?_;simp only[ybk,ycg,go_sem,zA,zB];simp[yjm,n]
 .simp only[ybk,ycg,go_sem,zA,zB];simp[yjm,o]
 .refine⟨fun s=>?_,fun s=>⟨by omega,?_⟩⟩
  .simp only[ycg,go_sem];have:l=[]:=zX (by omega)
   simp[yjm,d,e,f,g,h,j,m,n,o,this]
  .cases l with
   |nil=>simp at s
   | cons x l=>
     simp only[ycg,go_sem];simp[yjm,d,e,f,g,h,j,m,n,o]
end Sh
end
section
def Ex.shp:Ex->Bool
 |.leaf c _=>decide (1<=c/\c<=17)
 |.un c a=>decide (18<=c/\c<=29)&&a.shp
 |.agg c a=>decide (18<=c/\c<=29)&&a.shp
 |.bin c a b=>decide (30<=c/\c<=42)&&a.shp&&b.shp
 |.ite x a b=>x.shp&&a.shp&&b.shp
theorem Ex.ok_shp{e:Int}:∀(x:Ex) {c:Bool},x.ok e c=true->x.shp=true
 | .leaf d arg,c,h=>by
   simp only[Ex.ok,zF]at h;exact h.1.1
 | .un d a,c,h=>by
   simp only[Ex.ok,zF,decide_eq_true_eq]at h;simp only[Ex.shp,zF,decide_eq_true_eq];exact⟨by omega,Ex.ok_shp a h.2⟩
 | .agg d a,c,h=>by
   simp only[Ex.ok,zF,decide_eq_true_eq]at h;simp only[Ex.shp,zF,decide_eq_true_eq];exact⟨by omega,Ex.ok_shp a h.2⟩
 | .bin d a b,c,h=>by
   simp only[Ex.ok,zF,decide_eq_true_eq]at h;simp only[Ex.shp,zF,decide_eq_true_eq];exact⟨⟨h.1.1,Ex.ok_shp a h.1.2⟩,Ex.ok_shp b h.2⟩
 | .ite x a b,c,h=>by
   simp only[Ex.ok,zF]at h;simp only[Ex.shp,zF];exact⟨⟨Ex.ok_shp x h.1.1,Ex.ok_shp a h.1.2⟩,Ex.ok_shp b h.2⟩
def yot(a:Int):Int:=if a<1\/a>43 then -1 else if a<=17 then 0 else if a<=29 then 1 else if a<=42 then 2 else 3
def serL(a:List Ex):List Tm:=(a.map Ex.ser).flatten
def Ex.head:Ex->Tm
 |.leaf a arg=>(a,arg)
 |.un a _=>(a,0)
 |.agg a _=>(a,0)
 |.bin a _ _=>(a,0)
 |.ite _ _ _=>(43,0)
def Ex.subs:Ex->List Ex
 |.leaf _ _=>[]
 |.un _ a=>[a]
 |.agg _ a=>[a]
 |.bin _ a b=>[a,b]
 |.ite x a b=>[x,a,b]
theorem Ex.ser_eq(x:Ex):x.ser=x.head::serL x.subs:=by
 cases x<;>simp[Ex.ser,Ex.head,Ex.subs,serL]
theorem ycmt{a:Int}(h:1<=a/\a<=17):yot a=0:=by
 unfold yot;rw[if_neg (by omega),if_pos (by omega)]
theorem ybqf{a:Int}(h:18<=a/\a<=29):yot a=1:=by
 unfold yot;rw[if_neg (by omega),if_neg (by omega),if_pos (by omega)]
theorem ycow{a:Int}(h:30<=a/\a<=42):yot a=2:=by
 unfold yot;rw[if_neg (by omega),if_neg (by omega),if_neg (by omega),if_pos (by omega)]
theorem Ex.arity(x:Ex)(h:x.shp=true):yot x.head.1=x.subs.length:=by
 cases x with
 |leaf c arg=>simp only[Ex.shp,decide_eq_true_eq]at h;exact ycmt h
 |un c a=>simp only[Ex.shp,zF,decide_eq_true_eq]at h;exact ybqf h.1
 |agg c a=>simp only[Ex.shp,zF,decide_eq_true_eq]at h;exact ybqf h.1
 |bin c a b=>simp only[Ex.shp,zF,decide_eq_true_eq]at h;exact ycow h.1.1
 |ite x a b=>simp[Ex.head,Ex.subs,yot]
theorem Ex.subs_shp(x:Ex)(h:x.shp=true):∀y∈x.subs,y.shp=true:=by
 cases x with
 |leaf d arg=>intro y c;cases c
 |un d a=>simp only[Ex.shp,zF]at h;intro y c;simp[Ex.subs]at c;subst c;exact h.2
 |agg d a=>simp only[Ex.shp,zF]at h;intro y c;simp[Ex.subs]at c;subst c;exact h.2
 |bin d a b=>simp only[Ex.shp,zF]at h;intro y c;simp[Ex.subs]at c;rcases c with rfl|rfl<;>first|exact h.1.2|exact h.2
 |ite x a b=>simp only[Ex.shp,zF]at h;intro y c;simp[Ex.subs]at c;rcases c with rfl|rfl|rfl<;>first|exact h.1.1|exact h.1.2|exact h.2
theorem ygb{e:List Tm}{at_:Nat}{t:Tm}{r:List Tm}(h:e.drop at_=t::r):at_<e.length/\e.getD at_ (0,0)=t/\e.drop (at_+1)=r:=by
 have a:at_<e.length:=by
  refine zBQ fun b=>?_;rw[List.drop_of_length_le (by omega)]at h;cases h
 refine⟨a,?_,?_⟩
 .rw[zAR a]at h;simp only[List.cons.injEq]at h;simp[zM,a,h.1]
 .rw[zAR a]at h;simp only[List.cons.injEq]at h;exact h.2
namespace Sh
open Go Ev
theorem ycee(c:Int):Returns zC 231 [.i .i64 c] (.i .i64 (yot c)):=by
 refine Returns.of (ydji _ _ ?_);simp only[c231,ycxs,ydbv,ydfh,ycwp,ycuk,ycyc,ycrh,ydcw,ycyp,ydax,ycg,yot,go_sem,zA,zB];refine⟨fun e=>⟨fun h=>by rw[if_pos (.inr h)],fun f=>⟨fun h=>by rw[if_neg (by omega),if_pos h],fun a=>⟨fun h=>by rw[if_neg (by omega),if_neg a,if_pos h],fun b=>⟨fun h=>by rw[if_neg (by omega),if_neg a,if_neg b,if_pos h],fun d=>by rw[if_neg (by omega),if_neg a,if_neg b,if_neg d]⟩⟩⟩⟩,fun h=>by rw[if_pos (.inl h)]⟩
theorem ydmt(e:List Tm)(x:Ex)(at_:Nat)(rest:List Tm)(u:x.shp=true)(j:e.drop at_=x.ser++rest)(B:e.length<=1000):Returns zC 215 [ybc e,.i .i64 at_] (.i .i64 ((at_+x.ser.length:Nat):Int)):=by
 refine Returns.of (ydha _ _ ?_)
 have A:at_<e.length:=by
  rw[x.ser_eq]at j;exact(ygb j).1
 simp only[c215,ycwg,ycvq,ydcy,yddu,ybc,ycg,go_sem,zA,zB];refine⟨fun _=>⟨fun h=>by omega,fun _=>?_⟩,fun h=>by omega⟩
 refine ybf (σ:=Nat×List Ex) (fun p=>⟨[(1,.i .i64 p.1),(5,.i .i64 p.2.length),(0,ybc e)],[]⟩)
  (fun p=>e.drop p.1=serL p.2++rest/\p.2≠[]/\(∀y∈p.2,y.shp=true)/\p.1+(serL p.2).length=at_+x.ser.length/\p.2.length<=3*p.1+1) (fun p=>e.length-p.1) (at_,[x]) ⟨by simpa[serL]using j,by simp,by simpa using u,by simp[serL],by simp⟩ ?_ ?_
 .refine yw ?_;simp only[ybc,wk,go_sem,zA];simp
 .rintro⟨k,b⟩ ⟨hk,m,f,a,n⟩;cases b with
  |nil=>exact absurd rfl m
  | cons y b =>
    dsimp only at hk a n ⊢
    have d:serL (y::b)=y.head::(serL y.subs++serL b):=by
     show(y.ser++serL b)=_;rw[y.ser_eq];rfl
    rw[d]at hk a;obtain⟨d1,d2,d3⟩:=ygb hk;have r:=f y zAE;have g:=y.arity r;have o:y.subs.length<=3:=by cases y<;>simp[Ex.subs]
    simp only[zBB]at n a;simp only[ydbo,ycyk,ycyq,ycxe,ycws,ycri,ycdm,ycdb,yccd,ybc,ycg,go_sem,zA,zB,zD];refine⟨fun l=>⟨by omega,(ycee _).use ?_⟩,fun l=>by omega⟩
    rw[d2,g];simp only[ybk,ycg,go_sem,zA,zB];refine⟨fun h=>by omega,fun _=>⟨ikw (by omega) (by omega),ikw (by simp;omega) (by simp;omega),fun h=>⟨ikw (by omega) (by omega),?_⟩,fun h=>⟨ikw (by omega) (by omega),?_⟩⟩⟩
    .have s:b=[]:=zX (by omega)
     have t:y.subs=[]:=zX (by omega)
     subst s;rw[t]at a;simp[serL]at a;omega
    .have c:y.subs++b≠[]:=fun q=>by
      have w:=congrArg zAH q;simp only[zAN,zAU]at w;omega
     refine yj (k+1,y.subs++b) ⟨?_,c,?_,?_,?_⟩ (by dsimp only;omega) ?_
     .dsimp only
      rw[d3];simp[serL]
     .intro z v;rcases List.mem_append.1 v with q|q
      .exact y.subs_shp r z q
      .exact f z (zAB _ q)
     .dsimp only
      have:(serL (y.subs++b)).length=(serL y.subs++serL b).length:=by simp[serL]
      rw[this];omega
     .dsimp only
      simp only[zAN];omega
     .refine yw ?_;simp only[wk,go_sem,zA];simp;omega
end Sh
end
section
namespace Sh
open Go Ev
def varC(x:VarR):List SV:=[.a (.string x.name),.i .i64 x.kind,.i .i64 x.lo,.i .i64 x.hi,.i .i64 x.perNode,.i .i64 x.perID]
def yfi(l:List VarR):SV:=.sl 6 l.length (fun k=>varC (l.getD k default))
def yjs(l:List SetR):SV:=.sl 2 l.length (fun k=>[.i .i64 (l.getD k default).var,ybc (l.getD k default).val])
def ydk(l:List RuleR):SV:=.sl 3 l.length (fun k=>[.a (.string (l.getD k default).name),ybc (l.getD k default).guard,yjs (l.getD k default).sets])
def ypl(p:ProgR):List SV:=[.a (.string p.name),yfi p.vars,ydk p.rules]
def yel(g:Gr):SV:=.sl 1 g.ports.length (fun v=>[yba (ymo g v)])
def ygw(p:ProgR)(g:Gr):List SV:=[.a (.string p.name),yfi p.vars,ydk p.rules,yba g.ids,yu g.ports,.i .i64 (ybtz g),yel g]
def ykn(p:ProgR)(g:Gr)(c:Conf)(v:Nat)(e:List Tm):List SV:=[.rf (ygw p g),ycn c,.i .i64 v,ybc e]
theorem ybvt(l:List Int):one1 (yba l)=true:=rfl
theorem ybkl{n:Nat}(l:List Int):owned (n+1) (yba l)=false:=rfl
theorem ybhb{n:Nat}(l:List Int):scalar (n+1) (yba l)=false:=rfl
theorem ybtd{n:Nat}(o:Own)(l:List Int):view o (n+1) (yba l)=yba l:=rfl
theorem yccr{n:Nat}(o:Own)(l:List Int):vok o (n+1) (yba l)=True:=rfl
theorem ycad{n:Nat}(h:Nm->Nm)(l:List Int):ren h (n+1) (yba l)=yba l:=rfl
theorem ycah{n:Nat}(L:Nm->Bool)(l:List Int):cln L (n+1) (yba l)=true:=rfl
theorem ybly(l:List (Int×Int)):one1 (ybc l)=true:=rfl
theorem ybjm{n:Nat}(l:List (Int×Int)):owned (n+1) (ybc l)=false:=rfl
theorem ybcv{n:Nat}(l:List (Int×Int)):scalar (n+1) (ybc l)=false:=rfl
theorem yblq{n:Nat}(o:Own)(l:List (Int×Int)):view o (n+1) (ybc l)=ybc l:=rfl
theorem ybvk{n:Nat}(o:Own)(l:List (Int×Int)):vok o (n+1) (ybc l)=True:=rfl
theorem ybsx{n:Nat}(h:Nm->Nm)(l:List (Int×Int)):ren h (n+1) (ybc l)=ybc l:=rfl
theorem ybva{n:Nat}(L:Nm->Bool)(l:List (Int×Int)):cln L (n+1) (ybc l)=true:=rfl
theorem ybnk(l:List (List (Int×Int))):one1 (yu l)=true:=rfl
theorem ybis{n:Nat}(l:List (List (Int×Int))):owned (n+1) (yu l)=false:=rfl
theorem ybex{n:Nat}(l:List (List (Int×Int))):scalar (n+1) (yu l)=false:=rfl
theorem ybkc{n:Nat}(o:Own)(l:List (List (Int×Int))):view o (n+1) (yu l)=yu l:=rfl
theorem ybwp{n:Nat}(o:Own)(l:List (List (Int×Int))):vok o (n+1) (yu l)=True:=rfl
theorem ybto{n:Nat}(h:Nm->Nm)(l:List (List (Int×Int))):ren h (n+1) (yu l)=yu l:=rfl
theorem ybwm{n:Nat}(L:Nm->Bool)(l:List (List (Int×Int))):cln L (n+1) (yu l)=true:=rfl
theorem ybsq(l:List (List Int)):one1 (ycn l)=true:=rfl
theorem ybkh{n:Nat}(l:List (List Int)):owned (n+1) (ycn l)=false:=rfl
theorem ybgy{n:Nat}(l:List (List Int)):scalar (n+1) (ycn l)=false:=rfl
theorem ybsv{n:Nat}(o:Own)(l:List (List Int)):view o (n+1) (ycn l)=ycn l:=rfl
theorem ycbi{n:Nat}(o:Own)(l:List (List Int)):vok o (n+1) (ycn l)=True:=rfl
theorem yciq{n:Nat}(h:Nm->Nm)(l:List (List Int)):ren h (n+1) (ycn l)=ycn l:=rfl
theorem ycax{n:Nat}(L:Nm->Bool)(l:List (List Int)):cln L (n+1) (ycn l)=true:=rfl
theorem ybsr(l:List VarR):one1 (yfi l)=true:=rfl
theorem ybmz{n:Nat}(l:List VarR):owned (n+1) (yfi l)=false:=rfl
theorem ybgq{n:Nat}(l:List VarR):scalar (n+1) (yfi l)=false:=rfl
theorem ybtk{n:Nat}(o:Own)(l:List VarR):view o (n+1) (yfi l)=yfi l:=rfl
theorem ycjn{n:Nat}(o:Own)(l:List VarR):vok o (n+1) (yfi l)=True:=rfl
theorem yccl{n:Nat}(h:Nm->Nm)(l:List VarR):ren h (n+1) (yfi l)=yfi l:=rfl
theorem ycay{n:Nat}(L:Nm->Bool)(l:List VarR):cln L (n+1) (yfi l)=true:=rfl
theorem ybwh(l:List SetR):one1 (yjs l)=true:=rfl
theorem ybkz{n:Nat}(l:List SetR):owned (n+1) (yjs l)=false:=rfl
theorem ybjh{n:Nat}(l:List SetR):scalar (n+1) (yjs l)=false:=rfl
theorem ybst{n:Nat}(o:Own)(l:List SetR):view o (n+1) (yjs l)=yjs l:=rfl
theorem ycfy{n:Nat}(o:Own)(l:List SetR):vok o (n+1) (yjs l)=True:=rfl
theorem ycgm{n:Nat}(h:Nm->Nm)(l:List SetR):ren h (n+1) (yjs l)=yjs l:=rfl
theorem yciz{n:Nat}(L:Nm->Bool)(l:List SetR):cln L (n+1) (yjs l)=true:=rfl
theorem ybmi(l:List RuleR):one1 (ydk l)=true:=rfl
theorem ybfe{n:Nat}(l:List RuleR):owned (n+1) (ydk l)=false:=rfl
theorem ybco{n:Nat}(l:List RuleR):scalar (n+1) (ydk l)=false:=rfl
theorem ybki{n:Nat}(o:Own)(l:List RuleR):view o (n+1) (ydk l)=ydk l:=rfl
theorem ybvx{n:Nat}(o:Own)(l:List RuleR):vok o (n+1) (ydk l)=True:=rfl
theorem ybtm{n:Nat}(h:Nm->Nm)(l:List RuleR):ren h (n+1) (ydk l)=ydk l:=rfl
theorem ybvf{n:Nat}(L:Nm->Bool)(l:List RuleR):cln L (n+1) (ydk l)=true:=rfl
theorem ybms(l:Gr):one1 (yel l)=true:=rfl
theorem ybjq{n:Nat}(l:Gr):owned (n+1) (yel l)=false:=rfl
theorem ybef{n:Nat}(l:Gr):scalar (n+1) (yel l)=false:=rfl
theorem ybog{n:Nat}(o:Own)(l:Gr):view o (n+1) (yel l)=yel l:=rfl
theorem ybvc{n:Nat}(o:Own)(l:Gr):vok o (n+1) (yel l)=True:=rfl
theorem ybue{n:Nat}(h:Nm->Nm)(l:Gr):ren h (n+1) (yel l)=yel l:=rfl
theorem ybvg{n:Nat}(L:Nm->Bool)(l:Gr):cln L (n+1) (yel l)=true:=rfl
theorem ybnp{n:Nat}(a:List Nm)(o:Own)(l:List Int):ydt a o (n+1) (yba l)=yba l:=rfl
theorem ycfj{n:Nat}(a:List Nm)(o:Own)(l:List Int):pok a o (n+1) (yba l)=True:=rfl
theorem ybgx{n:Nat}(a:List Nm)(o:Own)(l:List (Int×Int)):ydt a o (n+1) (ybc l)=ybc l:=rfl
theorem ybul{n:Nat}(a:List Nm)(o:Own)(l:List (Int×Int)):pok a o (n+1) (ybc l)=True:=rfl
theorem ybfo{n:Nat}(a:List Nm)(o:Own)(l:List (List (Int×Int))):ydt a o (n+1) (yu l)=yu l:=rfl
theorem ybuk{n:Nat}(a:List Nm)(o:Own)(l:List (List (Int×Int))):pok a o (n+1) (yu l)=True:=rfl
theorem ybmu{n:Nat}(a:List Nm)(o:Own)(l:List (List Int)):ydt a o (n+1) (ycn l)=ycn l:=rfl
theorem ycgy{n:Nat}(a:List Nm)(o:Own)(l:List (List Int)):pok a o (n+1) (ycn l)=True:=rfl
theorem ybmk{n:Nat}(a:List Nm)(o:Own)(l:List VarR):ydt a o (n+1) (yfi l)=yfi l:=rfl
theorem ychp{n:Nat}(a:List Nm)(o:Own)(l:List VarR):pok a o (n+1) (yfi l)=True:=rfl
theorem yboh{n:Nat}(a:List Nm)(o:Own)(l:List SetR):ydt a o (n+1) (yjs l)=yjs l:=rfl
theorem ycca{n:Nat}(a:List Nm)(o:Own)(l:List SetR):pok a o (n+1) (yjs l)=True:=rfl
theorem ybiv{n:Nat}(a:List Nm)(o:Own)(l:List RuleR):ydt a o (n+1) (ydk l)=ydk l:=rfl
theorem ybtc{n:Nat}(a:List Nm)(o:Own)(l:List RuleR):pok a o (n+1) (ydk l)=True:=rfl
theorem ybhv{n:Nat}(a:List Nm)(o:Own)(l:Gr):ydt a o (n+1) (yel l)=yel l:=rfl
theorem ybtj{n:Nat}(a:List Nm)(o:Own)(l:Gr):pok a o (n+1) (yel l)=True:=rfl
theorem ybkv(l:List Int):SV.cells (yba l)=[yba l]:=rfl
theorem ybfw(l:List (Int×Int)):SV.cells (ybc l)=[ybc l]:=rfl
theorem ybhd(l:List (List (Int×Int))):SV.cells (yu l)=[yu l]:=rfl
theorem ybmy(l:List (List Int)):SV.cells (ycn l)=[ycn l]:=rfl
theorem ybld(l:List VarR):SV.cells (yfi l)=[yfi l]:=rfl
theorem ybnj(l:List SetR):SV.cells (yjs l)=[yjs l]:=rfl
theorem ybix(l:List RuleR):SV.cells (ydk l)=[ydk l]:=rfl
theorem ybia(l:Gr):SV.cells (yel l)=[yel l]:=rfl
attribute [go_sem] ybvt ybkl ybhb ybtd yccr ycad ycah ybly ybjm ybcv yblq ybvk ybsx ybva
attribute [go_sem] ybnk ybis ybex ybkc ybwp ybto ybwm ybsq ybkh ybgy ybsv ycbi yciq
attribute [go_sem] ycax ybsr ybmz ybgq ybtk ycjn yccl ycay ybwh ybkz ybjh ybst ycfy ycgm
attribute [go_sem] yciz ybmi ybfe ybco ybki ybvx ybtm ybvf ybms ybjq ybef ybog ybvc
attribute [go_sem] ybue ybvg ybnp ycfj ybgx ybul ybfo ybuk ybmu ycgy ybmk ychp yboh ycca
attribute [go_sem] ybiv ybtc ybhv ybtj ybkv ybfw ybhd ybmy ybld ybnj ybix ybia
end Sh
end
section
namespace Sh
open Go Ev
theorem ycnr(p:ProgR){g:Gr}(q:ybh g)(b:Int){v:Nat}(u:v<g.ports.length)(a:Int)(t:b=6\/b=7\/b=8\/b=9\/b=10\/b=11\/(0<=a/\a<(g.ports.getD v []).length)) :
 Returns zC 239 [.rf (ygw p g),.i .i64 b,.i .i64 v,.i .i64 a] (.i .i64 (ypu g b v a)):=by
 refine Returns.of (ydie _ _ ?_);have r:=q.2.2.1;simp only[c239,ydcu,ycye,ycsz,ydda,ydaq,ydba,ycxr,ycst,ydbu,ycyd,ybww,ybzc,ychf,ycgt,ycgf,ycga,ycac,ycgq,ycer,ycjj,ycff,ycap,ycdq,yccq,ycfd,ygw,yba,yu,ybc,yel,ycg,go_sem,zA,zB,zD,zG];refine⟨fun k=>?_,fun k=>⟨fun l=>?_,fun l=>⟨fun m=>⟨by omega,?_⟩,fun m=>⟨fun n=>⟨by omega,?_⟩,fun n=>⟨fun c=>(yfe _).use ?_,fun c=>⟨fun d=>?_,fun d=>?_⟩⟩⟩⟩⟩⟩
 .simp[ypu,k]
 .simp[ypu,l]
 .simp[ypu,m]
 .simp[ypu,n]
 .simp only[ybk,ycg,go_sem,zA,zB];simp[ypu,c]
 .simp[ypu,d]
 .have t:0<=a/\a<(g.ports.getD v []).length:=by omega
  have o:a.toNat<(g.ports.getD v []).length:=by omega
  have s:=q.ycs u o;unfold ycs at s;refine⟨by omega,by omega,fun e=>⟨by omega,?_⟩,fun e=>⟨fun f=>⟨by omega,?_⟩,fun f=>⟨fun h=>(yfe _).use ?_,fun h=>⟨fun j=>?_,fun j=>⟨by omega,?_⟩⟩⟩⟩⟩
  .simp[ypu,e,ycs]
  .simp[ypu,f,ycs]
  .simp only[ybk,ycg,go_sem,zA,zB];simp[ypu,h,ycs]
  .simp[ypu,j,ycs]
  .refine⟨by rw[show(ymo g v).length=(g.ports.getD v []).length from zBI _];omega,?_⟩
   simp[ypu,k,l,m,n,c,d,e,f,h,j]
theorem ycqt(p:ProgR){g:Gr}(y:ybh g){C:Nat}{c:Conf}(r:ConfIn g.ports.length C c){v:Nat}(w:v<g.ports.length)(e:List Tm){j arg:Int}{h:Bool}(A:(Ex.leaf j arg).ok C h=true)(a:Int)(s:h=true->0<=a/\a<(g.ports.getD v []).length) :
 Returns zC 220 [.rf (ykn p g c v e),.ag [.i .i64 j,.i .i64 arg],.i .i64 a] (.i .i64 (ywg g c j arg v a)):=by
 refine Returns.of (ydjh _ _ ?_);simp only[Ex.ok,zF,decide_eq_true_eq]at A;obtain⟨⟨E,b⟩,d⟩:=A;have z:=r.len;have B:=r.at_ w;have x:=ycnr p y j w a;simp only[ygw,yba,yu,ybc,yel]at x;simp only[c220,ycvy,ycwv,ycvt,ycut,ycxc,ydee,ydcf,yddd,ycsi,yddy,ycaq,ycfb,yciw,ycbe,ybzd,ykn,ycn,ygw,yba,yu,ybc,yel,ycg,go_sem,zA,zB,zD,zG];refine⟨fun k=>?_,fun k=>⟨fun l=>?_,fun l=>⟨fun m=>?_,fun m=>⟨fun n=>?_,fun n=>⟨fun o=>?_,fun o=>⟨fun f=>?_,fun f=>(x ?_).use ?_⟩⟩⟩⟩⟩⟩
 .simp[ywg,k]
 .simp[ywg,l]
 .simp[ywg,m]
 .simp[ywg,n]
 .rw[if_neg (by omega),if_pos (by omega)]at b
  have b:=of_decide_eq_true b;refine⟨by omega,by omega,?_⟩
  simp[ywg,o]
 .rw[if_neg (by omega),if_pos (by omega)]at b
  have b:=of_decide_eq_true b;rw[if_pos (by omega)]at d
  have s:=s d;have t:a.toNat<(g.ports.getD v []).length:=by omega
  have D:=y.ycs w t;have u:=r.at_ (v:=(ycs g v a.toNat).1.toNat) (by omega)
  unfold ycs at D u;refine⟨by omega,by omega,by omega,by omega,?_⟩
  simp[ywg,f,ycs]
 .by_cases q:11<=j
  .rw[if_pos q]at d;have:=s d;omega
  .omega
 .simp only[ybk,ycg,go_sem,zA,zB];simp[ywg,k,l,m,n,o,f]
theorem yvo{e:List Tm}{at_:Nat}{a b:List Tm}(h:e.drop at_=a++b):e.drop (at_+a.length)=b:=by
 rw[<-List.drop_drop,h,List.drop_left]
theorem ycqg{n:Nat}{a:Nat->List SV}{l:List Int}(b:n=l.length)(h:∀k,k<n->a k=[.i .i64 (l.getD k 0)]):Sim (.sl 1 n a) (yba l):=by
 subst b;exact ybre h
def ycbg(p:ProgR)(g:Gr)(d:Nat)(c:Conf)(v:Nat)(e:List Tm)(x:Ex):Prop :=
 ∀ (b:Bool) (a:Int) (at_:Nat) (rest:List Tm),x.ok d b=true->(b=true->0<=a/\a<(g.ports.getD v []).length)->InB a->e.drop at_=x.ser++rest ->
   Returns zC 205 [.rf (ykn p g c v e),.i .i64 at_,.i .i64 a] (.tp [.i .i64 (yda g c v x a),.i .i64 ((at_+x.ser.length:Nat):Int)])
theorem ybdt(p:ProgR){g:Gr}(C:ybh g){y:Nat}{c:Conf}(H:ConfIn g.ports.length y c){v:Nat}(M:v<g.ports.length)(e:List Tm)(L:e.length<=1000){f:Int}{a:Ex}(o:(Ex.agg f a).ok y true=true)(O:ycbg p g y c v e a)(at_:Nat)(rest:List Tm)(r:e.drop at_=(Ex.agg f a).ser++rest) :
 Returns zC 222 [.rf (ykn p g c v e),.i .i64 f,.i .i64 at_] (.tp [.i .i64 (yda g c v (.agg f a) 0),.i .i64 ((at_+(Ex.agg f a).ser.length:Nat):Int)]):=by
 have u:=o;simp only[Ex.ok,zF,decide_eq_true_eq]at o;have I:=C.deg_lt (v:=v);obtain⟨b,h⟩:∃d,(g.ports.getD v []).length=d:=⟨_,rfl⟩;rw[h]at I;have s:∀q:Nat,q<b->InB (yda g c v a q):=fun q D=>yis C rfl H M a o.2 (fun _=>by omega) (by unfold InB;omega)
 have w:=Ex.ok_shp _ u;have j:e.drop (at_+1)=a.ser++rest:=(ygb (show e.drop at_=(f,0)::(a.ser++rest)from r)).2.2
 have G:=(ygb (show e.drop at_=(f,0)::(a.ser++rest)from r)).1
 have B:at_+1+a.ser.length<=e.length:=by
  have:=congrArg zAH j;simp at this;omega
 refine Returns.of (ydno _ _ ?_);simp only[c222,yddt,ydeu,ydcr,ydae,ykn,ycn,ygw,yba,yu,ybc,yel,h,go_sem,zA,zB,zD,zG];refine⟨by omega,?_⟩
 let val:Nat->Int:=fun q=>yda g c v a q
 refine ybf (σ:=Nat) (fun k=>⟨[(27,.i .i64 k),(26,.i .i64 b),(9,.i .i64 b),(0,.rf (ykn p g c v e)),(1,.i .i64 f),(2,.i .i64 at_),(8,.pt (8,0) 0 0),(7,.i .i64 (if k=0 then 0 else((at_+1+a.ser.length:Nat):Int)))],
  [(8,.one (some ⟨150,true,1,24,fun i=>[.i .i64 (if i<k then val i else 0)]⟩))]⟩) (fun k=>k<=b) (fun k=>b-k) 0 (zK _) ?_ ?_
 .refine yw ?_;simp only[ykn,ycn,ygw,yba,yu,ybc,yel,wk,go_sem,zA,zG];intro i _;rw[if_neg (by omega)]
 .intro k hk;simp only[ydbs,ycub,ycwa,ycww,yctt,ydas,ycfg,go_sem,zA,zB,zD,zG];refine⟨fun t=>⟨ikw (by omega) (by omega),?_⟩,fun t=>?_⟩
  .have K:k<b:=by omega
   have n:=O true (k:Int) (at_+1) rest o.2 (fun _=>by rw[h];omega) (by unfold InB;omega) j
   rw[show((at_+1:Nat):Int)=(at_:Int)+1 by omega]at n
   refine n.use ?_;simp only[ybk,splice,go_sem,zA,zB];refine⟨by omega,by omega,ikw (by omega) (by omega),?_⟩
   refine ybz (k+1) ?_;refine yw ?_;simp only[wk,go_sem,zA,zG];refine⟨by omega,?_⟩
   intro i J
   by_cases q:i=k
   .rw[if_pos q,if_pos (by omega)]
    subst q;simp only[val,wk,go_sem]
   .rw[if_neg q]
    by_cases E:i<k
    .rw[if_pos E,if_pos (by omega)]
     simp only[wk,go_sem]
    .rw[if_neg E,if_neg (by omega)]
     simp only[wk,go_sem]
  .obtain rfl:k=b:=by omega
   have z:=ydmt e _ at_ rest w r L
   have A:=ycmj f ((zS k).map val) (by simp;omega) (fun x N=>by
    obtain⟨q,D,rfl⟩:=List.mem_map.1 N;exact s q (List.mem_range.1 D))
   have m:yda g c v (.agg f a) 0=yjm f ((zS k).map val):=by
    show yjm f _=_;rw[h]
   rw[m];simp only[ykn,ybc,go_sem,zA,zB];simp only[ybc]at z
   have l:SimL [.i .i64 f,.sl 1 (k-0) fun i=>[.i .i64 (if i<k then val i else 0)]] [.i .i64 f,yba ((zS k).map val)]:=by
    refine⟨Sim.refl _,ycqg (by simp) fun i J=>?_,trivial⟩
    rw[if_pos (by omega)]
    simp[zM,show i<k by omega]
   refine⟨fun F=>z.use ?_,fun F=>?_⟩
   .simp only[ybk,go_sem,zA,zB,zD,zG];refine⟨by simp;omega,.inl ⟨by omega,A.useS l ?_⟩⟩
    simp only[go_sem];exact Sim.refl _
   .refine⟨by simp;omega,.inl ⟨by omega,A.useS l ?_⟩⟩
    simp only[ybk,if_neg (show ¬k=0 by omega),go_sem,zA,zB]
    rw[show at_+(Ex.agg f a).ser.length=at_+1+a.ser.length by simp[Ex.ser];omega]
    exact Sim.refl _
end Sh
end
section
namespace Sh
open Go Ev
theorem ybvh(g:Gr)(v:Nat)(f:v<g.ports.length)(u:Int)(e:(g.ports.getD v []).length<=100000):Returns zC 204 [grV g,.i .i64 v,.i .i64 u] (.i .i64 (yoq (g.ports.getD v []) u)):=by
 refine Returns.of (ydjd _ _ ?_);simp only[c204,yctn,yddo,grV,yu,ybc,yba,go_sem,zA,zB,zG];refine⟨by omega,?_⟩
 obtain⟨b,d⟩:∃b,g.ports.getD v []=b:=⟨_,rfl⟩;rw[d]at e ⊢;refine ybf (σ:=Nat) (fun k=>⟨[(15,.i .i64 k),(13,ybc b),(14,.i .i64 b.length),(2,.i .i64 u)],[]⟩) (fun k=>k<=b.length/\(b.take k).findIdx? (fun l=>l.1==u)=none) (fun k=>b.length-k) 0 ⟨zK _,by simp⟩ ?_ ?_
 .refine yw ?_;simp only[ybc,wk,go_sem,zA]
 .intro k ⟨hk,hno⟩;simp only[ycyh,ycxo,ycwb,ycwy,ydbm,ycvz,ybc,ycg,splice,go_sem,zA,zB,zD,zG];refine⟨fun a=>⟨by omega,fun c=>?_,fun c=>⟨ikw (by omega) (by omega),?_⟩⟩,fun a=>?_⟩
  .have a:k<b.length:=by omega
   rw[getD_at a]at c;rw[ybvj b u k a c hno]
  .have a:k<b.length:=by omega
   rw[getD_at a]at c;refine yj (k+1) ⟨by omega,ybgh b u k a c hno⟩ (by omega) ?_
   refine yw ?_;simp only[wk,go_sem,zA];simp
  .obtain rfl:k=b.length:=by omega
   rw[yboe b u hno]
theorem ybwr{ids:List Int}{k:Nat}(h:k<ids.length):(ids.take (k+1)).foldl max 0=max ((ids.take k).foldl max 0) (ids.getD k 0):=by
 rw[ybuf ids k h,getD_at h]
theorem ybjl(p:ProgR){g:Gr}(o:ybh g):Returns zC 167 [.ag (ypl p),grV g] (.rf (ygw p g)):=by
 refine Returns.of (ydlj _ _ ?_);have t:=o.2.1;have hid:=o.2.2.1;obtain⟨n,h⟩:∃n,g.ports.length=n:=⟨_,rfl⟩;rw[h]at t hid;simp only[c167,ydde,ydcc,ycvx,grV,yu,ybc,yba,ypl,splice,h,go_sem,zA,zB,zD,zG];refine⟨by omega,?_⟩
 refine ybf (σ:=Nat) (fun k=>⟨[(21,.i .i64 k),(19,yu g.ports),(20,.i .i64 n),(3,.pt (3,0) 0 0),(5,.pt (17,0) 0 0)],
  [(3,.one (some ⟨27,true,2,1,fun _=>[yba g.ids,yu g.ports]⟩)),(17,.one (some ⟨235,true,7,1,fun _=>[.a (.string p.name),yfi p.vars,ydk p.rules,yba g.ids,yu g.ports,.i .i64 ((g.ids.take k).foldl max 0),.os (15,0) 0 n true]⟩)),
   (15,.one (some ⟨22,false,1,n,fun i=>[if i<k then yba (ymo g i)else .a (.slice none 0 0)]⟩))]⟩) (fun k=>k<=n) (fun k=>n-k) 0 (zK _) ?_ ?_
 .refine yw ?_;simp only[yu,ybc,yba,h,wk,go_sem,zA,zG];refine⟨fun i _=>by simp,fun i _=>?_⟩
  rw[if_neg (by omega)]
  simp only[wk,go_sem]
 .intro k hk;simp only[yder,ycwi,ydab,ycrb,yu,ybc,yba,splice,h,go_sem,zA,zB,zD];refine⟨fun e=>⟨by omega,by omega,by decide,?_⟩,fun e=>?_⟩
  .have A:k<n:=by omega
   obtain⟨c,b⟩:∃c,g.ports.getD k []=c:=⟨_,rfl⟩;have s:=o.deg_lt (v:=k);rw[b]at s;rw[b]
   have l:∀j,j<c.length->(ymo g k).getD j 0=yoq (g.ports.getD (c.getD j (0,0)).1.toNat []) k:=fun j z=>by
    unfold ymo;rw[b];simp[zM,z]
   have u:(ymo g k).length=c.length:=by unfold ymo;rw[b,zBI]
   refine ybf (σ:=Nat) (fun j=>⟨[(41,.i .i64 j),(39,ybc c),(40,.i .i64 c.length),(6,.i .i64 k),(21,.i .i64 k),(19,yu g.ports),(20,.i .i64 n),(3,.pt (3,0) 0 0),(5,.pt (17,0) 0 0)],
    [(3,.one (some ⟨27,true,2,1,fun _=>[yba g.ids,yu g.ports]⟩)),(17,.one (some ⟨235,true,7,1,fun _=>[.a (.string p.name),yfi p.vars,ydk p.rules,yba g.ids,yu g.ports,.i .i64 ((g.ids.take (k+1)).foldl max 0),.os (15,0) 0 n true]⟩)),
     (15,.one (some ⟨22,false,1,n,fun i=>[if i<k then yba (ymo g i)else if i=k then .os (100,0) 0 j true else .a (.slice none 0 0)]⟩)),
     (100,.one (some ⟨3,false,1,j,fun q=>[.i .i64 ((ymo g k).getD q 0)]⟩))]⟩) (fun j=>j<=c.length) (fun j=>c.length-j) 0 (zK _) ?_ ?_
   .refine yca [] [100] [] ?_;simp only[yu,ybc,yba,h,ybwr (show k<g.ids.length by omega),wk,go_sem,zA,zG,Nat.reduceBEq]
    intro i w
    by_cases f:i<k
    .simp only[if_pos f];simp only[wk,go_sem]
    .by_cases d:i=k
     .simp only[if_neg f,if_pos d];simp only[wk,go_sem,zA];simp
     .simp only[if_neg f,if_neg d];simp only[wk,go_sem]
   .intro j z;simp only[ycrf,ycsu,ycyt,ybyz,ybyl,yu,ybc,yba,splice,h,go_sem,zA,zB,zD,zG]
    have r:=fun e:j<c.length=>ybvh g (c.getD j (0,0)).1.toNat (by
     have:=o.ycs (v:=k) (p:=j) (by omega) (by rw[b];omega)
     unfold ycs at this;rw[b]at this;omega) (k:Int) (by have:=o.deg_lt (v:=(c.getD j (0,0)).1.toNat);omega)
    have y:j<c.length->((c.getD j (0,0)).1.toNat:Int)=(c.getD j (0,0)).1:=fun e=>by
     have:=o.ycs (v:=k) (p:=j) (by omega) (by rw[b];omega)
     unfold ycs at this;rw[b]at this;omega
    refine⟨fun e=>⟨by omega,by omega,by omega,?_⟩,fun e=>?_⟩
    .have m:j<c.length:=by omega
     have r:=r m;rw[y m]at r;simp only[grV,yu,ybc,yba,h]at r;refine r.use ?_;simp only[ybk,splice,go_sem,zA,zB,zD,zG];refine⟨by decide,by omega,by decide,by omega,by omega,by decide,ikw (by omega) (by omega),?_⟩
     refine ybz (j+1) ?_;refine yca [(100,fun _=>(63,0))] [] [] ?_;simp only[wk,go_sem,zA,zG];refine⟨by omega,fun i w=>?_,fun i w=>?_⟩
     .by_cases d:i=k
      .simp only[if_pos d,if_neg (show ¬i<k by omega)]
       simp only[wk,go_sem,zA]
      .simp only[if_neg d]
       by_cases f:i<k
       .simp only[if_pos f];simp only[wk,go_sem]
       .simp only[if_neg f];simp only[wk,go_sem]
     .by_cases d:i<j
      .simp only[if_pos d];simp only[wk,go_sem]
      .obtain rfl:i=j:=by omega
       simp only[if_neg d,Nat.sub_self,Nat.zero_mul];simp only[wk,go_sem];rw[l i m]
    .obtain rfl:j=c.length:=by omega
     refine⟨ikw (by omega) (by omega),?_⟩
     refine ybz (k+1) ?_;refine yca [] [] [(100,0)] ?_;simp only[wk,go_sem,zA,zD,zG];refine⟨by omega,fun i w=>?_⟩
     by_cases f:i<k
     .simp only[if_pos f,if_pos (show i<k+1 by omega)]
      simp only[wk,go_sem]
     .by_cases d:i=k
      .simp only[if_neg f,if_pos d,if_pos (show i<k+1 by omega)]
       subst d;simp only[u,wk,go_sem,zA]
      .simp only[if_neg f,if_neg d,if_neg (show ¬i<k+1 by omega)]
       simp only[wk,go_sem]
  .obtain rfl:k=n:=by omega
   simp only[ybym,go_sem,zA,zB,zD];refine⟨fun q x=>by simp only[if_pos x];simp only[go_sem],?_⟩
   refine yczb ?_ (by simp only[ygw,go_sem])
   simp only[SimL,ygw,yba,yu,ybc,yel,h,yvi,true_and,and_true];refine⟨?_,?_⟩
   .rw[ycg];refine⟨rfl,?_⟩;unfold ybtz;rw[zZ (by omega)]
   .refine yec fun q x=>?_;simp only[if_pos x];simp only[SimL,yvi,go_sem]
end Sh
end
section
def ylv(f:Nat->Bool):Nat->Nat
 |0=>0
 |n+1=>if f n then ylv f n|||2^n else ylv f n
theorem ymc(f:Nat->Bool):∀(n i:Nat),(ylv f n).testBit i=(decide (i<n)&&f i)
 |0,i=>by simp[ylv]
 | n + 1,i=>by
   unfold ylv;have a:=ymc f n i
   by_cases h:f n=true
   .rw[if_pos h,Nat.testBit_or,a,Nat.testBit_two_pow]
    by_cases e:n=i
    .subst e;simp[h]
    .have:(i<n+1)=(i<n):=propext (by omega)
     simp[e,this]
   .rw[if_neg h,a]
    by_cases e:n=i
    .subst e;simp[h]
    .have:(i<n+1)=(i<n):=propext (by omega)
     simp[this]
theorem ybdk(f:Nat->Bool)(n:Nat):ylv f n<2^n:=by
 refine zAS _ fun i a=>?_;rw[ymc];simp;omega
def difB(a b:Nat):Nat:=a ^^^ (a&&&b)
theorem ybfc(a b i:Nat):(difB a b).testBit i=(a.testBit i && !(b.testBit i)):=by
 unfold difB;rw[Nat.testBit_xor,zBJ];cases a.testBit i<;>cases b.testBit i<;>rfl
theorem ylo(a:Nat):a=0↔∀i,a.testBit i=false:=by
 constructor
 .rintro rfl i;simp
 .intro h;exact zAV fun i=>by rw[h i];simp
theorem yceh{a b n:Nat}(h:a<2^n):a&&&b<2^n:=by
 have:=zBK (n:=a) (m:=b);omega
theorem ywr{a b n:Nat}(h:a<2^n):difB a b<2^n:=by
 refine zAS _ fun i c=>?_;rw[ybfc,zAI (zAO h (zAL (by omega) c))]
 rfl
structure Cnt where
 steps:Nat
 moves:Nat
 rounds:Nat
 begun:Nat
 pend:Nat
def yik(s:Nat):Nat->Nat
 |0=>0
 |n+1=>yik s n+(s.testBit n).toNat
def popP(s:Nat):Nat:=yik s 32
def ybif(e:Nat):Cnt:=⟨0,0,0,0,e⟩
def addP(k:Cnt)(a after:Nat):Cnt :=
 let p:=difB k.pend a&&&after
 ⟨k.steps+1,k.moves+popP a,if p=0 then k.rounds+1 else k.rounds,k.rounds+1,if p=0 then after else p⟩
def Cnt.ok(k:Cnt):Prop:=k.rounds<=k.begun/\k.begun<=k.rounds+1/\k.begun<=k.steps/\k.steps<=k.moves/\k.moves<=24*k.steps/\k.pend<2^24
theorem yod(s:Nat):∀n,yik s n<=n
 |0=>zY _
 | n+1=>by
   have:=yod s n;unfold yik;cases s.testBit n<;>simp[Bool.toNat]<;>omega
theorem ybbb(s:Nat)(h:s<2^24):∀k,yik s (24+k)=yik s 24
 |0=>rfl
 | k+1=>by
   have e:s.testBit (24+k)=false:=zAI (zAO h (zAL (by omega) (by omega)))
   show yik s (24+k)+(s.testBit (24+k)).toNat=_;rw[ybbb s h k,e];rfl
theorem ydmm(s:Nat)(h:s<2^24):popP s<=24:=by
 have:=ybbb s h 8;unfold popP;rw[this];exact yod s 24
structure Sys where
 n:Nat
 en:Conf->Nat
 mv:Conf->Nat->Conf
def Sys.run(S:Sys)(res:Nat->Nat->Nat):List Nat->Conf->Cnt->List (Conf×Cnt)
 |[],_,_=>[]
 | w::a,c,k=>if S.en c=0 then[]else(let s:=res (S.en c) w
   let d:=S.mv c s
   (d,addP k s (S.en d))::S.run res a d (addP k s (S.en d)))
def Sys.runs(S:Sys)(res:Nat->Nat->Nat)(ws:List Nat)(c:Conf):List (Conf×Cnt):=(c,ybif (S.en c))::S.run res ws c (ybif (S.en c))
def subB(a b:Nat):Prop:=∀i,a.testBit i=true->b.testBit i=true
structure ByRounds(S:Sys)(V:Conf->Prop)(P:Nat->Nat->List Int->Prop):Prop where
 valid:∀c s,V c->s≠0->subB s (S.en c)->V (S.mv c s)
 stay:∀c s v,V c->v<S.n->s.testBit v=false->(S.mv c s).getD v []=c.getD v []
 move:∀c s v r,V c->v<S.n->s.testBit v=true->subB s (S.en c)->(∀u,u<S.n->P r u (c.getD u []))->P (r+1) v ((S.mv c s).getD v [])
 rest:∀c v r,V c->v<S.n->(S.en c).testBit v=false->(∀u,u<S.n->P r u (c.getD u []))->P (r+1) v (c.getD v [])
 less:∀r v s,P (r+1) v s->P r v s
structure RInv(S:Sys)(V:Conf->Prop)(P:Nat->Nat->List Int->Prop)(c:Conf)(k:Cnt):Prop where
 valid:V c
 all:∀v,v<S.n->P k.rounds v (c.getD v [])
 done:∀v,v<S.n->k.pend.testBit v=false->P (k.rounds+1) v (c.getD v [])
 begun:k.begun<=k.rounds+1
theorem ByRounds.start{S:Sys}{V:Conf->Prop}{P:Nat->Nat->List Int->Prop}(h:ByRounds S V P){c:Conf}(b:V c)(a:∀v,v<S.n->P 0 v (c.getD v [])):RInv S V P c (ybif (S.en c)) :=
 ⟨b,a,fun v e d=>h.rest c v 0 b e d a,by simp[ybif]⟩
theorem ByRounds.step{S:Sys}{V:Conf->Prop}{P:Nat->Nat->List Int->Prop}(h:ByRounds S V P)(c:Conf)(k:Cnt)(s:Nat)(r:RInv S V P c k)(q:s≠0)(o:subB s (S.en c)):RInv S V P (S.mv c s) (addP k s (S.en (S.mv c s))):=by
 obtain⟨j,p,t,u⟩:=r;have l:=h.valid c s j q o
 have e:∀v,v<S.n->P k.rounds v ((S.mv c s).getD v []):=fun v a=>by
  cases f:s.testBit v with
  |true=>exact h.less _ _ _ (h.move c s v _ j a f o p)
  |false=>rw[h.stay c s v j a f];exact p v a
 have d:∀v,v<S.n->(difB k.pend s&&&S.en (S.mv c s)).testBit v=false->P (k.rounds+1) v ((S.mv c s).getD v []):=fun v a f=>by
  rw[zBJ,ybfc]at f;cases g:s.testBit v with
  |true=>exact h.move c s v _ j a g o p
  | false =>
    cases i:k.pend.testBit v with
    |false=>rw[h.stay c s v j a g];exact t v a i
    | true =>
      rw[g,i]at f;exact h.rest _ v _ l a (by simpa using f) e
 unfold addP;simp only
 by_cases m:difB k.pend s&&&S.en (S.mv c s)=0
 .simp only[if_pos m];have b:∀v,v<S.n->P (k.rounds+1) v ((S.mv c s).getD v []):=fun v a=>d v a (by rw[m];simp)
  exact⟨l,b,fun v a f=>h.rest _ v _ l a f b,by show k.rounds+1<=_;simp⟩
 .simp only[if_neg m];exact⟨l,e,d,zY _⟩
end
section
structure RuleT where
 name:ByteArray
 guard:Ex
 sets:List (Int×Ex)
structure ProgT where
 name:ByteArray
 vars:List VarR
 rules:List RuleT
instance:Inhabited Ex:=⟨.leaf 0 0⟩
instance:Inhabited RuleT:=⟨⟨.empty,default,[]⟩⟩
def RuleT.raw(r:RuleT):RuleR:=⟨r.name,r.guard.ser,r.sets.map fun s=>⟨s.1,s.2.ser⟩⟩
def ProgT.raw(p:ProgT):ProgR:=⟨p.name,p.vars,p.rules.map RuleT.raw⟩
def RuleT.ok(a:Nat)(r:RuleT):Bool:=r.guard.ok a false&&decide (r.guard.ser.length<=1000)&&decide (r.sets.length<=100)&&r.sets.all fun s=>decide (0<=s.1/\s.1<a)&&s.2.ok a false&&decide (s.2.ser.length<=1000)
def VarR.ok(x:VarR):Bool:=decide (x.kind=1\/x.kind=2\/x.kind=3)&&decide (0<=x.lo/\x.lo<=4096)&&decide (-4096<=x.hi/\x.hi<=4096)&&decide (0<=x.perNode/\x.perNode<=255)&&decide (0<=x.perID/\x.perID<=255)
def ProgT.ok(p:ProgT):Bool:=decide (1<=p.vars.length/\p.vars.length<=6)&&p.vars.all VarR.ok&&decide (p.rules.length<=12)&&p.rules.all (RuleT.ok p.vars.length)
def yop(g:Gr)(c:Conf)(v:Nat)(r:RuleT):Bool:=yda g c v r.guard (-1)!=0
def yeo(p:ProgT)(g:Gr)(c:Conf)(v:Nat):Int:=match p.rules.findIdx? (yop g c v)with|some i=>i|none=>-1
def ybj(g:Gr)(v:Nat)(x:VarR):Int×Int :=
 if x.kind=1 then(x.lo,x.hi+x.perNode*(g.ids.length:Int)+x.perID*maxI g.ids)else if x.kind=2 then(0,1)else if x.kind=3 then(-1,((g.ports.getD v []).length:Int)-1)else(0,-1)
def yjh(kind:Int)(b:Int×Int)(x:Int):Int:=if x>=b.1/\x<=b.2 then x else if kind=3 then -1 else if x<b.1 then b.1 else b.2
def yuo(p:ProgT)(g:Gr)(c:Conf)(v:Nat)(b:List Int)(sets:List (Int×Ex)):List Int :=
 sets.foldl (fun s a=>s.set a.1.toNat (yjh (p.vars.getD a.1.toNat default).kind (ybj g v (p.vars.getD a.1.toNat default)) (yda g c v a.2 (-1)))) b
def ykc(p:ProgT)(g:Gr)(c:Conf)(v:Nat)(r:Nat):List Int:=yuo p g c v (c.getD v []) (p.rules.getD r default).sets
def ybt(p:ProgT)(g:Gr)(c:Conf):Nat:=ylv (fun v=>decide (yeo p g c v>=0)) g.ids.length
def ygn(p:ProgT)(g:Gr)(c:Conf)(s:Nat):Conf:=c.zipIdx.map fun q=>if s.testBit q.2 then ykc p g c q.2 (yeo p g c q.2).toNat else q.1
def ymq(p:ProgT)(g:Gr):Sys:=⟨g.ids.length,ybt p g,ygn p g⟩
def ydo(p:ProgT)(g:Gr)(c:Conf):Bool:=yyp g.ids.length (fun v=>p.vars.map (ybj g v)) c
end
section
namespace Sh
open Go Ev
theorem ydko{g:Gr}(a:ybh g):0<=maxI g.ids/\maxI g.ids<=255:=by
 have c:=a.1;have d:=a.2.2.1;rw[ybei (by omega) fun x b=>(a.2.2.2.1 x b).1]
 exact yxm a
theorem ybui{x:VarR}(h:x.ok=true):(x.kind=1\/x.kind=2\/x.kind=3)/\(0<=x.lo/\x.lo<=4096)/\(-4096<=x.hi/\x.hi<=4096)/\(0<=x.perNode/\x.perNode<=255)/\(0<=x.perID/\x.perID<=255):=by
 unfold VarR.ok at h;simp only[zF,decide_eq_true_eq]at h;obtain⟨⟨⟨⟨a,b⟩,c⟩,d⟩,e⟩:=h;exact⟨a,b,c,d,e⟩
theorem mulN{a b A B:Int}(d:0<=a)(e:a<=A)(c:0<=b)(f:b<=B):0<=a*b/\a*b<=A*B:=⟨Int.mul_nonneg d c,Int.mul_le_mul e f c (by omega)⟩
theorem yyg{g:Gr}(a:ybh g){x:VarR}(e:x.ok=true):(0<=x.perNode*(g.ids.length:Int)/\x.perNode*(g.ids.length:Int)<=255*24)/\(0<=x.perID*maxI g.ids/\x.perID*maxI g.ids<=255*255):=by
 obtain⟨_,_,_,b,c⟩:=ybui e;have d:=ydko a;have f:=a.2.1;have h:=a.2.2.1;exact⟨mulN b.1 b.2 (by omega) (by omega),mulN c.1 c.2 d.1 d.2⟩
theorem ybmr{g:Gr}(a:ybh g){x:VarR}(c:x.ok=true)(v:Int):Returns zC 176 [.ag (varC x),grV g,.i .i64 v] (.tp [.i .i64 x.lo,.i .i64 (x.hi+x.perNode*(g.ids.length:Int)+x.perID*maxI g.ids)]):=by
 refine Returns.of (ydgx _ _ ?_);have h:=a.1;have j:=a.2.1;have k:=a.2.2.1;have b:=ybzk g.ids (by omega) (by omega)
 obtain⟨d,e⟩:=yyg a c;obtain⟨_,_,f,_,_⟩:=ybui c;simp only[yba]at b;simp only[c176,ydec,ycyb,grV,varC,yba,go_sem,zA,zB,zD,zG];refine⟨ikw (by omega) (by omega),ikw (by omega) (by omega),b.use ?_⟩
 simp only[ybk,go_sem,zA,zB];refine⟨ikw (by omega) (by omega),ikw (by omega) (by omega),?_⟩
 exact Sim.refl _
theorem ybmv(g:Gr)(x:VarR)(v:Int):Returns zC 177 [.ag (varC x),grV g,.i .i64 v] (.tp [.i .i64 0,.i .i64 1]):=by
 refine Returns.of (ydkf _ _ ?_);simp only[c177,ycrr,yczc,grV,varC,go_sem,zA,zB,zG];exact Sim.refl _
theorem ybnn{g:Gr}(a:ybh g)(x:VarR){v:Nat}(c:v<g.ports.length):Returns zC 178 [.ag (varC x),grV g,.i .i64 v] (.tp [.i .i64 (-1),.i .i64 (((g.ports.getD v []).length:Int)-1)]):=by
 refine Returns.of (ydjf _ _ ?_);have b:=a.deg_lt (v:=v);simp only[c178,ydcv,ydac,grV,yu,ybc,varC,go_sem,zA,zB,zG];refine⟨by omega,ikw (by omega) (by omega),?_⟩
 exact Sim.refl _
theorem ycbo(kind:Int)(b:Int×Int)(x:Int):Returns zC 170 [.i .i64 kind,.ag [.i .i64 b.1,.i .i64 b.2],.i .i64 x] (.i .i64 (yjh kind b x)):=by
 refine Returns.of (ydkr _ _ ?_);simp only[c170,ycsq,ydbp,ycsm,yday,ydcg,ycys,ycsr,ycxp,ycg,yjh,go_sem,zAK,zA,zB,zD,zG,zBP];refine⟨by omega,fun d=>⟨by omega,fun e=>by rw[if_pos ⟨d,e⟩],fun e=>⟨fun a=>by rw[if_neg (fun q=>e q.2),if_pos a],fun a=>⟨by omega,fun c=>⟨by omega,by rw[if_neg (fun q=>e q.2),if_neg a,if_pos c]⟩,fun c=>⟨by omega,by rw[if_neg (fun q=>e q.2),if_neg a,if_neg c]⟩⟩⟩⟩,fun d=>⟨fun a=>by rw[if_neg (fun q=>d q.1),if_pos a],fun a=>⟨by omega,fun c=>⟨by omega,by rw[if_neg (fun q=>d q.1),if_neg a,if_pos c]⟩,fun c=>⟨by omega,by rw[if_neg (fun q=>d q.1),if_neg a,if_neg c]⟩⟩⟩⟩
theorem yzl{g:Gr}(f:ybh g){x:VarR}(l:x.ok=true){v:Nat}(p:v<g.ports.length):Returns zC 132 [.ag (varC x),grV g,.i .i64 v] (.tp [.i .i64 (ybj g v x).1,.i .i64 (ybj g v x).2]):=by
 refine Returns.of (ydho _ _ ?_);have b:=ybmr f l v;have c:=ybmv g x v;have d:=ybnn f x p;obtain⟨hk,_⟩:=ybui l;simp only[varC,grV]at b c d;simp only[c132,ydem,ydbt,ydck,varC,grV,splice,go_sem,zA,zB,zD,zG]
 refine ybf (σ:=Nat) (fun k=>⟨[(17,.i .i64 k),(15,.os (14,0) 0 3 true),(16,.i .i64 3),(2,.i .i64 v),(3,.pt (3,0) 0 0),(4,.pt (4,0) 0 0)],
  [(3,.one (some ⟨160,true,6,1,fun _=>varC x⟩)),(4,.one (some ⟨27,true,2,1,fun _=>[yba g.ids,yu g.ports]⟩)),
   (14,.one (some ⟨210,false,2,3,fun k=>if k=0 then[.i .i64 1,.fn 176 [] []]else if k=1 then[.i .i64 2,.fn 177 [] []]else[.i .i64 3,.fn 178 [] []]⟩))]⟩)
  (fun k=>k<=2/\(1<=k->x.kind≠1)/\(2<=k->x.kind≠2)) (fun k=>3-k) 0 ⟨by omega,by omega,by omega⟩ ?_ ?_
 .refine yw ?_;simp only[varC,wk,go_sem,zA,zG];refine⟨rfl,fun i j=>?_⟩;rcases(show i=0\/i=1\/i=2 by omega)with rfl|rfl|rfl
  .simp only[wk,go_sem]
  .simp only[if_neg (show ¬(1:Nat)=0 by omega),wk,go_sem]
  .simp only[if_neg (show ¬(2:Nat)=0 by omega),if_neg (show ¬(2:Nat)=1 by omega),wk,go_sem,zA]
 .rintro k ⟨m,n,o⟩;rcases(show k=0\/k=1\/k=2 by omega)with rfl|rfl|rfl
  .simp only[ybra,ybpl,ybse,ybpf,ybpd,ybrk,varC,splice,go_sem,zA,zB,zD,zG];refine⟨fun _=>⟨by omega,fun a=>b.use ?_,fun a=>⟨ikw (by omega) (by omega),?_⟩⟩,fun h=>by omega⟩
   .simp only[ybk,go_sem,zA,zB];have e:ybj g v x=(x.lo,x.hi+x.perNode*(g.ids.length:Int)+x.perID*maxI g.ids):=by unfold ybj;rw[if_pos a.symm]
    rw[e];exact Sim.refl _
   .refine yj 1 ⟨by omega,fun _ q=>a q.symm,by omega⟩ (by omega) ?_
    refine yw ?_;simp only[wk,go_sem,zA,zG];refine⟨by omega,fun i j=>?_⟩
    rcases(show i=0\/i=1\/i=2 by omega)with rfl|rfl|rfl
    .simp only[wk,go_sem]
    .simp only[if_neg (show ¬(1:Nat)=0 by omega),wk,go_sem]
    .simp only[if_neg (show ¬(2:Nat)=0 by omega),if_neg (show ¬(2:Nat)=1 by omega),wk,go_sem,zA]
  .simp only[ybra,ybpl,ybse,ybpf,ybpd,ybrk,varC,splice,go_sem,zA,zB,zD,zG];refine⟨fun _=>⟨by omega,fun a=>c.use ?_,fun a=>⟨ikw (by omega) (by omega),?_⟩⟩,fun h=>by omega⟩
   .simp only[ybk,go_sem,zA,zB];have e:ybj g v x=(0,1):=by unfold ybj;rw[if_neg (by omega),if_pos a.symm]
    rw[e];exact Sim.refl _
   .refine yj 2 ⟨by omega,fun _=>by omega,fun _ q=>a q.symm⟩ (by omega) ?_
    refine yw ?_;simp only[wk,go_sem,zA,zG];refine⟨by omega,fun i j=>?_⟩
    rcases(show i=0\/i=1\/i=2 by omega)with rfl|rfl|rfl
    .simp only[wk,go_sem]
    .simp only[if_neg (show ¬(1:Nat)=0 by omega),wk,go_sem]
    .simp only[if_neg (show ¬(2:Nat)=0 by omega),if_neg (show ¬(2:Nat)=1 by omega),wk,go_sem,zA]
  .simp only[ybra,ybpl,ybse,ybpf,ybpd,ybrk,varC,splice,go_sem,zA,zB,zD,zG];refine⟨fun _=>⟨by omega,fun a=>d.use ?_,fun a=>by omega⟩,fun h=>by omega⟩
   simp only[ybk,go_sem,zA,zB];have e:ybj g v x=(-1,((g.ports.getD v []).length:Int)-1):=by unfold ybj;rw[if_neg (by omega),if_neg (by omega),if_pos a.symm]
   rw[e];exact Sim.refl _
def ybap(n:Nat)(a:List VarR)(b:Nat->VarR->Int×Int):SV:=.sl 1 n (fun v=>[.sl 2 a.length (fun i=>[.i .i64 (b v (a.getD i default)).1,.i .i64 (b v (a.getD i default)).2])])
def rowT(a:List VarR)(b:VarR->Int×Int):SV:=.sl 2 a.length (fun i=>[.i .i64 (b (a.getD i default)).1,.i .i64 (b (a.getD i default)).2])
theorem ybgg(p:ProgR){g:Gr}(o:ybh g)(z:p.vars.all VarR.ok=true)(y:p.vars.length<=6):Returns zC 63 [.ag (ypl p),grV g] (ybap g.ids.length p.vars (ybj g)):=by
 refine Returns.of (ydwl _ _ ?_);have t:=o.2.1;have hid:=o.2.2.1;obtain⟨n,r⟩:∃n,g.ids.length=n:=⟨_,rfl⟩;obtain⟨h,c⟩:∃k,p.vars.length=k:=⟨_,rfl⟩;rw[r];rw[c]at y;simp only[c63,ydof,ydzx,ydrb,grV,yba,ypl,r,go_sem,zA,zB,zD,zG];refine⟨by omega,?_⟩
 refine ybf (σ:=Nat) (fun k=>⟨[(15,.i .i64 k),(14,.i .i64 n),(5,.os (12,0) 0 n true),(2,.pt (2,0) 0 0),(3,.pt (3,0) 0 0)],
  [(2,.one (some ⟨32,true,3,1,fun _=>ypl p⟩)),(3,.one (some ⟨27,true,2,1,fun _=>[yba g.ids,yu g.ports]⟩)),
   (12,.one (some ⟨92,false,1,n,fun i=>[if i<k then rowT p.vars (ybj g i)else .a (.slice none 0 0)]⟩))]⟩) (fun k=>k<=n) (fun k=>n-k) 0 (zK _) ?_ ?_
 .refine yw ?_;simp only[ypl,yba,r,wk,go_sem,zA,zG];intro i _;rw[if_neg (by omega)]
  simp only[wk,go_sem]
 .intro k hk;simp only[yebr,ydoe,ydxh,ydvm,ypl,yfi,splice,c,go_sem,zA,zB,zD,zG];refine⟨fun f=>⟨by omega,by omega,by omega,?_⟩,fun f=>?_⟩
  .have w:k<n:=by omega
   let b:Nat->Int×Int:=fun i=>ybj g k (p.vars.getD i default)
   refine ybf (σ:=Nat) (fun j=>⟨[(28,.i .i64 j),(26,yfi p.vars),(27,.i .i64 h),(6,.i .i64 k),(15,.i .i64 k),(14,.i .i64 n),(5,.os (12,0) 0 n true),(2,.pt (2,0) 0 0),(3,.pt (3,0) 0 0)],
    [(2,.one (some ⟨32,true,3,1,fun _=>ypl p⟩)),(3,.one (some ⟨27,true,2,1,fun _=>[yba g.ids,yu g.ports]⟩)),
     (12,.one (some ⟨92,false,1,n,fun i=>[if i<k then rowT p.vars (ybj g i)else if i=k then .os (23,0) 0 h true else .a (.slice none 0 0)]⟩)),
     (23,.one (some ⟨91,false,2,h,fun i=>[.i .i64 (if i<j then(b i).1 else 0),.i .i64 (if i<j then(b i).2 else 0)]⟩))]⟩) (fun j=>j<=h) (fun j=>h-j) 0 (zK _) ?_ ?_
   .refine yw ?_;simp only[ypl,yfi,c,wk,go_sem,zA,zG];refine⟨fun i m=>?_,fun i m=>?_⟩
    .by_cases e:i=k
     .simp only[if_pos e,if_neg (show ¬i<k by omega)]
      simp only[wk,go_sem,zA]
     .simp only[if_neg e]
      by_cases d:i<k
      .simp only[if_pos d];simp only[rowT,wk,go_sem]
      .simp only[if_neg d];simp only[wk,go_sem]
    .simp only[if_neg (zBH i),and_self]
   .intro j A;simp only[ydtl,ydyl,ydwn,ycsx,yczn,ypl,yfi,varC,splice,c,go_sem,zA,zB,zG];refine⟨fun f=>?_,fun f=>?_⟩
    .have u:j<h:=by omega
     have s:=yzl o (x:=p.vars.getD j default) (by
      rw[getD_at (by omega)]
      exact List.all_eq_true.1 z _ (zJ _)) (v:=k) (by omega)
     simp only[varC,grV]at s;refine⟨by omega,by omega,by omega,by omega,by omega,s.use ?_⟩
     simp only[ybk,splice,go_sem,zAK,zA,zB,zD,zBP];refine⟨by omega,by omega,by omega,by decide,by omega,by omega,by omega,by decide,ikw (by omega) (by omega),?_⟩
     refine ybz (j+1) ?_;refine yw ?_;simp only[wk,go_sem,zA,zG];refine⟨by omega,fun i m=>?_,fun i m=>?_⟩
     .by_cases d:i<k
      .simp only[if_pos d];simp only[rowT,wk,go_sem]
      .simp only[if_neg d]
       by_cases e:i=k
       .simp only[if_pos e];simp only[wk,go_sem,zA]
       .simp only[if_neg e];simp only[wk,go_sem]
     .by_cases e:i=j
      .subst e;simp only[if_pos (Nat.lt_succ_self i)];simp only[wk,go_sem];exact⟨rfl,rfl⟩
      .simp only[if_neg e]
       by_cases d:i<j
       .simp only[if_pos d,if_pos (show i<j+1 by omega)]
        simp only[wk,go_sem]
       .simp only[if_neg d,if_neg (show ¬i<j+1 by omega)]
        simp only[wk,go_sem]
    .obtain rfl:j=h:=by omega
     refine⟨ikw (by omega) (by omega),?_⟩
     refine ybz (k+1) ?_;refine yca [] [] [(23,0)] ?_;simp only[wk,go_sem,zA,zD,zG];refine⟨by omega,fun i m=>?_⟩
     by_cases d:i<k
     .simp only[if_pos d,if_pos (show i<k+1 by omega)]
      simp only[rowT,wk,go_sem]
     .by_cases e:i=k
      .simp only[if_neg d,if_pos e,if_pos (show i<k+1 by omega)]
       subst e;simp only[rowT,c,go_sem,zA];refine yec fun q l=>?_;simp only[if_pos l];simp only[SimL,go_sem];exact⟨Sim.refl _,Sim.refl _⟩
      .simp only[if_neg d,if_neg e,if_neg (show ¬i<k+1 by omega)]
       simp only[wk,go_sem]
  .obtain rfl:k=n:=by omega
   simp only[ycuh,go_sem,zA,zB];refine⟨fun q l=>by simp only[if_pos l];simp only[rowT,go_sem],?_⟩
   refine yec fun q l=>?_;simp only[if_pos l];simp only[SimL,yvi,rowT,c,go_sem]
end Sh
end
section
namespace Sh
open Go Ev
end Sh
end
section
namespace Sh
open Go Ev
theorem yjd(p:ProgR){g:Gr}(o:ybh g){D:Nat}{c:Conf}(n:ConfIn g.ports.length D c){v:Nat}(q:v<g.ports.length)(e:List Tm)(w:e.length<=1000):∀x:Ex,ycbg p g D c v e x
 | .leaf r arg=>by
   intro j d at_ rest u m f t;obtain⟨d1,d2,d3⟩:=ygb (show e.drop at_=(r,arg)::rest from t)
   have F:=ycqt p o n q e u d m;have k:=u;simp only[Ex.ok,zF,decide_eq_true_eq]at k;simp only[ykn,ybc]at F;refine Returns.of (ywc _ _ ?_);simp only[c205,ybas,ybaa,yzp,yban,ybbc,ybai,ybbs,yzq,yzw,yzu,yrp,ysw,ysc,yrz,ytc,ytb,yss,ysj,yry,ykn,ybc,d2,splice,go_sem,zA,zB,zD,zG,↓reduceIte,reduceCtorEq];refine⟨by omega,fun h=>F.use ?_,fun h=>by omega⟩
   simp only[ybk,go_sem,zA,zB,↓reduceIte,reduceCtorEq];refine⟨ikw (by omega) (by omega),?_⟩
   exact Sim.refl _
 | .un r a=>by
   intro j d at_ rest u m f t;obtain⟨d1,d2,d3⟩:=ygb (show e.drop at_=(r,0)::(a.ser++rest)from t)
   have k:=u;simp only[Ex.ok,zF,decide_eq_true_eq]at k;have B:=yjd p o n q e w a j d (at_+1) rest k.2 m f d3;rw[show((at_+1:Nat):Int)=(at_:Int)+1 by omega]at B
   have H:=ycek r (yda g c v a d) (yis o rfl n q a k.2 m f);simp only[ykn,ybc]at B;refine Returns.of (ywc _ _ ?_);simp only[c205,ybas,ybaa,yzp,yban,ybbc,ybai,ybbs,yzq,yzw,yzu,yrp,ysw,ysc,yrz,ytc,ytb,yss,ysj,yry,ykn,ybc,d2,splice,go_sem,zA,zB,zD,zG,↓reduceIte,reduceCtorEq];refine⟨by omega,fun h=>by omega,fun h=>⟨fun h=>⟨ikw (by omega) (by omega),B.use ?_⟩,fun h=>by omega⟩⟩
   simp only[ybk,go_sem,zA,zB,zD,↓reduceIte,reduceCtorEq];refine H.use ?_;simp only[go_sem];rw[show at_+(Ex.un r a).ser.length=at_+1+a.ser.length by simp[Ex.ser];omega]
   exact Sim.refl _
 | .agg r a=>by
   intro j d at_ rest u m f t;obtain⟨d1,d2,d3⟩:=ygb (show e.drop at_=(r,0)::(a.ser++rest)from t)
   have k:=u;simp only[Ex.ok,zF,decide_eq_true_eq]at k;have C:(Ex.agg r a).ok D true=true:=by simp only[Ex.ok,zF,decide_eq_true_eq];exact k
   have E:=ybdt p o n q e w C (yjd p o n q e w a) at_ rest t;simp only[ykn,ybc]at E;refine Returns.of (ywc _ _ ?_);simp only[c205,ybas,ybaa,yzp,yban,ybbc,ybai,ybbs,yzq,yzw,yzu,yrp,ysw,ysc,yrz,ytc,ytb,yss,ysj,yry,ykn,ybc,d2,splice,go_sem,zA,zB,zD,zG,↓reduceIte,reduceCtorEq];refine⟨by omega,fun h=>by omega,fun h=>⟨fun h=>by omega,fun h=>⟨fun h=>E.use ?_,fun h=>by omega⟩⟩⟩
   simp only[ybk,go_sem,zA,zB,↓reduceIte,reduceCtorEq];exact Sim.refl _
 | .bin r a b=>by
   intro j d at_ rest u m f t;obtain⟨d1,d2,d3⟩:=ygb (show e.drop at_=(r,0)::((a.ser++b.ser)++rest)from t)
   have k:=u;simp only[Ex.ok,zF,decide_eq_true_eq]at k;rw[zAP]at d3
   have z:at_+1+a.ser.length<=e.length:=by
    have:=congrArg zAH d3;simp at this;omega
   have l:=yjd p o n q e w a j d (at_+1) _ k.1.2 m f d3;have s:=yjd p o n q e w b j d (at_+1+a.ser.length) _ k.2 m f (yvo d3);rw[show((at_+1:Nat):Int)=(at_:Int)+1 by omega]at l
   have G:=ybug r (yda g c v a d) (yda g c v b d) (yis o rfl n q a k.1.2 m f) (yis o rfl n q b k.2 m f);simp only[ykn,ybc]at l s;refine Returns.of (ywc _ _ ?_);simp only[c205,ybas,ybaa,yzp,yban,ybbc,ybai,ybbs,yzq,yzw,yzu,yrp,ysw,ysc,yrz,ytc,ytb,yss,ysj,yry,ykn,ybc,d2,splice,go_sem,zA,zB,zD,zG,↓reduceIte,reduceCtorEq];refine⟨by omega,fun h=>by omega,fun h=>⟨fun h=>by omega,fun h=>⟨fun h=>by omega,fun h=>⟨fun h=>⟨ikw (by omega) (by omega),l.use ?_⟩,fun h=>by omega⟩⟩⟩⟩
   simp only[ybk,go_sem,zA,zB,↓reduceIte,reduceCtorEq];refine s.use ?_;simp only[go_sem,zA,zB,zD,↓reduceIte];refine G.use ?_;simp only[go_sem];rw[show at_+(Ex.bin r a b).ser.length=at_+1+a.ser.length+b.ser.length by simp[Ex.ser];omega]
   exact Sim.refl _
 | .ite x a b=>by
   intro j d at_ rest u m f t;obtain⟨d1,d2,d3⟩:=ygb (show e.drop at_=(43,0)::((x.ser++(a.ser++b.ser))++rest)from t)
   have k:=u;simp only[Ex.ok,zF]at k;rw[zAP,zAP]at d3
   have z:at_+1+x.ser.length+a.ser.length<=e.length:=by
    have:=congrArg zAH d3;simp at this;omega
   have l:=yjd p o n q e w x j d (at_+1) _ k.1.1 m f d3;have s:=yjd p o n q e w a j d (at_+1+x.ser.length) _ k.1.2 m f (yvo d3);have y:=yjd p o n q e w b j d (at_+1+x.ser.length+a.ser.length) _ k.2 m f (yvo (yvo d3));rw[show((at_+1:Nat):Int)=(at_:Int)+1 by omega]at l
   simp only[ykn,ybc]at l s y;refine Returns.of (ywc _ _ ?_);simp only[c205,ybas,ybaa,yzp,yban,ybbc,ybai,ybbs,yzq,yzw,yzu,yrp,ysw,ysc,yrz,ytc,ytb,yss,ysj,yry,ykn,ybc,d2,splice,go_sem,zA,zB,zD,zG,↓reduceIte,reduceCtorEq];refine⟨by omega,fun h=>by omega,fun h=>⟨fun h=>by omega,fun h=>⟨fun h=>by omega,fun h=>⟨fun h=>by omega,fun h=>⟨ikw (by omega) (by omega),l.use ?_⟩⟩⟩⟩⟩
   simp only[ybk,go_sem,zA,zB,↓reduceIte,reduceCtorEq];refine s.use ?_;simp only[go_sem,zA,↓reduceIte,reduceCtorEq];refine y.use ?_;simp only[go_sem,zA,zB,↓reduceIte,reduceCtorEq];rw[show at_+(Ex.ite x a b).ser.length=at_+1+x.ser.length+a.ser.length+b.ser.length by simp[Ex.ser];omega]
   refine⟨fun A=>?_,fun A=>?_⟩
   .show Sim _ (.tp [.i .i64 (if _ then _ else _),_])
    rw[if_pos A];exact Sim.refl _
   .show Sim _ (.tp [.i .i64 (if _ then _ else _),_])
    rw[if_neg (not_not_intro A)];exact Sim.refl _
theorem ybjw(p:ProgR){g:Gr}(e:ybh g){b:Nat}{c:Conf}(d:ConfIn g.ports.length b c){v:Nat}(h:v<g.ports.length)(x:Ex)(j:x.ok b false=true)(f:x.ser.length<=1000) :
 Returns zC 169 [.rf (ygw p g),ycn c,.i .i64 v,ybc x.ser] (.i .i64 (yda g c v x (-1))):=by
 have a:=yjd p e d h x.ser f x false (-1) 0 [] j (fun q=>by cases q) (by unfold InB;omega) (by simp)
 refine Returns.of (ydgl _ _ ?_);simp only[ykn,ygw,ycn,yba,ybc,yu,yel,zBF]at a;simp only[c169,ycxg,yczu,yczd,ydco,ygw,ycn,yba,ybc,yu,yel,splice,go_sem,zA,zB,zD,zG,↓reduceIte,reduceCtorEq];refine .inl (a.use ?_);simp only[ybk,ycg,go_sem,zA,zB,↓reduceIte,reduceCtorEq]
end Sh
end
section
theorem yof{a:Nat}(h:a<2^32):IntKind.wrap .u32 (a:Int)=a:=by
 unfold IntKind.wrap;simp[IntKind.bits,IntKind.signed];omega
theorem u32_and{a b:Nat}(c:a<2^32)(d:b<2^32):IntKind.wrap .u32 (((zL (IntKind.bits .u32) (a:Int))&&&zL (IntKind.bits .u32) (b:Int)).toNat:Int)=((a&&&b:Nat):Int):=by
 show IntKind.wrap .u32 (((zL 32 (a:Int))&&&zL 32 (b:Int)).toNat:Int)=_;rw[zU,zU,BitVec.toNat_and,zAF,zAF,zAJ c,zAJ d];exact yof (Nat.lt_of_le_of_lt zBK c)
theorem u32_or{a b:Nat}(c:a<2^32)(d:b<2^32):IntKind.wrap .u32 (((zL (IntKind.bits .u32) (a:Int))|||zL (IntKind.bits .u32) (b:Int)).toNat:Int)=((a|||b:Nat):Int):=by
 show IntKind.wrap .u32 (((zL 32 (a:Int))|||zL 32 (b:Int)).toNat:Int)=_;rw[zU,zU,BitVec.toNat_or,zAF,zAF,zAJ c,zAJ d];exact yof (Nat.or_lt_two_pow c d)
theorem u32_andNot{a b:Nat}(c:a<2^32)(f:b<2^32):IntKind.wrap .u32 (((zL (IntKind.bits .u32) (a:Int)) &&& ~~~zL (IntKind.bits .u32) (b:Int)).toNat:Int)=((difB a b:Nat):Int):=by
 show IntKind.wrap .u32 (((zL 32 (a:Int)) &&& ~~~zL 32 (b:Int)).toNat:Int)=_
 have e:((zL 32 (a:Int)) &&& ~~~zL 32 (b:Int)).toNat=difB a b:=by
  rw[zU,zU];refine zAV fun i=>?_;rw[ybfc,BitVec.testBit_toNat,BitVec.getLsbD_and,BitVec.getLsbD_not,zAW,zAW]
  by_cases d:i<32
  .simp[d]
  .rw[zAI (zAO c (zAL (by omega) (by omega)))]
   simp
 rw[e];exact yof (ywr c)
theorem u32_neg{a:Nat}(b:0<a)(c:a<2^32):IntKind.wrap .u32 (0-(a:Int))=((2^32-a:Nat):Int):=by
 unfold IntKind.wrap;simp[IntKind.bits,IntKind.signed];omega
theorem ybqs{v:Nat}(a:v<32):IntKind.wrap .u32 (1*2^(v:Int).toNat)=((2^v:Nat):Int):=by
 have h:2^v<2^32:=Nat.pow_lt_pow_right (by omega) a
 have:=yof h;rw[zV,Int.one_mul];rw[<-this]
 norm_cast
theorem ydii{a v:Nat}:(a:Int).fdiv (2^(v:Int).toNat)=((a>>>v:Nat):Int):=by
 rw[zV,Nat.shiftRight_eq_div_pow];rw[Int.fdiv_eq_ediv_of_nonneg _ (Int.pow_nonneg (by omega))]
 simp
end
section
namespace Sh
open Go Ev
def ykk(p:ProgR)(g:Gr):List SV:=[.a (.string p.name),yfi p.vars,ydk p.rules,.rf (ygw p g),ybap g.ids.length p.vars (ybj g)]
theorem ybge(p:ProgR){g:Gr}(c:ybh g)(e:p.vars.all VarR.ok=true)(d:p.vars.length<=6):Returns zC 123 [.ag (ypl p),grV g] (.rf (ykk p g)):=by
 refine Returns.of (ydma _ _ ?_);have a:=ybjl p c;have b:=ybgg p c e d;simp only[ypl,grV]at a b;simp only[c123,ycvm,ydew,ypl,grV,go_sem,zA,zB,zG];refine a.use ?_;simp only[ybk,go_sem,zA,zB,zD,zG];refine b.use ?_;simp only[ybap,ykk,go_sem,zA,zB,zD];refine⟨by decide,by decide,Sim.refl _⟩
theorem ycct(p:ProgT){g:Gr}(m:ybh g)(h:p.ok=true){c:Conf}(l:ConfIn g.ports.length p.vars.length c){v:Nat}(n:v<g.ports.length){r:Nat}(k:r<p.rules.length) :
 Returns zC 168 [.rf (ygw p.raw g),ycn c,.i .i64 v,.i .i64 r] (.b (yop g c v (p.rules.getD r default))):=by
 refine Returns.of (ydmp _ _ ?_);obtain⟨R,f⟩:∃R,p.rules.getD r default=R:=⟨_,rfl⟩
 have a:R.ok p.vars.length=true:=by
  unfold ProgT.ok at h;simp only[zF]at h;rw[<-f,getD_at k];exact List.all_eq_true.1 h.2 _ (zJ _)
 unfold RuleT.ok at a;simp only[zF,decide_eq_true_eq]at a;have j:=ybjw p.raw m l n R.guard a.1.1.1 a.1.1.2
 have e:p.raw.rules.getD r default=R.raw:=by
  rw[<-f];simp[ProgT.raw,zM,k]
 have d:p.raw.rules.length=p.rules.length:=by simp[ProgT.raw]
 simp only[ygw,ydk,d]at j;rw[f];simp only[c168,ycvo,ydcb,ygw,ydk,e,d,go_sem,zA,zB,zD];refine⟨by omega,j.use ?_⟩
 simp only[ybk,yyr,yop,go_sem,zA,zB]
theorem ydyc{p:ProgT}{g:Gr}{c:Conf}{v k:Nat}(hk:k<p.rules.length)(a:(p.rules.take k).findIdx? (yop g c v)=none)(h:yop g c v (p.rules.getD k default)=true):yeo p g c v=k:=by
 unfold yeo
 have:p.rules.findIdx? (yop g c v)=some k:=by
  rw[zQ];refine⟨hk,by rwa [getD_at hk]at h,fun j b=>?_⟩
  rw[zT]at a;have:=a p.rules[j] (List.mem_take_iff_getElem.2 ⟨j,by omega,rfl⟩)
  simpa using this
 rw[this]
theorem ybvz{p:ProgT}{g:Gr}{c:Conf}{v:Nat}(a:(p.rules.take p.rules.length).findIdx? (yop g c v)=none):yeo p g c v = -1:=by
 unfold yeo;rw[zAC]at a;rw[a]
theorem yclx(p:ProgT)(g:Gr)(c:Conf)(v:Nat):-1<=yeo p g c v/\yeo p g c v<p.rules.length:=by
 unfold yeo;split
 .rename_i i a
  obtain⟨h,_⟩:=List.findIdx?_eq_some_iff_getElem.1 a;omega
 .omega
theorem yckn(p:ProgT){g:Gr}(l:ybh g)(d:p.ok=true){c:Conf}(j:ConfIn g.ports.length p.vars.length c){v:Nat}(m:v<g.ports.length) :
 Returns zC 126 [.rf (ykk p.raw g),ycn c,.i .i64 v] (.i .i64 (yeo p g c v)):=by
 refine Returns.of (ydis _ _ ?_);have b:p.raw.rules.length=p.rules.length:=by simp[ProgT.raw]
 have f:p.rules.length<=12:=by
  unfold ProgT.ok at d;simp only[zF,decide_eq_true_eq]at d;exact d.1.2
 simp only[c126,ycry,ycwm,ykk,ydk,b,go_sem,zA,zB,zD];refine ybf (σ:=Nat) (fun k=>⟨[(14,.i .i64 k),(13,.i .i64 p.rules.length),(0,.rf (ykk p.raw g)),(1,ycn c),(2,.i .i64 v)],[]⟩) (fun k=>k<=p.rules.length/\(p.rules.take k).findIdx? (yop g c v)=none) (fun k=>p.rules.length-k) 0 ⟨zK _,by simp⟩ ?_ ?_
 .refine yw ?_;simp only[ykk,ydk,b,wk,go_sem,zA]
 .intro k ⟨hk,hno⟩;simp only[yddf,ycto,yctb,ycsc,ydfn,ycuo,ykk,ycg,go_sem,zA,zB,zD];refine⟨fun e=>?_,fun e=>?_⟩
  .have a:k<p.rules.length:=by omega
   refine(ycct p l d j m a).use ?_;simp only[ybk,ycg,go_sem,zA,zB];refine⟨fun h=>by rw[ydyc a hno h],fun h=>⟨ikw (by omega) (by omega),?_⟩⟩
   refine yj (k+1) ⟨by omega,?_⟩ (by omega) ?_
   .rw[zH a,zAD,hno];rw[getD_at a]at h;simp[h]
   .refine yw ?_;simp only[wk,go_sem,zA];simp
  .obtain rfl:k=p.rules.length:=by omega
   rw[ybvz hno]
theorem ytm(p:ProgT)(g:Gr)(c:Conf)(v:Nat):∀(sets:List (Int×Ex)) (b:List Int),(yuo p g c v b sets).length=b.length
 |[],_=>rfl
 | a::sets,b=>by
   show(yuo p g c v (b.set _ _) sets).length=_;rw[ytm p g c v sets];simp
theorem ybuq(p:ProgT)(g:Gr)(c:Conf)(v:Nat)(a:List Int)(sets:List (Int×Ex))(k:Nat)(h:k<sets.length) :
 yuo p g c v a (sets.take (k+1))=(yuo p g c v a (sets.take k)).set (sets.getD k default).1.toNat (yjh (p.vars.getD (sets.getD k default).1.toNat default).kind (ybj g v (p.vars.getD (sets.getD k default).1.toNat default)) (yda g c v (sets.getD k default).2 (-1))):=by
 unfold yuo;rw[zH h,zW,getD_at h];rfl
theorem yqb(p:ProgT)(g:Gr)(c:Conf)(s:Nat){v:Nat}(a:v<c.length):(ygn p g c s).getD v []=if s.testBit v then ykc p g c v (yeo p g c v).toNat else c.getD v []:=by
 unfold ygn;simp[zM,a]
theorem ylu(p:ProgT)(g:Gr)(c:Conf)(s:Nat):(ygn p g c s).length=c.length:=by simp[ygn]
end Sh
end
section
namespace Sh
open Go Ev
def ybgr(p:ProgT)(g:Gr):Bool:=p.vars.all fun x=>decide (x.kind=1)==false||(decide ((ybj g 0 x).1<=(ybj g 0 x).2)&&decide ((ybj g 0 x).2-(ybj g 0 x).1+1<=4096))
def yfs(b c:(Nat->Option ABlk)->Value->Prop)(p:ProgR):List SV:=[.a (.string p.name),.ex b (yfi p.vars),.ex c (ydk p.rules)]
theorem ybip(a b:(Nat->Option ABlk)->Value->Prop)(p:ProgR):Sim (.ag (yfs a b p)) (.ag (ypl p)):=ybqo ⟨Sim.refl _,ybjo _ _,ybjo _ _,trivial⟩
theorem ybdb{q t:(Nat->Option ABlk)->Value->Prop}(p:ProgT){g:Gr}(r:ybh g)(G:p.ok=true)(D:ybgr p g=true)(y:Returns zC 130 [.ag (yfs q t p.raw)] (.b true))(w:Returns zC 131 [grV g] (.b true)) :
 Returns zC 62 [.ag (yfs q t p.raw),grV g] (.i .i64 0):=by
 refine Returns.of (ydpe _ _ ?_);have j:=G;unfold ProgT.ok at j;simp only[zF,decide_eq_true_eq]at j;have l:p.raw.vars=p.vars:=rfl;simp only[yfs,grV]at y w;simp only[c62,ydyu,yect,ydri,yecr,ydqc,ydud,yfs,grV,go_sem,zA,zB,zG];refine y.use ?_;simp only[ybk,go_sem,zA,zB];refine w.use ?_;simp only[yfi,l,go_sem,zA,zB,zD]
 have n:∀k,k<p.vars.length->(p.vars.getD k default).ok=true/\((p.vars.getD k default).kind=1->(ybj g 0 (p.vars.getD k default)).1<=(ybj g 0 (p.vars.getD k default)).2/\(ybj g 0 (p.vars.getD k default)).2-(ybj g 0 (p.vars.getD k default)).1+1<=4096):=fun k hk=>by
  rw[getD_at hk];refine⟨List.all_eq_true.1 j.1.1.2 _ (zJ _),fun m=>?_⟩;have:=List.all_eq_true.1 D _ (zJ hk)
  simpa[m]using this
 refine ybf (σ:=Nat) (fun k=>⟨[(18,.i .i64 k),(17,.i .i64 p.vars.length),(16,.ex q (yfi p.vars)),(3,.pt (3,0) 0 0)],[(3,.one (some ⟨27,true,2,1,fun _=>[yba g.ids,yu g.ports]⟩))]⟩) (fun k=>k<=p.vars.length) (fun k=>p.vars.length-k) 0 (zK _) ?_ ?_
 .refine yw ?_;simp only[yfi,wk,go_sem,zA,zG]
 .intro k hk;obtain⟨x,A⟩:∃x,p.vars.getD k default=x:=⟨_,rfl⟩;simp only[ydpw,ydrf,ydym,ydqx,ycyw,ydan,ycxq,ycup,yfi,varC,splice,ycg,A,go_sem,zA,zB,zD,zG];intro F;have s:k<p.vars.length:=by omega
  obtain⟨d,o⟩:=n k s;rw[A]at d o;have u:=yzl r d (v:=0) (by have:=r.1;omega)
  simp only[varC,grV,zBF]at u;obtain⟨B,C⟩:=yyg r d;have H:=ybui d;refine⟨by omega,fun m=>⟨ikw (by omega) (by omega),?_⟩,fun m=>u.use ?_⟩
  .refine ybz (k+1) ?_;refine yw ?_;simp only[wk,go_sem,zA,zG];omega
  .obtain⟨f,h⟩:=o m;obtain⟨I,a⟩:∃b,(ybj g 0 x).1=b:=⟨_,rfl⟩;obtain⟨J,c⟩:∃b,(ybj g 0 x).2=b:=⟨_,rfl⟩;have e:ybj g 0 x=(x.lo,x.hi+x.perNode*(g.ids.length:Int)+x.perID*maxI g.ids):=by unfold ybj;rw[if_pos m]
   rw[e]at a c;simp only[]at a c;simp only[e]at f h;rw[e];simp only[ybk,ycg,go_sem,zA,zB];simp only[a,c]at f h ⊢;refine⟨fun _=>⟨ikw (by omega) (by omega),ikw (by omega) (by omega),fun E=>absurd h (by omega),fun _=>⟨ikw (by omega) (by omega),?_⟩⟩,fun z=>absurd f (by omega)⟩
   refine ybz (k+1) ?_;refine yw ?_;simp only[wk,go_sem,zA,zG];omega
end Sh
end
section
namespace Sh
open Go Ev Go.RowKit
def GrI(g:Gr):Prop:=(∀x∈g.ids,I64 x)/\∀a∈g.ports,∀l∈a,I64 l.1/\I64 l.2
def ydlp(c:List (List Int)):Prop:=∀s∈c,∀x∈s,I64 x
section
variable {G:AM}{m:Mem}{φ:Phi}{M:AM}{w:World}{u u':Value}
theorem ycqm {X:Type}{z n:Nat}{K:Nat->List SV}{xs:List X}{E:Elem X}(hG:Le G m.b.get) (hr:RV G om0 (.sl z n K) u) (d:VR φ u u') (hR:Rel φ M w) (hs:Sub m M) (R:xs.length=n)
 (hE:∀k x b o L r,xs[k]?=some x->RVL G om0 (K k) L->VRL φ L r->(∀j v,r[j]?=some v->w.cell? ⟨b,o+j,none⟩=some v)->E w b o x):SlAt z E w u' xs:=by
 rcases hr.sl_inv with⟨rfl,O⟩|⟨Y,p,cp,T,N,e,zz,L,rfl,g1,g2,g3,g4,g5,g6,g7⟩
 .have:xs=[]:=zX R;subst this;rcases O with rfl|⟨b,o,c,rfl⟩
  .have e:=d.eq_simple rfl;subst e;exact SlAt.nil w
  .obtain⟨g,A,t,V,k2,F,W,k5,H,I⟩:=d.slice_inv;subst F;exact⟨some A,t,rfl,zK _,H,fun q=>absurd q (by simp)⟩
 .obtain⟨g,A,t,V,k2,F,W,k5,H,I⟩:=d.slice_inv;subst F;subst R;refine⟨some A,t,rfl,W,H,fun S=>?_⟩;rcases I with⟨rfl,_⟩|I
  .obtain⟨a2,P,h2⟩:=hR.blk _ _ (hs _ _ (hG _ _ g1));have D:φ Y=some g:=V;rw[D]at P;cases P
   obtain⟨h3,h4,y,J,a0,O,Q,h6,h7⟩:=h2;refine⟨g.blk,g.base+p,rfl,(Array.getElem?_eq_some_iff.1 Q).1,fun k x U=>?_⟩;have hk:k<xs.length:=(List.getElem?_eq_some_iff.1 U).1;have a1:=yln (z:=z) hk;have f:∀j v,j<z->(L k)[j]?=some v->∃i,y[g.base+(p+k*z+j)]?=some i/\VR φ v i:=fun j v C d=>h7 _ v (by omega) (by rw[g5 k hk j C];exact d)
   have B:∀(l:List Value) (q:Nat),(∀j v,l[j]?=some v->∃i,y[q+j]?=some i/\VR φ v i)->∃s,VRL φ l s/\∀j v,s[j]?=some v->y[q+j]?=some v:=by
    intro l
    induction l with
    |nil=>intro q _;exact⟨[],.nil,fun j v h=>by simp at h⟩
    | cons a l ih =>
      intro q h;obtain⟨i,Z,J⟩:=h 0 a rfl;obtain⟨s,e3,e4⟩:=ih (q+1) (fun j v d=>by have:=h (j+1) v (by simpa using d);rw[show q+1+j=q+(j+1)by omega];exact this)
      refine⟨i::s,.cons J e3,fun j v d=>?_⟩;cases j with
      |zero=>simp at d;subst d;exact Z
      |succ j=>have:=e4 j v (by simpa using d);rw[show q+(j+1)=q+1+j by omega];exact this
   obtain⟨r,r1,r2⟩:=B (L k) (g.base+p+k*z) (fun j v d=>by
    have C:j<z:=by rw[<-g4 k hk];exact(List.getElem?_eq_some_iff.1 d).1
    have:=f j v C d;rw[show g.base+p+k*z+j=g.base+(p+k*z+j)by omega]
    exact this)
   exact hE k x _ _ (L k) r U (g6 k hk) r1 fun j v d=>cell_of Q (by have:=r2 j v d;exact this)
  .omega
theorem ints_at{l:List Int}(h:Le G m.b.get)(p:RV G om0 (yba l) u)(r:VR φ u u')(j:Rel φ M w)(q:Sub m M)(i:∀x∈l,I64 x):yqz w u' l:=by
 refine ycqm h p r j q rfl fun k x b o L s e g c n=>?_;have hk:k<l.length:=(List.getElem?_eq_some_iff.1 e).1;have f:l.getD k 0=x:=by simp[zM,e]
 rw[f]at g;cases g with
 | cons a b =>
   cases b
   cases a.int_inv
   obtain⟨t,rfl,d⟩:=ygg c;have:=d.eq_simple rfl;subst this;exact⟨n 0 _ rfl,i x (zN e)⟩
theorem ycnh{ls:List (Int×Int)}(p:Le G m.b.get)(s:RV G om0 (ybc ls) u)(v:VR φ u u')(r:Rel φ M w)(t:Sub m M)(q:∀l∈ls,I64 l.1/\I64 l.2):ycid w u' ls:=by
 refine ycqm p s v r t rfl fun k x b o L y g e c f=>?_;have d:ls.getD k (0,0)=x:=by simp[zM,g]
 rw[d]at e;cases e with
 | cons a b =>
   cases b with
   | cons h i =>
     cases i
     cases a.int_inv
     cases h.int_inv
     obtain⟨v1,v2,rfl,j,n⟩:=ybcf c;have:=j.eq_simple rfl;subst this;have:=n.eq_simple rfl;subst this;exact⟨f 0 _ rfl,f 1 _ rfl,q x (zN g)⟩
theorem yckm{ps:List (List (Int×Int))}(f:Le G m.b.get)(q:RV G om0 (yu ps) u)(r:VR φ u u')(h:Rel φ M w)(i:Sub m M)(n:∀ls∈ps,∀l∈ls,I64 l.1/\I64 l.2):ybcy w u' ps:=by
 refine ycqm f q r h i rfl fun k x b o L t j g c p=>?_;have e:ps.getD k []=x:=by simp[zM,j]
 rw[e]at g;cases g with
 | cons a b =>
   cases b
   obtain⟨s,rfl,d⟩:=ygg c;exact⟨s,p 0 _ rfl,ycnh f a d h i (n x (zN j))⟩
theorem ydgt{c:List (List Int)}(g:Le G m.b.get)(q:RV G om0 (ycn c) u)(r:VR φ u u')(i:Rel φ M w)(j:Sub m M)(n:ydlp c):ydez w u' c:=by
 refine ycqm g q r i j rfl fun k x b o L t l h d p=>?_;have f:c.getD k []=x:=by simp[zM,l]
 rw[f]at h;cases h with
 | cons a b =>
   cases b
   obtain⟨s,rfl,e⟩:=ygg d;exact⟨s,p 0 _ rfl,ints_at g a e i j (n x (zN l))⟩
theorem ydjn{g:Gr}(d:Le G m.b.get)(o:RV G om0 (grV g) u)(p:VR φ u u')(f:Rel φ M w)(h:Sub m M)(e:GrI g):GrAt w u' g:=by
 obtain⟨L,rfl,n⟩:=o.ag_inv;cases n with
 | cons a b =>
   cases b with
   | cons i j =>
     cases j
     obtain⟨q,rfl,c⟩:=p.agg_inv;obtain⟨v1,v2,rfl,k,l⟩:=ybcf c;exact⟨v1,v2,rfl,ints_at d a k f h e.1,yckm d i l f h e.2⟩
end
theorem ybot {g:FuncId}{args:List SV}{r:SV}{v:Value}(n:∃fn c,Tryz.prog.funcs[g]?=some fn/\fn.body=some c) (f:∀F,RV F om0 r v) (i:∀φ,VR φ v v)
 (h:∀(G:AM) (m:Mem) (us:List Value),Le G m.b.get->RVL G om0 args us->∀φ M w a,Rel φ M w->Sub m M->VRL φ us a->Calls zC g a.toArray w fun e j=>e = .returned v/\Below w.heap.size w j):Returns zC g args r:=by
 intro G m us s d o;refine⟨v,ygj m,r,yon ytd n fun φ M w a k p q=>(h G m us d o φ M w a k p q).mono ?_,zY _,Le.refl _,rfl,f _⟩;rintro e j ⟨rfl,l⟩;exact⟨v,rfl,i φ,l⟩
theorem rvl1{F:AM}{ω:Om}{a:SV}{us:List Value}(h:RVL F ω [a] us):∃u,us=[u]/\RV F ω a u:=by
 cases h with|cons x y=>cases y;exact⟨_,rfl,x⟩
theorem rvl2{F:AM}{ω:Om}{a b:SV}{us:List Value}(h:RVL F ω [a,b] us):∃u v,us=[u,v]/\RV F ω a u/\RV F ω b v:=by
 cases h with|cons x y=>obtain⟨v,rfl,q⟩:=rvl1 y;exact⟨_,v,rfl,x,q⟩
end Sh
end
end Go.Proofs.YthclbjjgfcgbgaaGreatDoor
