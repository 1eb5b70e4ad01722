/- Joined. -/
import Derived.Test.YthclbjjgfcgbgaaGreatDoorPkCb3
import Derived.Test.YthclbjjgfcgbgaaGreatDoorPkCb4
set_option linter.unusedSimpArgs false
set_option linter.unusedVariables false
set_option maxRecDepth 8000
open Nat renaming reduceEqDiff->zA,reduceAdd->zB,reduceLeDiff->zD,reduceLT->zG,zero_le->zK,le_refl->zY,testBit_lt_two_pow->zAI,mod_eq_of_lt->zAJ,pow_le_pow_right->zAL,lt_of_lt_of_le->zAO,lt_pow_two_of_testBit->zAS,not_lt_zero->zAV,eq_of_testBit_eq->zAW,lt_trichotomy->zBA,testBit_and->zBK,and_le_left->zBL,mul_le_mul->zBO,reduceMul->zBQ,lt_or_ge->zBS
open Go.Proofs.Tryz renaming prog->zC
open Bool renaming and_eq_true->zF,false_eq_true->zAY
open List renaming take_succ_eq_append_getElem->zH,getElem?_eq_getElem->zI,getElem_mem->zJ,getD->zM,mem_of_getElem?->zN,getElem?_set->zO,foldl_append->zQ,findIdx?_eq_some_iff_getElem->zS,range->zT,findIdx?_eq_none_iff->zU,eq_nil_of_length_eq_zero->zX,take_of_length_le->zZ,getD_eq_getElem?_getD->zAA,mem_cons_of_mem->zAB,take_length->zAC,findIdx?_append->zAD,mem_cons_self->zAE,getElem?_replicate->zAG,length->zAH,mem_zipIdx_iff_getElem?->zAM,length_append->zAN,append_assoc->zAP,getElem?_zip_eq_some->zAQ,drop_eq_getElem_cons->zAR,all_eq_true->zAT,length_nil->zAU,countP_append->zAZ,pairwise_map->zBB,length_cons->zBC,ext_getElem->zBD,countP_cons->zBE,length_take->zBF,elem_eq_mem->zBG,range_succ->zBI,length_map->zBJ,replicate->zBM,any_cons->zBP
open BitVec renaming ofInt->zL,ofInt_natCast->zV,toNat_ofNat->zAF,getLsbD_ofNat->zAX
open Int renaming toNat_natCast->zW,reduceToNat->zAK,natCast_zero->zBH,natAbs_mul->zBN,le_trans->zBT
open Classical renaming byContradiction->zBR
open Go
namespace Go.Proofs.YthclbjjgfcgbgaaGreatDoor
section
namespace Sh
open Go Ev
theorem ydoz {g:FuncId}{fn:Func}{sc:SC}{rs:List SR}(f:Tryz.prog.funcs[g]?=some fn) (a:fn.body.bind (cmp zC fn.ntmps)=some sc) (b:cmpR zC fn.results.toList=some rs)
 {i:List FuncId}{args:List SV}{Q:SV->Prop}(h:vc ⟨Ct zC,Cm zC,ItC zC,[],i⟩ sc (retK rs Q) ⟨slots args 0,[]⟩):Ct zC g args Q:=by
 obtain⟨c,d,e⟩:=bind_some a;exact ycoj mix yua f d e b h
theorem ydvm {g:FuncId}{fn:Func}{sc:SC}{rs:List SR}(i:Tryz.prog.funcs[g]?=some fn) (a:fn.body.bind (cmp zC fn.ntmps)=some sc) (b:cmpR zC fn.results.toList=some rs)
 {d:List Nm}{j:List FuncId}{o:Own}{args:List SV}{Q:SV->Own->Prop}(h:vc ⟨Ct zC,Cm zC,ItC zC,d,j⟩ sc (retM rs d Q) ⟨slots args 0,o⟩):Cm zC g d o args Q:=by
 obtain⟨c,e,f⟩:=bind_some a;exact ycam mix yua i e f b h
def Fn(g:FuncId)(c:SC)(rs:List SR):Prop:=∀(a:List SV) (Q:SV->Prop),vc ⟨Ct zC,Cm zC,ItC zC,[],[]⟩ c (retK rs Q) ⟨slots a 0,[]⟩->Ct zC g a Q
def FnU(g:FuncId)(c:SC)(rs:List SR):Prop:=∀(b:List FuncId) (a:List SV) (Q:SV->Prop),vc ⟨Ct zC,Cm zC,ItC zC,[],b⟩ c (retK rs Q) ⟨slots a 0,[]⟩->Ct zC g a Q
def FnM(g:FuncId)(c:SC)(rs:List SR):Prop:=∀(b:List Nm) (d:List FuncId) (o:Own) (a:List SV) (Q:SV->Own->Prop),vc ⟨Ct zC,Cm zC,ItC zC,b,d⟩ c (retM rs b Q) ⟨slots a 0,o⟩->Cm zC g b o a Q
section
variable {g:FuncId}{fn:Func}{sc:SC}{rs:List SR}
theorem fn_0(c:Tryz.prog.funcs[g]?=some fn)(a:fn.body.bind (cmp zC fn.ntmps)=some sc:=by kernel_rfl)(b:cmpR zC fn.results.toList=some rs:=by kernel_rfl):Fn g sc rs:=fun _ _ h=>ydoz c a b h
theorem fn_u(c:Tryz.prog.funcs[g]?=some fn)(a:fn.body.bind (cmp zC fn.ntmps)=some sc:=by kernel_rfl)(b:cmpR zC fn.results.toList=some rs:=by kernel_rfl):FnU g sc rs:=fun _ _ _ h=>ydoz c a b h
theorem fn_m(c:Tryz.prog.funcs[g]?=some fn)(a:fn.body.bind (cmp zC fn.ntmps)=some sc:=by kernel_rfl)(b:cmpR zC fn.results.toList=some rs:=by kernel_rfl):FnM g sc rs:=fun _ _ _ _ _ h=>ydvm c a b h
end
def o3(x:SOp)(d a:Nat):SOper:=⟨x,some d,none,a⟩
def o0(x:SOp)(a:Nat):SOper:=⟨x,none,none,a⟩
abbrev LO:=List SOper
def mv'(x d a:Nat):SOper:=⟨.mv (.tmp x),some d,none,a⟩
def bn'(b:BinOp)(x y d a:Nat):SOper:=⟨.bin b (.tmp x) (.tmp y),some d,none,a⟩
def ld'(n x d a:Nat):SOper:=⟨.load false n (.tmp x),some d,none,a⟩
def fa'(o n x d a:Nat):SOper:=⟨.faddr o n (.tmp x),some d,none,a⟩
def ix'(z x k d a:Nat):SOper:=⟨.idx z (.tmp x) (.tmp k),some d,none,a⟩
def ln'(x d a:Nat):SOper:=⟨.len (.tmp x),some d,none,a⟩
def xt'(x k d a:Nat):SOper:=⟨.extract (.tmp x) k,some d,none,a⟩
def cl'(g:FuncId)(xs:List Nat)(d a:Nat):SOper:=⟨.call (.func g) (xs.map .tmp),some d,none,a⟩
def ci'(n:Int):Operand:=.const (.int .i64 n)
def mc(n:Int)(d a:Nat):SOper:=⟨.mv (.const (.int .i64 n)),some d,none,a⟩
def bc(b:BinOp)(x:Nat)(n:Int)(d a:Nat):SOper:=⟨.bin b (.tmp x) (.const (.int .i64 n)),some d,none,a⟩
def mb(b:Bool)(d a:Nat):SOper:=⟨.mv (.const (.bool b)),some d,none,a⟩
def nl'(d a:Nat):SOper:=⟨.mv (.const (.slice none 0 0)),some d,none,a⟩
def sto(n x y a:Nat):SOper:=⟨.store n (.tmp x) (.tmp y),none,none,a⟩
def la'(n x d a:Nat):SOper:=⟨.load true n (.tmp x),some d,none,a⟩
def nk'(x d a:Nat):SOper:=⟨.nilck (.tmp x),some d,none,a⟩
def bx'(t x d a:Nat):SOper:=⟨.box t (.tmp x),some d,none,a⟩
def pk'(x y d a:Nat):SOper:=⟨.pick (.tmp x) (.const (.bool true)) (.tmp y),some d,none,a⟩
def gf(x:SOp)(d g a:Nat):SOper:=⟨x,some d,some (g,false),a⟩
def gt(x:SOp)(d g a:Nat):SOper:=⟨x,some d,some (g,true),a⟩
def sr(l:LO)(k:SC):SC:=.seq (.reg false l) k
def cn(t:Nat)(a b:SC):SC:=.cond (.tmp t) a b
attribute [go_sem] o3 o0 mv' bn' ld' fa' ix' ln' xt' cl' ci' mc bc mb nl' sto la' nk' bx' pk' gf gt sr cn
attribute [go_sem] yeel ydfv ycmh ycal yecn ydka ydsq ydia ycms ydlq ycom ybim ybdt ybtn ybnx puts ydis
attribute [go_sem] ydzs yedw yebs ybfa ybsv yccr ybcx ybnb ybtm ybug ybzs ybmo ycmg yboa ycpo
attribute [go_sem] ysq Fam.at Prod.mk.injEq ydjp ydmb ydgs ydep ydfa ydjm ybtx oldX oldV ylg ypp ycci ydhz gb_x yecj resX yjg slots yckh
attribute [go_sem] ycjp ybwo runO opO ycci xOp SS.get SS.pget SS.gets SS.lit look lookO SS.put SS.own ydlm ydhj ydfn yckg ycjo ycnt ycke
attribute [go_sem] yclx ycja ycmb ycnc ycps ybqx simple ynv yys ybgk part idxX natX yss ybuz xbin xun eqL splice fill OB.set ofV fits ydle
attribute [go_sem] yboq allP SRec.no SRec.pure clash nmem List.isEmpty_nil List.isEmpty_cons List.drop List.take List.all List.any List.map zAH List.head? List.append
attribute [go_sem] List.nil_append List.append_nil List.cons_append List.all_cons List.all_nil List.drop_succ_cons List.drop_zero List.take_succ_cons List.take_zero List.drop_nil
attribute [go_sem] List.take_nil zBC zAU List.map_cons List.map_nil List.getElem?_cons_zero List.getElem?_cons_succ List.elem zW Nat.zero_add
attribute [go_sem] Nat.add_zero if_true if_false ite_true ite_false Option.isNone Option.isNone_none Option.map_some Option.map_none Bool.not_true Bool.not_false Bool.true_or
attribute [go_sem] Bool.or_true Bool.false_or Bool.or_false Bool.and_true Bool.true_and Bool.and_false Bool.false_and Bool.and_self Bool.or_self true_and and_true and_self
attribute [go_sem] true_implies false_implies implies_true forall_const Nat.lt_add_one Nat.one_pos Nat.zero_lt_one Nat.lt_irrefl zY decide_true decide_false zAY
attribute [go_sem] Bool.true_eq_false forall_eq BEq.rfl beq_self_eq_true decide_eq_true_eq decide_eq_false_iff_not beq_iff_eq beq_eq_false_iff_ne bne_iff_ne bne_eq_false_iff_eq
attribute [go_sem] Bool.not_eq_true Bool.not_eq_false Bool.not_eq_true' Bool.not_eq_false' ydjd ydeq ydgh ycjg ycji ycaq ycpp ycpm ycpk
attribute [go_sem] ycmw ycbz ydik ydva ydhb ycjs yclh ycon ycoz yclf ycnl ybxc ybzv ybsj ybwp yceh ycgm
attribute [go_sem] ycht ycba ychj ydvz ydnu yeap ydez ydfe ycor ydgr ydjg ydhf ydgy ydjf ydiq yeea yedn yeca yduk ydpy
attribute [go_sem] ydlf ydpk ydxw ydzx ydpd yeaa ydrj ydnh ydve ydnw ydmh ydjb ycjq ydhq ydge ydil ydkr ydhn ydlr
attribute [go_sem] yyg ybgu idxF yeah ytf ylk own1 ybpa ydhw ydho zAY false_implies Tel telL yej yif ybxx ydiv ydms
attribute [go_sem] ycmp ycoq yclm ycki yckt yciw ycpf ycnd yclk yecc yecq yeco ydvs yebg ydtg ydqv ydqy ydtl ydtq ydqi
attribute [go_sem] yebl lv nmem rid yid ychb ydna yze ydrh ydfu ycwm yqh ycup ydng ydzc ycuq yjx ybqo yeby yedq yedd ydox ydno ydhe
attribute [go_sem] ydtn ydtt ydww yebh ydrx ydwy zBP List.any_nil Option.isSome ydhg or_false false_or or_true true_or false_and exists_const exists_false
attribute [go_sem] List.not_mem_nil and_false
attribute [go_sem ↓] gb_t gb_f yedx yedb
end Sh
end
section
namespace Sh
open Go Ev
def ybav:List Nat:=[0,1,1,2,1,2,2,3,1,2,2,3,2,3,3,4,1,2,2,3,2,3,3,4,2,3,3,4,3,4,4,5,1,2,2,3,2,3,3,4,2,3,3,4,3,4,4,5,2,3,3,4,3,4,4,5,3,4,4,5,4,5,5,6,1,2,2,3,2,3,3,4,2,3,3,4,3,4,4,5,2,3,3,4,3,4,4,5,3,4,4,5,4,5,5,6,2,3,3,4,3,4,4,5,3,4,4,5,4,5,5,6,3,4,4,5,4,5,5,6,4,5,5,6,5,6,6,7,1,2,2,3,2,3,3,4,2,3,3,4,3,4,4,5,2,3,3,4,3,4,4,5,3,4,4,5,4,5,5,6,2,3,3,4,3,4,4,5,3,4,4,5,4,5,5,6,3,4,4,5,4,5,5,6,4,5,5,6,5,6,6,7,2,3,3,4,3,4,4,5,3,4,4,5,4,5,5,6,3,4,4,5,4,5,5,6,4,5,5,6,5,6,6,7,3,4,4,5,4,5,5,6,4,5,5,6,5,6,6,7,4,5,5,6,5,6,6,7,5,6,6,7,6,7,7,8]
def yctf:LO:=[bx' 160 0 3 0,bx' 27 1 4 0,mc 0 6 0,mc 0 7 4]
def ycxo:LO:=[o3 (.build [.i .i64 0,.a (.nilFunc)] [(0,1,(ci' 1)),(1,1,(.func 176))]) 11 0,o3 (.build [.i .i64 0,.a (.nilFunc)] [(0,1,(ci' 2)),(1,1,(.func 177))]) 12 0,o3 (.build [.i .i64 0,.a (.nilFunc)] [(0,1,(ci' 3)),(1,1,(.func 178))]) 13 0,o3 (.bslice 210 2 3 [.i .i64 0,.a (.nilFunc),.i .i64 0,.a (.nilFunc),.i .i64 0,.a (.nilFunc)] [(0,2,(.tmp 11)),(2,2,(.tmp 12)),(4,2,(.tmp 13))]) 14 7,mv' 14 8 15]
def ycwh:LO:=[mv' 8 15 0,ln' 15 16 1,mc 0 17 0]
def ybqs:LO:=[bn' .lss 17 16 18 0]
def ybol:LO:=[ix' 2 15 17 19 0,la' 2 19 20 1,o3 (.alloc 210 1 [.i .i64 0,.a (.nilFunc)]) 10 0,sto 2 10 20 7]
def ybpn:LO:=[fa' 0 1 10 21 0,ld' 1 21 22 1,fa' 1 1 3 23 0,ld' 1 23 24 4,bn' .eql 22 24 25 15]
def ybrm:LO:=[fa' 1 1 10 26 0,ld' 1 26 27 1,la' 6 3 28 0,la' 2 4 29 0,mv' 2 30 0,o3 (.call (.tmp 27) [(.tmp 28),(.tmp 29),(.tmp 30)]) 31 31,xt' 31 0 32 63,xt' 31 1 33 63,mv' 32 6 255,mv' 33 7 511]
def ybrk:LO:=[bc .add 17 1 34 0,mv' 34 17 1]
def yboi:LO:=[mc 0 6 0,mc (-1) 7 1]
def c132:SC:=(sr yctf <| sr ycxo <| .seq (sr ycwh <| .block 0 (.loop (sr ybqs <| .seq (cn 18 .skip (.exit 0)) (.seq (.block 1 (sr ybol <| sr ybpn <| cn 25 (sr ybrm <| .ret) .skip)) (.reg false ybrk))))) (sr yboi <| .ret))
theorem ydkk:Fn 132 c132 [.t 6,.t 7]:=fn_0 Tryz.func132
def ycqb:LO:=[bx' 160 0 3 0,bx' 27 1 4 0,mc 0 6 0,mc 0 7 4]
def ycyb:LO:=[fa' 2 1 3 8 0,ld' 1 8 9 1,fa' 3 1 3 10 0,ld' 1 10 11 4,fa' 4 1 3 12 0,ld' 1 12 13 16,fa' 0 1 4 14 0,ld' 1 14 15 64,ln' 15 16 192,bn' .mul 13 16 17 496,bn' .add 11 17 18 1020,fa' 5 1 3 19 0,ld' 1 19 20 2048,fa' 0 1 4 21 0,ld' 1 21 22 8192,cl' 54 [22] 23 24576,bn' .mul 20 23 24 63488,bn' .add 18 24 25 131068,mv' 9 6 57347,mv' 25 7 524287]
def c176:SC:=(sr ycqb <| .seq (.reg true ycyb) .ret)
theorem ydic:Fn 176 c176 [.t 6,.t 7]:=fn_0 Tryz.func176
def ycvd:LO:=[bx' 160 0 3 0,bx' 27 1 4 0,mc 0 6 0,mc 0 7 4]
def yczs:LO:=[mc 0 6 0,mc 1 7 1]
def c177:SC:=(sr ycvd <| sr yczs <| .ret)
theorem ydhu:Fn 177 c177 [.t 6,.t 7]:=fn_0 Tryz.func177
def yddo:LO:=[bx' 160 0 3 0,bx' 27 1 4 0,mc 0 6 0,mc 0 7 4]
def ycvs:LO:=[fa' 1 1 4 8 0,ld' 1 8 9 1,mv' 2 10 0,ix' 1 9 10 11 7,ld' 1 11 12 15,ln' 12 13 31,bc .sub 13 1 14 63,mc (-1) 6 0,mv' 14 7 255]
def c178:SC:=(sr yddo <| .seq (.reg true ycvs) .ret)
theorem ydfr:Fn 178 c178 [.t 6,.t 7]:=fn_0 Tryz.func178
def ydnm:LO:=[bx' 32 0 2 0,bx' 27 1 3 0,nl' 4 0]
def yeam:LO:=[fa' 0 1 3 9 0,ld' 1 9 10 1,ln' 10 11 3,o3 (.mk 92 1 24 [.a (.slice none 0 0)] (.tmp 11) (.tmp 11)) 12 7,mv' 12 5 15]
def yeal:LO:=[mv' 5 13 0,ln' 13 14 1,mc 0 15 0]
def ydtx:LO:=[bn' .lss 15 14 16 0]
def yeav:LO:=[mv' 15 17 0,mv' 17 6 1]
def ydqm:LO:=[mv' 5 18 0,mv' 6 19 0,fa' 1 1 2 20 0,ld' 1 20 21 4,ln' 21 22 12,o3 (.mk 91 2 16 [.i .i64 0,.i .i64 0] (.tmp 22) (.tmp 22)) 23 28,ix' 1 18 19 24 63,sto 1 24 23 127]
def ydzt:LO:=[fa' 1 1 2 25 0,ld' 1 25 26 1,ln' 26 27 3,mc 0 28 0]
def ydoc:LO:=[bn' .lss 28 27 29 0]
def ydwo:LO:=[mv' 28 30 0,ix' 6 26 28 31 0,la' 6 31 32 2,o3 (.alloc 160 1 [.a (.string (ByteArray.mk #[])),.i .i64 0,.i .i64 0,.i .i64 0,.i .i64 0,.i .i64 0]) 8 0,mv' 30 7 15,sto 6 8 32 31]
def ydqd:LO:=[mv' 5 34 0,mv' 6 35 0,ix' 1 34 35 36 3,ld' 1 36 37 7,mv' 7 38 0,mv' 5 39 0,mv' 6 40 0,ix' 1 39 40 41 96,ld' 1 41 42 224,mv' 7 43 0,la' 6 8 44 0,la' 2 3 45 0,mv' 6 46 0,cl' 132 [44,45,46] 47 7168,mv' 47 33 15360,xt' 33 0 48 31744,xt' 33 1 49 31744,ix' 2 37 38 50 31,o3 (.idxA 2 1 (.tmp 50) (ci' 0)) 51 196095,sto 1 51 48 458239,ix' 2 42 43 52 992,o3 (.idxA 2 1 (.tmp 52) (ci' 1)) 53 2097151,sto 1 53 49 4194303]
def ycxi:LO:=[bc .add 28 1 54 0,mv' 54 28 1]
def ycto:LO:=[bc .add 15 1 55 0,mv' 55 15 1]
def ycsn:LO:=[mv' 5 56 0,mv' 56 4 1]
def c63:SC:=(sr ydnm <| sr yeam <| .seq (sr yeal <| .block 0 (.loop (sr ydtx <| .seq (cn 16 .skip (.exit 0)) (.seq (.block 1 (sr yeav <| sr ydqm <| sr ydzt <| .block 2 (.loop (sr ydoc <| .seq (cn 29 .skip (.exit 2)) (.seq (.block 3 (sr ydwo <| .reg true ydqd)) (.reg false ycxi)))))) (.reg false ycto))))) (sr ycsn <| .ret))
theorem ydyp:Fn 63 c63 [.t 4]:=fn_0 Tryz.func63
def ydam:LO:=[bx' 91 1 4 0,mc 0 6 0]
def ycyf:LO:=[mv' 2 8 0,o3 (.idxA 2 1 (.tmp 4) (ci' 0)) 9 0,ld' 1 9 10 2,bn' .geq 8 10 11 7,mv' 11 12 15,gt (.mv (.tmp 2)) 13 12 31,gt (.idxA 2 1 (.tmp 4) (ci' 1)) 14 12 31,gt (.load false 1 (.tmp 14)) 15 12 95,gt (.bin .leq (.tmp 13) (.tmp 15)) 16 12 255,o3 (.pick (.tmp 12) (.tmp 16) (.const (.bool false))) 17 511,mv' 17 7 1023]
def ydad:LO:=[mv' 2 18 0,mv' 18 6 1]
def yctw:LO:=[mv' 0 20 0,bc .eql 20 3 21 1,mv' 21 19 3]
def ycqa:LO:=[mc (-1) 6 0]
def ycuj:LO:=[mv' 2 23 0,o3 (.idxA 2 1 (.tmp 4) (ci' 0)) 24 0,ld' 1 24 25 2,bn' .lss 23 25 26 7,mv' 26 22 15]
def ydeb:LO:=[o3 (.idxA 2 1 (.tmp 4) (ci' 0)) 27 0,ld' 1 27 28 1,mv' 28 6 3]
def yczd:LO:=[o3 (.idxA 2 1 (.tmp 4) (ci' 1)) 29 0,ld' 1 29 30 1,mv' 30 6 3]
def c170:SC:=(sr ydam <| .seq (.block 0 (sr ycyf <| cn 7 (sr ydad <| .ret) (sr yctw <| cn 19 (sr ycqa <| .ret) (sr ycuj <| cn 22 (sr ydeb <| .ret) .skip)))) (sr yczd <| .ret))
theorem ydmn:Fn 170 c170 [.t 6]:=fn_0 Tryz.func170
def ydzg:LO:=[bx' 32 0 2 0,bx' 27 1 3 0,mc 0 4 0]
def yduv:LO:=[la' 3 2 9 0,cl' 130 [9] 10 1,o3 (.un .not (.tmp 10)) 11 3]
def ydqw:LO:=[mc 8 4 0]
def ydwv:LO:=[la' 2 3 12 0,cl' 131 [12] 13 1,o3 (.un .not (.tmp 13)) 14 3]
def ydzb:LO:=[mc 1 4 0]
def ydso:LO:=[fa' 1 1 2 15 0,ld' 1 15 16 1,ln' 16 17 3,mc 0 18 0]
def ydta:LO:=[bn' .lss 18 17 19 0]
def ydsx:LO:=[ix' 6 16 18 20 0,la' 6 20 21 1,o3 (.alloc 160 1 [.a (.string (ByteArray.mk #[])),.i .i64 0,.i .i64 0,.i .i64 0,.i .i64 0,.i .i64 0]) 6 0,sto 6 6 21 7]
def ydok:LO:=[fa' 1 1 6 22 0,ld' 1 22 23 1,bc .neq 23 1 24 3]
def ydxe:LO:=[la' 6 6 26 0,la' 2 3 27 0,o3 (.call (.func 132) [(.tmp 26),(.tmp 27),(ci' 0)]) 28 3,mv' 28 25 7,xt' 25 0 29 15,xt' 25 1 30 15,mv' 29 7 31,mv' 30 8 127]
def yddf:LO:=[mv' 8 31 0,mv' 7 32 0,bn' .lss 31 32 33 3,mv' 33 34 7,gf (.mv (.tmp 8)) 35 34 15,gf (.mv (.tmp 7)) 36 34 15,gf (.bin .sub (.tmp 35) (.tmp 36)) 37 34 63,gf (.bin .add (.tmp 37) (ci' 1)) 38 34 127,gf (.bin .gtr (.tmp 38) (ci' 4096)) 39 34 255,pk' 34 39 40 511]
def ycxe:LO:=[mc 9 4 0]
def ydcf:LO:=[bc .add 18 1 41 0,mv' 41 18 1]
def ycth:LO:=[mc 0 4 0]
def c62:SC:=(sr ydzg <| .seq (sr yduv <| cn 11 (sr ydqw <| .ret) .skip) (.seq (sr ydwv <| cn 14 (sr ydzb <| .ret) .skip) (.seq (sr ydso <| .block 0 (.loop (sr ydta <| .seq (cn 19 .skip (.exit 0)) (.seq (.block 1 (sr ydsx <| .seq (sr ydok <| cn 24 (.exit 1) .skip) (sr ydxe <| sr yddf <| cn 40 (sr ycxe <| .ret) .skip))) (.reg false ydcf))))) (sr ycth <| .ret))))
theorem ydue:Fn 62 c62 [.t 4]:=fn_0 Tryz.func62
def ycwg:LO:=[bx' 32 0 2 0,bx' 27 1 3 0,o3 (.mv (.const (.pointer none))) 4 0]
def ydah:LO:=[la' 3 2 5 0,la' 3 2 6 0,la' 2 3 7 0,cl' 167 [6,7] 8 6,la' 3 2 9 0,la' 2 3 10 0,cl' 63 [9,10] 11 62,o3 (.build [.a (.string (ByteArray.mk #[])),.a (.slice none 0 0),.a (.slice none 0 0),.a (.pointer none),.a (.slice none 0 0)] [(0,3,(.tmp 5)),(3,1,(.tmp 8)),(4,1,(.tmp 11))]) 12 127,bx' 200 12 13 255,mv' 13 4 511]
def c123:SC:=(sr ycwg <| .seq (.reg true ydah) .ret)
theorem ydgp:Fn 123 c123 [.t 4]:=fn_0 Tryz.func123
def ycyg:LO:=[mc 0 6 0]
def ycxb:LO:=[mv' 0 8 0,nk' 8 9 1,fa' 0 3 9 10 3,fa' 2 1 10 11 7,ld' 1 11 12 15,ln' 12 13 31,mc 0 14 0]
def yczo:LO:=[bn' .lss 14 13 15 0]
def yczr:LO:=[mv' 14 16 0,mv' 16 7 1]
def ycud:LO:=[mv' 0 17 0,nk' 17 18 1,fa' 3 1 18 19 3,ld' 1 19 20 7,mv' 1 21 0,mv' 2 22 0,mv' 7 23 0,cl' 168 [20,21,22,23] 24 127]
def ydau:LO:=[mv' 7 25 0,mv' 25 6 1]
def ycwq:LO:=[bc .add 14 1 26 0,mv' 26 14 1]
def ycwv:LO:=[mc (-1) 6 0]
def c126:SC:=(sr ycyg <| .seq (sr ycxb <| .block 0 (.loop (sr yczo <| .seq (cn 15 .skip (.exit 0)) (.seq (.block 1 (sr yczr <| sr ycud <| cn 24 (sr ydau <| .ret) .skip)) (.reg false ycwq))))) (sr ycwv <| .ret))
theorem ydjs:Fn 126 c126 [.t 6]:=fn_0 Tryz.func126
def ycyt:LO:=[nl' 8 0]
def ydck:LO:=[mv' 1 13 0,mv' 2 14 0,ix' 1 13 14 15 3,ld' 1 15 16 7,o3 (.app 3 1 8 (.const (.slice none 0 0)) (.tmp 16)) 17 15,mv' 17 9 31]
def ydba:LO:=[mv' 0 18 0,nk' 18 19 1,fa' 0 3 19 20 3,fa' 2 1 20 21 7,ld' 1 21 22 15,mv' 3 23 0,ix' 3 22 23 24 63,fa' 2 1 24 25 127,ld' 1 25 26 255,ln' 26 27 511,mc 0 28 0]
def ycsd:LO:=[bn' .lss 28 27 29 0]
def yctm:LO:=[ix' 2 26 28 30 0,la' 2 30 31 1,o3 (.alloc 203 1 [.i .i64 0,.a (.slice none 0 0)]) 11 0,sto 2 11 31 7]
def ycrs:LO:=[mv' 0 32 0,nk' 32 33 1,fa' 3 1 33 34 3,ld' 1 34 35 7,mv' 1 36 0,mv' 2 37 0,fa' 1 1 11 38 0,ld' 1 38 39 64,cl' 169 [35,36,37,39] 40 255,mv' 40 12 511]
def ycuo:LO:=[mv' 9 41 0,fa' 0 1 11 42 0,ld' 1 42 43 2,mv' 0 44 0,nk' 44 45 8,fa' 0 3 45 46 24,fa' 1 1 46 47 56,ld' 1 47 48 120,fa' 0 1 11 49 0,ld' 1 49 50 256,ix' 6 48 50 51 1016,fa' 1 1 51 52 2040,ld' 1 52 53 4088,mv' 0 54 0,nk' 54 55 8192,fa' 4 1 55 56 24576,ld' 1 56 57 57344,mv' 2 58 0,ix' 1 57 58 59 253952,ld' 1 59 60 516096,fa' 0 1 11 61 0,ld' 1 61 62 1048576,ix' 2 60 62 63 4186112,la' 2 63 64 8380416,mv' 12 65 0,cl' 170 [53,64,65] 66 33554424,ix' 1 41 43 67 67108863,sto 1 67 66 134217727]
def ycxs:LO:=[bc .add 28 1 68 0,mv' 68 28 1]
def ycrp:LO:=[mv' 9 69 0,mv' 69 8 1]
def c127:SC:=(sr ycyt <| sr ydck <| .seq (sr ydba <| .block 0 (.loop (sr ycsd <| .seq (cn 29 .skip (.exit 0)) (.seq (.block 1 (sr yctm <| .seq (.reg true ycrs) (.reg true ycuo))) (.reg false ycxs))))) (sr ycrp <| .ret))
theorem ycla:FnM 127 c127 [.t 8]:=fn_m Tryz.func127
def yddv:LO:=[mc 0 2 0]
def ycye:LO:=[mv' 0 3 0,o3 (.bin .shr (.tmp 3) (.const (.int .u64 24))) 4 1,o3 (.stri ybav (.tmp 4)) 5 3,mv' 0 6 0,o3 (.bin .shr (.tmp 6) (.const (.int .u64 16))) 7 8,o3 (.bin .and (.tmp 7) (.const (.int .u32 255))) 8 24,o3 (.stri ybav (.tmp 8)) 9 56,bn' .add 5 9 10 127,mv' 0 11 0,o3 (.bin .shr (.tmp 11) (.const (.int .u64 8))) 12 256,o3 (.bin .and (.tmp 12) (.const (.int .u32 255))) 13 768,o3 (.stri ybav (.tmp 13)) 14 1792,bn' .add 10 14 15 4095,mv' 0 16 0,o3 (.bin .and (.tmp 16) (.const (.int .u32 255))) 17 8192,o3 (.stri ybav (.tmp 17)) 18 24576,bn' .add 15 18 19 65535,o3 (.conv .i64 (.tmp 19)) 20 131071,mv' 20 2 262143]
def c113:SC:=(sr yddv <| .seq (.reg true ycye) .ret)
theorem ydmu:Fn 113 c113 [.t 2]:=fn_0 Tryz.func113
def ycur:LO:=[bx' 27 0 1 0,nl' 2 0]
def ycsg:LO:=[fa' 1 1 1 8 0,ld' 1 8 9 1,ln' 9 10 3,o3 (.mk 77 1 4 [.i .u32 0] (.tmp 10) (.tmp 10)) 11 7,mv' 11 3 15]
def ydcb:LO:=[fa' 1 1 1 12 0,ld' 1 12 13 1,ln' 13 14 3,mc 0 15 0]
def ydem:LO:=[bn' .lss 15 14 16 0]
def ycwt:LO:=[mv' 15 17 0,ix' 1 13 15 18 0,ld' 1 18 19 2,mv' 17 4 7,mv' 19 5 15]
def ydav:LO:=[mv' 5 20 0,ln' 20 21 1,mc 0 22 0]
def ycxa:LO:=[bn' .lss 22 21 23 0]
def ycwn:LO:=[ix' 2 20 22 24 0,la' 2 24 25 1,o3 (.alloc 68 1 [.i .i64 0,.i .i64 0]) 7 0,sto 2 7 25 7]
def ycqw:LO:=[mv' 3 26 0,mv' 4 27 0,ix' 1 26 27 28 3,ld' 1 28 29 7,fa' 0 1 7 30 0,ld' 1 30 31 16,o3 (.bin .shl (.const (.int .u32 1)) (.tmp 31)) 32 48,bn' .or 29 32 33 127,ix' 1 26 27 34 255,sto 1 34 33 511]
def ydaw:LO:=[bc .add 22 1 35 0,mv' 35 22 1]
def yccv:LO:=[bc .add 15 1 36 0,mv' 36 15 1]
def ycby:LO:=[mv' 3 37 0,mv' 37 2 1]
def c124:SC:=(sr ycur <| sr ycsg <| .seq (sr ydcb <| .block 0 (.loop (sr ydem <| .seq (cn 16 .skip (.exit 0)) (.seq (.block 1 (sr ycwt <| sr ydav <| .block 2 (.loop (sr ycxa <| .seq (cn 23 .skip (.exit 2)) (.seq (.block 3 (sr ycwn <| .reg true ycqw)) (.reg false ydaw)))))) (.reg false yccv))))) (sr ycby <| .ret))
theorem ydjo:Fn 124 c124 [.t 2]:=fn_0 Tryz.func124
def ycty:LO:=[mb false 8 0]
def ycyz:LO:=[mv' 3 9 0,o3 (.bin .eql (.tmp 9) (.const (.int .u32 0))) 10 1,mv' 10 11 3,gf (.mv (.tmp 3)) 12 11 7,gf (.mv (.tmp 2)) 13 11 7,gf (.bin .andNot (.tmp 12) (.tmp 13)) 14 11 31,gf (.bin .neq (.tmp 14) (.const (.int .u32 0))) 15 11 63,pk' 11 15 16 127]
def ydwl:LO:=[mb false 8 0]
def ydcz:LO:=[mv' 1 17 0]
def ycyv:LO:=[bc .eql 17 1 19 0,mv' 19 18 1]
def ydtm:LO:=[mv' 3 20 0,mv' 3 21 0,o3 (.bin .sub (.tmp 21) (.const (.int .u32 1))) 22 2,bn' .and 20 22 23 7,o3 (.bin .eql (.tmp 23) (.const (.int .u32 0))) 24 15,mv' 24 8 31]
def ycqp:LO:=[bc .eql 17 2 26 0,mv' 26 25 1]
def ydsr:LO:=[mv' 0 27 0,mv' 3 28 0,cl' 206 [27,28] 29 3,mv' 29 8 7]
def ydcy:LO:=[bc .eql 17 4 31 0,mv' 31 30 1]
def ydpn:LO:=[mv' 3 32 0,mv' 2 33 0,bn' .eql 32 33 34 3,mv' 34 8 7]
def ybwh:LO:=[mb true 8 0]
def c171:SC:=(sr ycty <| .seq (sr ycyz <| cn 16 (sr ydwl <| .ret) .skip) (.seq (sr ydcz <| .block 0 (sr ycyv <| cn 18 (sr ydtm <| .ret) (sr ycqp <| cn 25 (sr ydsr <| .ret) (sr ydcy <| cn 30 (sr ydpn <| .ret) .skip)))) (sr ybwh <| .ret)))
theorem ydmj:Fn 171 c171 [.t 8]:=fn_0 Tryz.func171
def yeaj:LO:=[mb false 2 0]
def ydvo:LO:=[mv' 0 3 0,bc .geq 3 1 4 1,mv' 4 5 3,gt (.mv (.tmp 0)) 6 5 7,gt (.bin .leq (.tmp 6) (ci' 4)) 7 5 15,o3 (.pick (.tmp 5) (.tmp 7) (.const (.bool false))) 8 31,mv' 8 2 63]
def c57:SC:=(sr yeaj <| sr ydvo <| .ret)
theorem ydzu:Fn 57 c57 [.t 2]:=fn_0 Tryz.func57
end Sh
end
section
namespace Sh
open Go Ev
def ycun:LO:=[mc 0 4 0]
def ydcv:LO:=[mv' 0 6 0,ln' 6 7 1,mc 0 8 0]
def ycrl:LO:=[bn' .lss 8 7 9 0]
def ycre:LO:=[mv' 8 10 0,mv' 10 5 1]
def yctr:LO:=[mv' 1 11 0,mv' 0 12 0,mv' 5 13 0,ix' 1 12 13 14 6,ld' 1 14 15 14,bn' .eql 11 15 16 31]
def ycwp:LO:=[mv' 5 17 0,mv' 17 4 1]
def yczu:LO:=[bc .add 8 1 18 0,mv' 18 8 1]
def yczb:LO:=[mc (-1) 4 0]
def c143:SC:=(sr ycun <| .seq (sr ydcv <| .block 0 (.loop (sr ycrl <| .seq (cn 9 .skip (.exit 0)) (.seq (.block 1 (sr ycre <| sr yctr <| cn 16 (sr ycwp <| .ret) .skip)) (.reg false yczu))))) (sr yczb <| .ret))
theorem ydfd:Fn 143 c143 [.t 4]:=fn_0 Tryz.func143
def yead:LO:=[mc 0 2 0]
def ydvt:LO:=[mv' 0 5 0,ln' 5 6 1,bc .lss 6 1 7 3]
def ydos:LO:=[o3 (.no) 8 0,o0 (.no) 1]
def ydyv:LO:=[mv' 0 9 0,o3 (.idx 1 (.tmp 9) (ci' 0)) 10 1,ld' 1 10 11 3,mv' 11 3 7]
def yebc:LO:=[mc 1 4 0]
def ydud:LO:=[mv' 4 12 0,mv' 0 13 0,ln' 13 14 2,bn' .lss 12 14 15 7]
def yebi:LO:=[mv' 3 18 0,mv' 0 19 0,mv' 4 20 0,ix' 1 19 20 21 6,ld' 1 21 22 14,o3 (.mm true (.tmp 18) (.tmp 22)) 23 31,mv' 23 3 63]
def ydrd:LO:=[mv' 4 16 0,bc .add 16 1 17 1,mv' 17 4 3]
def yeay:LO:=[mv' 3 24 0,mv' 24 2 1]
def c54:SC:=(sr yead <| .seq (sr ydvt <| cn 7 (.reg false ydos) .skip) (sr ydyv <| .seq (sr yebc <| .block 0 (.loop (.seq (sr ydud <| cn 15 .skip (.exit 0)) (.seq (.block 1 (.reg false yebi)) (.reg false ydrd))))) (sr yeay <| .ret)))
theorem ydzf:Fn 54 c54 [.t 2]:=fn_0 Tryz.func54
def ydxs:LO:=[mb false 4 0]
def ydsp:LO:=[mv' 0 6 0,ln' 6 7 1,mv' 1 8 0,ln' 8 9 4,bn' .neq 7 9 10 15]
def ydsd:LO:=[mb false 4 0]
def ydwk:LO:=[mv' 0 11 0,ln' 11 12 1,mc 0 13 0]
def yduu:LO:=[bn' .lss 13 12 14 0]
def ydvf:LO:=[mv' 13 15 0,mv' 15 5 1]
def ydxa:LO:=[mv' 0 16 0,mv' 5 17 0,ix' 1 16 17 18 3,ld' 1 18 19 7,mv' 1 20 0,mv' 5 21 0,ix' 1 20 21 22 48,ld' 1 22 23 112,bn' .neq 19 23 24 255]
def yeaw:LO:=[mb false 4 0]
def ydug:LO:=[bc .add 13 1 25 0,mv' 25 13 1]
def ydxo:LO:=[mb true 4 0]
def c92:SC:=(sr ydxs <| .seq (sr ydsp <| cn 10 (sr ydsd <| .ret) .skip) (.seq (sr ydwk <| .block 0 (.loop (sr yduu <| .seq (cn 14 .skip (.exit 0)) (.seq (.block 1 (sr ydvf <| .seq (.reg true ydxa) (cn 24 (sr yeaw <| .ret) .skip))) (.reg false ydug))))) (sr ydxo <| .ret)))
theorem ydqj:Fn 92 c92 [.t 4]:=fn_0 Tryz.func92
def ydbk:LO:=[mb false 4 0]
def ycxf:LO:=[mv' 0 5 0,mv' 1 6 0,cl' 143 [5,6] 7 3,bc .geq 7 0 8 7,mv' 8 4 15]
def c258:SC:=(sr ydbk <| sr ycxf <| .ret)
theorem ydhr:Fn 258 c258 [.t 4]:=fn_0 Tryz.func258
def ycyc:LO:=[mc 0 4 0]
def ycvz:LO:=[mv' 0 6 0,ln' 6 7 1,mc 0 8 0]
def yddq:LO:=[bn' .lss 8 7 9 0]
def yczk:LO:=[mv' 8 10 0,mv' 10 5 1]
def ycpw:LO:=[mv' 1 11 0,mv' 0 12 0,mv' 5 13 0,ix' 1 12 13 14 6,ld' 1 14 15 14,o3 (.call (.tmp 11) [(.tmp 15)]) 16 31]
def yczi:LO:=[mv' 5 17 0,mv' 17 4 1]
def ycpx:LO:=[bc .add 8 1 18 0,mv' 18 8 1]
def ycui:LO:=[mc (-1) 4 0]
def c251:SC:=(sr ycyc <| .seq (sr ycvz <| .block 0 (.loop (sr yddq <| .seq (cn 9 .skip (.exit 0)) (.seq (.block 1 (sr yczk <| sr ycpw <| cn 16 (sr yczi <| .ret) .skip)) (.reg false ycpx))))) (sr ycui <| .ret))
theorem ydlx:Fn 251 c251 [.t 4]:=fn_0 Tryz.func251
def ycrw:LO:=[mc 0 2 0]
def ycvc:LO:=[mv' 0 4 0,bc .lss 4 1 5 1,mv' 5 6 3,gf (.mv (.tmp 0)) 7 6 7,gf (.bin .gtr (.tmp 7) (ci' 43)) 8 6 15,pk' 6 8 9 31,mv' 9 3 63]
def ydbm:LO:=[mc (-1) 2 0]
def yddt:LO:=[mv' 0 11 0,bc .leq 11 17 12 1,mv' 12 10 3]
def ycqc:LO:=[mc 0 2 0]
def ycuz:LO:=[mv' 0 14 0,bc .leq 14 29 15 1,mv' 15 13 3]
def ycvv:LO:=[mc 1 2 0]
def yddm:LO:=[mv' 0 17 0,bc .leq 17 42 18 1,mv' 18 16 3]
def ydde:LO:=[mc 2 2 0]
def yddh:LO:=[mc 3 2 0]
def c231:SC:=(sr ycrw <| .seq (.block 0 (sr ycvc <| cn 3 (sr ydbm <| .ret) (sr yddt <| cn 10 (sr ycqc <| .ret) (sr ycuz <| cn 13 (sr ycvv <| .ret) (sr yddm <| cn 16 (sr ydde <| .ret) .skip))))) (sr yddh <| .ret))
theorem ydim:Fn 231 c231 [.t 2]:=fn_0 Tryz.func231
def ycst:LO:=[mc 0 4 0]
def ycut:LO:=[mv' 1 7 0,bc .lss 7 0 8 1,mv' 8 9 3,gf (.mv (.tmp 1)) 10 9 7,gf (.mv (.tmp 0)) 11 9 7,gf (.len (.tmp 11)) 12 9 23,gf (.bin .geq (.tmp 10) (.tmp 12)) 13 9 63,pk' 9 13 14 127]
def ycyo:LO:=[mc (-1) 4 0]
def yddw:LO:=[mc 1 5 0]
def yctg:LO:=[mv' 1 15 0,mv' 0 16 0,ln' 16 17 2,bn' .lss 15 17 18 7]
def ycue:LO:=[mv' 0 21 0,mv' 1 22 0,ix' 2 21 22 23 3,fa' 0 1 23 24 7,ld' 1 24 25 15,cl' 231 [25] 26 31,mv' 26 6 63]
def ycry:LO:=[mv' 6 27 0,bc .lss 27 0 28 1]
def yctz:LO:=[mc (-1) 4 0]
def ycwa:LO:=[mv' 5 29 0,mv' 6 30 0,bc .sub 30 1 31 2,bn' .add 29 31 32 7,mv' 32 5 15]
def ycfe:LO:=[mv' 5 33 0,bc .eql 33 0 34 1]
def ycff:LO:=[mv' 1 35 0,bc .add 35 1 36 1,mv' 36 4 3]
def ycvk:LO:=[mv' 1 19 0,bc .add 19 1 20 1,mv' 20 1 3]
def ycis:LO:=[mc (-1) 4 0]
def c215:SC:=(sr ycst <| .seq (sr ycut <| cn 14 (sr ycyo <| .ret) .skip) (.seq (sr yddw <| .block 0 (.loop (.seq (sr yctg <| cn 18 .skip (.exit 0)) (.seq (.block 1 (sr ycue <| .seq (sr ycry <| cn 28 (sr yctz <| .ret) .skip) (sr ycwa <| sr ycfe <| cn 34 (sr ycff <| .ret) .skip))) (.reg false ycvk))))) (sr ycis <| .ret)))
theorem ydlh:Fn 215 c215 [.t 4]:=fn_0 Tryz.func215
def ydvh:LO:=[bx' 27 0 3 0,mc 0 6 0]
def ydxx:LO:=[fa' 1 1 3 9 0,ld' 1 9 10 1,mv' 1 11 0,ix' 1 10 11 12 7,ld' 1 12 13 15,ln' 13 14 31,mc 0 15 0]
def ydye:LO:=[bn' .lss 15 14 16 0]
def yebk:LO:=[mv' 15 17 0,ix' 2 13 15 18 0,la' 2 18 19 2,o3 (.alloc 68 1 [.i .i64 0,.i .i64 0]) 8 0,mv' 17 7 15,sto 2 8 19 31]
def ydnj:LO:=[mv' 2 20 0,la' 2 8 21 0,o3 (.call (.tmp 20) [(.tmp 21)]) 22 3]
def ydss:LO:=[mv' 7 23 0,mv' 23 6 1]
def ydpj:LO:=[bc .add 15 1 24 0,mv' 24 15 1]
def ydwu:LO:=[mc (-1) 6 0]
def c70:SC:=(sr ydvh <| .seq (sr ydxx <| .block 0 (.loop (sr ydye <| .seq (cn 16 .skip (.exit 0)) (.seq (.block 1 (sr yebk <| sr ydnj <| cn 22 (sr ydss <| .ret) .skip)) (.reg false ydpj))))) (sr ydwu <| .ret))
theorem ydzd:Fn 70 c70 [.t 6]:=fn_0 Tryz.func70
def ycrf:LO:=[bx' 27 0 3 0,mc 0 6 0]
def ycqg:LO:=[fa' 1 1 3 9 0,ld' 1 9 10 1,mv' 1 11 0,ix' 1 10 11 12 7,ld' 1 12 13 15,ln' 13 14 31,mc 0 15 0]
def ycpv:LO:=[bn' .lss 15 14 16 0]
def ydef:LO:=[mv' 15 17 0,ix' 2 13 15 18 0,la' 2 18 19 2,o3 (.alloc 68 1 [.i .i64 0,.i .i64 0]) 8 0,mv' 17 7 15,sto 2 8 19 31]
def ycrt:LO:=[fa' 0 1 8 20 0,ld' 1 20 21 1,mv' 2 22 0,bn' .eql 21 22 23 7]
def ycvn:LO:=[mv' 7 24 0,mv' 24 6 1]
def ydcl:LO:=[bc .add 15 1 25 0,mv' 25 15 1]
def ycra:LO:=[mc (-1) 6 0]
def c204:SC:=(sr ycrf <| .seq (sr ycqg <| .block 0 (.loop (sr ycpv <| .seq (cn 16 .skip (.exit 0)) (.seq (.block 1 (sr ydef <| sr ycrt <| cn 23 (sr ycvn <| .ret) .skip)) (.reg false ydcl))))) (sr ycra <| .ret))
theorem ydla:Fn 204 c204 [.t 6]:=fn_0 Tryz.func204
def yctd:LO:=[bx' 27 0 2 0,nl' 4 0]
def ycqf:LO:=[fa' 1 1 2 11 0,ld' 1 11 12 1,ln' 12 13 3,o3 (.mk 3 1 8 [.i .i64 0] (.tmp 13) (.tmp 13)) 14 7,mv' 14 5 15]
def ycyq:LO:=[mv' 5 15 0,ln' 15 16 1,mc 0 17 0]
def ybxt:LO:=[bn' .lss 17 16 18 0]
def ycwc:LO:=[mv' 17 19 0,mv' 19 6 1]
def yczq:LO:=[mv' 5 20 0,mv' 6 21 0,ix' 1 20 21 22 3,o0 (.store 1 (.tmp 22) (.const (.int .i64 (-1)))) 7]
def ycyr:LO:=[bc .add 17 1 23 0,mv' 23 17 1]
def ycqj:LO:=[mv' 5 24 0,mv' 1 25 0,ix' 1 24 25 26 3,o0 (.store 1 (.tmp 26) (ci' 0)) 7]
def ycyl:LO:=[mv' 1 27 0,o3 (.bslice 3 1 1 [.i .i64 0] [(0,1,(.tmp 27))]) 28 1,mv' 28 7 3]
def ycax:LO:=[mv' 7 29 0,ln' 29 30 1,bc .gtr 30 0 31 3]
def ybxg:LO:=[mv' 7 32 0,o3 (.idx 1 (.tmp 32) (ci' 0)) 33 1,ld' 1 33 34 3,mv' 34 8 7]
def ycfq:LO:=[mv' 7 35 0,o3 (.cut 1 (.tmp 35) (some (ci' 1)) none) 36 1,mv' 36 7 3]
def yciq:LO:=[fa' 1 1 2 37 0,ld' 1 37 38 1,mv' 8 39 0,ix' 1 38 39 40 7,ld' 1 40 41 15,ln' 41 42 31,mc 0 43 0]
def ybct:LO:=[bn' .lss 43 42 44 0]
def ybdd:LO:=[ix' 2 41 43 45 0,la' 2 45 46 1,o3 (.alloc 68 1 [.i .i64 0,.i .i64 0]) 10 0,sto 2 10 46 7]
def ybbx:LO:=[mv' 5 47 0,fa' 0 1 10 48 0,ld' 1 48 49 2,ix' 1 47 49 50 7,ld' 1 50 51 15,bc .lss 51 0 52 31]
def ybce:LO:=[mv' 5 53 0,fa' 0 1 10 54 0,ld' 1 54 55 2,mv' 5 56 0,mv' 8 57 0,ix' 1 56 57 58 24,ld' 1 58 59 56,bc .add 59 1 60 120,ix' 1 53 55 61 255,sto 1 61 60 511]
def ybdy:LO:=[mv' 7 62 0,fa' 0 1 10 63 0,ld' 1 63 64 2,o3 (.bslice 3 1 1 [.i .i64 0] [(0,1,(.tmp 64))]) 65 6,o3 (.app 3 1 8 (.tmp 62) (.tmp 65)) 66 15,mv' 66 7 31]
def ybeo:LO:=[bc .add 43 1 67 0,mv' 67 43 1]
def ycfg:LO:=[mv' 5 68 0,mv' 68 4 1]
def c142:SC:=(sr yctd <| sr ycqf <| .seq (sr ycyq <| .block 0 (.loop (sr ybxt <| .seq (cn 18 .skip (.exit 0)) (.seq (.block 1 (sr ycwc <| .reg false yczq)) (.reg false ycyr))))) (sr ycqj <| sr ycyl <| .seq (.block 2 (.loop (.seq (sr ycax <| cn 31 .skip (.exit 2)) (.block 3 (sr ybxg <| sr ycfq <| sr yciq <| .block 4 (.loop (sr ybct <| .seq (cn 44 .skip (.exit 4)) (.seq (.block 5 (sr ybdd <| sr ybbx <| cn 52 (.seq (.reg true ybce) (.reg false ybdy)) .skip)) (.reg false ybeo))))))))) (sr ycfg <| .ret)))
theorem yden:Fn 142 c142 [.t 4]:=fn_0 Tryz.func142
def yebe:LO:=[bx' 27 0 2 0,nl' 4 0]
def yduo:LO:=[la' 2 2 5 0,cl' 131 [5] 6 1,o3 (.un .not (.tmp 6)) 7 3,mv' 7 8 7,gf (.mv (.tmp 1)) 9 8 15,gf (.bin .lss (.tmp 9) (ci' 0)) 10 8 31,pk' 8 10 11 63,mv' 11 12 127,gf (.mv (.tmp 1)) 13 12 255,gf (.faddr 1 1 (.tmp 2)) 14 12 255,gf (.load false 1 (.tmp 14)) 15 12 767,gf (.len (.tmp 15)) 16 12 1791,gf (.bin .geq (.tmp 13) (.tmp 16)) 17 12 4095,pk' 12 17 18 8191]
def ydvd:LO:=[nl' 4 0]
def ydop:LO:=[la' 2 2 19 0,mv' 1 20 0,cl' 142 [19,20] 21 3,mv' 21 4 7]
def c90:SC:=(sr yebe <| .seq (sr yduo <| cn 18 (sr ydvd <| .ret) .skip) (sr ydop <| .ret))
theorem ydow:Fn 90 c90 [.t 4]:=fn_0 Tryz.func90
def ycxy:LO:=[mc 0 2 0]
def ycus:LO:=[mv' 0 3 0]
def ydcg:LO:=[mc 1 2 0]
def yczc:LO:=[mc 0 2 0]
def c240:SC:=(sr ycxy <| .seq (sr ycus <| cn 3 (sr ydcg <| .ret) .skip) (sr yczc <| .ret))
theorem ydii:Fn 240 c240 [.t 2]:=fn_0 Tryz.func240
def ycwf:LO:=[mc 0 2 0]
def ycuf:LO:=[mv' 0 3 0,o3 (.mm false (.tmp 3) (ci' 1073741824)) 4 1,o3 (.mm true (.const (.int .i64 (-1073741824))) (.tmp 4)) 5 3,mv' 5 2 7]
def c242:SC:=(sr ycwf <| sr ycuf <| .ret)
theorem ydff:Fn 242 c242 [.t 2]:=fn_0 Tryz.func242
def ycym:LO:=[mc 0 4 0]
def ycvq:LO:=[mv' 0 5 0,bc .eql 5 18 6 1]
def ycux:LO:=[mv' 1 7 0,o3 (.un .neg (.tmp 7)) 8 1,mv' 8 4 3]
def ycsp:LO:=[mv' 1 9 0,bc .eql 9 0 10 1,cl' 240 [10] 11 3,mv' 11 4 7]
def c221:SC:=(sr ycym <| .seq (sr ycvq <| cn 6 (sr ycux <| .ret) .skip) (sr ycsp <| .ret))
theorem ydme:Fn 221 c221 [.t 4]:=fn_0 Tryz.func221
def ydei:LO:=[mc 0 6 0]
def yddu:LO:=[mv' 0 7 0]
def ycsi:LO:=[bc .eql 7 30 9 0,mv' 9 8 1]
def ycvp:LO:=[mv' 1 10 0,mv' 2 11 0,bn' .mul 10 11 12 3,cl' 242 [12] 13 7,mv' 13 6 15]
def ycvb:LO:=[bc .eql 7 31 15 0,mv' 15 14 1]
def ydbg:LO:=[mv' 1 16 0,mv' 2 17 0,cl' 243 [16,17] 18 3,cl' 242 [18] 19 7,mv' 19 6 15]
def ycxn:LO:=[bc .eql 7 32 21 0,mv' 21 20 1]
def ycvj:LO:=[mv' 2 22 0,bc .eql 22 0 23 1]
def ydds:LO:=[mc 0 6 0]
def ycqq:LO:=[mv' 1 24 0,mv' 2 25 0,mv' 1 26 0,mv' 2 27 0,cl' 243 [26,27] 28 12,bn' .mul 25 28 29 30,bn' .sub 24 29 30 63,cl' 242 [30] 31 127,mv' 31 6 255]
def ycij:LO:=[bc .eql 7 33 33 0,mv' 33 32 1]
def ycdx:LO:=[mv' 1 34 0,mv' 2 35 0,bn' .add 34 35 36 3,cl' 242 [36] 37 7,mv' 37 6 15]
def ybzw:LO:=[bc .eql 7 34 39 0,mv' 39 38 1]
def ycay:LO:=[mv' 1 40 0,mv' 2 41 0,bn' .sub 40 41 42 3,cl' 242 [42] 43 7,mv' 43 6 15]
def ybyv:LO:=[bc .eql 7 41 45 0,mv' 45 44 1]
def ychc:LO:=[mv' 1 46 0,bc .neq 46 0 47 1,mv' 47 48 3,gt (.mv (.tmp 2)) 49 48 7,gt (.bin .neq (.tmp 49) (ci' 0)) 50 48 15,o3 (.pick (.tmp 48) (.tmp 50) (.const (.bool false))) 51 31,cl' 240 [51] 52 63,mv' 52 6 127]
def ycaz:LO:=[bc .eql 7 42 54 0,mv' 54 53 1]
def ybzp:LO:=[mv' 1 55 0,bc .neq 55 0 56 1,mv' 56 57 3,gf (.mv (.tmp 2)) 58 57 7,gf (.bin .neq (.tmp 58) (ci' 0)) 59 57 15,pk' 57 59 60 31,cl' 240 [60] 61 63,mv' 61 6 127]
def yccj:LO:=[mv' 0 62 0,mv' 1 63 0,mv' 2 64 0,cl' 244 [62,63,64] 65 7,cl' 240 [65] 66 15,mv' 66 6 31]
def c223:SC:=(sr ydei <| .seq (sr yddu <| .block 0 (sr ycsi <| cn 8 (sr ycvp <| .ret) (sr ycvb <| cn 14 (sr ydbg <| .ret) (sr ycxn <| cn 20 (.seq (sr ycvj <| cn 23 (sr ydds <| .ret) .skip) (sr ycqq <| .ret)) (sr ycij <| cn 32 (sr ycdx <| .ret) (sr ybzw <| cn 38 (sr ycay <| .ret) (sr ybyv <| cn 44 (sr ychc <| .ret) (sr ycaz <| cn 53 (sr ybzp <| .ret) .skip)))))))) (sr yccj <| .ret))
theorem ydit:Fn 223 c223 [.t 6]:=fn_0 Tryz.func223
def ycpt:LO:=[mc 0 4 0]
def ycxq:LO:=[mv' 1 6 0,bc .eql 6 0 7 1]
def yctp:LO:=[mc 0 4 0]
def ycxh:LO:=[mv' 0 8 0,mv' 1 9 0,bn' .quo 8 9 10 3,mv' 10 5 7]
def ycwz:LO:=[mv' 0 11 0,mv' 1 12 0,bn' .rem 11 12 13 3,bc .neq 13 0 14 7,mv' 14 15 15,gt (.mv (.tmp 0)) 16 15 31,gt (.bin .lss (.tmp 16) (ci' 0)) 17 15 63,gt (.mv (.tmp 1)) 18 15 31,gt (.bin .lss (.tmp 18) (ci' 0)) 19 15 159,gt (.beq true (.tmp 17) (.tmp 19)) 20 15 511,o3 (.pick (.tmp 15) (.tmp 20) (.const (.bool false))) 21 1023]
def ydbl:LO:=[mv' 5 22 0,bc .sub 22 1 23 1,mv' 23 5 3]
def ydao:LO:=[mv' 5 24 0,mv' 24 4 1]
def c243:SC:=(sr ycpt <| .seq (sr ycxq <| cn 7 (sr yctp <| .ret) .skip) (sr ycxh <| .seq (sr ycwz <| cn 21 (.reg false ydbl) .skip) (sr ydao <| .ret)))
theorem ydiw:Fn 243 c243 [.t 4]:=fn_0 Tryz.func243
def yddi:LO:=[mb false 6 0]
def ydaa:LO:=[mv' 0 7 0]
def ycrd:LO:=[bc .eql 7 35 9 0,mv' 9 8 1]
def ycyi:LO:=[mv' 1 10 0,mv' 2 11 0,bn' .eql 10 11 12 3,mv' 12 6 7]
def ycsy:LO:=[bc .eql 7 36 14 0,mv' 14 13 1]
def ycyw:LO:=[mv' 1 15 0,mv' 2 16 0,bn' .neq 15 16 17 3,mv' 17 6 7]
def ycua:LO:=[bc .eql 7 37 19 0,mv' 19 18 1]
def yczg:LO:=[mv' 1 20 0,mv' 2 21 0,bn' .lss 20 21 22 3,mv' 22 6 7]
def ycub:LO:=[bc .eql 7 38 24 0,mv' 24 23 1]
def ycwx:LO:=[mv' 1 25 0,mv' 2 26 0,bn' .leq 25 26 27 3,mv' 27 6 7]
def ycab:LO:=[bc .eql 7 39 29 0,mv' 29 28 1]
def ybyq:LO:=[mv' 1 30 0,mv' 2 31 0,bn' .gtr 30 31 32 3,mv' 32 6 7]
def ychx:LO:=[mv' 1 33 0,mv' 2 34 0,bn' .geq 33 34 35 3,mv' 35 6 7]
def c244:SC:=(sr yddi <| .seq (sr ydaa <| .block 0 (sr ycrd <| cn 8 (sr ycyi <| .ret) (sr ycsy <| cn 13 (sr ycyw <| .ret) (sr ycua <| cn 18 (sr yczg <| .ret) (sr ycub <| cn 23 (sr ycwx <| .ret) (sr ycab <| cn 28 (sr ybyq <| .ret) .skip)))))) (sr ychx <| .ret))
theorem ydkt:Fn 244 c244 [.t 6]:=fn_0 Tryz.func244
def ycsh:LO:=[mc 0 4 0]
def ydbv:LO:=[mv' 0 15 0]
def ycwi:LO:=[bc .eql 15 20 17 0,mv' 17 16 1]
def ycqe:LO:=[mv' 1 18 0,cl' 250 [18] 19 1,mv' 1 20 0,ln' 20 21 4,bn' .eql 19 21 22 15,cl' 240 [22] 23 31,mv' 23 4 63]
def ydan:LO:=[bc .eql 15 21 25 0,mv' 25 24 1]
def ycqh:LO:=[mv' 1 26 0,cl' 250 [26] 27 1,bc .gtr 27 0 28 3,cl' 240 [28] 29 7,mv' 29 4 15]
def yczh:LO:=[bc .eql 15 22 31 0,mv' 31 30 1]
def ycyp:LO:=[mv' 1 32 0,cl' 250 [32] 33 1,mv' 33 4 3]
def ycqr:LO:=[bc .eql 15 23 35 0,mv' 35 34 1]
def ycqu:LO:=[mv' 1 36 0,o3 (.call (.func 251) [(.tmp 36),(.func 252)]) 37 1,mv' 37 4 3]
def ycde:LO:=[bc .eql 15 24 39 0,mv' 39 38 1]
def ycex:LO:=[mc 1073741824 5 0]
def ycec:LO:=[mv' 1 40 0,ln' 40 41 1,mc 0 42 0]
def yciv:LO:=[bn' .lss 42 41 43 0]
def ybxh:LO:=[ix' 1 40 42 44 0,ld' 1 44 45 1,mv' 45 7 3]
def ycbq:LO:=[mv' 5 46 0,mv' 7 47 0,o3 (.mm false (.tmp 46) (.tmp 47)) 48 3,mv' 48 5 7]
def ycit:LO:=[bc .add 42 1 49 0,mv' 49 42 1]
def ycbd:LO:=[mv' 5 50 0,mv' 50 4 1]
def ycdy:LO:=[bc .eql 15 25 52 0,mv' 52 51 1]
def ybyr:LO:=[mv' 1 54 0,cl' 253 [54] 55 1,mv' 55 53 3,xt' 53 0 56 7,xt' 53 1 57 7,mv' 56 8 15,mv' 57 9 63]
def ycgd:LO:=[mv' 8 58 0,mv' 58 4 1]
def ybyj:LO:=[bc .eql 15 26 60 0,mv' 60 59 1]
def ycfb:LO:=[mc 0 10 0]
def ybxj:LO:=[mv' 1 61 0,ln' 61 62 1,mc 0 63 0]
def ybww:LO:=[bn' .lss 63 62 64 0]
def ycfn:LO:=[ix' 1 61 63 65 0,ld' 1 65 66 1,mv' 66 12 3]
def ybwk:LO:=[mv' 10 67 0,mv' 12 68 0,bn' .add 67 68 69 3,mv' 69 10 7]
def ycfo:LO:=[bc .add 63 1 70 0,mv' 70 63 1]
def ycct:LO:=[mv' 10 71 0,cl' 242 [71] 72 1,mv' 72 4 3]
def yccy:LO:=[bc .eql 15 27 74 0,mv' 74 73 1]
def ycgz:LO:=[mv' 1 75 0,cl' 254 [75] 76 1,mv' 76 4 3]
def ycil:LO:=[bc .eql 15 28 78 0,mv' 78 77 1]
def ybzt:LO:=[mv' 1 80 0,cl' 253 [80] 81 1,mv' 81 79 3,xt' 79 0 82 7,xt' 79 1 83 7,mv' 82 13 15,mv' 83 14 63]
def ybzg:LO:=[mv' 14 84 0,mv' 84 4 1]
def ycbt:LO:=[mv' 1 85 0,ln' 85 86 1,bc .eql 86 0 87 3]
def ycgv:LO:=[mc 0 4 0]
def ybwr:LO:=[mv' 1 88 0,o3 (.idx 1 (.tmp 88) (ci' 0)) 89 1,ld' 1 89 90 3,mv' 90 4 7]
def c241:SC:=(sr ycsh <| .seq (sr ydbv <| .block 0 (sr ycwi <| cn 16 (sr ycqe <| .ret) (sr ydan <| cn 24 (sr ycqh <| .ret) (sr yczh <| cn 30 (sr ycyp <| .ret) (sr ycqr <| cn 34 (sr ycqu <| .ret) (sr ycde <| cn 38 (sr ycex <| .seq (sr ycec <| .block 1 (.loop (sr yciv <| .seq (cn 43 .skip (.exit 1)) (.seq (.block 2 (sr ybxh <| .reg false ycbq)) (.reg false ycit))))) (sr ycbd <| .ret)) (sr ycdy <| cn 51 (sr ybyr <| sr ycgd <| .ret) (sr ybyj <| cn 59 (sr ycfb <| .seq (sr ybxj <| .block 3 (.loop (sr ybww <| .seq (cn 64 .skip (.exit 3)) (.seq (.block 4 (sr ycfn <| .reg false ybwk)) (.reg false ycfo))))) (sr ycct <| .ret)) (sr yccy <| cn 73 (sr ycgz <| .ret) (sr ycil <| cn 77 (sr ybzt <| sr ybzg <| .ret) .skip)))))))))) (.seq (sr ycbt <| cn 87 (sr ycgv <| .ret) .skip) (sr ybwr <| .ret)))
theorem ydkl:Fn 241 c241 [.t 4]:=fn_0 Tryz.func241
def ycqm:LO:=[mb false 2 0]
def ycve:LO:=[mv' 0 3 0,bc .neq 3 0 4 1,mv' 4 2 3]
def c252:SC:=(sr ycqm <| sr ycve <| .ret)
theorem ydlp:Fn 252 c252 [.t 2]:=fn_0 Tryz.func252
def ycvx:LO:=[mc 0 2 0]
def ydat:LO:=[mc 0 3 0]
def ycrr:LO:=[mv' 0 6 0,ln' 6 7 1,mc 0 8 0]
def ycwr:LO:=[bn' .lss 8 7 9 0]
def ycxt:LO:=[ix' 1 6 8 10 0,ld' 1 10 11 1,mv' 11 5 3]
def ycvw:LO:=[mv' 5 12 0,bc .neq 12 0 13 1]
def ycuh:LO:=[mv' 3 14 0,bc .add 14 1 15 1,mv' 15 3 3]
def ycrx:LO:=[bc .add 8 1 16 0,mv' 16 8 1]
def ycvl:LO:=[mv' 3 17 0,mv' 17 2 1]
def c250:SC:=(sr ycvx <| sr ydat <| .seq (sr ycrr <| .block 0 (.loop (sr ycwr <| .seq (cn 9 .skip (.exit 0)) (.seq (.block 1 (sr ycxt <| sr ycvw <| cn 13 (.reg false ycuh) .skip)) (.reg false ycrx))))) (sr ycvl <| .ret))
theorem ydgq:Fn 250 c250 [.t 2]:=fn_0 Tryz.func250
def ycvu:LO:=[mc 0 2 0,mc 0 3 1]
def ydbh:LO:=[mc (-1073741824) 2 0,mc (-1073741824) 3 1]
def ycrj:LO:=[mv' 0 6 0,ln' 6 7 1,mc 0 8 0]
def ycsz:LO:=[bn' .lss 8 7 9 0]
def ydbx:LO:=[ix' 1 6 8 10 0,ld' 1 10 11 1,mv' 11 5 3]
def ycqs:LO:=[mv' 5 12 0,mv' 2 13 0,bn' .gtr 12 13 14 3]
def ydbz:LO:=[mv' 5 15 0,mv' 2 16 0,mv' 15 2 3,mv' 16 3 7]
def ydal:LO:=[mv' 3 17 0,mv' 5 18 0,o3 (.mm true (.tmp 17) (.tmp 18)) 19 3,mv' 19 3 7]
def ydce:LO:=[bc .add 8 1 20 0,mv' 20 8 1]
def ycqy:LO:=[mv' 2 21 0,mv' 3 22 0,mv' 21 2 1,mv' 22 3 7]
def c253:SC:=(sr ycvu <| sr ydbh <| .seq (sr ycrj <| .block 0 (.loop (sr ycsz <| .seq (cn 9 .skip (.exit 0)) (.seq (.block 1 (sr ydbx <| sr ycqs <| cn 14 (.reg false ydbz) (.reg false ydal))) (.reg false ydce))))) (sr ycqy <| .ret))
theorem ydhc:Fn 253 c253 [.t 2,.t 3]:=fn_0 Tryz.func253
def yctv:LO:=[mc 0 2 0]
def ydej:LO:=[mc 0 3 0]
def yded:LO:=[mv' 0 4 0,mv' 3 5 0,cl' 258 [4,5] 6 3]
def ycsk:LO:=[mv' 3 7 0,bc .add 7 1 8 1,mv' 8 3 3]
def ycxm:LO:=[mv' 3 9 0,mv' 9 2 1]
def c254:SC:=(sr yctv <| sr ydej <| .seq (.block 0 (.loop (.seq (sr yded <| cn 6 .skip (.exit 0)) (.block 1 (.reg false ycsk))))) (sr ycxm <| .ret))
theorem ydlk:Fn 254 c254 [.t 2]:=fn_0 Tryz.func254
def ydag:LO:=[bx' 32 0 2 0,bx' 27 1 3 0,o3 (.mv (.const (.pointer none))) 4 0]
def ydab:LO:=[la' 3 2 10 0,la' 2 3 11 0,fa' 1 1 3 12 0,ld' 1 12 13 4,ln' 13 14 12,o3 (.mk 22 1 24 [.a (.slice none 0 0)] (.tmp 14) (.tmp 14)) 15 28,o3 (.build [.a (.string (ByteArray.mk #[])),.a (.slice none 0 0),.a (.slice none 0 0),.a (.slice none 0 0),.a (.slice none 0 0),.i .i64 0,.a (.slice none 0 0)] [(0,3,(.tmp 10)),(3,2,(.tmp 11)),(6,1,(.tmp 15))]) 16 63,bx' 235 16 17 127,mv' 17 5 255]
def ycsb:LO:=[fa' 1 1 3 18 0,ld' 1 18 19 1,ln' 19 20 3,mc 0 21 0]
def ycxk:LO:=[bn' .lss 21 20 22 0]
def ycuk:LO:=[mv' 21 23 0,ix' 1 19 21 24 0,ld' 1 24 25 2,mv' 23 6 7,mv' 25 7 15]
def ycpz:LO:=[mv' 5 26 0,mv' 5 27 0,nk' 27 28 2,fa' 5 1 28 29 6,ld' 1 29 30 14,fa' 0 1 3 31 0,ld' 1 31 32 32,mv' 6 33 0,ix' 1 32 33 34 224,ld' 1 34 35 480,o3 (.mm true (.tmp 30) (.tmp 35)) 36 1022,nk' 26 37 2047,fa' 5 1 37 38 4095,sto 1 38 36 8191]
def ycrc:LO:=[mv' 7 39 0,ln' 39 40 1,mc 0 41 0]
def ycva:LO:=[bn' .lss 41 40 42 0]
def ycxr:LO:=[ix' 2 39 41 43 0,la' 2 43 44 1,o3 (.alloc 68 1 [.i .i64 0,.i .i64 0]) 9 0,sto 2 9 44 7]
def ycqx:LO:=[mv' 5 45 0,nk' 45 46 1,fa' 6 1 46 47 3,ld' 1 47 48 7,mv' 6 49 0,mv' 5 50 0,nk' 50 51 32,fa' 6 1 51 52 96,ld' 1 52 53 224,mv' 6 54 0,ix' 1 53 54 55 992,ld' 1 55 56 2016,la' 2 3 57 0,fa' 0 1 9 58 0,ld' 1 58 59 8192,mv' 6 60 0,cl' 204 [57,59,60] 61 61440,o3 (.bslice 3 1 1 [.i .i64 0] [(0,1,(.tmp 61))]) 62 126976,o3 (.app 3 1 8 (.tmp 56) (.tmp 62)) 63 262112,ix' 1 48 49 64 524287,sto 1 64 63 1048575]
def ybyu:LO:=[bc .add 41 1 65 0,mv' 65 41 1]
def ycga:LO:=[bc .add 21 1 66 0,mv' 66 21 1]
def ycgg:LO:=[mv' 5 67 0,mv' 67 4 1]
def c167:SC:=(sr ydag <| .seq (.reg true ydab) (.seq (sr ycsb <| .block 0 (.loop (sr ycxk <| .seq (cn 22 .skip (.exit 0)) (.seq (.block 1 (sr ycuk <| .seq (.reg true ycpz) (sr ycrc <| .block 2 (.loop (sr ycva <| .seq (cn 42 .skip (.exit 2)) (.seq (.block 3 (sr ycxr <| .reg true ycqx)) (.reg false ybyu))))))) (.reg false ycga))))) (sr ycgg <| .ret)))
theorem ydjy:Fn 167 c167 [.t 4]:=fn_0 Tryz.func167
def ydbr:LO:=[mc 0 8 0]
def ydaj:LO:=[mv' 1 10 0]
def ydby:LO:=[bc .eql 10 6 12 0,mv' 12 11 1]
def yczl:LO:=[mv' 0 13 0,nk' 13 14 1,fa' 3 2 14 15 3,fa' 0 1 15 16 7,ld' 1 16 17 15,ln' 17 18 31,mv' 18 8 63]
def ycpu:LO:=[bc .eql 10 7 20 0,mv' 20 19 1]
def ycum:LO:=[mv' 0 21 0,nk' 21 22 1,fa' 5 1 22 23 3,ld' 1 23 24 7,mv' 24 8 15]
def ycze:LO:=[bc .eql 10 8 26 0,mv' 26 25 1]
def ydeh:LO:=[mv' 0 27 0,nk' 27 28 1,fa' 3 2 28 29 3,fa' 0 1 29 30 7,ld' 1 30 31 15,mv' 2 32 0,ix' 1 31 32 33 63,ld' 1 33 34 127,mv' 34 8 255]
def yddr:LO:=[bc .eql 10 9 36 0,mv' 36 35 1]
def ycsa:LO:=[mv' 0 37 0,nk' 37 38 1,fa' 3 2 38 39 3,fa' 1 1 39 40 7,ld' 1 40 41 15,mv' 2 42 0,ix' 1 41 42 43 63,ld' 1 43 44 127,ln' 44 45 255,mv' 45 8 511]
def ychg:LO:=[bc .eql 10 10 47 0,mv' 47 46 1]
def ycac:LO:=[mv' 2 48 0,bc .eql 48 0 49 1,cl' 240 [49] 50 3,mv' 50 8 7]
def ycfj:LO:=[bc .eql 10 11 52 0,mv' 52 51 1]
def ycgw:LO:=[mv' 3 53 0,mv' 53 8 1]
def ybyf:LO:=[mv' 0 54 0,nk' 54 55 1,fa' 3 2 55 56 3,fa' 1 1 56 57 7,ld' 1 57 58 15,mv' 2 59 0,ix' 1 58 59 60 63,ld' 1 60 61 127,mv' 3 62 0,ix' 2 61 62 63 511,la' 2 63 64 1023,o3 (.alloc 68 1 [.i .i64 0,.i .i64 0]) 9 0,sto 2 9 64 4095]
def ycfx:LO:=[mv' 1 65 0]
def ycak:LO:=[bc .eql 65 13 67 0,mv' 67 66 1]
def ybwg:LO:=[mv' 0 68 0,nk' 68 69 1,fa' 3 2 69 70 3,fa' 0 1 70 71 7,ld' 1 71 72 15,fa' 0 1 9 73 0,ld' 1 73 74 32,ix' 1 72 74 75 127,ld' 1 75 76 255,mv' 76 8 511]
def ycau:LO:=[bc .eql 65 14 78 0,mv' 78 77 1]
def yccp:LO:=[mv' 0 79 0,nk' 79 80 1,fa' 3 2 80 81 3,fa' 1 1 81 82 7,ld' 1 82 83 15,fa' 0 1 9 84 0,ld' 1 84 85 32,ix' 1 83 85 86 127,ld' 1 86 87 255,ln' 87 88 511,mv' 88 8 1023]
def ycgr:LO:=[bc .eql 65 15 90 0,mv' 90 89 1]
def ycck:LO:=[fa' 0 1 9 91 0,ld' 1 91 92 1,bc .eql 92 0 93 3,cl' 240 [93] 94 7,mv' 94 8 15]
def yccq:LO:=[bc .eql 65 16 96 0,mv' 96 95 1]
def ycgh:LO:=[fa' 1 1 9 97 0,ld' 1 97 98 1,mv' 98 8 3]
def ybxf:LO:=[mv' 0 99 0,nk' 99 100 1,fa' 6 1 100 101 3,ld' 1 101 102 7,mv' 2 103 0,ix' 1 102 103 104 31,ld' 1 104 105 63,mv' 3 106 0,ix' 1 105 106 107 255,ld' 1 107 108 511,mv' 108 8 1023]
def c239:SC:=(sr ydbr <| .seq (sr ydaj <| .block 0 (sr ydby <| cn 11 (sr yczl <| .ret) (sr ycpu <| cn 19 (sr ycum <| .ret) (sr ycze <| cn 25 (sr ydeh <| .ret) (sr yddr <| cn 35 (sr ycsa <| .ret) (sr ychg <| cn 46 (sr ycac <| .ret) (sr ycfj <| cn 51 (sr ycgw <| .ret) .skip))))))) (sr ybyf <| .seq (sr ycfx <| .block 1 (sr ycak <| cn 66 (.seq (.reg true ybwg) .ret) (sr ycau <| cn 77 (.seq (.reg true yccp) .ret) (sr ycgr <| cn 89 (sr ycck <| .ret) (sr yccq <| cn 95 (sr ycgh <| .ret) .skip))))) (sr ybxf <| .ret)))
theorem ydig:Fn 239 c239 [.t 8]:=fn_0 Tryz.func239
def yddy:LO:=[mc 0 8 0]
def ydbp:LO:=[mv' 0 12 0,mv' 1 13 0,mv' 2 14 0,mv' 3 15 0,o3 (.build [.a (.pointer none),.a (.slice none 0 0),.i .i64 0,.a (.slice none 0 0)] [(0,1,(.tmp 12)),(1,1,(.tmp 13)),(2,1,(.tmp 14)),(3,1,(.tmp 15))]) 16 15,o3 (.alloc 237 1 [.a (.pointer none),.a (.slice none 0 0),.i .i64 0,.a (.slice none 0 0)]) 9 0,sto 4 9 16 63]
def ydda:LO:=[o3 (.call (.func 205) [(.tmp 9),(ci' 0),(.const (.int .i64 (-1)))]) 18 0,mv' 18 17 1,xt' 17 0 19 3,xt' 17 1 20 3,mv' 19 10 7,mv' 20 11 31]
def yczw:LO:=[mv' 10 21 0,mv' 21 8 1]
def c169:SC:=(sr yddy <| sr ydbp <| sr ydda <| sr yczw <| .ret)
theorem ydls:Fn 169 c169 [.t 8]:=fn_0 Tryz.func169
def ycrz:LO:=[mb false 8 0]
def ycyy:LO:=[mv' 0 9 0,mv' 1 10 0,mv' 2 11 0,mv' 0 12 0,nk' 12 13 8,fa' 0 3 13 14 24,fa' 2 1 14 15 56,ld' 1 15 16 120,mv' 3 17 0,ix' 3 16 17 18 504,fa' 1 1 18 19 1016,ld' 1 19 20 2040,cl' 169 [9,10,11,20] 21 4095,bc .neq 21 0 22 8191,mv' 22 8 16383]
def c168:SC:=(sr ycrz <| sr ycyy <| .ret)
theorem ydiu:Fn 168 c168 [.t 8]:=fn_0 Tryz.func168
def yzl:LO:=[mc 0 6 0,mc 0 7 1]
def ybaj:LO:=[mv' 0 18 0,nk' 18 19 1,fa' 3 1 19 20 3,ld' 1 20 21 7,mv' 1 22 0,ix' 2 21 22 23 31,la' 2 23 24 63,o3 (.alloc 251 1 [.i .i64 0,.i .i64 0]) 8 0,sto 2 8 24 255]
def ybam:LO:=[fa' 0 1 8 26 0,ld' 1 26 27 1,bc .leq 27 17 28 3,mv' 28 25 7]
def ybal:LO:=[mv' 0 29 0,la' 2 8 30 0,mv' 2 31 0,cl' 220 [29,30,31] 32 7,mv' 1 33 0,bc .add 33 1 34 16,mv' 32 6 15,mv' 34 7 127]
def yzn:LO:=[fa' 0 1 8 36 0,ld' 1 36 37 1,bc .leq 37 19 38 3,mv' 38 35 7]
def yzb:LO:=[mv' 0 40 0,mv' 1 41 0,bc .add 41 1 42 2,mv' 2 43 0,cl' 205 [40,42,43] 44 15,mv' 44 39 31,xt' 39 0 45 63,xt' 39 1 46 63,mv' 45 6 127,mv' 46 7 511]
def yyv:LO:=[fa' 0 1 8 47 0,ld' 1 47 48 1,mv' 6 49 0,cl' 221 [48,49] 50 7,mv' 7 51 0,mv' 50 6 15,mv' 51 7 63]
def ybbk:LO:=[fa' 0 1 8 53 0,ld' 1 53 54 1,bc .leq 54 29 55 3,mv' 55 52 7]
def ybba:LO:=[mv' 0 56 0,fa' 0 1 8 57 0,ld' 1 57 58 2,mv' 1 59 0,cl' 222 [56,58,59] 60 15,xt' 60 0 61 31,xt' 60 1 62 31,mv' 61 6 127,mv' 62 7 255]
def yyx:LO:=[fa' 0 1 8 64 0,ld' 1 64 65 1,bc .leq 65 42 66 3,mv' 66 63 7]
def yrq:LO:=[mv' 0 68 0,mv' 1 69 0,bc .add 69 1 70 2,mv' 2 71 0,cl' 205 [68,70,71] 72 15,mv' 72 67 31,xt' 67 0 73 63,xt' 67 1 74 63,mv' 73 9 127,mv' 74 10 511]
def ysl:LO:=[mv' 0 76 0,mv' 10 77 0,mv' 2 78 0,cl' 205 [76,77,78] 79 7,mv' 79 75 15,xt' 75 0 80 31,xt' 75 1 81 31,mv' 80 11 63,mv' 81 12 255]
def yrb:LO:=[fa' 0 1 8 82 0,ld' 1 82 83 1,mv' 9 84 0,mv' 11 85 0,cl' 223 [83,84,85] 86 15,mv' 12 87 0,mv' 86 6 31,mv' 87 7 127]
def ysg:LO:=[mv' 0 89 0,mv' 1 90 0,bc .add 90 1 91 2,mv' 2 92 0,cl' 205 [89,91,92] 93 15,mv' 93 88 31,xt' 88 0 94 63,xt' 88 1 95 63,mv' 94 13 127,mv' 95 14 511]
def yrm:LO:=[mv' 0 97 0,mv' 14 98 0,mv' 2 99 0,cl' 205 [97,98,99] 100 7,mv' 100 96 15,xt' 96 0 101 31,xt' 96 1 102 31,mv' 101 15 63,mv' 102 16 255]
def ysb:LO:=[mv' 0 104 0,mv' 16 105 0,mv' 2 106 0,cl' 205 [104,105,106] 107 7,mv' 107 103 15,xt' 103 0 108 31,xt' 103 1 109 31,mv' 108 17 63,mv' 109 7 255]
def yrh:LO:=[mv' 13 110 0,bc .neq 110 0 111 1]
def yri:LO:=[mv' 15 112 0,mv' 7 113 0,mv' 112 6 1,mv' 113 7 7]
def ysk:LO:=[mv' 17 114 0,mv' 7 115 0,mv' 114 6 1,mv' 115 7 7]
def c205:SC:=(sr yzl <| sr ybaj <| .seq (.block 0 (sr ybam <| cn 25 (sr ybal <| .ret) (sr yzn <| cn 35 (sr yzb <| sr yyv <| .ret) (sr ybbk <| cn 52 (sr ybba <| .ret) (sr yyx <| cn 63 (sr yrq <| sr ysl <| sr yrb <| .ret) .skip))))) (sr ysg <| sr yrm <| sr ysb <| .seq (sr yrh <| cn 111 (sr yri <| .ret) .skip) (sr ysk <| .ret)))
theorem ywq:Fn 205 c205 [.t 6,.t 7]:=fn_0 Tryz.func205
def ycsc:LO:=[bx' 251 1 4 0,mc 0 6 0]
def ycvr:LO:=[fa' 0 1 4 7 0,ld' 1 7 8 1]
def ycte:LO:=[bc .eql 8 1 10 0,mv' 10 9 1]
def ydbt:LO:=[fa' 1 1 4 11 0,ld' 1 11 12 1,mv' 12 6 3]
def yctc:LO:=[bc .eql 8 2 14 0,mv' 14 13 1]
def ycuu:LO:=[mc 1 6 0]
def ycxd:LO:=[bc .eql 8 3 16 0,mv' 16 15 1]
def ydbb:LO:=[mc 0 6 0]
def ycqz:LO:=[bc .eql 8 4 18 0,mv' 18 17 1]
def ydac:LO:=[mc (-1) 6 0]
def ybym:LO:=[bc .eql 8 5 20 0,mv' 20 19 1]
def ybwt:LO:=[mv' 0 21 0,nk' 21 22 1,fa' 1 1 22 23 3,ld' 1 23 24 7,mv' 0 25 0,nk' 25 26 16,fa' 2 1 26 27 48,ld' 1 27 28 112,ix' 1 24 28 29 255,ld' 1 29 30 511,fa' 1 1 4 31 0,ld' 1 31 32 1024,ix' 1 30 32 33 4095,ld' 1 33 34 8191,mv' 34 6 16383]
def ycic:LO:=[bc .eql 8 12 36 0,mv' 36 35 1]
def ycer:LO:=[mv' 0 37 0,nk' 37 38 1,fa' 1 1 38 39 3,ld' 1 39 40 7,mv' 0 41 0,nk' 41 42 16,fa' 0 1 42 43 48,ld' 1 43 44 112,nk' 44 45 240,fa' 3 2 45 46 496,fa' 1 1 46 47 1008,ld' 1 47 48 2032,mv' 0 49 0,nk' 49 50 4096,fa' 2 1 50 51 12288,ld' 1 51 52 28672,ix' 1 48 52 53 65520,ld' 1 53 54 131056,mv' 2 55 0,ix' 2 54 55 56 524272,fa' 0 1 56 57 1048560,ld' 1 57 58 2097136,ix' 1 40 58 59 4194303,ld' 1 59 60 8388607,fa' 1 1 4 61 0,ld' 1 61 62 16777216,ix' 1 60 62 63 67108863,ld' 1 63 64 134217727,mv' 64 6 268435455]
def ychq:LO:=[mv' 0 65 0,nk' 65 66 1,fa' 0 1 66 67 3,ld' 1 67 68 7,fa' 0 1 4 69 0,ld' 1 69 70 16,mv' 0 71 0,nk' 71 72 64,fa' 2 1 72 73 192,ld' 1 73 74 448,mv' 2 75 0,cl' 239 [68,70,74,75] 76 2047,mv' 76 6 4095]
def c220:SC:=(sr ycsc <| .seq (sr ycvr <| .block 0 (sr ycte <| cn 9 (sr ydbt <| .ret) (sr yctc <| cn 13 (sr ycuu <| .ret) (sr ycxd <| cn 15 (sr ydbb <| .ret) (sr ycqz <| cn 17 (sr ydac <| .ret) (sr ybym <| cn 19 (.seq (.reg true ybwt) .ret) (sr ycic <| cn 35 (.seq (.reg true ycer) .ret) .skip))))))) (.seq (.reg true ychq) .ret))
theorem ydjc:Fn 220 c220 [.t 6]:=fn_0 Tryz.func220
def ycxg:LO:=[mc 0 6 0,mc 0 7 1]
def ycwe:LO:=[o3 (.alloc 150 24 [.i .i64 0]) 8 0]
def ycri:LO:=[mv' 0 11 0,nk' 11 12 1,fa' 0 1 12 13 3,ld' 1 13 14 7,nk' 14 15 15,fa' 3 2 15 16 31,fa' 1 1 16 17 63,ld' 1 17 18 127,mv' 0 19 0,nk' 19 20 256,fa' 2 1 20 21 768,ld' 1 21 22 1792,ix' 1 18 22 23 4095,ld' 1 23 24 8191,ln' 24 25 16383,mv' 25 9 32767]
def ycwj:LO:=[mv' 9 26 0,mc 0 27 0]
def yddj:LO:=[bn' .lss 27 26 28 0]
def ycvt:LO:=[mv' 27 29 0,mv' 29 10 1]
def ydbu:LO:=[mv' 10 31 0,mv' 0 32 0,mv' 2 33 0,bc .add 33 1 34 4,mv' 10 35 0,cl' 205 [32,34,35] 36 30,mv' 36 30 62,xt' 30 0 37 126,xt' 30 1 38 126,o3 (.idxA 24 1 (.tmp 8) (.tmp 31)) 39 255,sto 1 39 37 767,mv' 38 7 2047]
def ydel:LO:=[bc .add 27 1 40 0,mv' 40 27 1]
def ycqi:LO:=[mv' 9 41 0,bc .eql 41 0 42 1]
def ycrm:LO:=[mv' 0 43 0,nk' 43 44 1,fa' 3 1 44 45 3,ld' 1 45 46 7,mv' 2 47 0,cl' 215 [46,47] 48 31,mv' 48 7 63]
def ybyk:LO:=[mv' 1 49 0,mv' 9 50 0,o3 (.cutA 24 1 (.tmp 8) none (some (.tmp 50))) 51 2,cl' 241 [49,51] 52 7,mv' 7 53 0,mv' 52 6 15,mv' 53 7 63]
def c222:SC:=(sr ycxg <| sr ycwe <| .seq (.reg true ycri) (.seq (sr ycwj <| .block 0 (.loop (sr yddj <| .seq (cn 28 .skip (.exit 0)) (.seq (.block 1 (sr ycvt <| .reg false ydbu)) (.reg false ydel))))) (.seq (sr ycqi <| cn 42 (.reg false ycrm) .skip) (sr ybyk <| .ret))))
theorem ydkw:Fn 222 c222 [.t 6,.t 7]:=fn_0 Tryz.func222
end Sh
end
section
def adj(g:Gr)(u v:Nat):Prop:=∃a,g.ports[u]?=some a/\∃l∈a,l.1=(v:Int)
def Walk(g:Gr)(a:Nat):Nat->Nat->Prop
 |0,v=>v=a
 |k+1,v=>∃u,Walk g a k u/\adj g u v
def ybca(g:Gr)(a v:Nat)(x:Int):Prop:=(x = -1/\∀k,¬Walk g a k v)\/∃k:Nat,x=k/\Walk g a k v/\∀j,j<k->¬Walk g a j v
def yvo(g:Gr)(a:Nat)(D:List Int):Prop:=D.length=g.ports.length/\∀v x,D[v]?=some x->ybca g a v x
theorem ybca.unique{g:Gr}{a v:Nat}{x y:Int}(h:ybca g a v x)(h':ybca g a v y):x=y:=by
 rcases h with⟨rfl,b⟩|⟨k,rfl,b,d⟩<;>rcases h' with⟨rfl,c⟩|⟨j,rfl,c,e⟩
 .rfl
 .exact absurd c (b j)
 .exact absurd b (c k)
 .rcases zBA k j with h|h|h
  .exact absurd b (e k h)
  .rw[h]
  .exact absurd c (d j h)
theorem yvo.unique{g:Gr}{a:Nat}{D b:List Int}(h:yvo g a D)(h':yvo g a b):D=b:=by
 apply zBD (by rw[h.1,h'.1])
 intro i c d;exact(h.2 i _ (zI c)).unique (h'.2 i _ (zI d))
theorem ybi.link{g:Gr}(h:ybi g){v:Nat}{ls:List (Int×Int)}(c:g.ports[v]?=some ls){l:Int×Int}(b:l∈ls):0<=l.1/\l.1<g.ports.length/\l.1≠v/\1<=l.2/\l.2<=15:=by
 obtain⟨a,e⟩:=List.getElem?_eq_some_iff.1 c;have:=(h.2.2.2.2.2.1 ⟨v,a⟩).1 l (by simp only[Fin.getElem_fin,e];exact b)
 unfold yqt at this;simp only at this;omega
theorem ybi.adj_lt{g:Gr}(h:ybi g){u v:Nat}(b:adj g u v):u<g.ports.length/\v<g.ports.length:=by
 obtain⟨d,a,l,c,e⟩:=b;have:=h.link a c;exact⟨(List.getElem?_eq_some_iff.1 a).1,by omega⟩
theorem ybi.adj_symm{g:Gr}(h:ybi g){u v:Nat}(b:adj g u v):adj g v u:=by
 obtain⟨j,c⟩:=h.adj_lt b;obtain⟨k,f,l,i,e⟩:=b;obtain⟨a,d⟩:=List.getElem?_eq_some_iff.1 f;have:=h.2.2.2.2.2.2 ⟨u,a⟩ l (by simp only[Fin.getElem_fin,d];exact i)
 rw[e,zW]at this;simp only[zM,zI c,Option.getD_some]at this;exact⟨_,zI c,_,this,rfl⟩
structure BfsInv(g:Gr)(a:Nat)(R:List Int)(Q:List Nat):Prop where
 len:R.length=g.ports.length
 src:R[a]?=some 0
 val:∀(v:Nat) (x:Int),R[v]?=some x->x = -1\/∃k:Nat,x=k/\Walk g a k v/\∀j,j<k->¬Walk g a j v
 qin:∀q∈Q,∃k:Nat,R[q]?=some (k:Int)
 sorted:Q.Pairwise (fun p q=>∀x y,R[p]?=some x->R[q]?=some y->x<=y/\y<=x+1)
 done:∀(v k:Nat),R[v]?=some (k:Int)->v∉Q->∀u,adj g v u->∃j:Nat,R[u]?=some (j:Int)
structure BfsIn(g:Gr)(a v d:Nat)(ls:List (Int×Int))(i:Nat)(R:List Int)(Q:List Nat):Prop where
 len:R.length=g.ports.length
 src:R[a]?=some 0
 val:∀(v:Nat) (x:Int),R[v]?=some x->x = -1\/∃k:Nat,x=k/\Walk g a k v/\∀j,j<k->¬Walk g a j v
 qin:∀q∈Q,∃k:Nat,R[q]?=some (k:Int)
 sorted:Q.Pairwise (fun p q=>∀x y,R[p]?=some x->R[q]?=some y->x<=y/\y<=x+1)
 rv:R[v]?=some (d:Int)
 low:∀q∈Q,∀y,R[q]?=some y->(d:Int)<=y/\y<=d+1
 done:∀(u k:Nat),R[u]?=some (k:Int)->u∉Q->u≠v->∀t,adj g u t->∃j:Nat,R[t]?=some (j:Int)
 part:∀l∈ls.take i,∃j:Nat,R[l.1.toNat]?=some (j:Int)
theorem BfsInv.start{g:Gr}{a:Nat}(ha:a<g.ports.length):BfsInv g a ((zBM g.ports.length (-1)).set a 0) [a] where
 len:=by simp
 src:=by simp[ha]
 val := by
  intro v x h;rw[zO]at h;split at h
  .rename_i e
   subst e;simp[ha]at h;subst h;exact .inr ⟨0,rfl,rfl,fun j hj=>absurd hj (by omega)⟩
  .rw[zAG]at h;split at h
   .cases h;exact .inl rfl
   .cases h
 qin:=by
  intro q hq;obtain rfl:q=a:=by simpa using hq
  exact⟨0,by simp[ha]⟩
 sorted:=by simp
 done:=by
  intro v k h hv u _;rw[zO]at h;split at h
  .rename_i e
   exact absurd (by simp[e]) hv
  .rw[zAG]at h;split at h
   .cases h
   .cases h
theorem BfsInv.pop{g:Gr}{a:Nat}{R:List Int}{v:Nat}{Q:List Nat}(h:BfsInv g a R (v::Q)){d:Nat}(hd:R[v]?=some (d:Int))(ls:List (Int×Int)):BfsIn g a v d ls 0 R Q where
 len:=h.len
 src:=h.src
 val:=h.val
 qin:=fun q hq=>h.qin q (zAB _ hq)
 sorted:=(List.pairwise_cons.1 h.sorted).2
 rv:=hd
 low:=fun q hq y hy=>(List.pairwise_cons.1 h.sorted).1 q hq _ y hd hy
 done:=fun u k hu hq hv t ht=>h.done u k hu (by simp[hq,hv]) t ht
 part:=by simp
theorem BfsIn.finish{g:Gr}{a v d:Nat}{ls:List (Int×Int)}{R:List Int}{Q:List Nat}(h:BfsIn g a v d ls ls.length R Q)(hls:g.ports[v]?=some ls):BfsInv g a R Q where
 len:=h.len
 src:=h.src
 val:=h.val
 qin:=h.qin
 sorted:=h.sorted
 done:=by
  intro u k hu hq t ht
  by_cases e:u=v
  .subst e;obtain⟨ls',h1,l,hl,e2⟩:=ht;rw[hls]at h1;cases h1
   have:=h.part l (by rw[zAC];exact hl)
   rwa [e2,zW]at this
  .exact h.done u k hu hq e t ht
theorem BfsIn.skip{g:Gr}{a v d:Nat}{ls:List (Int×Int)}{i:Nat}{R:List Int}{Q:List Nat}(h:BfsIn g a v d ls i R Q)(c:i<ls.length){j:Nat}(e:R[ls[i].1.toNat]?=some (j:Int)):BfsIn g a v d ls (i+1) R Q :=
 ⟨h.len,h.src,h.val,h.qin,h.sorted,h.rv,h.low,h.done,by
   intro l b;rw[take_snoc ls i c]at b;rcases List.mem_append.1 b with b|b
   .exact h.part l b
   .obtain rfl:l=ls[i]:=by simpa using b
    exact⟨j,e⟩⟩
theorem BfsIn.found{g:Gr}{a v d:Nat}{ls:List (Int×Int)}{i:Nat}{R:List Int}{Q:List Nat}(h:BfsIn g a v d ls i R Q) :
 ∀k,k<=d->∀t,Walk g a k t->∃j:Nat,R[t]?=some (j:Int):=by
 intro k
 induction k with
 |zero=>intro _ t q;obtain rfl:t=a:=q;exact⟨0,h.src⟩
 | succ k r =>
   intro hk t ⟨p,hp,hpt⟩;obtain⟨j,c⟩:=r (by omega) p hp
   have n:j<=k:=by
    rcases h.val p _ c with e|⟨s,e,_,b⟩
    .omega
    .have:j=s:=by omega
     subst this;rcases zBS k j with l|f
     .exact absurd hp (b k l)
     .exact f
   refine h.done p j c ?_ ?_ t hpt
   .intro o;have:=(h.low p o _ c).1;omega
   .rintro rfl;have m:=h.rv;rw[c]at m;have u:=Option.some.inj m;omega
theorem BfsIn.discover{g:Gr}{a v d:Nat}{ls:List (Int×Int)}{i:Nat}{R:List Int}{Q:List Nat}(h:BfsIn g a v d ls i R Q)(D:g.ports[v]?=some ls)(I:i<ls.length){u:Nat}(J:ls[i].1=(u:Int))(H:R[u]?=some (-1)) :
 BfsIn g a v d ls (i+1) (R.set u ((d:Int)+1)) (Q++[u]):=by
 have G:u<R.length:=(List.getElem?_eq_some_iff.1 H).1
 have f:∀t (k:Nat),R[t]?=some (k:Int)->t≠u:=by
  rintro t k z rfl;rw[H]at z;have:=Option.some.inj z;omega
 have b:∀t,t≠u->(R.set u ((d:Int)+1))[t]?=R[t]?:=fun t z=>by rw[zO,if_neg (by omega)]
 have m:(R.set u ((d:Int)+1))[u]?=some ((d:Int)+1):=by rw[zO,if_pos rfl,if_pos G]
 have keep:∀t:Nat,(∃j:Nat,R[t]?=some (j:Int))->∃j:Nat,(R.set u ((d:Int)+1))[t]?=some (j:Int):=by
  rintro t ⟨j,C⟩;exact⟨j,by rw[b t (f t j C)];exact C⟩
 have A:adj g v u:=⟨ls,D,ls[i],zJ I,J⟩
 have r:u∉Q:=fun c=>by
  obtain⟨k,hk⟩:=h.qin u c;exact f u k hk rfl
 refine⟨by simp[h.len],?_,?_,?_,?_,?_,?_,?_,?_⟩
 .rw[b a (f a 0 h.src)];exact h.src
 .intro t x n
  by_cases e:t=u
  .subst e;rw[m]at n;cases n
   refine .inr ⟨d+1,by omega,?_,?_⟩
   .rcases h.val v _ h.rv with e|⟨k,e,hk,_⟩
    .omega
    .have:d=k:=by omega
     subst this;exact⟨v,hk,A⟩
   .intro j C N;obtain⟨k,hk⟩:=h.found j (by omega) t N
    exact f t k hk rfl
  .rw[b t e]at n;exact h.val t x n
 .intro q c;rcases List.mem_append.1 c with c|c
  .exact keep q (h.qin q c)
  .obtain rfl:q=u:=by simpa using c
   exact⟨d+1,by rw[m];rfl⟩
 .rw[List.pairwise_append];refine⟨?_,by simp,?_⟩
  .refine(List.Pairwise.and_mem.1 h.sorted).imp ?_;rintro p q ⟨B,c,E⟩ x y n o;rw[b p (fun e=>r (e▸B))]at n;rw[b q (fun e=>r (e▸c))]at o;exact E x y n o
  .intro p B q c x y n o;obtain rfl:q=u:=by simpa using c
   rw[b p (fun e=>r (e▸B))]at n;rw[m]at o;cases o
   have:=h.low p B x n;omega
 .rw[b v (f v d h.rv)];exact h.rv
 .intro q c y o;rcases List.mem_append.1 c with c|c
  .rw[b q (fun e=>r (e▸c))]at o;exact h.low q c y o
  .obtain rfl:q=u:=by simpa using c
   rw[m]at o;cases o
   omega
 .intro t k z c M s L;have F:t≠u:=fun e=>c (by simp[e])
  rw[b t F]at z;exact keep s (h.done t k z (fun K=>c (List.mem_append_left _ K)) M s L)
 .intro l w;rw[take_snoc ls i I]at w;rcases List.mem_append.1 w with w|w
  .exact keep _ (h.part l w)
  .obtain rfl:l=ls[i]:=by simpa using w
   rw[J,zW];exact⟨d+1,by rw[m];rfl⟩
theorem BfsInv.isDist{g:Gr}{a:Nat}{R:List Int}(h:BfsInv g a R []):yvo g a R:=by
 have found:∀k t,Walk g a k t->∃j:Nat,R[t]?=some (j:Int):=by
  intro k
  induction k with
  |zero=>intro t e;obtain rfl:t=a:=e;exact⟨0,h.src⟩
  | succ k f =>
    intro t ⟨p,hp,hpt⟩;obtain⟨j,b⟩:=f p hp;exact h.done p j b (by simp) t hpt
 refine⟨h.len,fun v x c=>?_⟩;rcases h.val v x c with rfl|d
 .refine .inl ⟨rfl,fun k hk=>?_⟩;obtain⟨j,b⟩:=found k v hk;rw[c]at b;have:=Option.some.inj b;omega
 .exact .inr d
def ydf(R:List Int):Nat:=R.countP (fun x=>decide (x<0))
theorem yxv{R:List Int}{u:Nat}{x:Int}(f:R[u]?=some (-1))(g:0<=x):ydf (R.set u x)+1=ydf R:=by
 obtain⟨a,e⟩:=List.getElem?_eq_some_iff.1 f;have c:R=R.take u++R[u]::R.drop (u+1):=by rw[List.getElem_cons_drop,List.take_append_drop]
 have d:R.set u x=R.take u++x::R.drop (u+1):=by rw[List.set_eq_take_append_cons_drop,if_pos a]
 have b:decide (x<0)=false:=by simp;omega
 unfold ydf;rw[d]
 conv=>rhs;rw[c]
 rw[zAZ,zAZ,zBE,zBE,e,b];simp;omega
end
section
def ycnh(R:List Int)(x:Int)(ls:List (Int×Int)):Bool:=ls.any (fun l=>decide (R[l.1.toNat]?=some x))
def yclc(g:Gr)(d:Int)(R:List Int)(v:Nat):List Int :=
 if decide (R.getD v 0<0)&&ycnh R (d-1) (g.ports.getD v [])then R.set v d else R
def stepD(g:Gr)(R:List Int)(d:Nat):List Int:=(zT g.ports.length).foldl (yclc g d) R
def start(g:Gr)(a:Nat):List Int:=(zBM g.ports.length (-1)).set a 0
def ybs(g:Gr)(a:Nat):List Int:=(zT (g.ports.length-1)).foldl (fun R d=>stepD g R (d+1)) (start g a)
def Upto(g:Gr)(a d v:Nat)(x:Int):Prop:=(x = -1/\∀k,k<=d->¬Walk g a k v)\/∃k:Nat,k<=d/\x=k/\Walk g a k v/\∀j,j<k->¬Walk g a j v
theorem Upto.eq{g:Gr}{a d v:Nat}{x:Int}(h:Upto g a d v x){k:Nat}(hk:k<=d):x=k↔Walk g a k v/\∀j,j<k->¬Walk g a j v:=by
 rcases h with⟨rfl,b⟩|⟨i,m,rfl,b,c⟩
 .exact⟨fun e=>by omega,fun e=>absurd e.1 (b k hk)⟩
 .constructor
  .intro e;obtain rfl:i=k:=by omega
   exact⟨b,c⟩
  .rintro⟨f,l⟩;rcases zBA i k with h|h|h
   .exact absurd b (l i h)
   .omega
   .exact absurd f (c k h)
theorem Upto.more{g:Gr}{a d v:Nat}{x:Int}(h:Upto g a d v x)(f:0<=x):Upto g a (d+1) v x:=by
 rcases h with⟨rfl,b⟩|⟨i,e,rfl,b,c⟩
 .omega
 .exact .inr ⟨i,by omega,rfl,b,c⟩
structure LayerInv(g:Gr)(a d v:Nat)(R:List Int):Prop where
 len:R.length=g.ports.length
 new:∀(u:Nat) (x:Int),R[u]?=some x->u<v->Upto g a (d+1) u x
 old:∀(u:Nat) (x:Int),R[u]?=some x->v<=u->Upto g a d u x
theorem LayerInv.at_{g:Gr}{a d v:Nat}{R:List Int}(h:LayerInv g a d v R){u:Nat}(i:u<g.ports.length):R[u]?=some (d:Int)↔Walk g a d u/\∀j,j<d->¬Walk g a j u:=by
 have f:=h.len;have e:R[u]?=some R[u]:=zI (by omega)
 have c:R[u]=(d:Int)↔Walk g a d u/\∀j,j<d->¬Walk g a j u:=by
  by_cases b:u<v
  .exact(h.new u _ e b).eq (by omega)
  .exact(h.old u _ e (by omega)).eq (by omega)
 rw[e]
 simpa using c
theorem LayerInv.step{g:Gr}(r:ybi g){a d v:Nat}{R:List Int}(h:LayerInv g a d v R)(w:v<g.ports.length):LayerInv g a d (v+1) (yclc g ((d:Int)+1) R v):=by
 have c:=h.len;have ev:R[v]?=some R[v]:=zI (by omega)
 have E:R.getD v 0=R[v]:=by simp[zM,ev]
 have F:g.ports.getD v []=g.ports[v]:=by simp[zM,zI w]
 have m:ycnh R ((d:Int)+1-1) g.ports[v]=true↔∃u,adj g u v/\Walk g a d u/\∀j,j<d->¬Walk g a j u:=by
  unfold ycnh;rw[List.any_eq_true];constructor
  .rintro⟨l,s,i⟩;have H:=r.link (zI w) s;have i:=of_decide_eq_true i;rw[show(d:Int)+1-1=d by omega]at i
   refine⟨l.1.toNat,r.adj_symm ⟨_,zI w,l,s,by omega⟩,?_⟩
   exact(h.at_ (by omega)).1 i
  .rintro⟨u,b,o⟩;obtain⟨C,_⟩:=r.adj_lt b;obtain⟨K,i,l,s,e⟩:=r.adj_symm b;rw[zI w]at i;cases i
   refine⟨l,s,decide_eq_true ?_⟩;rw[e,zW,show(d:Int)+1-1=d by omega]
   exact(h.at_ C).2 o
 have A:=h.old v _ ev (zY _);unfold yclc;rw[E,F]
 by_cases c1:R[v]<0
 .have y:R[v] = -1/\∀k,k<=d->¬Walk g a k v:=by
   rcases A with i|⟨k,_,e,_⟩
   .exact i
   .omega
  by_cases c2:ycnh R ((d:Int)+1-1) g.ports[v]=true
  .rw[if_pos (by rw[zF];exact⟨decide_eq_true c1,c2⟩)]
   obtain⟨p,B,o,_⟩:=m.1 c2;have n:∀t,t≠v->(R.set v ((d:Int)+1))[t]?=R[t]?:=fun t J=>by rw[zO,if_neg (by omega)]
   refine⟨by simp[c],fun u x b f=>?_,fun u x b f=>?_⟩
   .by_cases e:u=v
    .subst e;rw[zO,if_pos rfl,if_pos (by omega)]at b
     cases b
     exact .inr ⟨d+1,zY _,by omega,⟨p,o,B⟩,fun j G=>y.2 j (by omega)⟩
    .rw[n u e]at b;exact h.new u x b (by omega)
   .rw[n u (by omega)]at b
    exact h.old u x b (by omega)
  .rw[if_neg (fun e=>c2 (zF _ _▸e).2)];refine⟨c,fun u x b f=>?_,fun u x b f=>h.old u x b (by omega)⟩
   by_cases e:u=v
   .subst e;rw[ev]at b;cases b
    refine .inl ⟨y.1,fun k hk o=>?_⟩;rcases zBS d k with I|z
    .obtain rfl:k=d+1:=by omega
     obtain⟨p,B,q⟩:=o;refine c2 (m.2 ⟨p,q,B,fun j G D=>y.2 (j+1) (by omega) ⟨p,D,q⟩⟩)
    .exact y.2 k z o
   .exact h.new u x b (by omega)
 .rw[if_neg (by simp[c1])]
  refine⟨c,fun u x b f=>?_,fun u x b f=>h.old u x b (by omega)⟩
  by_cases e:u=v
  .subst e;exact(h.old u x b (zY _)).more (by rw[ev]at b;cases b;omega)
  .exact h.new u x b (by omega)
theorem yza{g:Gr}(b:ybi g){a d:Nat}{R:List Int}(h:LayerInv g a d 0 R):∀v,v<=g.ports.length->LayerInv g a d v ((zT v).foldl (yclc g ((d:Int)+1)) R)
 |0,_=>h
 | v+1,c=>by
   rw[zBI,zQ];exact(yza b h v (by omega)).step b (by omega)
def ybcw(g:Gr)(a d:Nat)(R:List Int):Prop:=R.length=g.ports.length/\∀(u:Nat) (x:Int),R[u]?=some x->Upto g a d u x
theorem ybsf{g:Gr}{a:Nat}(c:a<g.ports.length):ybcw g a 0 (start g a):=by
 refine⟨by simp[start],fun u x b=>?_⟩
 unfold start at b;rw[zO]at b;split at b
 .rename_i e
  subst e;simp[c]at b;subst b;exact .inr ⟨0,zY _,rfl,rfl,fun j d=>absurd d (by omega)⟩
 .rename_i e
  rw[zAG]at b;split at b
  .cases b
   refine .inl ⟨rfl,fun k hk f=>?_⟩;obtain rfl:k=0:=by omega
   exact e f.symm
  .cases b
theorem ybtf{g:Gr}(f:ybi g){a d:Nat}{R:List Int}(h:ybcw g a d R):ybcw g a (d+1) (stepD g R (d+1)):=by
 have e:LayerInv g a d 0 R:=⟨h.1,fun _ _ _ b=>absurd b (by omega),fun u x b _=>h.2 u x b⟩
 have c:=yza f e g.ports.length (zY _);unfold stepD;rw[show((d+1:Nat):Int)=(d:Int)+1 by omega]
 exact⟨c.len,fun u x b=>c.new u x b (by rw[<-c.len];exact(List.getElem?_eq_some_iff.1 b).1)⟩
theorem yvq{g:Gr}(c:ybi g){a:Nat}(b:a<g.ports.length):∀d,ybcw g a d ((zT d).foldl (fun R d=>stepD g R (d+1)) (start g a))
 |0=>ybsf b
 |d+1=>by rw[zBI,zQ];exact ybtf c (yvq c b d)
theorem chain{g:Gr}{a:Nat}:∀k v,Walk g a k v->(∀j,j<k->¬Walk g a j v)->∃f:Nat->Nat,∀j,j<=k->Walk g a j (f j)/\∀i,i<j->¬Walk g a i (f j)
 | 0,v,h,_=>⟨fun _=>v,fun j d=>by obtain rfl:j=0:=by omega
                                  exact⟨h,fun i n=>absurd n (by omega)⟩⟩
 | k + 1,v,h,e=>by
   obtain⟨p,l,c⟩:=h;obtain⟨f,m⟩:=chain k p l (fun j d o=>e (j+1) (by omega) ⟨p,o,c⟩)
   refine⟨fun j=>if j<=k then f j else v,fun j d=>?_⟩
   by_cases b:j<=k
   .simp only[if_pos b];exact m j b
   .obtain rfl:j=k+1:=by omega
    simp only[if_neg b];exact⟨⟨p,l,c⟩,e⟩
theorem walk_lt{g:Gr}(c:ybi g){a:Nat}(b:a<g.ports.length):∀k v,Walk g a k v->v<g.ports.length
 |0,v,h=>by obtain rfl:v=a:=h;exact b
 |k+1,v,h=>by obtain⟨u,_,d⟩:=h;exact(c.adj_lt d).2
theorem least_walk{g:Gr}{a v:Nat}:∀k,Walk g a k v->∃j,j<=k/\Walk g a j v/\∀i,i<j->¬Walk g a i v:=by
 intro k
 induction k using Nat.strongRecOn with
 | _ k l =>
   intro f
   by_cases h:∃j,j<k/\Walk g a j v
   .obtain⟨j,e,c⟩:=h;obtain⟨i,d,r⟩:=l j e c;exact⟨i,by omega,r⟩
   .exact⟨k,zY _,f,fun i d b=>h ⟨i,d,b⟩⟩
theorem ywh{g:Gr}(p:ybi g){a v k:Nat}(o:a<g.ports.length)(h:Walk g a k v)(q:∀j,j<k->¬Walk g a j v):k<g.ports.length:=by
 obtain⟨f,l⟩:=chain k v h q;have c:∀i j,i<j->j<=k->f i≠f j:=fun i j b d e=>(l j d).2 i b (by rw[<-e];exact(l i (by omega)).1)
 have m:((zT (k+1)).map f).Nodup:=by
  rw[List.Nodup,zBB];refine(List.Pairwise.and_mem.1 List.pairwise_lt_range).imp ?_;rintro i j ⟨_,d,b⟩;exact c i j b (by simp at d;omega)
 have n:(zT (k+1)).map f ⊆ zT g.ports.length:=by
  intro x r;obtain⟨j,d,rfl⟩:=List.mem_map.1 r;simp only[List.mem_range]at d ⊢;exact walk_lt p o j _ (l j (by omega)).1
 have:=List.Nodup.length_le_of_subset m n;simp at this;omega
theorem yek{g:Gr}(c:ybi g){a:Nat}(b:a<g.ports.length):yvo g a (ybs g a):=by
 obtain⟨e,f⟩:=yvq c b (g.ports.length-1);refine⟨e,fun v x l=>?_⟩;rcases f v x l with⟨rfl,h⟩|⟨k,_,r⟩
 .refine .inl ⟨rfl,fun k hk=>?_⟩;obtain⟨j,_,d,i⟩:=least_walk k hk;have:=ywh c b d i;exact h j (by omega) d
 .exact .inr ⟨k,r⟩
theorem yvo.bound{g:Gr}(b:ybi g){a:Nat}(f:a<g.ports.length){D:List Int}(h:yvo g a D):∀x∈D,-1<=x/\x<=24:=by
 intro x j;obtain⟨v,i,rfl⟩:=List.mem_iff_getElem.1 j;rcases h.2 v _ (zI i)with⟨e,_⟩|⟨k,e,c,d⟩
 .omega
 .have:=ywh b f c d;have:=b.2.1;omega
end
section
def yeo(g:Gr):Bool:=yjr g&&(ybs g 0).all (fun x=>decide (0<=x))
def ycr(D:List Int):Int:=D.foldl max (-1)
def eccP(g:Gr)(v:Int):Int:=if yeo g=true/\0<=v/\v<g.ports.length then ycr (ybs g v.toNat)else -1
theorem ylr(D:List Int):∀m:Int,m<=D.foldl max m:=by
 induction D with
 |nil=>intro m;exact Int.le_refl _
 |cons x D a=>intro m;exact zBT (Int.le_max_left m x) (a _)
theorem yxy(D:List Int)(k:Nat)(hk:k<D.length):ycr (D.take (k+1))=max (ycr (D.take k)) D[k]:=by
 unfold ycr;rw[take_snoc D k hk,zQ];rfl
theorem ybey(D:List Int)(m:Int)(c:-1<=m)(h:∀x∈D,x<=m):ycr D<=m:=by
 unfold ycr
 suffices ∀a:Int,a<=m->D.foldl max a<=m from this _ c
 induction D with
 |nil=>intro a b;exact b
 |cons x D e=>intro a b;exact e (fun y d=>h y (by simp[d])) _ (Int.max_le.2 ⟨b,h x (by simp)⟩)
theorem yta(D:List Int):∀x∈D,x<=ycr D:=by
 unfold ycr
 suffices ∀a:Int,∀x∈D,x<=D.foldl max a from this _
 induction D with
 |nil=>intro a x b;simp at b
 | cons y D c =>
   intro a x b;rcases List.mem_cons.1 b with rfl|b
   .exact zBT (Int.le_max_right a x) (ylr D _)
   .exact c _ x b
theorem ybem(D:List Int):-1<=ycr D:=ylr D _
theorem yhg{g:Gr}(c:ybi g){a:Nat}(b:a<g.ports.length):(ybs g a).length=g.ports.length:=(yek c b).1
theorem Walk.trans{g:Gr}{a b:Nat}:∀{j:Nat}{c:Nat}{k:Nat},Walk g a k b->Walk g b j c->Walk g a (k+j) c
 |0,c,k,d,e=>by obtain rfl:c=b:=e;exact d
 | j+1,c,k,d,e=>by
   obtain⟨u,h,f⟩:=e;exact⟨u,Walk.trans d h,f⟩
theorem Walk.one{g:Gr}{a b:Nat}(h:adj g a b):Walk g a 1 b:=⟨a,rfl,h⟩
theorem Walk.symm{g:Gr}(d:ybi g){a:Nat}:∀{k:Nat}{b:Nat},Walk g a k b->Walk g b k a
 |0,b,h=>by obtain rfl:b=a:=h;exact rfl
 | k+1,b,h=>by
   obtain⟨u,e,c⟩:=h;have:=Walk.trans (Walk.one (d.adj_symm c)) (Walk.symm d e)
   rwa [Nat.add_comm]at this
theorem ybkt{g:Gr}(j:ybi g){a:Nat}(i:a<g.ports.length):(ybs g a).all (fun x=>decide (0<=x))=true↔∀v,v<g.ports.length->∃k,Walk g a k v:=by
 have c:=yek j i;rw[zAT];constructor
 .intro h v d;have b:v<(ybs g a).length:=by rw[c.1];exact d
  rcases c.2 v _ (zI b)with⟨e,_⟩|⟨k,_,hk,_⟩
  .have:=of_decide_eq_true (h _ (zJ b));omega
  .exact⟨k,hk⟩
 .intro h x l;obtain⟨v,d,rfl⟩:=List.mem_iff_getElem.1 l;obtain⟨k,hk⟩:=h v (by rw[<-c.1];exact d)
  rcases c.2 v _ (zI d)with⟨e,f⟩|⟨k,e,_⟩
  .exact absurd hk (f k)
  .rw[e];simp
theorem yciy{g:Gr}(c:ybi g){a b:Nat}(e:a<g.ports.length)(d:b<g.ports.length)(h:(ybs g a).all (fun x=>decide (0<=x))=true):(ybs g b).all (fun x=>decide (0<=x))=true:=by
 rw[ybkt c e]at h;rw[ybkt c d];intro v i;obtain⟨k,hk⟩:=h v i;obtain⟨j,f⟩:=h b d;exact⟨_,Walk.trans (Walk.symm c f) hk⟩
end
section
abbrev Conf:=List (List Int)
abbrev Bounds:=List (Int×Int)
def ybxu(bs:Bounds)(s:List Int):Bool:=decide (s.length=bs.length)&&(bs.zip s).all (fun p=>decide (p.1.1<=p.2)&&decide (p.2<=p.1.2))
def yyt(n:Nat)(bs:Nat->Bounds)(c:Conf):Bool:=decide (c.length=n)&&c.zipIdx.all (fun p=>ybxu (bs p.2) p.1)
def yji(bs:Bounds)(s:List Int):Prop:=s.length=bs.length/\∀(i:Nat) b x,bs[i]?=some b->s[i]?=some x->b.1<=x/\x<=b.2
def ybpx(n:Nat)(bs:Nat->Bounds)(c:Conf):Prop:=c.length=n/\∀(v:Nat) s,c[v]?=some s->yji (bs v) s
theorem ybas(bs:Bounds)(s:List Int):ybxu bs s=true↔yji bs s:=by
 unfold ybxu yji;rw[zF,decide_eq_true_iff,zAT];refine and_congr_right fun _=>⟨fun h i b x c e=>?_,fun h p d=>?_⟩
 .have:=h (b,x) (zN (i:=i) (by simp[zAQ,c,e]))
  simpa using this
 .obtain⟨i,a⟩:=List.mem_iff_getElem?.1 d;obtain⟨b,x⟩:=p;rw[zAQ]at a
  simpa using h i b x a.1 a.2
theorem ygx(n:Nat)(bs:Nat->Bounds)(c:Conf):yyt n bs c=true↔ybpx n bs c:=by
 unfold yyt ybpx;rw[zF,decide_eq_true_iff,zAT];refine and_congr_right fun _=>⟨fun h v s b=>?_,fun h p a=>?_⟩
 .refine(ybas _ _).1 (h (s,v) ?_);rw[zAM];exact b
 .rw[zAM]at a;exact(ybas _ _).2 (h p.2 p.1 a)
theorem yxn{n:Nat}{bs:Nat->Bounds}{c:Conf}(h:¬ybpx n bs c):yyt n bs c=false:=by
 cases a:yyt n bs c with
 |false=>rfl
 |true=>exact absurd ((ygx n bs c).1 a) h
theorem ybuh{n:Nat}{bs:Nat->Bounds}{c:Conf}(h:ybpx n bs c):yyt n bs c=true:=(ygx n bs c).2 h
def ycmz(g:Gr)(v:Nat):Nat:=(g.ports.getD v []).length
def yfl(g:Gr)(G:List Int)(v:Nat):Bounds:=G.map (fun h=>if h = -1 then(-1,(ycmz g v:Int)-1)else(0,h))
def ybsd(g:Gr):Int:=g.ids.foldl max 0
end
section
open Go.RowKit
end
section
open Go.RowKit
end
section
open Go.RowKit
def yjk(a:Int×Int->Bool)(ls:List (Int×Int)):Int:=match ls.findIdx? a with|some i=>i|none=>-1
end
section
def yxo(D:List Int)(v:Nat)(l:Int×Int):Bool:=D.getD l.1.toNat 0==D.getD v 0-1
def wayP(g:Gr)(D:List Int)(v:Nat):Int:=yjk (yxo D v) (g.ports.getD v [])
def ytn(g:Gr)(D:List Int)(v:Nat)(s:List Int):Bool:=decide (s=[D.getD v 0,wayP g D v])
end
section
def ybid(ids:List Int)(k:Nat):Int:=(ids.take k).tail.foldl max (ids.headD 0)
abbrev maxI(ids:List Int):Int:=ybid ids ids.length
theorem ybwx{ids:List Int}{k:Nat}(a:1<=k)(hk:k<ids.length):(ids.take (k+1)).tail=(ids.take k).tail++[ids[k]]:=by
 rw[zH hk,List.tail_append_of_ne_nil];intro h;have:=congrArg zAH h;rw[zBF,zAU]at this;omega
theorem yccf(ids:List Int):ybid ids 1=ids.headD 0:=by cases ids<;>simp[ybid]
theorem ybuc{ids:List Int}{k:Nat}(a:1<=k)(hk:k<ids.length):ybid ids (k+1)=max (ybid ids k) ids[k]:=by
 unfold ybid;rw[ybwx a hk,zQ];rfl
theorem yclt{ids:List Int}(a:0<ids.length)(h:∀x∈ids,0<=x):maxI ids=ids.foldl max 0:=by
 cases ids with
 |nil=>simp at a
 | cons x l =>
   have b:max 0 x=x:=Int.max_eq_right (h x (by simp))
   simp[maxI,ybid,b]
def idxP(ids:List Int)(x:Int):Int:=match ids.findIdx? (fun y=>x==y)with
 |some i=>i
 |none=>-1
theorem ycmm{ids:List Int}{x:Int}{k:Nat}(hk:k<ids.length)(h:x=ids[k])(a:(ids.take k).findIdx? (fun y=>x==y)=none):idxP ids x=k:=by
 unfold idxP
 have:ids.findIdx? (fun y=>x==y)=some k:=by
  rw[zS];refine⟨hk,by simp[h],fun j b=>?_⟩
  rw[zU]at a;simp[a ids[j] (List.mem_take_iff_getElem.2 ⟨j,by omega,rfl⟩)]
 rw[this]
theorem yccl{ids:List Int}{x:Int}(a:(ids.take ids.length).findIdx? (fun y=>x==y)=none):idxP ids x = -1:=by
 rw[zAC]at a;unfold idxP;rw[a]
theorem ycpd{ids:List Int}{x:Int}{k:Nat}(hk:k<ids.length)(h:x≠ids[k])(a:(ids.take k).findIdx? (fun y=>x==y)=none):(ids.take (k+1)).findIdx? (fun y=>x==y)=none:=by
 rw[zH hk,zAD,a];simp[h]
end
section
namespace Sh
open Go Ev
def ybb(l:List Int):SV:=.sl 1 l.length (fun k=>[.i .i64 (l.getD k 0)])
def yx(ls:List (Int×Int)):SV:=.sl 2 ls.length (fun j=>[.i .i64 (ls.getD j (0,0)).1,.i .i64 (ls.getD j (0,0)).2])
def yj(ps:List (List (Int×Int))):SV:=.sl 1 ps.length (fun v=>[yx (ps.getD v [])])
def yct(c:List (List Int)):SV:=.sl 1 c.length (fun v=>[ybb (c.getD v [])])
def grV(g:Gr):SV:=.ag [ybb g.ids,yj g.ports]
theorem ik{n:Int}(a:-1000000000000<=n)(b:n<=1000000000000):inK .i64 n:=by
 unfold inK;simp[IntKind.min,IntKind.max,IntKind.bits,IntKind.signed];omega
theorem ikw{n:Int}(a:-4611686018427387904<=n)(b:n<=4611686018427387904):inK .i64 n:=by
 unfold inK;simp[IntKind.min,IntKind.max,IntKind.bits,IntKind.signed];omega
theorem ybc{a b:Prop}(k:b)(h:a:=by first|omega|decide|exact ikw (by omega) (by omega)):a/\b:=⟨h,k⟩
theorem getD_at{a:Type}{l:List a}{k:Nat}{d:a}(h:k<l.length):l.getD k d=l[k]:=by simp[zM,h]
theorem ybdz{l:List Int}{i k:Nat}{x:Int}(h:i<l.length):(l.set i x).getD k 0=if k=i then x else l.getD k 0:=by
 simp only[zM,zO]
 by_cases q:i=k
 .subst q;simp[h]
 .rw[if_neg q,if_neg (Ne.symm q)]
theorem ycai(l:List Int)(x:Int)(c:l.length<=100000):Returns zC 143 [ybb l,.i .i64 x] (.i .i64 (idxP l x)):=by
 refine Returns.of (ydfd _ _ ?_);simp only[c143,ycun,ydcv,ybb,go_sem,zB,↓reduceIte,reduceCtorEq];refine ybd (σ:=Nat) (fun k=>⟨[(8,.i .i64 k),(0,ybb l),(1,.i .i64 x),(7,.i .i64 l.length)],[]⟩) (fun k=>k<=l.length/\(l.take k).findIdx? (fun y=>x==y)=none) (fun k=>l.length-k) 0 ⟨zK _,by simp⟩ ?_ ?_
 .refine yu ?_;simp only[ybb,wk,go_sem,zA,↓reduceIte,reduceCtorEq]
 .intro k ⟨hk,hno⟩;simp only[ycrl,ycre,yctr,ycwp,yczu,yczb,ybb,ych,go_sem,zA,zB,↓reduceIte,reduceCtorEq];refine⟨fun h=>⟨by omega,fun b=>?_,fun b=>⟨ik (by omega) (by omega),?_⟩⟩,fun h=>?_⟩
  .have a:k<l.length:=by omega
   rw[ycmm a (by rw[b,getD_at a]) hno]
  .have a:k<l.length:=by omega
   refine yh (k+1) ⟨by omega,ycpd a (by rw[<-getD_at (d:=0) a];exact b) hno⟩ (by omega) ?_
   refine yu ?_;simp only[wk,go_sem,zA,↓reduceIte,reduceCtorEq];simp
  .obtain rfl:k=l.length:=by omega
   rw[yccl hno]
theorem ydjz(l:List Int)(b:0<l.length)(c:l.length<=100000):Returns zC 54 [ybb l] (.i .i64 (maxI l)):=by
 refine Returns.of (ydzf _ _ ?_);simp only[c54,yead,ydvt,ydos,ydyv,yebc,ybb,go_sem,zAK,zA,zB];refine⟨fun h=>by omega,fun _=>⟨by omega,?_⟩⟩
 refine ybd (σ:=Nat) (fun k=>⟨[(4,.i .i64 k),(3,.i .i64 (ybid l k)),(0,ybb l)],[]⟩) (fun k=>1<=k/\k<=l.length) (fun k=>l.length-k) 1 ⟨by omega,by omega⟩ ?_ ?_
 .refine yu ?_;simp only[ybb,yccf,wk,go_sem,zA];cases l<;>simp at b ⊢
 .intro k ⟨hk1,hk⟩;simp only[ydud,ydrd,yebi,yeay,ybb,ych,go_sem,zA,zB];refine⟨fun h=>⟨by omega,ik (by omega) (by omega),?_⟩,fun h=>?_⟩
  .refine yh (k+1) ⟨by omega,by omega⟩ (by omega) ?_
   refine yu ?_;have a:k<l.length:=by omega
   simp only[ybuc hk1 a,getD_at a,wk,go_sem,zA];simp
  .obtain rfl:k=l.length:=by omega
   rfl
theorem ybwu(a b:List Int)(m:a.length<=100000):Returns zC 92 [ybb a,ybb b] (.b (decide (a=b))):=by
 refine Returns.of (ydqj _ _ ?_);simp only[c92,ydxs,ydsp,ydsd,ydwk,ybb,yts,go_sem,zA,zB];refine⟨fun h=>?_,fun h=>?_⟩
 .have:a≠b:=fun e=>h (by rw[e])
  simp[this]
 have c:a.length=b.length:=by omega
 refine ybd (σ:=Nat) (fun k=>⟨[(13,.i .i64 k),(0,ybb a),(1,ybb b),(12,.i .i64 a.length)],[]⟩) (fun k=>k<=a.length/\∀j,j<k->a.getD j 0=b.getD j 0) (fun k=>a.length-k) 0 ⟨zK _,fun j h=>absurd h (zAV _)⟩ ?_ ?_
 .refine yu ?_;simp only[ybb,wk,go_sem,zA]
 .intro k ⟨hk,hno⟩;simp only[yduu,ydvf,ydxa,yeaw,ydug,ydxo,ybb,yts,clash,go_sem,zA,zB];refine⟨fun h=>⟨by omega,by omega,fun d=>?_,fun d=>⟨ik (by omega) (by omega),?_⟩⟩,fun h=>?_⟩
  .have:a≠b:=fun e=>d (by rw[e])
   simp[this]
  .refine yh (k+1) ⟨by omega,fun j l=>?_⟩ (by omega) ?_
   .by_cases q:j<k
    .exact hno j q
    .obtain rfl:j=k:=by omega
     exact d
   .refine yu ?_;simp only[wk,go_sem,zA];simp
  .have:a=b:=by
    refine zBD c fun j f g=>?_;have:=hno j (by omega)
    rwa [getD_at f,getD_at g]at this
   simp[this]
theorem ybcf (g:Gr) (v:Nat) (s:v<g.ports.length) (h:FuncId) (cp:List SV) (e:Int×Int->Bool) (a:cp.any (owned 4)=false) (p:(g.ports.getD v []).length<=100000)
 (f:∀l∈g.ports.getD v [],Returns zC h (.ag [.i .i64 l.1,.i .i64 l.2]::cp) (.b (e l))):Returns zC 70 [grV g,.i .i64 v,.fn h [] cp] (.i .i64 (yjk e (g.ports.getD v []))):=by
 refine Returns.of (ydzd _ _ ?_);have n:=yyi a;simp only[c70,ydvh,ydxx,grV,yj,yx,ybb,go_sem,zA,zB,zG];refine⟨by omega,?_⟩
 obtain⟨d,o⟩:∃d,g.ports.getD v []=d:=⟨_,rfl⟩;rw[o]at p f ⊢;refine ybd (σ:=Nat) (fun k=>⟨[(15,.i .i64 k),(13,yx d),(14,.i .i64 d.length),(2,.fn h [] cp)],[]⟩) (fun k=>k<=d.length/\(d.take k).findIdx? e=none) (fun k=>d.length-k) 0 ⟨zK _,by simp⟩ ?_ ?_
 .refine yu ?_;simp only[yx,ypr _ a,yqj _ a,wk,go_sem,zA]
 .intro k ⟨hk,hno⟩;simp only[ydye,yebk,ydnj,ydss,ydpj,ydwu,yx,ych,n,zBP,go_sem,zA,zB,zG];refine⟨fun c=>⟨by omega,?_⟩,fun c=>?_⟩
  .have c:k<d.length:=by omega
   have q:d.getD k (0,0)∈d:=by rw[getD_at c];exact zJ c
   refine(f _ q).use ?_;simp only[ybj,ych,go_sem,zA,zB];refine⟨fun m=>?_,fun m=>⟨ik (by omega) (by omega),?_⟩⟩
   .rw[getD_at c]at m
    have:d.findIdx? e=some k:=by
     rw[zS];refine⟨c,m,fun j r=>?_⟩;rw[zU]at hno;simp[hno d[j] (List.mem_take_iff_getElem.2 ⟨j,by omega,rfl⟩)]
    unfold yjk;rw[this]
   .rw[getD_at c]at m;refine yh (k+1) ⟨by omega,?_⟩ (by omega) ?_
    .rw[zH c,zAD,hno];simp[m]
    .refine yu ?_;simp only[ypr _ a,yqj _ a,wk,go_sem,zA];simp
  .obtain rfl:k=d.length:=by omega
   rw[zAC]at hno;unfold yjk;rw[hno]
end Sh
end
section
structure VarR where
 name:ByteArray
 kind:Int
 lo:Int
 hi:Int
 perNode:Int
 perID:Int
theorem ybtz(ids:List Int)(k:Nat)(hk:k<ids.length):(ids.take (k+1)).foldl max 0=max ((ids.take k).foldl max 0) ids[k]:=by
 rw[take_snoc ids k hk,zQ];rfl
theorem ybfv(D:List Int)(m:Int)(h:∀x∈D,x<=m):∀a:Int,a<=m->D.foldl max a<=m:=by
 induction D with
 |nil=>intro a b;exact b
 |cons x D d=>intro a b;exact d (fun y c=>h y (by simp[c])) _ (Int.max_le.2 ⟨b,h x (by simp)⟩)
theorem ywt{g:Gr}(a:ybi g):0<=ybsd g/\ybsd g<=255:=⟨ylr _ _,ybfv _ _ (fun x b=>(a.2.2.2.1 x b).2) _ (by omega)⟩
end
section
abbrev Tm:=Int×Int
structure SetR where
 var:Int
 val:List Tm
structure RuleR where
 name:ByteArray
 guard:List Tm
 sets:List SetR
structure ProgR where
 name:ByteArray
 vars:List VarR
 rules:List RuleR
instance:Inhabited VarR:=⟨⟨.empty,0,0,0,0,0⟩⟩
instance:Inhabited SetR:=⟨⟨0,[]⟩⟩
instance:Inhabited RuleR:=⟨⟨.empty,[],[]⟩⟩
inductive Ex where
 |leaf (op arg:Int)
 |un (op:Int) (a:Ex)
 |agg (op:Int) (a:Ex)
 |bin (op:Int) (a b:Ex)
 |ite (c a b:Ex)
def Ex.ser:Ex->List Tm
 |.leaf d arg=>[(d,arg)]
 |.un d a=>(d,0)::a.ser
 |.agg d a=>(d,0)::a.ser
 |.bin d a b=>(d,0)::(a.ser++b.ser)
 |.ite c a b=>(43,0)::(c.ser++(a.ser++b.ser))
def satP(a:Int):Int:=max (-1073741824) (min a 1073741824)
def ydc(b:Bool):Int:=if b then 1 else 0
def yyh(a b:Int):Int:=if b=0 then 0 else if a.tmod b≠0/\(decide (a<0)≠decide (b<0))then a.tdiv b-1 else a.tdiv b
def unP(b a:Int):Int:=if b=18 then -a else ydc (a==0)
def cmpP(c a b:Int):Bool:=if c=35 then a==b else if c=36 then a != b else if c=37 then decide (a<b)else if c=38 then decide (a<=b)else if c=39 then decide (a>b)else decide (a>=b)
def binP(c a b:Int):Int :=
 if c=30 then satP (a*b)else if c=31 then satP (yyh a b)else if c=32 then(if b=0 then 0 else satP (a-b*yyh a b))else if c=33 then satP (a+b)else if c=34 then satP (a-b)
 else if c=41 then ydc (a != 0&&b != 0)else if c=42 then ydc (a != 0||b != 0)else ydc (cmpP c a b)
def countP(l:List Int):Int:=((l.filter (· != 0)).length:Int)
def ydz(l:List Int):Int:=l.foldl min 1073741824
def yez(l:List Int):Int×Int:=l.foldl (fun p a=>if a>p.1 then(a,p.1)else(p.1,max p.2 a)) (-1073741824,-1073741824)
def yxz(l:List Int):Nat->Int->Int
 |0,r=>r
 |n+1,r=>if l.elem r then yxz l n (r+1)else r
def mexP(l:List Int):Int:=yxz l (l.length+1) 0
def yfe(l:List Int):Int:=match l.findIdx? (· != 0)with|some i=>i|none=>-1
def yjj(a:Int)(l:List Int):Int :=
 if a=20 then ydc (countP l==l.length)else if a=21 then ydc (decide (countP l>0))else if a=22 then countP l else if a=23 then yfe l else if a=24 then ydz l else if a=25 then(yez l).1
 else if a=26 then satP l.sum else if a=27 then mexP l else if a=28 then(yez l).2 else l.headD 0
structure Sc where
 g:Gr
 c:Conf
def ydo(g:Gr)(v a:Nat):Int×Int:=(g.ports.getD v []).getD a (0,0)
def yma(g:Gr)(v:Nat):List Int:=(g.ports.getD v []).map fun l=>ynz (g.ports.getD l.1.toNat []) v
def yqa(g:Gr)(b:Int)(v:Nat)(a:Int):Int :=
 if b=6 then g.ids.length else if b=7 then ybsd g else if b=8 then g.ids.getD v 0 else if b=9 then((g.ports.getD v []).length:Int)else if b=10 then ydc ((v:Int)==0)else if b=11 then a
 else(let l:=ydo g v a.toNat
  if b=13 then g.ids.getD l.1.toNat 0 else if b=14 then((g.ports.getD l.1.toNat []).length:Int)else if b=15 then ydc (l.1==0)else if b=16 then l.2 else(yma g v).getD a.toNat 0)
def yvx(g:Gr)(c:Conf)(b arg:Int)(v:Nat)(a:Int):Int :=
 if b=1 then arg else if b=2 then 1 else if b=3 then 0 else if b=4 then -1 else if b=5 then(c.getD v []).getD arg.toNat 0 else if b=12 then(c.getD (ydo g v a.toNat).1.toNat []).getD arg.toNat 0
 else yqa g b v a
def ycp(g:Gr)(c:Conf)(v:Nat):Ex->Int->Int
 |.leaf d arg,p=>yvx g c d arg v p
 |.un d a,p=>unP d (ycp g c v a p)
 |.agg d a,_=>yjj d ((zT (g.ports.getD v []).length).map fun(q:Nat)=>ycp g c v a (q:Int))
 |.bin d a b,p=>binP d (ycp g c v a p) (ycp g c v b p)
 |.ite x a b,p=>if ycp g c v x p≠0 then ycp g c v a p else ycp g c v b p
def Ex.ok(e:Int)(c:Bool):Ex->Bool
 |.leaf d arg=>decide (1<=d/\d<=17)&&(if d=1 then decide (0<=arg/\arg<=1073741824)else if d=5\/d=12 then decide (0<=arg/\arg<e)else true)&&(if 11<=d then c else true)
 |.un d a=>decide (d=18\/d=19)&&a.ok e c
 |.agg d a=>decide (20<=d/\d<=29)&&a.ok e true
 |.bin d a b=>decide (30<=d/\d<=42)&&a.ok e c&&b.ok e c
 |.ite x a b=>x.ok e c&&a.ok e c&&b.ok e c
def InB(x:Int):Prop:=-1073741824<=x/\x<=1073741824
theorem yry(a:Int):InB (satP a):=by unfold InB satP;omega
theorem yhc(b:Bool):InB (ydc b):=by unfold InB ydc;cases b<;>simp
theorem ydxq{b a:Int}(h:InB a):InB (unP b a):=by
 unfold unP;split
 .unfold InB at *;omega
 .exact yhc _
theorem ydko(c a b:Int):InB (binP c a b):=by
 unfold binP;split;· exact yry _
 split;· exact yry _
 split
 .split
  .unfold InB;omega
  .exact yry _
 split;· exact yry _
 split;· exact yry _
 split;· exact yhc _
 split;· exact yhc _
 exact yhc _
theorem countP_le(l:List Int):0<=countP l/\countP l<=l.length:=by
 unfold countP;have:=List.length_filter_le (· != 0) l;omega
theorem ycho(l:List Int)(h:∀x∈l,InB x):InB (ydz l):=by
 unfold ydz
 have:∀(l:List Int) (a:Int),InB a->(∀x∈l,InB x)->InB (l.foldl min a):=by
  intro l
  induction l with
  |nil=>intro a b _;exact b
  | cons x l e =>
    intro a b c;refine e _ ?_ fun y d=>c y (zAB _ d);have:=c x zAE;unfold InB at *;omega
 exact this l _ (by unfold InB;omega) h
theorem ybbg(l:List Int)(h:∀x∈l,InB x):InB (yez l).1/\InB (yez l).2:=by
 unfold yez
 have:∀(l:List Int) (p:Int×Int),InB p.1/\InB p.2->(∀x∈l,InB x)->InB (l.foldl (fun p a=>if a>p.1 then(a,p.1)else(p.1,max p.2 a)) p).1/\InB (l.foldl (fun p a=>if a>p.1 then(a,p.1)else(p.1,max p.2 a)) p).2:=by
  intro l
  induction l with
  |nil=>intro p c _;exact c
  | cons x l e =>
    intro p c b;refine e _ ?_ fun y d=>b y (zAB _ d);have:=b x zAE;unfold InB at *
    dsimp only
    split<;>dsimp only<;>omega
 exact this l _ (by unfold InB;simp) h
theorem ybrn(l:List Int):∀(n:Nat) (r:Int),r<=yxz l n r/\yxz l n r<=r+n
 |0,r=>by unfold yxz;omega
 | n+1,r=>by
   unfold yxz;have:=ybrn l n (r+1);split<;>omega
theorem ybic(l:List Int):-1<=yfe l/\yfe l<l.length\/yfe l = -1:=by
 unfold yfe;split
 .rename_i i a
  obtain⟨h,_⟩:=List.findIdx?_eq_some_iff_getElem.1 a;left;omega
 .exact .inr rfl
theorem yclj{a:Int}{l:List Int}(c:l.length<=1000)(h:∀x∈l,InB x):InB (yjj a l):=by
 have b:=countP_le l;unfold yjj;split;· exact yhc _
 split;· exact yhc _
 split;· unfold InB;omega
 split;· have:=ybic l;unfold InB;omega
 split;· exact ycho l h
 split;· exact(ybbg l h).1
 split;· exact yry _
 split;· have:=ybrn l (l.length+1) 0;unfold mexP InB;omega
 split;· exact(ybbg l h).2
 cases l with
 |nil=>unfold InB;simp
 |cons x l=>exact h x zAE
structure ConfIn(n nv:Nat)(c:Conf):Prop where
 len:c.length=n
 row:∀s∈c,s.length=nv/\∀x∈s,InB x
theorem ConfIn.at_{n b:Nat}{c:Conf}(h:ConfIn n b c){v:Nat}(g:v<n):(c.getD v []).length=b/\∀k,InB ((c.getD v []).getD k 0):=by
 have a:v<c.length:=by rw[h.len];exact g
 have e:c.getD v []=c[v]:=by simp[zM,a]
 obtain⟨d,f⟩:=h.row c[v] (zJ a);rw[e];refine⟨d,fun k=>?_⟩;rw[zAA];cases hk:c[v][k]? with
 |none=>simp;unfold InB;omega
 |some x=>simp;exact f x (zN hk)
theorem ybi.ydo{g:Gr}(h:ybi g){v p:Nat}(b:v<g.ports.length)(a:p<(g.ports.getD v []).length):0<=(ydo g v p).1/\(ydo g v p).1<g.ports.length/\1<=(ydo g v p).2/\(ydo g v p).2<=15:=by
 have e:g.ports.getD v []=g.ports[v]:=by simp[zM,b]
 have d:=h.2.2.2.2.2.1 ⟨v,b⟩;rw[e]at a;have i:(g.ports[v])[p]∈g.ports[v]:=zJ a;have f:=d.1 _ i;unfold yqt at f;have c:Go.Proofs.YthclbjjgfcgbgaaGreatDoor.ydo g v p=(g.ports[v])[p]:=by unfold Go.Proofs.YthclbjjgfcgbgaaGreatDoor.ydo;rw[e];simp[zM,a]
 rw[c];omega
theorem ybi.deg_lt{g:Gr}(b:ybi g){v:Nat}:(g.ports.getD v []).length<24:=by
 by_cases a:v<g.ports.length
 .have c:=b.2.2.2.2.2.1 ⟨v,a⟩;have:=ybmu a c;have e:g.ports.getD v []=g.ports[v]:=by simp[zM,a]
  rw[e];have:=b.2.1;have d:g.ports[(⟨v,a⟩:Fin g.ports.length)].length=g.ports[v].length:=rfl;omega
 .rw[zAA,List.getElem?_eq_none (by omega)]
  simp
theorem ybi.id_in{g:Gr}(a:ybi g)(v:Nat):0<=g.ids.getD v 0/\g.ids.getD v 0<=255:=by
 rw[zAA];cases h:g.ids[v]? with
 |none=>simp
 |some x=>exact a.2.2.2.1 x (zN h)
theorem ycne{g:Gr}{c:Conf}{n s:Nat}(a:ybi g)(A:g.ports.length=n)(o:ConfIn n s c){t arg:Int}{d:Bool}(q:(Ex.leaf t arg).ok s d=true){v:Nat}(m:v<n){p:Int}(r:d=true->0<=p/\p<(g.ports.getD v []).length)(j:InB p):InB (yvx g c t arg v p):=by
 subst A;have y:=a.2.1;have I:=a.deg_lt (v:=v);unfold yvx;simp only[Ex.ok,zF,decide_eq_true_eq]at q;obtain⟨⟨B,f⟩,b⟩:=q;split
 .rename_i h;rw[if_pos h]at f;simp at f;unfold InB;omega
 split;· unfold InB;omega
 split;· unfold InB;omega
 split;· unfold InB;omega
 split;· exact(o.at_ m).2 _
 split
 .rename_i h
  rw[if_pos (by omega)]at b
  obtain⟨C,D⟩:=r b;have z:=a.ydo m (p:=p.toNat) (by omega)
  exact(o.at_ (v:=(ydo g v p.toNat).1.toNat) (by omega)).2 _
 .unfold yqa;split;· rw[a.2.2.1];unfold InB;omega
  split;· have:=ywt a;unfold InB;omega
  split;· have:=a.id_in v;unfold InB;omega
  split;· unfold InB;omega
  split;· exact yhc _
  split;· exact j
  rename_i E F G H w x
  rw[if_pos (by omega)]at b
  obtain⟨C,D⟩:=r b;have z:=a.ydo m (p:=p.toNat) (by omega)
  simp only;split;· have:=a.id_in (ydo g v p.toNat).1.toNat;unfold InB;omega
  split;· have:=a.deg_lt (v:=(ydo g v p.toNat).1.toNat);unfold InB;omega
  split;· exact yhc _
  split;· unfold InB;omega
  .unfold yma;rw[zAA,List.getElem?_map];cases hk:(g.ports.getD v [])[p.toNat]? with
   |none=>simp;unfold InB;omega
   | some l =>
     simp;have i:=a.deg_lt (v:=l.1.toNat);rcases ybev (ls:=g.ports.getD l.1.toNat []) (u:=(v:Int))with e|⟨k,e,hk⟩
     .simp at e;rw[e];unfold InB;omega
     .simp at e hk i;rw[e];unfold InB;omega
theorem yiu{g:Gr}{c:Conf}{n r:Nat}(i:ybi g)(k:g.ports.length=n)(j:ConfIn n r c){v:Nat}(l:v<n):∀(x:Ex) {e:Bool}{p:Int},x.ok r e=true->(e=true->0<=p/\p<(g.ports.getD v []).length)->InB p->InB (ycp g c v x p)
 |.leaf m arg,e,p,h,f,d=>ycne i k j h l f d
 | .un m a,e,p,h,f,d=>by
   simp only[Ex.ok,zF]at h;exact ydxq (yiu i k j l a h.2 f d)
 | .agg m a,e,p,h,f,d=>by
   simp only[Ex.ok,zF]at h;have:=i.deg_lt (v:=v);refine yclj (by simp;simp at this;omega) fun x s=>?_
   obtain⟨q,o,rfl⟩:=List.mem_map.1 s;have o:=List.mem_range.1 o;exact yiu i k j l a h.2 (fun _=>by omega) (by unfold InB;omega)
 |.bin m a b,e,p,h,f,d=>ydko _ _ _
 | .ite x a b,e,p,h,f,d=>by
   simp only[Ex.ok,zF]at h;unfold ycp;split
   .exact yiu i k j l a h.1.2 f d
   .exact yiu i k j l b h.2 f d
end
section
namespace Sh
open Go Ev
theorem mulB{a b:Int}(c:InB a)(d:InB b):-1152921504606846976<=a*b/\a*b<=1152921504606846976:=by
 unfold InB at *
 have h:(a*b).natAbs<=1073741824*1073741824:=by
  rw[zBN];exact zBO (by omega) (by omega)
 omega
theorem yfd(b:Bool):Returns zC 240 [.b b] (.i .i64 (ydc b)):=by
 refine Returns.of (ydii _ _ ?_);simp only[c240,ycxy,ycus,ydcg,yczc,ych,ydc,go_sem,↓reduceIte,reduceCtorEq];cases b<;>simp
theorem yev(a:Int):Returns zC 242 [.i .i64 a] (.i .i64 (satP a)):=by
 refine Returns.of (ydff _ _ ?_);simp only[c242,ycwf,ycuf,ych,satP,go_sem,zA,zB]
theorem ydzo{a b:Int}(e:InB a):-1073741824<=a.tdiv b/\a.tdiv b<=1073741824:=by
 have c:(a.tdiv b).natAbs=a.natAbs/b.natAbs:=Int.natAbs_tdiv a b;have d:a.natAbs/b.natAbs<=a.natAbs:=Nat.div_le_self _ _;rw[<-c]at d;unfold InB at e;omega
theorem yciz{a b:Int}(c:InB a):-1073741825<=yyh a b/\yyh a b<=1073741824:=by
 have:=ydzo (b:=b) c;unfold yyh;split
 .omega
 .split<;>omega
theorem ycbg{a b:Int}(c:InB a)(e:InB b):-1152921505680588800<=b*yyh a b/\b*yyh a b<=1152921505680588800:=by
 have d:=yciz (b:=b) c
 have h:(b*yyh a b).natAbs<=1073741824*1073741825:=by
  unfold InB at *;rw[zBN];exact zBO (by omega) (by omega)
 omega
theorem ycih(b a:Int)(c:InB a):Returns zC 221 [.i .i64 b,.i .i64 a] (.i .i64 (unP b a)):=by
 refine Returns.of (ydme _ _ ?_);simp only[c221,ycym,ycvq,ycux,ycsp,ych,unP,IntKind.signed,go_sem,zA,zB];unfold InB at c;refine⟨fun h=>⟨ikw (by omega) (by omega),by rw[if_pos h];omega⟩,fun h=>(yfd _).use ?_⟩
 simp only[ybj,ych,go_sem,zA,zB];rw[if_neg h]
theorem ytr(a b:Int)(e:InB a):Returns zC 243 [.i .i64 a,.i .i64 b] (.i .i64 (yyh a b)):=by
 refine Returns.of (ydiw _ _ ?_);simp only[c243,ycpt,ycxq,yctp,ycxh,ycwz,ydbl,ydao,ych,yyh,go_sem,zA,zB];have:=ydzo (b:=b) e;refine⟨fun h=>by rw[if_pos h],fun h=>⟨⟨h,ikw (by omega) (by omega)⟩,h,fun c=>⟨fun d=>⟨ikw (by omega) (by omega),?_⟩,fun d=>?_⟩,fun c=>?_⟩⟩
 .rw[if_neg h,if_pos ⟨c,d⟩]
 .rw[if_neg h,if_neg (fun q=>q.2 d)]
 .rw[if_neg h,if_neg (fun q=>q.1 c)]
theorem ybgw(j a b:Int):Returns zC 244 [.i .i64 j,.i .i64 a,.i .i64 b] (.b (cmpP j a b)):=by
 refine Returns.of (ydkt _ _ ?_);simp only[c244,yddi,ydaa,ycrd,ycyi,ycsy,ycyw,ycua,yczg,ycub,ycwx,ycab,ybyq,ychx,yts,cmpP,go_sem,zA,zB];refine⟨fun h=>by rw[if_pos h],fun c=>⟨fun h=>by rw[if_neg c,if_pos h],fun d=>⟨fun h=>by rw[if_neg c,if_neg d,if_pos h],fun e=>⟨fun h=>by rw[if_neg c,if_neg d,if_neg e,if_pos h],fun f=>⟨fun h=>by rw[if_neg c,if_neg d,if_neg e,if_neg f,if_pos h],fun g=>by rw[if_neg c,if_neg d,if_neg e,if_neg f,if_neg g]⟩⟩⟩⟩⟩
theorem ybvx(p a b:Int)(d:InB a)(o:InB b):Returns zC 223 [.i .i64 p,.i .i64 a,.i .i64 b] (.i .i64 (binP p a b)):=by
 refine Returns.of (ydit _ _ ?_);simp only[c223,ydei,yddu,ycsi,ycvp,ycvb,ydbg,ycxn,ycvj,ydds,ycqq,ycij,ycdx,ybzw,ycay,ybyv,ychc,ycaz,ybzp,yccj,ych,go_sem,zA,zB];have s:=mulB d o;have t:=ycbg d o;have q:=d;have r:=o;unfold InB at q r;refine⟨fun h=>⟨ikw (by omega) (by omega),(yev _).use ?_⟩,fun f=>⟨fun h=>(ytr a b d).use ?_,fun g=>⟨fun h=>⟨fun e=>?_,fun e=>(ytr a b d).use ?_⟩,fun j=>⟨fun h=>⟨ikw (by omega) (by omega),(yev _).use ?_⟩,fun k=>⟨fun h=>⟨ikw (by omega) (by omega),(yev _).use ?_⟩,fun l=>?_⟩⟩⟩⟩⟩
 .simp only[ybj,ych,go_sem,zA,zB];simp[binP,h]
 .simp only[ybj,go_sem,zA,zB];refine(yev _).use ?_;simp only[ych,go_sem];simp[binP,h]
 .simp[binP,h,e]
 .simp only[ybj,go_sem,zA,zB];refine⟨ikw (by omega) (by omega),ikw (by omega) (by omega),(yev _).use ?_⟩
  simp only[ych,go_sem];simp[binP,h,e]
 .simp only[ybj,ych,go_sem,zA,zB];simp[binP,h]
 .simp only[ybj,ych,go_sem,zA,zB];simp[binP,h]
 .refine⟨fun h=>?_,fun m=>⟨fun h=>?_,fun n=>?_⟩⟩
  .refine⟨fun c=>(yfd _).use ?_,fun c=>(yfd _).use ?_⟩
   .simp only[ybj,ych,go_sem,zA,zB];simp[binP,h];rw[show(a != 0)=true by simpa using c];simp
   .simp only[ybj,ych,go_sem,zA,zB];simp[binP,h,c]
  .refine⟨fun c=>(yfd _).use ?_,fun c=>(yfd _).use ?_⟩
   .simp only[ybj,ych,go_sem,zA,zB];simp[binP,h,c]
   .simp only[ybj,ych,go_sem,zA,zB];simp[binP,h];rw[show(a != 0)=true by simpa using c];simp
  .refine(ybgw p a b).use ?_;simp only[ybj,go_sem,zA,zB];refine(yfd _).use ?_;simp only[ych,go_sem];simp[binP,f,g,j,k,l,m,n]
end Sh
end
section
namespace Sh
open Go Ev
theorem ywx{l:List Int}{k:Nat}(h:k<l.length):countP (l.take (k+1))=countP (l.take k)+(if l.getD k 0≠0 then 1 else 0):=by
 unfold countP;rw[zH h,List.filter_append,zAN,getD_at h]
 by_cases q:l[k]=0
 .simp[q]
 .simp[q]
theorem ybls{l:List Int}(k:Nat):0<=countP (l.take k)/\countP (l.take k)<=k:=by
 have:=countP_le (l.take k);simp only[zBF]at this;omega
theorem ycag(l:List Int)(e:l.length<=1000):Returns zC 250 [ybb l] (.i .i64 (countP l)):=by
 refine Returns.of (ydgq _ _ ?_);simp only[c250,ycvx,ydat,ycrr,ybb,go_sem,zB,↓reduceIte,reduceCtorEq];refine ybd (σ:=Nat) (fun k=>⟨[(8,.i .i64 k),(3,.i .i64 (countP (l.take k))),(6,ybb l),(7,.i .i64 l.length)],[]⟩) (fun k=>k<=l.length) (fun k=>l.length-k) 0 (zK _) ?_ ?_
 .refine yu ?_;simp only[ybb,wk,go_sem,zA,↓reduceIte,reduceCtorEq];simp[countP]
 .intro k hk;simp only[ycwr,ycxt,ycvw,ycuh,ycrx,ycvl,ybb,ych,go_sem,zA,zB,↓reduceIte,reduceCtorEq];have d:=ybls (l:=l) k;refine⟨fun c=>⟨by omega,fun b=>⟨ikw (by omega) (by omega),ikw (by omega) (by omega),?_⟩,fun b=>⟨ikw (by omega) (by omega),?_⟩⟩,fun c=>?_⟩
  .have a:k<l.length:=by omega
   refine ycb (k+1) ?_;refine yu ?_;simp only[ywx a,if_pos b,wk,go_sem,zA,↓reduceIte,reduceCtorEq];simp
  .have a:k<l.length:=by omega
   refine ycb (k+1) ?_;refine yu ?_;simp only[ywx a,if_neg (not_not_intro b),wk,go_sem,zA,↓reduceIte,reduceCtorEq];simp
  .rw[zZ (by omega)]
theorem ytg{l:List Int}{k:Nat}(h:k<l.length):yez (l.take (k+1))=(if l.getD k 0>(yez (l.take k)).1 then(l.getD k 0,(yez (l.take k)).1)else((yez (l.take k)).1,max (yez (l.take k)).2 (l.getD k 0))):=by
 unfold yez;rw[zH h,zQ,getD_at h];rfl
theorem yvk(l:List Int)(d:l.length<=1000):Returns zC 253 [ybb l] (.tp [.i .i64 (yez l).1,.i .i64 (yez l).2]):=by
 refine Returns.of (ydhc _ _ ?_);simp only[c253,ycvu,ydbh,ycrj,ybb,go_sem,zB,↓reduceIte,reduceCtorEq];refine ybd (σ:=Nat) (fun k=>⟨[(8,.i .i64 k),(2,.i .i64 (yez (l.take k)).1),(3,.i .i64 (yez (l.take k)).2),(6,ybb l),(7,.i .i64 l.length)],[]⟩) (fun k=>k<=l.length) (fun k=>l.length-k) 0 (zK _) ?_ ?_
 .refine yu ?_;simp only[ybb,wk,go_sem,zA,↓reduceIte,reduceCtorEq];simp[yez]
 .intro k hk;simp only[ycsz,ydbx,ycqs,ydbz,ydal,ydce,ycqy,ybb,go_sem,zA,zB,↓reduceIte,reduceCtorEq];refine⟨fun c=>⟨by omega,fun b=>⟨ikw (by omega) (by omega),?_⟩,fun b=>⟨ikw (by omega) (by omega),?_⟩⟩,fun c=>?_⟩
  .have a:k<l.length:=by omega
   refine ycb (k+1) ?_;refine yu ?_;simp only[ytg a,if_pos b,wk,go_sem,zA,↓reduceIte,reduceCtorEq];simp
  .have a:k<l.length:=by omega
   refine ycb (k+1) ?_;refine yu ?_;simp only[ytg a,if_neg b,wk,go_sem,zA,↓reduceIte,reduceCtorEq];simp
  .rw[zZ (by omega)]
   exact Sim.refl _
theorem ybih(l:List Int)(x:Int)(d:l.length<=100000):Returns zC 258 [ybb l,.i .i64 x] (.b (l.elem x)):=by
 refine Returns.of (ydhr _ _ ?_);simp only[c258,ydbk,ycxf,ybb,go_sem,zA,zB];refine(ycai l x d).use ?_;simp only[ybj,yts,go_sem,zA,zB];unfold idxP;cases h:l.findIdx? (fun y=>x==y)with
 | none =>
   rw[zU]at h
   have:l.elem x=false:=by
    rw[zBG,decide_eq_false_iff_not];intro e;have:=h x e;simp at this
   rw[this];simp
 | some i =>
   obtain⟨a,c,_⟩:=List.findIdx?_eq_some_iff_getElem.1 h
   have:l.elem x=true:=by
    rw[zBG,decide_eq_true_eq];have:x=l[i]:=by simpa using c
    rw[this];exact zJ a
   rw[this];simp
theorem ybsy{l:List Int}{n:Nat}{r:Int}(h:l.elem r=true):yxz l (n+1) r=yxz l n (r+1):=by
 show(if l.elem r then _ else _)=_;rw[if_pos h]
theorem ybsc{l:List Int}{n:Nat}{r:Int}(h:l.elem r=false):yxz l n r=r:=by
 cases n with
 |zero=>rfl
 |succ n=>show(if l.elem r then _ else _)=_;rw[if_neg (by rw[h];simp)]
theorem ybik{l:List Int}{k:Nat}(h:∀j:Nat,j<k->l.elem (j:Int)=true):k<=l.length:=by
 have d:((zT k).map fun(j:Nat)=>(j:Int)).Nodup:=by
  rw[List.Nodup,zBB];exact List.nodup_range.imp fun {a b} c e=>c (by omega)
 have f:((zT k).map fun(j:Nat)=>(j:Int)) ⊆ l:=fun x i=>by
  obtain⟨j,g,rfl⟩:=List.mem_map.1 i;have:=h j (List.mem_range.1 g)
  simpa using this
 have:=List.Nodup.length_le_of_subset d f
 simpa using this
theorem ydev(l:List Int)(e:l.length<=1000):Returns zC 254 [ybb l] (.i .i64 (mexP l)):=by
 refine Returns.of (ydlk _ _ ?_);simp only[c254,yctv,ydej,ybb,go_sem];refine ybd (σ:=Nat) (fun k=>⟨[(3,.i .i64 k),(0,ybb l)],[]⟩) (fun k=>(∀j:Nat,j<k->l.elem (j:Int)=true)/\mexP l=yxz l (l.length+1-k) k) (fun k=>l.length+1-k) 0 ⟨fun j h=>absurd h (zAV _),rfl⟩ ?_ ?_
 .refine yu ?_;simp only[ybb,wk,go_sem,↓reduceIte,reduceCtorEq]
 .intro k ⟨hk,he⟩;have c:=ybik hk;simp only[yded,ycsk,ycxm,ybb,go_sem,zA,zB,↓reduceIte,reduceCtorEq];refine(ybih l k (by omega)).use ?_
  simp only[ybj,ych,go_sem,zA,zB,↓reduceIte,reduceCtorEq];refine⟨fun h=>⟨ikw (by omega) (by omega),?_⟩,fun h=>?_⟩
  .have a:∀j:Nat,j<k+1->l.elem (j:Int)=true:=fun j d=>by
    by_cases q:j<k
    .exact hk j q
    .obtain rfl:j=k:=by omega
     exact h
   have b:=ybik a;refine yh (k+1) ⟨a,?_⟩ (by omega) ?_
   .rw[he,show l.length+1-k=(l.length+1-(k+1))+1 by omega,ybsy h];simp
   .refine yu ?_;simp only[wk,go_sem,↓reduceIte,reduceCtorEq];simp
  .rw[he,ybsc h]
theorem ybwj(x:Int):Returns zC 252 [.i .i64 x] (.b (x != 0)):=by
 refine Returns.of (ydlp _ _ ?_);simp only[c252,ycqm,ycve,yts,go_sem,zA,zB]
theorem ybdg(l:List Int)(d:l.length<=1000):Returns zC 251 [ybb l,.fn 252 [] []] (.i .i64 (yfe l)):=by
 refine Returns.of (ydlx _ _ ?_);simp only[c251,ycyc,ycvz,ybb,go_sem,zB,↓reduceIte,reduceCtorEq];refine ybd (σ:=Nat) (fun k=>⟨[(8,.i .i64 k),(0,ybb l),(1,.fn 252 [] []),(7,.i .i64 l.length)],[]⟩) (fun k=>k<=l.length/\(l.take k).findIdx? (· != 0)=none) (fun k=>l.length-k) 0 ⟨zK _,by simp⟩ ?_ ?_
 .refine yu ?_;simp only[ybb,wk,go_sem,zA,↓reduceIte,reduceCtorEq]
 .intro k ⟨hk,hno⟩;simp only[yddq,yczk,ycpw,yczi,ycpx,ycui,ybb,ych,go_sem,zA,zB,↓reduceIte,reduceCtorEq];refine⟨fun a=>⟨by omega,(ybwj _).use ?_⟩,fun a=>?_⟩
  .have a:k<l.length:=by omega
   simp only[ybj,ych,go_sem,zA,zB,↓reduceIte,reduceCtorEq];rw[getD_at a];refine⟨fun b=>?_,fun b=>⟨ikw (by omega) (by omega),?_⟩⟩
   .have:l.findIdx? (· != 0)=some k:=by
     rw[zS];refine⟨a,by simpa using b,fun j c=>?_⟩
     rw[zU]at hno;have:=hno l[j] (List.mem_take_iff_getElem.2 ⟨j,by omega,rfl⟩)
     simpa using this
    unfold yfe;rw[this]
   .refine yh (k+1) ⟨by omega,?_⟩ (by omega) ?_
    .rw[zH a,zAD,hno];simp[b]
    .refine yu ?_;simp only[wk,go_sem,zA,↓reduceIte,reduceCtorEq];simp
  .obtain rfl:k=l.length:=by omega
   rw[zAC]at hno;unfold yfe;rw[hno]
end Sh
end
section
namespace Sh
open Go Ev
theorem yblt{l:List Int}{k:Nat}(h:k<l.length):ydz (l.take (k+1))=min (ydz (l.take k)) (l.getD k 0):=by
 unfold ydz;rw[zH h,zQ,getD_at h];rfl
theorem ybeq{l:List Int}{k:Nat}(h:k<l.length):(l.take (k+1)).sum=(l.take k).sum+l.getD k 0:=by
 rw[zH h,List.sum_append,getD_at h];simp
theorem yciu{l:List Int}(h:∀x∈l,InB x):∀k,k<=l.length -> -1073741824*(k:Int)<=(l.take k).sum/\(l.take k).sum<=1073741824*(k:Int)
 |0,_=>by simp
 | k+1,hk=>by
   have a:=yciu h k (by omega)
   rw[ybeq (by omega)]
   have:=h l[k] (zJ (by omega))
   rw[<-getD_at (d:=0) (show k<l.length by omega)]at this
   unfold InB at this;omega
theorem yckz(t:Int)(l:List Int)(y:l.length<=24)(q:∀x∈l,InB x):Returns zC 241 [.i .i64 t,ybb l] (.i .i64 (yjj t l)):=by
 refine Returns.of (ydkl _ _ ?_);have w:∀k,k<l.length->InB (l.getD k 0):=fun k hk=>by rw[getD_at hk];exact q _ (zJ hk)
 obtain⟨L,u⟩:∃L,ybb l=L:=⟨_,rfl⟩;have v:L = .sl 1 l.length (fun k=>[.i .i64 (l.getD k 0)]):=u.symm;simp only[c241,ycsh,ydbv,ycwi,ycqe,ydan,ycqh,yczh,ycyp,ycqr,ycqu,ycde,ycex,ycec,yciv,ybxh,ycbq,ycit,ycbd,ycdy,ybyr,ycgd,ybyj,ycfb,ybxj,ybww,ycfn,ybwk,ycfo,ycct,yccy,ycgz,ycil,ybzt,ybzg,ycbt,ycgv,ybwr,ybb,go_sem,zAK,zA,zB];have a:=ycag l (by omega)
 have c:=yvk l (by omega)
 simp only[ybb]at a c;refine⟨fun d=>a.use ?_,fun d=>⟨fun e=>a.use ?_,fun e=>⟨fun f=>a.use ?_,fun f=>⟨fun g=>?_,fun g=>⟨fun h=>?_,fun h=>⟨fun j=>c.use ?_,fun j=>⟨fun m=>?_,fun m=>⟨fun n=>?_,fun n=>⟨fun o=>c.use ?_,fun o=>?_⟩⟩⟩⟩⟩⟩⟩⟩⟩
 .simp only[ybj,go_sem,zA,zB];refine(yfd _).use ?_;simp only[ych,go_sem];simp[yjj,d]
 .simp only[ybj,go_sem,zA,zB];refine(yfd _).use ?_;simp only[ych,go_sem];simp[yjj,e]
 .simp only[ybj,ych,go_sem,zA,zB];simp[yjj,f]
 .have:=ybdg l (by omega)
  simp only[ybb]at this;refine this.use ?_;simp only[ybj,ych,go_sem,zA,zB];simp[yjj,g]
 .refine ybd (σ:=Nat) (fun k=>⟨[(42,.i .i64 k),(5,.i .i64 (ydz (l.take k))),(40,ybb l),(41,.i .i64 l.length)],[]⟩) (fun k=>k<=l.length) (fun k=>l.length-k) 0 (zK _) ?_ ?_
  .refine yu ?_;simp only[ybb,wk,go_sem,zA];simp[ydz]
  .intro k hk;simp only[ybb,ych,go_sem,zA,zB];refine⟨fun p=>⟨by omega,ikw (by omega) (by omega),?_⟩,fun p=>?_⟩
   .have b:k<l.length:=by omega
    refine ycb (k+1) ?_;refine yu ?_;simp only[yblt b,wk,go_sem,zA];simp
   .rw[zZ (by omega)]
    simp[yjj,h]
 .simp only[ybj,ych,go_sem,zA,zB];simp[yjj,j]
 .refine ybd (σ:=Nat) (fun k=>⟨[(63,.i .i64 k),(10,.i .i64 (l.take k).sum),(61,ybb l),(62,.i .i64 l.length)],[]⟩) (fun k=>k<=l.length) (fun k=>l.length-k) 0 (zK _) ?_ ?_
  .refine yu ?_;simp only[ybb,wk,go_sem,zA];simp
  .intro k hk;simp only[ybb,go_sem,zA,zB];have z:=yciu q k hk;refine⟨fun p=>?_,fun p=>(yev _).use ?_⟩
   .have b:k<l.length:=by omega
    have r:=yciu q (k+1) b;rw[ybeq b]at r;refine⟨by omega,ikw (by omega) (by omega),ikw (by omega) (by omega),?_⟩
    refine ycb (k+1) ?_;refine yu ?_;simp only[ybeq b,wk,go_sem,zA];simp
   .simp only[ybj,ych,go_sem,zA,zB];rw[zZ (by omega)]
    simp[yjj,m]
 .have:=ydev l (by omega)
  simp only[ybb]at this;refine this.use ?_;simp only[ybj,ych,go_sem,zA,zB];simp[yjj,n]
 .simp only[ybj,ych,go_sem,zA,zB];simp[yjj,o]
 .refine⟨fun s=>?_,fun s=>⟨by omega,?_⟩⟩
  .simp only[ych,go_sem];have:l=[]:=zX (by omega)
   simp[yjj,d,e,f,g,h,j,m,n,o,this]
  .cases l with
   |nil=>simp at s
   | cons x l=>
     simp only[ych,go_sem];simp[yjj,d,e,f,g,h,j,m,n,o]
end Sh
end
section
def Ex.shp:Ex->Bool
 |.leaf c _=>decide (1<=c/\c<=17)
 |.un c a=>decide (18<=c/\c<=29)&&a.shp
 |.agg c a=>decide (18<=c/\c<=29)&&a.shp
 |.bin c a b=>decide (30<=c/\c<=42)&&a.shp&&b.shp
 |.ite x a b=>x.shp&&a.shp&&b.shp
theorem Ex.ok_shp{e:Int}:∀(x:Ex) {c:Bool},x.ok e c=true->x.shp=true
 | .leaf d arg,c,h=>by
   simp only[Ex.ok,zF]at h;exact h.1.1
 | .un d a,c,h=>by
   simp only[Ex.ok,zF,decide_eq_true_eq]at h;simp only[Ex.shp,zF,decide_eq_true_eq];exact⟨by omega,Ex.ok_shp a h.2⟩
 | .agg d a,c,h=>by
   simp only[Ex.ok,zF,decide_eq_true_eq]at h;simp only[Ex.shp,zF,decide_eq_true_eq];exact⟨by omega,Ex.ok_shp a h.2⟩
 | .bin d a b,c,h=>by
   simp only[Ex.ok,zF,decide_eq_true_eq]at h;simp only[Ex.shp,zF,decide_eq_true_eq];exact⟨⟨h.1.1,Ex.ok_shp a h.1.2⟩,Ex.ok_shp b h.2⟩
 | .ite x a b,c,h=>by
   simp only[Ex.ok,zF]at h;simp only[Ex.shp,zF];exact⟨⟨Ex.ok_shp x h.1.1,Ex.ok_shp a h.1.2⟩,Ex.ok_shp b h.2⟩
def yoc(a:Int):Int:=if a<1\/a>43 then -1 else if a<=17 then 0 else if a<=29 then 1 else if a<=42 then 2 else 3
def serL(a:List Ex):List Tm:=(a.map Ex.ser).flatten
def Ex.head:Ex->Tm
 |.leaf a arg=>(a,arg)
 |.un a _=>(a,0)
 |.agg a _=>(a,0)
 |.bin a _ _=>(a,0)
 |.ite _ _ _=>(43,0)
def Ex.subs:Ex->List Ex
 |.leaf _ _=>[]
 |.un _ a=>[a]
 |.agg _ a=>[a]
 |.bin _ a b=>[a,b]
 |.ite x a b=>[x,a,b]
theorem Ex.ser_eq(x:Ex):x.ser=x.head::serL x.subs:=by
 cases x<;>simp[Ex.ser,Ex.head,Ex.subs,serL]
theorem yclg{a:Int}(h:1<=a/\a<=17):yoc a=0:=by
 unfold yoc;rw[if_neg (by omega),if_pos (by omega)]
theorem ybri{a:Int}(h:18<=a/\a<=29):yoc a=1:=by
 unfold yoc;rw[if_neg (by omega),if_neg (by omega),if_pos (by omega)]
theorem ycmv{a:Int}(h:30<=a/\a<=42):yoc a=2:=by
 unfold yoc;rw[if_neg (by omega),if_neg (by omega),if_neg (by omega),if_pos (by omega)]
theorem Ex.arity(x:Ex)(h:x.shp=true):yoc x.head.1=x.subs.length:=by
 cases x with
 |leaf c arg=>simp only[Ex.shp,decide_eq_true_eq]at h;exact yclg h
 |un c a=>simp only[Ex.shp,zF,decide_eq_true_eq]at h;exact ybri h.1
 |agg c a=>simp only[Ex.shp,zF,decide_eq_true_eq]at h;exact ybri h.1
 |bin c a b=>simp only[Ex.shp,zF,decide_eq_true_eq]at h;exact ycmv h.1.1
 |ite x a b=>simp[Ex.head,Ex.subs,yoc]
theorem Ex.subs_shp(x:Ex)(h:x.shp=true):∀y∈x.subs,y.shp=true:=by
 cases x with
 |leaf d arg=>intro y c;cases c
 |un d a=>simp only[Ex.shp,zF]at h;intro y c;simp[Ex.subs]at c;subst c;exact h.2
 |agg d a=>simp only[Ex.shp,zF]at h;intro y c;simp[Ex.subs]at c;subst c;exact h.2
 |bin d a b=>simp only[Ex.shp,zF]at h;intro y c;simp[Ex.subs]at c;rcases c with rfl|rfl<;>first|exact h.1.2|exact h.2
 |ite x a b=>simp only[Ex.shp,zF]at h;intro y c;simp[Ex.subs]at c;rcases c with rfl|rfl|rfl<;>first|exact h.1.1|exact h.1.2|exact h.2
theorem ygb{e:List Tm}{at_:Nat}{t:Tm}{r:List Tm}(h:e.drop at_=t::r):at_<e.length/\e.getD at_ (0,0)=t/\e.drop (at_+1)=r:=by
 have a:at_<e.length:=by
  refine zBR fun b=>?_;rw[List.drop_of_length_le (by omega)]at h;cases h
 refine⟨a,?_,?_⟩
 .rw[zAR a]at h;simp only[List.cons.injEq]at h;simp[zM,a,h.1]
 .rw[zAR a]at h;simp only[List.cons.injEq]at h;exact h.2
namespace Sh
open Go Ev
theorem ybxo(c:Int):Returns zC 231 [.i .i64 c] (.i .i64 (yoc c)):=by
 refine Returns.of (ydim _ _ ?_);simp only[c231,ycrw,ycvc,ydbm,yddt,ycqc,ycuz,ycvv,yddm,ydde,yddh,ych,yoc,go_sem,zA,zB];refine⟨fun e=>⟨fun h=>by rw[if_pos (.inr h)],fun f=>⟨fun h=>by rw[if_neg (by omega),if_pos h],fun a=>⟨fun h=>by rw[if_neg (by omega),if_neg a,if_pos h],fun b=>⟨fun h=>by rw[if_neg (by omega),if_neg a,if_neg b,if_pos h],fun d=>by rw[if_neg (by omega),if_neg a,if_neg b,if_neg d]⟩⟩⟩⟩,fun h=>by rw[if_pos (.inl h)]⟩
theorem ydgd(e:List Tm)(x:Ex)(at_:Nat)(rest:List Tm)(u:x.shp=true)(j:e.drop at_=x.ser++rest)(B:e.length<=1000):Returns zC 215 [yx e,.i .i64 at_] (.i .i64 ((at_+x.ser.length:Nat):Int)):=by
 refine Returns.of (ydlh _ _ ?_)
 have A:at_<e.length:=by
  rw[x.ser_eq]at j;exact(ygb j).1
 simp only[c215,ycst,ycut,ycyo,yddw,yx,ych,go_sem,zA,zB];refine⟨fun _=>⟨fun h=>by omega,fun _=>?_⟩,fun h=>by omega⟩
 refine ybd (σ:=Nat×List Ex) (fun p=>⟨[(1,.i .i64 p.1),(5,.i .i64 p.2.length),(0,yx e)],[]⟩)
  (fun p=>e.drop p.1=serL p.2++rest/\p.2≠[]/\(∀y∈p.2,y.shp=true)/\p.1+(serL p.2).length=at_+x.ser.length/\p.2.length<=3*p.1+1) (fun p=>e.length-p.1) (at_,[x]) ⟨by simpa[serL]using j,by simp,by simpa using u,by simp[serL],by simp⟩ ?_ ?_
 .refine yu ?_;simp only[yx,wk,go_sem,zA];simp
 .rintro⟨k,b⟩ ⟨hk,m,f,a,n⟩;cases b with
  |nil=>exact absurd rfl m
  | cons y b =>
    dsimp only at hk a n ⊢
    have d:serL (y::b)=y.head::(serL y.subs++serL b):=by
     show(y.ser++serL b)=_;rw[y.ser_eq];rfl
    rw[d]at hk a;obtain⟨d1,d2,d3⟩:=ygb hk;have r:=f y zAE;have g:=y.arity r;have o:y.subs.length<=3:=by cases y<;>simp[Ex.subs]
    simp only[zBC]at n a;simp only[yctg,ycvk,ycue,ycry,yctz,ycwa,ycfe,ycff,ycis,yx,ych,go_sem,zA,zB,zD];refine⟨fun l=>⟨by omega,(ybxo _).use ?_⟩,fun l=>by omega⟩
    rw[d2,g];simp only[ybj,ych,go_sem,zA,zB];refine⟨fun h=>by omega,fun _=>⟨ikw (by omega) (by omega),ikw (by simp;omega) (by simp;omega),fun h=>⟨ikw (by omega) (by omega),?_⟩,fun h=>⟨ikw (by omega) (by omega),?_⟩⟩⟩
    .have s:b=[]:=zX (by omega)
     have t:y.subs=[]:=zX (by omega)
     subst s;rw[t]at a;simp[serL]at a;omega
    .have c:y.subs++b≠[]:=fun q=>by
      have w:=congrArg zAH q;simp only[zAN,zAU]at w;omega
     refine yh (k+1,y.subs++b) ⟨?_,c,?_,?_,?_⟩ (by dsimp only;omega) ?_
     .dsimp only
      rw[d3];simp[serL]
     .intro z v;rcases List.mem_append.1 v with q|q
      .exact y.subs_shp r z q
      .exact f z (zAB _ q)
     .dsimp only
      have:(serL (y.subs++b)).length=(serL y.subs++serL b).length:=by simp[serL]
      rw[this];omega
     .dsimp only
      simp only[zAN];omega
     .refine yu ?_;simp only[wk,go_sem,zA];simp;omega
end Sh
end
section
namespace Sh
open Go Ev
def varC(x:VarR):List SV:=[.a (.string x.name),.i .i64 x.kind,.i .i64 x.lo,.i .i64 x.hi,.i .i64 x.perNode,.i .i64 x.perID]
def yfk(l:List VarR):SV:=.sl 6 l.length (fun k=>varC (l.getD k default))
def yju(l:List SetR):SV:=.sl 2 l.length (fun k=>[.i .i64 (l.getD k default).var,yx (l.getD k default).val])
def ydn(l:List RuleR):SV:=.sl 3 l.length (fun k=>[.a (.string (l.getD k default).name),yx (l.getD k default).guard,yju (l.getD k default).sets])
def yoq(p:ProgR):List SV:=[.a (.string p.name),yfk p.vars,ydn p.rules]
def yem(g:Gr):SV:=.sl 1 g.ports.length (fun v=>[ybb (yma g v)])
def ygw(p:ProgR)(g:Gr):List SV:=[.a (.string p.name),yfk p.vars,ydn p.rules,ybb g.ids,yj g.ports,.i .i64 (ybsd g),yem g]
def yks(p:ProgR)(g:Gr)(c:Conf)(v:Nat)(e:List Tm):List SV:=[.rf (ygw p g),yct c,.i .i64 v,yx e]
theorem ybsi(l:List Int):one1 (ybb l)=true:=rfl
theorem yblz{n:Nat}(l:List Int):owned (n+1) (ybb l)=false:=rfl
theorem ybgn{n:Nat}(l:List Int):scalar (n+1) (ybb l)=false:=rfl
theorem ybsr{n:Nat}(o:Own)(l:List Int):view o (n+1) (ybb l)=ybb l:=rfl
theorem yccz{n:Nat}(o:Own)(l:List Int):vok o (n+1) (ybb l)=True:=rfl
theorem yccd{n:Nat}(h:Nm->Nm)(l:List Int):ren h (n+1) (ybb l)=ybb l:=rfl
theorem ycfw{n:Nat}(L:Nm->Bool)(l:List Int):cln L (n+1) (ybb l)=true:=rfl
theorem ybmv(l:List (Int×Int)):one1 (yx l)=true:=rfl
theorem ybhb{n:Nat}(l:List (Int×Int)):owned (n+1) (yx l)=false:=rfl
theorem ybcu{n:Nat}(l:List (Int×Int)):scalar (n+1) (yx l)=false:=rfl
theorem ybnc{n:Nat}(o:Own)(l:List (Int×Int)):view o (n+1) (yx l)=yx l:=rfl
theorem ybvn{n:Nat}(o:Own)(l:List (Int×Int)):vok o (n+1) (yx l)=True:=rfl
theorem ybsn{n:Nat}(h:Nm->Nm)(l:List (Int×Int)):ren h (n+1) (yx l)=yx l:=rfl
theorem ybur{n:Nat}(L:Nm->Bool)(l:List (Int×Int)):cln L (n+1) (yx l)=true:=rfl
theorem ybnj(l:List (List (Int×Int))):one1 (yj l)=true:=rfl
theorem ybgd{n:Nat}(l:List (List (Int×Int))):owned (n+1) (yj l)=false:=rfl
theorem ybcr{n:Nat}(l:List (List (Int×Int))):scalar (n+1) (yj l)=false:=rfl
theorem ybkx{n:Nat}(o:Own)(l:List (List (Int×Int))):view o (n+1) (yj l)=yj l:=rfl
theorem ybvj{n:Nat}(o:Own)(l:List (List (Int×Int))):vok o (n+1) (yj l)=True:=rfl
theorem ybrw{n:Nat}(h:Nm->Nm)(l:List (List (Int×Int))):ren h (n+1) (yj l)=yj l:=rfl
theorem ybty{n:Nat}(L:Nm->Bool)(l:List (List (Int×Int))):cln L (n+1) (yj l)=true:=rfl
theorem ybsw(l:List (List Int)):one1 (yct l)=true:=rfl
theorem ybkf{n:Nat}(l:List (List Int)):owned (n+1) (yct l)=false:=rfl
theorem ybhv{n:Nat}(l:List (List Int)):scalar (n+1) (yct l)=false:=rfl
theorem ybtw{n:Nat}(o:Own)(l:List (List Int)):view o (n+1) (yct l)=yct l:=rfl
theorem ycdk{n:Nat}(o:Own)(l:List (List Int)):vok o (n+1) (yct l)=True:=rfl
theorem ycfm{n:Nat}(h:Nm->Nm)(l:List (List Int)):ren h (n+1) (yct l)=yct l:=rfl
theorem ycgl{n:Nat}(L:Nm->Bool)(l:List (List Int)):cln L (n+1) (yct l)=true:=rfl
theorem ybvb(l:List VarR):one1 (yfk l)=true:=rfl
theorem ybms{n:Nat}(l:List VarR):owned (n+1) (yfk l)=false:=rfl
theorem ybgy{n:Nat}(l:List VarR):scalar (n+1) (yfk l)=false:=rfl
theorem ybuu{n:Nat}(o:Own)(l:List VarR):view o (n+1) (yfk l)=yfk l:=rfl
theorem ycbx{n:Nat}(o:Own)(l:List VarR):vok o (n+1) (yfk l)=True:=rfl
theorem ycas{n:Nat}(h:Nm->Nm)(l:List VarR):ren h (n+1) (yfk l)=yfk l:=rfl
theorem yceo{n:Nat}(L:Nm->Bool)(l:List VarR):cln L (n+1) (yfk l)=true:=rfl
theorem ybud(l:List SetR):one1 (yju l)=true:=rfl
theorem ybka{n:Nat}(l:List SetR):owned (n+1) (yju l)=false:=rfl
theorem ybhn{n:Nat}(l:List SetR):scalar (n+1) (yju l)=false:=rfl
theorem ybsg{n:Nat}(o:Own)(l:List SetR):view o (n+1) (yju l)=yju l:=rfl
theorem ybyi{n:Nat}(o:Own)(l:List SetR):vok o (n+1) (yju l)=True:=rfl
theorem ybzu{n:Nat}(h:Nm->Nm)(l:List SetR):ren h (n+1) (yju l)=yju l:=rfl
theorem ycgj{n:Nat}(L:Nm->Bool)(l:List SetR):cln L (n+1) (yju l)=true:=rfl
theorem ybni(l:List RuleR):one1 (ydn l)=true:=rfl
theorem ybij{n:Nat}(l:List RuleR):owned (n+1) (ydn l)=false:=rfl
theorem ybcs{n:Nat}(l:List RuleR):scalar (n+1) (ydn l)=false:=rfl
theorem ybnr{n:Nat}(o:Own)(l:List RuleR):view o (n+1) (ydn l)=ydn l:=rfl
theorem ybso{n:Nat}(o:Own)(l:List RuleR):vok o (n+1) (ydn l)=True:=rfl
theorem ybuy{n:Nat}(h:Nm->Nm)(l:List RuleR):ren h (n+1) (ydn l)=ydn l:=rfl
theorem ybux{n:Nat}(L:Nm->Bool)(l:List RuleR):cln L (n+1) (ydn l)=true:=rfl
theorem ybkw(l:Gr):one1 (yem l)=true:=rfl
theorem ybgl{n:Nat}(l:Gr):owned (n+1) (yem l)=false:=rfl
theorem ybea{n:Nat}(l:Gr):scalar (n+1) (yem l)=false:=rfl
theorem ybmh{n:Nat}(o:Own)(l:Gr):view o (n+1) (yem l)=yem l:=rfl
theorem ybtp{n:Nat}(o:Own)(l:Gr):vok o (n+1) (yem l)=True:=rfl
theorem ybul{n:Nat}(h:Nm->Nm)(l:Gr):ren h (n+1) (yem l)=yem l:=rfl
theorem ybum{n:Nat}(L:Nm->Bool)(l:Gr):cln L (n+1) (yem l)=true:=rfl
theorem yblh{n:Nat}(a:List Nm)(o:Own)(l:List Int):ydt a o (n+1) (ybb l)=ybb l:=rfl
theorem ycbj{n:Nat}(a:List Nm)(o:Own)(l:List Int):pok a o (n+1) (ybb l)=True:=rfl
theorem ybiu{n:Nat}(a:List Nm)(o:Own)(l:List (Int×Int)):ydt a o (n+1) (yx l)=yx l:=rfl
theorem ybvc{n:Nat}(a:List Nm)(o:Own)(l:List (Int×Int)):pok a o (n+1) (yx l)=True:=rfl
theorem ybjd{n:Nat}(a:List Nm)(o:Own)(l:List (List (Int×Int))):ydt a o (n+1) (yj l)=yj l:=rfl
theorem ybtb{n:Nat}(a:List Nm)(o:Own)(l:List (List (Int×Int))):pok a o (n+1) (yj l)=True:=rfl
theorem ybmn{n:Nat}(a:List Nm)(o:Own)(l:List (List Int)):ydt a o (n+1) (yct l)=yct l:=rfl
theorem ybxp{n:Nat}(a:List Nm)(o:Own)(l:List (List Int)):pok a o (n+1) (yct l)=True:=rfl
theorem ybkd{n:Nat}(a:List Nm)(o:Own)(l:List VarR):ydt a o (n+1) (yfk l)=yfk l:=rfl
theorem ychi{n:Nat}(a:List Nm)(o:Own)(l:List VarR):pok a o (n+1) (yfk l)=True:=rfl
theorem yblm{n:Nat}(a:List Nm)(o:Own)(l:List SetR):ydt a o (n+1) (yju l)=yju l:=rfl
theorem ybyb{n:Nat}(a:List Nm)(o:Own)(l:List SetR):pok a o (n+1) (yju l)=True:=rfl
theorem ybiv{n:Nat}(a:List Nm)(o:Own)(l:List RuleR):ydt a o (n+1) (ydn l)=ydn l:=rfl
theorem ybru{n:Nat}(a:List Nm)(o:Own)(l:List RuleR):pok a o (n+1) (ydn l)=True:=rfl
theorem ybho{n:Nat}(a:List Nm)(o:Own)(l:Gr):ydt a o (n+1) (yem l)=yem l:=rfl
theorem ybun{n:Nat}(a:List Nm)(o:Own)(l:Gr):pok a o (n+1) (yem l)=True:=rfl
theorem yblq(l:List Int):SV.cells (ybb l)=[ybb l]:=rfl
theorem ybfx(l:List (Int×Int)):SV.cells (yx l)=[yx l]:=rfl
theorem ybis(l:List (List (Int×Int))):SV.cells (yj l)=[yj l]:=rfl
theorem ybkr(l:List (List Int)):SV.cells (yct l)=[yct l]:=rfl
theorem ybmp(l:List VarR):SV.cells (yfk l)=[yfk l]:=rfl
theorem ybnd(l:List SetR):SV.cells (yju l)=[yju l]:=rfl
theorem ybfs(l:List RuleR):SV.cells (ydn l)=[ydn l]:=rfl
theorem ybfd(l:Gr):SV.cells (yem l)=[yem l]:=rfl
attribute [go_sem] ybsi yblz ybgn ybsr yccz yccd ycfw ybmv ybhb ybcu ybnc ybvn ybsn ybur
attribute [go_sem] ybnj ybgd ybcr ybkx ybvj ybrw ybty ybsw ybkf ybhv ybtw ycdk ycfm
attribute [go_sem] ycgl ybvb ybms ybgy ybuu ycbx ycas yceo ybud ybka ybhn ybsg ybyi ybzu
attribute [go_sem] ycgj ybni ybij ybcs ybnr ybso ybuy ybux ybkw ybgl ybea ybmh ybtp
attribute [go_sem] ybul ybum yblh ycbj ybiu ybvc ybjd ybtb ybmn ybxp ybkd ychi yblm ybyb
attribute [go_sem] ybiv ybru ybho ybun yblq ybfx ybis ybkr ybmp ybnd ybfs ybfd
end Sh
end
section
namespace Sh
open Go Ev
theorem ycjm(p:ProgR){g:Gr}(q:ybi g)(b:Int){v:Nat}(u:v<g.ports.length)(a:Int)(t:b=6\/b=7\/b=8\/b=9\/b=10\/b=11\/(0<=a/\a<(g.ports.getD v []).length)) :
 Returns zC 239 [.rf (ygw p g),.i .i64 b,.i .i64 v,.i .i64 a] (.i .i64 (yqa g b v a)):=by
 refine Returns.of (ydig _ _ ?_);have r:=q.2.2.1;simp only[c239,ydbr,ydaj,ydby,yczl,ycpu,ycum,ycze,ydeh,yddr,ycsa,ychg,ycac,ycfj,ycgw,ybyf,ycfx,ycak,ybwg,ycau,yccp,ycgr,ycck,yccq,ycgh,ybxf,ygw,ybb,yj,yx,yem,ych,go_sem,zA,zB,zD,zG];refine⟨fun k=>?_,fun k=>⟨fun l=>?_,fun l=>⟨fun m=>⟨by omega,?_⟩,fun m=>⟨fun n=>⟨by omega,?_⟩,fun n=>⟨fun c=>(yfd _).use ?_,fun c=>⟨fun d=>?_,fun d=>?_⟩⟩⟩⟩⟩⟩
 .simp[yqa,k]
 .simp[yqa,l]
 .simp[yqa,m]
 .simp[yqa,n]
 .simp only[ybj,ych,go_sem,zA,zB];simp[yqa,c]
 .simp[yqa,d]
 .have t:0<=a/\a<(g.ports.getD v []).length:=by omega
  have o:a.toNat<(g.ports.getD v []).length:=by omega
  have s:=q.ydo u o;unfold ydo at s;refine⟨by omega,by omega,fun e=>⟨by omega,?_⟩,fun e=>⟨fun f=>⟨by omega,?_⟩,fun f=>⟨fun h=>(yfd _).use ?_,fun h=>⟨fun j=>?_,fun j=>⟨by omega,?_⟩⟩⟩⟩⟩
  .simp[yqa,e,ydo]
  .simp[yqa,f,ydo]
  .simp only[ybj,ych,go_sem,zA,zB];simp[yqa,h,ydo]
  .simp[yqa,j,ydo]
  .refine⟨by rw[show(yma g v).length=(g.ports.getD v []).length from zBJ _];omega,?_⟩
   simp[yqa,k,l,m,n,c,d,e,f,h,j]
theorem yckx(p:ProgR){g:Gr}(y:ybi g){C:Nat}{c:Conf}(r:ConfIn g.ports.length C c){v:Nat}(w:v<g.ports.length)(e:List Tm){j arg:Int}{h:Bool}(A:(Ex.leaf j arg).ok C h=true)(a:Int)(s:h=true->0<=a/\a<(g.ports.getD v []).length) :
 Returns zC 220 [.rf (yks p g c v e),.ag [.i .i64 j,.i .i64 arg],.i .i64 a] (.i .i64 (yvx g c j arg v a)):=by
 refine Returns.of (ydjc _ _ ?_);simp only[Ex.ok,zF,decide_eq_true_eq]at A;obtain⟨⟨E,b⟩,d⟩:=A;have z:=r.len;have B:=r.at_ w;have x:=ycjm p y j w a;simp only[ygw,ybb,yj,yx,yem]at x;simp only[c220,ycsc,ycvr,ycte,ydbt,yctc,ycuu,ycxd,ydbb,ycqz,ydac,ybym,ybwt,ycic,ycer,ychq,yks,yct,ygw,ybb,yj,yx,yem,ych,go_sem,zA,zB,zD,zG];refine⟨fun k=>?_,fun k=>⟨fun l=>?_,fun l=>⟨fun m=>?_,fun m=>⟨fun n=>?_,fun n=>⟨fun o=>?_,fun o=>⟨fun f=>?_,fun f=>(x ?_).use ?_⟩⟩⟩⟩⟩⟩
 .simp[yvx,k]
 .simp[yvx,l]
 .simp[yvx,m]
 .simp[yvx,n]
 .rw[if_neg (by omega),if_pos (by omega)]at b
  have b:=of_decide_eq_true b;refine⟨by omega,by omega,?_⟩
  simp[yvx,o]
 .rw[if_neg (by omega),if_pos (by omega)]at b
  have b:=of_decide_eq_true b;rw[if_pos (by omega)]at d
  have s:=s d;have t:a.toNat<(g.ports.getD v []).length:=by omega
  have D:=y.ydo w t;have u:=r.at_ (v:=(ydo g v a.toNat).1.toNat) (by omega)
  unfold ydo at D u;refine⟨by omega,by omega,by omega,by omega,?_⟩
  simp[yvx,f,ydo]
 .by_cases q:11<=j
  .rw[if_pos q]at d;have:=s d;omega
  .omega
 .simp only[ybj,ych,go_sem,zA,zB];simp[yvx,k,l,m,n,o,f]
theorem yux{e:List Tm}{at_:Nat}{a b:List Tm}(h:e.drop at_=a++b):e.drop (at_+a.length)=b:=by
 rw[<-List.drop_drop,h,List.drop_left]
theorem ycod{n:Nat}{a:Nat->List SV}{l:List Int}(b:n=l.length)(h:∀k,k<n->a k=[.i .i64 (l.getD k 0)]):Sim (.sl 1 n a) (ybb l):=by
 subst b;exact ybql h
def ybxm(p:ProgR)(g:Gr)(d:Nat)(c:Conf)(v:Nat)(e:List Tm)(x:Ex):Prop :=
 ∀ (b:Bool) (a:Int) (at_:Nat) (rest:List Tm),x.ok d b=true->(b=true->0<=a/\a<(g.ports.getD v []).length)->InB a->e.drop at_=x.ser++rest ->
   Returns zC 205 [.rf (yks p g c v e),.i .i64 at_,.i .i64 a] (.tp [.i .i64 (ycp g c v x a),.i .i64 ((at_+x.ser.length:Nat):Int)])
theorem ybdw(p:ProgR){g:Gr}(C:ybi g){y:Nat}{c:Conf}(H:ConfIn g.ports.length y c){v:Nat}(M:v<g.ports.length)(e:List Tm)(L:e.length<=1000){f:Int}{a:Ex}(o:(Ex.agg f a).ok y true=true)(O:ybxm p g y c v e a)(at_:Nat)(rest:List Tm)(r:e.drop at_=(Ex.agg f a).ser++rest) :
 Returns zC 222 [.rf (yks p g c v e),.i .i64 f,.i .i64 at_] (.tp [.i .i64 (ycp g c v (.agg f a) 0),.i .i64 ((at_+(Ex.agg f a).ser.length:Nat):Int)]):=by
 have u:=o;simp only[Ex.ok,zF,decide_eq_true_eq]at o;have I:=C.deg_lt (v:=v);obtain⟨b,h⟩:∃d,(g.ports.getD v []).length=d:=⟨_,rfl⟩;rw[h]at I;have s:∀q:Nat,q<b->InB (ycp g c v a q):=fun q D=>yiu C rfl H M a o.2 (fun _=>by omega) (by unfold InB;omega)
 have w:=Ex.ok_shp _ u;have j:e.drop (at_+1)=a.ser++rest:=(ygb (show e.drop at_=(f,0)::(a.ser++rest)from r)).2.2
 have G:=(ygb (show e.drop at_=(f,0)::(a.ser++rest)from r)).1
 have B:at_+1+a.ser.length<=e.length:=by
  have:=congrArg zAH j;simp at this;omega
 refine Returns.of (ydkw _ _ ?_);simp only[c222,ycxg,ycwe,ycri,ycwj,yks,yct,ygw,ybb,yj,yx,yem,h,go_sem,zA,zB,zD,zG];refine⟨by omega,?_⟩
 let val:Nat->Int:=fun q=>ycp g c v a q
 refine ybd (σ:=Nat) (fun k=>⟨[(27,.i .i64 k),(26,.i .i64 b),(9,.i .i64 b),(0,.rf (yks p g c v e)),(1,.i .i64 f),(2,.i .i64 at_),(8,.pt (8,0) 0 0),(7,.i .i64 (if k=0 then 0 else((at_+1+a.ser.length:Nat):Int)))],
  [(8,.one (some ⟨150,true,1,24,fun i=>[.i .i64 (if i<k then val i else 0)]⟩))]⟩) (fun k=>k<=b) (fun k=>b-k) 0 (zK _) ?_ ?_
 .refine yu ?_;simp only[yks,yct,ygw,ybb,yj,yx,yem,wk,go_sem,zA,zG];intro i _;rw[if_neg (by omega)]
 .intro k hk;simp only[yddj,ycvt,ydbu,ydel,ycqi,ycrm,ybyk,go_sem,zA,zB,zD,zG];refine⟨fun t=>⟨ikw (by omega) (by omega),?_⟩,fun t=>?_⟩
  .have K:k<b:=by omega
   have n:=O true (k:Int) (at_+1) rest o.2 (fun _=>by rw[h];omega) (by unfold InB;omega) j
   rw[show((at_+1:Nat):Int)=(at_:Int)+1 by omega]at n
   refine n.use ?_;simp only[ybj,splice,go_sem,zA,zB];refine⟨by omega,by omega,ikw (by omega) (by omega),?_⟩
   refine ycb (k+1) ?_;refine yu ?_;simp only[wk,go_sem,zA,zG];refine⟨by omega,?_⟩
   intro i J
   by_cases q:i=k
   .rw[if_pos q,if_pos (by omega)]
    subst q;simp only[val,wk,go_sem]
   .rw[if_neg q]
    by_cases E:i<k
    .rw[if_pos E,if_pos (by omega)]
     simp only[wk,go_sem]
    .rw[if_neg E,if_neg (by omega)]
     simp only[wk,go_sem]
  .obtain rfl:k=b:=by omega
   have z:=ydgd e _ at_ rest w r L
   have A:=yckz f ((zT k).map val) (by simp;omega) (fun x N=>by
    obtain⟨q,D,rfl⟩:=List.mem_map.1 N;exact s q (List.mem_range.1 D))
   have m:ycp g c v (.agg f a) 0=yjj f ((zT k).map val):=by
    show yjj f _=_;rw[h]
   rw[m];simp only[yks,yx,go_sem,zA,zB];simp only[yx]at z
   have l:SimL [.i .i64 f,.sl 1 (k-0) fun i=>[.i .i64 (if i<k then val i else 0)]] [.i .i64 f,ybb ((zT k).map val)]:=by
    refine⟨Sim.refl _,ycod (by simp) fun i J=>?_,trivial⟩
    rw[if_pos (by omega)]
    simp[zM,show i<k by omega]
   refine⟨fun F=>z.use ?_,fun F=>?_⟩
   .simp only[ybj,go_sem,zA,zB,zD,zG];refine⟨by simp;omega,.inl ⟨by omega,A.useS l ?_⟩⟩
    simp only[go_sem];exact Sim.refl _
   .refine⟨by simp;omega,.inl ⟨by omega,A.useS l ?_⟩⟩
    simp only[ybj,if_neg (show ¬k=0 by omega),go_sem,zA,zB]
    rw[show at_+(Ex.agg f a).ser.length=at_+1+a.ser.length by simp[Ex.ser];omega]
    exact Sim.refl _
end Sh
end
section
namespace Sh
open Go Ev
theorem ybuq(g:Gr)(v:Nat)(f:v<g.ports.length)(u:Int)(e:(g.ports.getD v []).length<=100000):Returns zC 204 [grV g,.i .i64 v,.i .i64 u] (.i .i64 (ynz (g.ports.getD v []) u)):=by
 refine Returns.of (ydla _ _ ?_);simp only[c204,ycrf,ycqg,grV,yj,yx,ybb,go_sem,zA,zB,zG];refine⟨by omega,?_⟩
 obtain⟨b,d⟩:∃b,g.ports.getD v []=b:=⟨_,rfl⟩;rw[d]at e ⊢;refine ybd (σ:=Nat) (fun k=>⟨[(15,.i .i64 k),(13,yx b),(14,.i .i64 b.length),(2,.i .i64 u)],[]⟩) (fun k=>k<=b.length/\(b.take k).findIdx? (fun l=>l.1==u)=none) (fun k=>b.length-k) 0 ⟨zK _,by simp⟩ ?_ ?_
 .refine yu ?_;simp only[yx,wk,go_sem,zA]
 .intro k ⟨hk,hno⟩;simp only[ycpv,ydef,ycrt,ycvn,ydcl,ycra,yx,ych,splice,go_sem,zA,zB,zD,zG];refine⟨fun a=>⟨by omega,fun c=>?_,fun c=>⟨ikw (by omega) (by omega),?_⟩⟩,fun a=>?_⟩
  .have a:k<b.length:=by omega
   rw[getD_at a]at c;rw[ybtk b u k a c hno]
  .have a:k<b.length:=by omega
   rw[getD_at a]at c;refine yh (k+1) ⟨by omega,ybgq b u k a c hno⟩ (by omega) ?_
   refine yu ?_;simp only[wk,go_sem,zA];simp
  .obtain rfl:k=b.length:=by omega
   rw[ybki b u hno]
theorem ybtt{ids:List Int}{k:Nat}(h:k<ids.length):(ids.take (k+1)).foldl max 0=max ((ids.take k).foldl max 0) (ids.getD k 0):=by
 rw[ybtz ids k h,getD_at h]
theorem ybge(p:ProgR){g:Gr}(o:ybi g):Returns zC 167 [.ag (yoq p),grV g] (.rf (ygw p g)):=by
 refine Returns.of (ydjy _ _ ?_);have t:=o.2.1;have hid:=o.2.2.1;obtain⟨n,h⟩:∃n,g.ports.length=n:=⟨_,rfl⟩;rw[h]at t hid;simp only[c167,ydag,ydab,ycsb,grV,yj,yx,ybb,yoq,splice,h,go_sem,zA,zB,zD,zG];refine⟨by omega,?_⟩
 refine ybd (σ:=Nat) (fun k=>⟨[(21,.i .i64 k),(19,yj g.ports),(20,.i .i64 n),(3,.pt (3,0) 0 0),(5,.pt (17,0) 0 0)],
  [(3,.one (some ⟨27,true,2,1,fun _=>[ybb g.ids,yj g.ports]⟩)),(17,.one (some ⟨235,true,7,1,fun _=>[.a (.string p.name),yfk p.vars,ydn p.rules,ybb g.ids,yj g.ports,.i .i64 ((g.ids.take k).foldl max 0),.os (15,0) 0 n true]⟩)),
   (15,.one (some ⟨22,false,1,n,fun i=>[if i<k then ybb (yma g i)else .a (.slice none 0 0)]⟩))]⟩) (fun k=>k<=n) (fun k=>n-k) 0 (zK _) ?_ ?_
 .refine yu ?_;simp only[yj,yx,ybb,h,wk,go_sem,zA,zG];refine⟨fun i _=>by simp,fun i _=>?_⟩
  rw[if_neg (by omega)]
  simp only[wk,go_sem]
 .intro k hk;simp only[ycxk,ycuk,ycpz,ycrc,yj,yx,ybb,splice,h,go_sem,zA,zB,zD];refine⟨fun e=>⟨by omega,by omega,by decide,?_⟩,fun e=>?_⟩
  .have A:k<n:=by omega
   obtain⟨c,b⟩:∃c,g.ports.getD k []=c:=⟨_,rfl⟩;have s:=o.deg_lt (v:=k);rw[b]at s;rw[b]
   have l:∀j,j<c.length->(yma g k).getD j 0=ynz (g.ports.getD (c.getD j (0,0)).1.toNat []) k:=fun j z=>by
    unfold yma;rw[b];simp[zM,z]
   have u:(yma g k).length=c.length:=by unfold yma;rw[b,zBJ]
   refine ybd (σ:=Nat) (fun j=>⟨[(41,.i .i64 j),(39,yx c),(40,.i .i64 c.length),(6,.i .i64 k),(21,.i .i64 k),(19,yj g.ports),(20,.i .i64 n),(3,.pt (3,0) 0 0),(5,.pt (17,0) 0 0)],
    [(3,.one (some ⟨27,true,2,1,fun _=>[ybb g.ids,yj g.ports]⟩)),(17,.one (some ⟨235,true,7,1,fun _=>[.a (.string p.name),yfk p.vars,ydn p.rules,ybb g.ids,yj g.ports,.i .i64 ((g.ids.take (k+1)).foldl max 0),.os (15,0) 0 n true]⟩)),
     (15,.one (some ⟨22,false,1,n,fun i=>[if i<k then ybb (yma g i)else if i=k then .os (100,0) 0 j true else .a (.slice none 0 0)]⟩)),
     (100,.one (some ⟨3,false,1,j,fun q=>[.i .i64 ((yma g k).getD q 0)]⟩))]⟩) (fun j=>j<=c.length) (fun j=>c.length-j) 0 (zK _) ?_ ?_
   .refine ybw [] [100] [] ?_;simp only[yj,yx,ybb,h,ybtt (show k<g.ids.length by omega),wk,go_sem,zA,zG,Nat.reduceBEq]
    intro i w
    by_cases f:i<k
    .simp only[if_pos f];simp only[wk,go_sem]
    .by_cases d:i=k
     .simp only[if_neg f,if_pos d];simp only[wk,go_sem,zA];simp
     .simp only[if_neg f,if_neg d];simp only[wk,go_sem]
   .intro j z;simp only[ycva,ycxr,ycqx,ybyu,ycga,yj,yx,ybb,splice,h,go_sem,zA,zB,zD,zG]
    have r:=fun e:j<c.length=>ybuq g (c.getD j (0,0)).1.toNat (by
     have:=o.ydo (v:=k) (p:=j) (by omega) (by rw[b];omega)
     unfold ydo at this;rw[b]at this;omega) (k:Int) (by have:=o.deg_lt (v:=(c.getD j (0,0)).1.toNat);omega)
    have y:j<c.length->((c.getD j (0,0)).1.toNat:Int)=(c.getD j (0,0)).1:=fun e=>by
     have:=o.ydo (v:=k) (p:=j) (by omega) (by rw[b];omega)
     unfold ydo at this;rw[b]at this;omega
    refine⟨fun e=>⟨by omega,by omega,by omega,?_⟩,fun e=>?_⟩
    .have m:j<c.length:=by omega
     have r:=r m;rw[y m]at r;simp only[grV,yj,yx,ybb,h]at r;refine r.use ?_;simp only[ybj,splice,go_sem,zA,zB,zD,zG];refine⟨by decide,by omega,by decide,by omega,by omega,by decide,ikw (by omega) (by omega),?_⟩
     refine ycb (j+1) ?_;refine ybw [(100,fun _=>(63,0))] [] [] ?_;simp only[wk,go_sem,zA,zG];refine⟨by omega,fun i w=>?_,fun i w=>?_⟩
     .by_cases d:i=k
      .simp only[if_pos d,if_neg (show ¬i<k by omega)]
       simp only[wk,go_sem,zA]
      .simp only[if_neg d]
       by_cases f:i<k
       .simp only[if_pos f];simp only[wk,go_sem]
       .simp only[if_neg f];simp only[wk,go_sem]
     .by_cases d:i<j
      .simp only[if_pos d];simp only[wk,go_sem]
      .obtain rfl:i=j:=by omega
       simp only[if_neg d,Nat.sub_self,Nat.zero_mul];simp only[wk,go_sem];rw[l i m]
    .obtain rfl:j=c.length:=by omega
     refine⟨ikw (by omega) (by omega),?_⟩
     refine ycb (k+1) ?_;refine ybw [] [] [(100,0)] ?_;simp only[wk,go_sem,zA,zD,zG];refine⟨by omega,fun i w=>?_⟩
     by_cases f:i<k
     .simp only[if_pos f,if_pos (show i<k+1 by omega)]
      simp only[wk,go_sem]
     .by_cases d:i=k
      .simp only[if_neg f,if_pos d,if_pos (show i<k+1 by omega)]
       subst d;simp only[u,wk,go_sem,zA]
      .simp only[if_neg f,if_neg d,if_neg (show ¬i<k+1 by omega)]
       simp only[wk,go_sem]
  .obtain rfl:k=n:=by omega
   simp only[ycgg,go_sem,zA,zB,zD];refine⟨fun q x=>by simp only[if_pos x];simp only[go_sem],?_⟩
   refine ycqv ?_ (by simp only[ygw,go_sem])
   simp only[SimL,ygw,ybb,yj,yx,yem,h,yur,true_and,and_true];refine⟨?_,?_⟩
   .rw[ych];refine⟨rfl,?_⟩;unfold ybsd;rw[zZ (by omega)]
   .refine ydu fun q x=>?_;simp only[if_pos x];simp only[SimL,yur,go_sem]
end Sh
end
section
def ylp(f:Nat->Bool):Nat->Nat
 |0=>0
 |n+1=>if f n then ylp f n|||2^n else ylp f n
theorem ymb(f:Nat->Bool):∀(n i:Nat),(ylp f n).testBit i=(decide (i<n)&&f i)
 |0,i=>by simp[ylp]
 | n + 1,i=>by
   unfold ylp;have a:=ymb f n i
   by_cases h:f n=true
   .rw[if_pos h,Nat.testBit_or,a,Nat.testBit_two_pow]
    by_cases e:n=i
    .subst e;simp[h]
    .have:(i<n+1)=(i<n):=propext (by omega)
     simp[e,this]
   .rw[if_neg h,a]
    by_cases e:n=i
    .subst e;simp[h]
    .have:(i<n+1)=(i<n):=propext (by omega)
     simp[this]
theorem ybed(f:Nat->Bool)(n:Nat):ylp f n<2^n:=by
 refine zAS _ fun i a=>?_;rw[ymb];simp;omega
def difB(a b:Nat):Nat:=a ^^^ (a&&&b)
theorem ybby(a b i:Nat):(difB a b).testBit i=(a.testBit i && !(b.testBit i)):=by
 unfold difB;rw[Nat.testBit_xor,zBK];cases a.testBit i<;>cases b.testBit i<;>rfl
theorem ylc(a:Nat):a=0↔∀i,a.testBit i=false:=by
 constructor
 .rintro rfl i;simp
 .intro h;exact zAW fun i=>by rw[h i];simp
theorem ybwv{a b n:Nat}(h:a<2^n):a&&&b<2^n:=by
 have:=zBL (n:=a) (m:=b);omega
theorem yvh{a b n:Nat}(h:a<2^n):difB a b<2^n:=by
 refine zAS _ fun i c=>?_;rw[ybby,zAI (zAO h (zAL (by omega) c))]
 rfl
structure Cnt where
 steps:Nat
 moves:Nat
 rounds:Nat
 begun:Nat
 pend:Nat
def yik(s:Nat):Nat->Nat
 |0=>0
 |n+1=>yik s n+(s.testBit n).toNat
def popP(s:Nat):Nat:=yik s 32
def ybio(e:Nat):Cnt:=⟨0,0,0,0,e⟩
def addP(k:Cnt)(a after:Nat):Cnt :=
 let p:=difB k.pend a&&&after
 ⟨k.steps+1,k.moves+popP a,if p=0 then k.rounds+1 else k.rounds,k.rounds+1,if p=0 then after else p⟩
def Cnt.ok(k:Cnt):Prop:=k.rounds<=k.begun/\k.begun<=k.rounds+1/\k.begun<=k.steps/\k.steps<=k.moves/\k.moves<=24*k.steps/\k.pend<2^24
theorem yng(s:Nat):∀n,yik s n<=n
 |0=>zY _
 | n+1=>by
   have:=yng s n;unfold yik;cases s.testBit n<;>simp[Bool.toNat]<;>omega
theorem yzg(s:Nat)(h:s<2^24):∀k,yik s (24+k)=yik s 24
 |0=>rfl
 | k+1=>by
   have e:s.testBit (24+k)=false:=zAI (zAO h (zAL (by omega) (by omega)))
   show yik s (24+k)+(s.testBit (24+k)).toNat=_;rw[yzg s h k,e];rfl
theorem ydfw(s:Nat)(h:s<2^24):popP s<=24:=by
 have:=yzg s h 8;unfold popP;rw[this];exact yng s 24
structure Sys where
 n:Nat
 en:Conf->Nat
 mv:Conf->Nat->Conf
def Sys.run(S:Sys)(res:Nat->Nat->Nat):List Nat->Conf->Cnt->List (Conf×Cnt)
 |[],_,_=>[]
 | w::a,c,k=>if S.en c=0 then[]else(let s:=res (S.en c) w
   let d:=S.mv c s
   (d,addP k s (S.en d))::S.run res a d (addP k s (S.en d)))
def Sys.runs(S:Sys)(res:Nat->Nat->Nat)(ws:List Nat)(c:Conf):List (Conf×Cnt):=(c,ybio (S.en c))::S.run res ws c (ybio (S.en c))
def subB(a b:Nat):Prop:=∀i,a.testBit i=true->b.testBit i=true
structure ByRounds(S:Sys)(V:Conf->Prop)(P:Nat->Nat->List Int->Prop):Prop where
 valid:∀c s,V c->s≠0->subB s (S.en c)->V (S.mv c s)
 stay:∀c s v,V c->v<S.n->s.testBit v=false->(S.mv c s).getD v []=c.getD v []
 move:∀c s v r,V c->v<S.n->s.testBit v=true->subB s (S.en c)->(∀u,u<S.n->P r u (c.getD u []))->P (r+1) v ((S.mv c s).getD v [])
 rest:∀c v r,V c->v<S.n->(S.en c).testBit v=false->(∀u,u<S.n->P r u (c.getD u []))->P (r+1) v (c.getD v [])
 less:∀r v s,P (r+1) v s->P r v s
structure RInv(S:Sys)(V:Conf->Prop)(P:Nat->Nat->List Int->Prop)(c:Conf)(k:Cnt):Prop where
 valid:V c
 all:∀v,v<S.n->P k.rounds v (c.getD v [])
 done:∀v,v<S.n->k.pend.testBit v=false->P (k.rounds+1) v (c.getD v [])
 begun:k.begun<=k.rounds+1
theorem ByRounds.start{S:Sys}{V:Conf->Prop}{P:Nat->Nat->List Int->Prop}(h:ByRounds S V P){c:Conf}(b:V c)(a:∀v,v<S.n->P 0 v (c.getD v [])):RInv S V P c (ybio (S.en c)) :=
 ⟨b,a,fun v e d=>h.rest c v 0 b e d a,by simp[ybio]⟩
theorem ByRounds.step{S:Sys}{V:Conf->Prop}{P:Nat->Nat->List Int->Prop}(h:ByRounds S V P)(c:Conf)(k:Cnt)(s:Nat)(r:RInv S V P c k)(q:s≠0)(o:subB s (S.en c)):RInv S V P (S.mv c s) (addP k s (S.en (S.mv c s))):=by
 obtain⟨j,p,t,u⟩:=r;have l:=h.valid c s j q o
 have e:∀v,v<S.n->P k.rounds v ((S.mv c s).getD v []):=fun v a=>by
  cases f:s.testBit v with
  |true=>exact h.less _ _ _ (h.move c s v _ j a f o p)
  |false=>rw[h.stay c s v j a f];exact p v a
 have d:∀v,v<S.n->(difB k.pend s&&&S.en (S.mv c s)).testBit v=false->P (k.rounds+1) v ((S.mv c s).getD v []):=fun v a f=>by
  rw[zBK,ybby]at f;cases g:s.testBit v with
  |true=>exact h.move c s v _ j a g o p
  | false =>
    cases i:k.pend.testBit v with
    |false=>rw[h.stay c s v j a g];exact t v a i
    | true =>
      rw[g,i]at f;exact h.rest _ v _ l a (by simpa using f) e
 unfold addP;simp only
 by_cases m:difB k.pend s&&&S.en (S.mv c s)=0
 .simp only[if_pos m];have b:∀v,v<S.n->P (k.rounds+1) v ((S.mv c s).getD v []):=fun v a=>d v a (by rw[m];simp)
  exact⟨l,b,fun v a f=>h.rest _ v _ l a f b,by show k.rounds+1<=_;simp⟩
 .simp only[if_neg m];exact⟨l,e,d,zY _⟩
end
section
structure RuleT where
 name:ByteArray
 guard:Ex
 sets:List (Int×Ex)
structure ProgT where
 name:ByteArray
 vars:List VarR
 rules:List RuleT
instance:Inhabited Ex:=⟨.leaf 0 0⟩
instance:Inhabited RuleT:=⟨⟨.empty,default,[]⟩⟩
def RuleT.raw(r:RuleT):RuleR:=⟨r.name,r.guard.ser,r.sets.map fun s=>⟨s.1,s.2.ser⟩⟩
def ProgT.raw(p:ProgT):ProgR:=⟨p.name,p.vars,p.rules.map RuleT.raw⟩
def RuleT.ok(a:Nat)(r:RuleT):Bool:=r.guard.ok a false&&decide (r.guard.ser.length<=1000)&&decide (r.sets.length<=100)&&r.sets.all fun s=>decide (0<=s.1/\s.1<a)&&s.2.ok a false&&decide (s.2.ser.length<=1000)
def VarR.ok(x:VarR):Bool:=decide (x.kind=1\/x.kind=2\/x.kind=3)&&decide (0<=x.lo/\x.lo<=4096)&&decide (-4096<=x.hi/\x.hi<=4096)&&decide (0<=x.perNode/\x.perNode<=255)&&decide (0<=x.perID/\x.perID<=255)
def ProgT.ok(p:ProgT):Bool:=decide (1<=p.vars.length/\p.vars.length<=6)&&p.vars.all VarR.ok&&decide (p.rules.length<=12)&&p.rules.all (RuleT.ok p.vars.length)
def yoa(g:Gr)(c:Conf)(v:Nat)(r:RuleT):Bool:=ycp g c v r.guard (-1)!=0
def yeq(p:ProgT)(g:Gr)(c:Conf)(v:Nat):Int:=match p.rules.findIdx? (yoa g c v)with|some i=>i|none=>-1
def ybh(g:Gr)(v:Nat)(x:VarR):Int×Int :=
 if x.kind=1 then(x.lo,x.hi+x.perNode*(g.ids.length:Int)+x.perID*maxI g.ids)else if x.kind=2 then(0,1)else if x.kind=3 then(-1,((g.ports.getD v []).length:Int)-1)else(0,-1)
def yhm(kind:Int)(b:Int×Int)(x:Int):Int:=if x>=b.1/\x<=b.2 then x else if kind=3 then -1 else if x<b.1 then b.1 else b.2
def ytt(p:ProgT)(g:Gr)(c:Conf)(v:Nat)(b:List Int)(sets:List (Int×Ex)):List Int :=
 sets.foldl (fun s a=>s.set a.1.toNat (yhm (p.vars.getD a.1.toNat default).kind (ybh g v (p.vars.getD a.1.toNat default)) (ycp g c v a.2 (-1)))) b
def yjs(p:ProgT)(g:Gr)(c:Conf)(v:Nat)(r:Nat):List Int:=ytt p g c v (c.getD v []) (p.rules.getD r default).sets
def ybt(p:ProgT)(g:Gr)(c:Conf):Nat:=ylp (fun v=>decide (yeq p g c v>=0)) g.ids.length
def ygl(p:ProgT)(g:Gr)(c:Conf)(s:Nat):Conf:=c.zipIdx.map fun q=>if s.testBit q.2 then yjs p g c q.2 (yeq p g c q.2).toNat else q.1
def yml(p:ProgT)(g:Gr):Sys:=⟨g.ids.length,ybt p g,ygl p g⟩
def ydd(p:ProgT)(g:Gr)(c:Conf):Bool:=yyt g.ids.length (fun v=>p.vars.map (ybh g v)) c
end
section
namespace Sh
open Go Ev
theorem ydgx{g:Gr}(a:ybi g):0<=maxI g.ids/\maxI g.ids<=255:=by
 have c:=a.1;have d:=a.2.2.1;rw[yclt (by omega) fun x b=>(a.2.2.2.1 x b).1]
 exact ywt a
theorem ybsu{x:VarR}(h:x.ok=true):(x.kind=1\/x.kind=2\/x.kind=3)/\(0<=x.lo/\x.lo<=4096)/\(-4096<=x.hi/\x.hi<=4096)/\(0<=x.perNode/\x.perNode<=255)/\(0<=x.perID/\x.perID<=255):=by
 unfold VarR.ok at h;simp only[zF,decide_eq_true_eq]at h;obtain⟨⟨⟨⟨a,b⟩,c⟩,d⟩,e⟩:=h;exact⟨a,b,c,d,e⟩
theorem mulN{a b A B:Int}(d:0<=a)(e:a<=A)(c:0<=b)(f:b<=B):0<=a*b/\a*b<=A*B:=⟨Int.mul_nonneg d c,Int.mul_le_mul e f c (by omega)⟩
theorem ywr{g:Gr}(a:ybi g){x:VarR}(e:x.ok=true):(0<=x.perNode*(g.ids.length:Int)/\x.perNode*(g.ids.length:Int)<=255*24)/\(0<=x.perID*maxI g.ids/\x.perID*maxI g.ids<=255*255):=by
 obtain⟨_,_,_,b,c⟩:=ybsu e;have d:=ydgx a;have f:=a.2.1;have h:=a.2.2.1;exact⟨mulN b.1 b.2 (by omega) (by omega),mulN c.1 c.2 d.1 d.2⟩
theorem ybnt{g:Gr}(a:ybi g){x:VarR}(c:x.ok=true)(v:Int):Returns zC 176 [.ag (varC x),grV g,.i .i64 v] (.tp [.i .i64 x.lo,.i .i64 (x.hi+x.perNode*(g.ids.length:Int)+x.perID*maxI g.ids)]):=by
 refine Returns.of (ydic _ _ ?_);have h:=a.1;have j:=a.2.1;have k:=a.2.2.1;have b:=ydjz g.ids (by omega) (by omega)
 obtain⟨d,e⟩:=ywr a c;obtain⟨_,_,f,_,_⟩:=ybsu c;simp only[ybb]at b;simp only[c176,ycqb,ycyb,grV,varC,ybb,go_sem,zA,zB,zD,zG];refine⟨ikw (by omega) (by omega),ikw (by omega) (by omega),b.use ?_⟩
 simp only[ybj,go_sem,zA,zB];refine⟨ikw (by omega) (by omega),ikw (by omega) (by omega),?_⟩
 exact Sim.refl _
theorem ybkz(g:Gr)(x:VarR)(v:Int):Returns zC 177 [.ag (varC x),grV g,.i .i64 v] (.tp [.i .i64 0,.i .i64 1]):=by
 refine Returns.of (ydhu _ _ ?_);simp only[c177,ycvd,yczs,grV,varC,go_sem,zA,zB,zG];exact Sim.refl _
theorem ybme{g:Gr}(a:ybi g)(x:VarR){v:Nat}(c:v<g.ports.length):Returns zC 178 [.ag (varC x),grV g,.i .i64 v] (.tp [.i .i64 (-1),.i .i64 (((g.ports.getD v []).length:Int)-1)]):=by
 refine Returns.of (ydfr _ _ ?_);have b:=a.deg_lt (v:=v);simp only[c178,yddo,ycvs,grV,yj,yx,varC,go_sem,zA,zB,zG];refine⟨by omega,ikw (by omega) (by omega),?_⟩
 exact Sim.refl _
theorem ychy(kind:Int)(b:Int×Int)(x:Int):Returns zC 170 [.i .i64 kind,.ag [.i .i64 b.1,.i .i64 b.2],.i .i64 x] (.i .i64 (yhm kind b x)):=by
 refine Returns.of (ydmn _ _ ?_);simp only[c170,ydam,ycyf,ydad,yctw,ycqa,ycuj,ydeb,yczd,ych,yhm,go_sem,zAK,zA,zB,zD,zG,zBQ];refine⟨by omega,fun d=>⟨by omega,fun e=>by rw[if_pos ⟨d,e⟩],fun e=>⟨fun a=>by rw[if_neg (fun q=>e q.2),if_pos a],fun a=>⟨by omega,fun c=>⟨by omega,by rw[if_neg (fun q=>e q.2),if_neg a,if_pos c]⟩,fun c=>⟨by omega,by rw[if_neg (fun q=>e q.2),if_neg a,if_neg c]⟩⟩⟩⟩,fun d=>⟨fun a=>by rw[if_neg (fun q=>d q.1),if_pos a],fun a=>⟨by omega,fun c=>⟨by omega,by rw[if_neg (fun q=>d q.1),if_neg a,if_pos c]⟩,fun c=>⟨by omega,by rw[if_neg (fun q=>d q.1),if_neg a,if_neg c]⟩⟩⟩⟩
theorem yzq{g:Gr}(f:ybi g){x:VarR}(l:x.ok=true){v:Nat}(p:v<g.ports.length):Returns zC 132 [.ag (varC x),grV g,.i .i64 v] (.tp [.i .i64 (ybh g v x).1,.i .i64 (ybh g v x).2]):=by
 refine Returns.of (ydkk _ _ ?_);have b:=ybnt f l v;have c:=ybkz g x v;have d:=ybme f x p;obtain⟨hk,_⟩:=ybsu l;simp only[varC,grV]at b c d;simp only[c132,yctf,ycxo,ycwh,varC,grV,splice,go_sem,zA,zB,zD,zG]
 refine ybd (σ:=Nat) (fun k=>⟨[(17,.i .i64 k),(15,.os (14,0) 0 3 true),(16,.i .i64 3),(2,.i .i64 v),(3,.pt (3,0) 0 0),(4,.pt (4,0) 0 0)],
  [(3,.one (some ⟨160,true,6,1,fun _=>varC x⟩)),(4,.one (some ⟨27,true,2,1,fun _=>[ybb g.ids,yj g.ports]⟩)),
   (14,.one (some ⟨210,false,2,3,fun k=>if k=0 then[.i .i64 1,.fn 176 [] []]else if k=1 then[.i .i64 2,.fn 177 [] []]else[.i .i64 3,.fn 178 [] []]⟩))]⟩)
  (fun k=>k<=2/\(1<=k->x.kind≠1)/\(2<=k->x.kind≠2)) (fun k=>3-k) 0 ⟨by omega,by omega,by omega⟩ ?_ ?_
 .refine yu ?_;simp only[varC,wk,go_sem,zA,zG];refine⟨rfl,fun i j=>?_⟩;rcases(show i=0\/i=1\/i=2 by omega)with rfl|rfl|rfl
  .simp only[wk,go_sem]
  .simp only[if_neg (show ¬(1:Nat)=0 by omega),wk,go_sem]
  .simp only[if_neg (show ¬(2:Nat)=0 by omega),if_neg (show ¬(2:Nat)=1 by omega),wk,go_sem,zA]
 .rintro k ⟨m,n,o⟩;rcases(show k=0\/k=1\/k=2 by omega)with rfl|rfl|rfl
  .simp only[ybqs,ybol,ybpn,ybrm,ybrk,yboi,varC,splice,go_sem,zA,zB,zD,zG];refine⟨fun _=>⟨by omega,fun a=>b.use ?_,fun a=>⟨ikw (by omega) (by omega),?_⟩⟩,fun h=>by omega⟩
   .simp only[ybj,go_sem,zA,zB];have e:ybh g v x=(x.lo,x.hi+x.perNode*(g.ids.length:Int)+x.perID*maxI g.ids):=by unfold ybh;rw[if_pos a.symm]
    rw[e];exact Sim.refl _
   .refine yh 1 ⟨by omega,fun _ q=>a q.symm,by omega⟩ (by omega) ?_
    refine yu ?_;simp only[wk,go_sem,zA,zG];refine⟨by omega,fun i j=>?_⟩
    rcases(show i=0\/i=1\/i=2 by omega)with rfl|rfl|rfl
    .simp only[wk,go_sem]
    .simp only[if_neg (show ¬(1:Nat)=0 by omega),wk,go_sem]
    .simp only[if_neg (show ¬(2:Nat)=0 by omega),if_neg (show ¬(2:Nat)=1 by omega),wk,go_sem,zA]
  .simp only[ybqs,ybol,ybpn,ybrm,ybrk,yboi,varC,splice,go_sem,zA,zB,zD,zG];refine⟨fun _=>⟨by omega,fun a=>c.use ?_,fun a=>⟨ikw (by omega) (by omega),?_⟩⟩,fun h=>by omega⟩
   .simp only[ybj,go_sem,zA,zB];have e:ybh g v x=(0,1):=by unfold ybh;rw[if_neg (by omega),if_pos a.symm]
    rw[e];exact Sim.refl _
   .refine yh 2 ⟨by omega,fun _=>by omega,fun _ q=>a q.symm⟩ (by omega) ?_
    refine yu ?_;simp only[wk,go_sem,zA,zG];refine⟨by omega,fun i j=>?_⟩
    rcases(show i=0\/i=1\/i=2 by omega)with rfl|rfl|rfl
    .simp only[wk,go_sem]
    .simp only[if_neg (show ¬(1:Nat)=0 by omega),wk,go_sem]
    .simp only[if_neg (show ¬(2:Nat)=0 by omega),if_neg (show ¬(2:Nat)=1 by omega),wk,go_sem,zA]
  .simp only[ybqs,ybol,ybpn,ybrm,ybrk,yboi,varC,splice,go_sem,zA,zB,zD,zG];refine⟨fun _=>⟨by omega,fun a=>d.use ?_,fun a=>by omega⟩,fun h=>by omega⟩
   simp only[ybj,go_sem,zA,zB];have e:ybh g v x=(-1,((g.ports.getD v []).length:Int)-1):=by unfold ybh;rw[if_neg (by omega),if_neg (by omega),if_pos a.symm]
   rw[e];exact Sim.refl _
def yzt(n:Nat)(a:List VarR)(b:Nat->VarR->Int×Int):SV:=.sl 1 n (fun v=>[.sl 2 a.length (fun i=>[.i .i64 (b v (a.getD i default)).1,.i .i64 (b v (a.getD i default)).2])])
def rowT(a:List VarR)(b:VarR->Int×Int):SV:=.sl 2 a.length (fun i=>[.i .i64 (b (a.getD i default)).1,.i .i64 (b (a.getD i default)).2])
theorem ybjn(p:ProgR){g:Gr}(o:ybi g)(z:p.vars.all VarR.ok=true)(y:p.vars.length<=6):Returns zC 63 [.ag (yoq p),grV g] (yzt g.ids.length p.vars (ybh g)):=by
 refine Returns.of (ydyp _ _ ?_);have t:=o.2.1;have hid:=o.2.2.1;obtain⟨n,r⟩:∃n,g.ids.length=n:=⟨_,rfl⟩;obtain⟨h,c⟩:∃k,p.vars.length=k:=⟨_,rfl⟩;rw[r];rw[c]at y;simp only[c63,ydnm,yeam,yeal,grV,ybb,yoq,r,go_sem,zA,zB,zD,zG];refine⟨by omega,?_⟩
 refine ybd (σ:=Nat) (fun k=>⟨[(15,.i .i64 k),(14,.i .i64 n),(5,.os (12,0) 0 n true),(2,.pt (2,0) 0 0),(3,.pt (3,0) 0 0)],
  [(2,.one (some ⟨32,true,3,1,fun _=>yoq p⟩)),(3,.one (some ⟨27,true,2,1,fun _=>[ybb g.ids,yj g.ports]⟩)),
   (12,.one (some ⟨92,false,1,n,fun i=>[if i<k then rowT p.vars (ybh g i)else .a (.slice none 0 0)]⟩))]⟩) (fun k=>k<=n) (fun k=>n-k) 0 (zK _) ?_ ?_
 .refine yu ?_;simp only[yoq,ybb,r,wk,go_sem,zA,zG];intro i _;rw[if_neg (by omega)]
  simp only[wk,go_sem]
 .intro k hk;simp only[ydtx,yeav,ydqm,ydzt,yoq,yfk,splice,c,go_sem,zA,zB,zD,zG];refine⟨fun f=>⟨by omega,by omega,by omega,?_⟩,fun f=>?_⟩
  .have w:k<n:=by omega
   let b:Nat->Int×Int:=fun i=>ybh g k (p.vars.getD i default)
   refine ybd (σ:=Nat) (fun j=>⟨[(28,.i .i64 j),(26,yfk p.vars),(27,.i .i64 h),(6,.i .i64 k),(15,.i .i64 k),(14,.i .i64 n),(5,.os (12,0) 0 n true),(2,.pt (2,0) 0 0),(3,.pt (3,0) 0 0)],
    [(2,.one (some ⟨32,true,3,1,fun _=>yoq p⟩)),(3,.one (some ⟨27,true,2,1,fun _=>[ybb g.ids,yj g.ports]⟩)),
     (12,.one (some ⟨92,false,1,n,fun i=>[if i<k then rowT p.vars (ybh g i)else if i=k then .os (23,0) 0 h true else .a (.slice none 0 0)]⟩)),
     (23,.one (some ⟨91,false,2,h,fun i=>[.i .i64 (if i<j then(b i).1 else 0),.i .i64 (if i<j then(b i).2 else 0)]⟩))]⟩) (fun j=>j<=h) (fun j=>h-j) 0 (zK _) ?_ ?_
   .refine yu ?_;simp only[yoq,yfk,c,wk,go_sem,zA,zG];refine⟨fun i m=>?_,fun i m=>?_⟩
    .by_cases e:i=k
     .simp only[if_pos e,if_neg (show ¬i<k by omega)]
      simp only[wk,go_sem,zA]
     .simp only[if_neg e]
      by_cases d:i<k
      .simp only[if_pos d];simp only[rowT,wk,go_sem]
      .simp only[if_neg d];simp only[wk,go_sem]
    .simp only[if_neg (zAV i),and_self]
   .intro j A;simp only[ydoc,ydwo,ydqd,ycxi,ycto,yoq,yfk,varC,splice,c,go_sem,zA,zB,zG];refine⟨fun f=>?_,fun f=>?_⟩
    .have u:j<h:=by omega
     have s:=yzq o (x:=p.vars.getD j default) (by
      rw[getD_at (by omega)]
      exact List.all_eq_true.1 z _ (zJ _)) (v:=k) (by omega)
     simp only[varC,grV]at s;refine⟨by omega,by omega,by omega,by omega,by omega,s.use ?_⟩
     simp only[ybj,splice,go_sem,zAK,zA,zB,zD,zBQ];refine⟨by omega,by omega,by omega,by decide,by omega,by omega,by omega,by decide,ikw (by omega) (by omega),?_⟩
     refine ycb (j+1) ?_;refine yu ?_;simp only[wk,go_sem,zA,zG];refine⟨by omega,fun i m=>?_,fun i m=>?_⟩
     .by_cases d:i<k
      .simp only[if_pos d];simp only[rowT,wk,go_sem]
      .simp only[if_neg d]
       by_cases e:i=k
       .simp only[if_pos e];simp only[wk,go_sem,zA]
       .simp only[if_neg e];simp only[wk,go_sem]
     .by_cases e:i=j
      .subst e;simp only[if_pos (Nat.lt_succ_self i)];simp only[wk,go_sem];exact⟨rfl,rfl⟩
      .simp only[if_neg e]
       by_cases d:i<j
       .simp only[if_pos d,if_pos (show i<j+1 by omega)]
        simp only[wk,go_sem]
       .simp only[if_neg d,if_neg (show ¬i<j+1 by omega)]
        simp only[wk,go_sem]
    .obtain rfl:j=h:=by omega
     refine⟨ikw (by omega) (by omega),?_⟩
     refine ycb (k+1) ?_;refine ybw [] [] [(23,0)] ?_;simp only[wk,go_sem,zA,zD,zG];refine⟨by omega,fun i m=>?_⟩
     by_cases d:i<k
     .simp only[if_pos d,if_pos (show i<k+1 by omega)]
      simp only[rowT,wk,go_sem]
     .by_cases e:i=k
      .simp only[if_neg d,if_pos e,if_pos (show i<k+1 by omega)]
       subst e;simp only[rowT,c,go_sem,zA];refine ydu fun q l=>?_;simp only[if_pos l];simp only[SimL,go_sem];exact⟨Sim.refl _,Sim.refl _⟩
      .simp only[if_neg d,if_neg e,if_neg (show ¬i<k+1 by omega)]
       simp only[wk,go_sem]
  .obtain rfl:k=n:=by omega
   simp only[ycsn,go_sem,zA,zB];refine⟨fun q l=>by simp only[if_pos l];simp only[rowT,go_sem],?_⟩
   refine ydu fun q l=>?_;simp only[if_pos l];simp only[SimL,yur,rowT,c,go_sem]
end Sh
end
section
namespace Sh
open Go Ev
end Sh
end
section
namespace Sh
open Go Ev
theorem yis(p:ProgR){g:Gr}(o:ybi g){D:Nat}{c:Conf}(n:ConfIn g.ports.length D c){v:Nat}(q:v<g.ports.length)(e:List Tm)(w:e.length<=1000):∀x:Ex,ybxm p g D c v e x
 | .leaf r arg=>by
   intro j d at_ rest u m f t;obtain⟨d1,d2,d3⟩:=ygb (show e.drop at_=(r,arg)::rest from t)
   have F:=yckx p o n q e u d m;have k:=u;simp only[Ex.ok,zF,decide_eq_true_eq]at k;simp only[yks,yx]at F;refine Returns.of (ywq _ _ ?_);simp only[c205,yzl,ybaj,ybam,ybal,yzn,yzb,yyv,ybbk,ybba,yyx,yrq,ysl,yrb,ysg,yrm,ysb,yrh,yri,ysk,yks,yx,d2,splice,go_sem,zA,zB,zD,zG,↓reduceIte,reduceCtorEq];refine⟨by omega,fun h=>F.use ?_,fun h=>by omega⟩
   simp only[ybj,go_sem,zA,zB,↓reduceIte,reduceCtorEq];refine⟨ikw (by omega) (by omega),?_⟩
   exact Sim.refl _
 | .un r a=>by
   intro j d at_ rest u m f t;obtain⟨d1,d2,d3⟩:=ygb (show e.drop at_=(r,0)::(a.ser++rest)from t)
   have k:=u;simp only[Ex.ok,zF,decide_eq_true_eq]at k;have B:=yis p o n q e w a j d (at_+1) rest k.2 m f d3;rw[show((at_+1:Nat):Int)=(at_:Int)+1 by omega]at B
   have H:=ycih r (ycp g c v a d) (yiu o rfl n q a k.2 m f);simp only[yks,yx]at B;refine Returns.of (ywq _ _ ?_);simp only[c205,yzl,ybaj,ybam,ybal,yzn,yzb,yyv,ybbk,ybba,yyx,yrq,ysl,yrb,ysg,yrm,ysb,yrh,yri,ysk,yks,yx,d2,splice,go_sem,zA,zB,zD,zG,↓reduceIte,reduceCtorEq];refine⟨by omega,fun h=>by omega,fun h=>⟨fun h=>⟨ikw (by omega) (by omega),B.use ?_⟩,fun h=>by omega⟩⟩
   simp only[ybj,go_sem,zA,zB,zD,↓reduceIte,reduceCtorEq];refine H.use ?_;simp only[go_sem];rw[show at_+(Ex.un r a).ser.length=at_+1+a.ser.length by simp[Ex.ser];omega]
   exact Sim.refl _
 | .agg r a=>by
   intro j d at_ rest u m f t;obtain⟨d1,d2,d3⟩:=ygb (show e.drop at_=(r,0)::(a.ser++rest)from t)
   have k:=u;simp only[Ex.ok,zF,decide_eq_true_eq]at k;have C:(Ex.agg r a).ok D true=true:=by simp only[Ex.ok,zF,decide_eq_true_eq];exact k
   have E:=ybdw p o n q e w C (yis p o n q e w a) at_ rest t;simp only[yks,yx]at E;refine Returns.of (ywq _ _ ?_);simp only[c205,yzl,ybaj,ybam,ybal,yzn,yzb,yyv,ybbk,ybba,yyx,yrq,ysl,yrb,ysg,yrm,ysb,yrh,yri,ysk,yks,yx,d2,splice,go_sem,zA,zB,zD,zG,↓reduceIte,reduceCtorEq];refine⟨by omega,fun h=>by omega,fun h=>⟨fun h=>by omega,fun h=>⟨fun h=>E.use ?_,fun h=>by omega⟩⟩⟩
   simp only[ybj,go_sem,zA,zB,↓reduceIte,reduceCtorEq];exact Sim.refl _
 | .bin r a b=>by
   intro j d at_ rest u m f t;obtain⟨d1,d2,d3⟩:=ygb (show e.drop at_=(r,0)::((a.ser++b.ser)++rest)from t)
   have k:=u;simp only[Ex.ok,zF,decide_eq_true_eq]at k;rw[zAP]at d3
   have z:at_+1+a.ser.length<=e.length:=by
    have:=congrArg zAH d3;simp at this;omega
   have l:=yis p o n q e w a j d (at_+1) _ k.1.2 m f d3;have s:=yis p o n q e w b j d (at_+1+a.ser.length) _ k.2 m f (yux d3);rw[show((at_+1:Nat):Int)=(at_:Int)+1 by omega]at l
   have G:=ybvx r (ycp g c v a d) (ycp g c v b d) (yiu o rfl n q a k.1.2 m f) (yiu o rfl n q b k.2 m f);simp only[yks,yx]at l s;refine Returns.of (ywq _ _ ?_);simp only[c205,yzl,ybaj,ybam,ybal,yzn,yzb,yyv,ybbk,ybba,yyx,yrq,ysl,yrb,ysg,yrm,ysb,yrh,yri,ysk,yks,yx,d2,splice,go_sem,zA,zB,zD,zG,↓reduceIte,reduceCtorEq];refine⟨by omega,fun h=>by omega,fun h=>⟨fun h=>by omega,fun h=>⟨fun h=>by omega,fun h=>⟨fun h=>⟨ikw (by omega) (by omega),l.use ?_⟩,fun h=>by omega⟩⟩⟩⟩
   simp only[ybj,go_sem,zA,zB,↓reduceIte,reduceCtorEq];refine s.use ?_;simp only[go_sem,zA,zB,zD,↓reduceIte];refine G.use ?_;simp only[go_sem];rw[show at_+(Ex.bin r a b).ser.length=at_+1+a.ser.length+b.ser.length by simp[Ex.ser];omega]
   exact Sim.refl _
 | .ite x a b=>by
   intro j d at_ rest u m f t;obtain⟨d1,d2,d3⟩:=ygb (show e.drop at_=(43,0)::((x.ser++(a.ser++b.ser))++rest)from t)
   have k:=u;simp only[Ex.ok,zF]at k;rw[zAP,zAP]at d3
   have z:at_+1+x.ser.length+a.ser.length<=e.length:=by
    have:=congrArg zAH d3;simp at this;omega
   have l:=yis p o n q e w x j d (at_+1) _ k.1.1 m f d3;have s:=yis p o n q e w a j d (at_+1+x.ser.length) _ k.1.2 m f (yux d3);have y:=yis p o n q e w b j d (at_+1+x.ser.length+a.ser.length) _ k.2 m f (yux (yux d3));rw[show((at_+1:Nat):Int)=(at_:Int)+1 by omega]at l
   simp only[yks,yx]at l s y;refine Returns.of (ywq _ _ ?_);simp only[c205,yzl,ybaj,ybam,ybal,yzn,yzb,yyv,ybbk,ybba,yyx,yrq,ysl,yrb,ysg,yrm,ysb,yrh,yri,ysk,yks,yx,d2,splice,go_sem,zA,zB,zD,zG,↓reduceIte,reduceCtorEq];refine⟨by omega,fun h=>by omega,fun h=>⟨fun h=>by omega,fun h=>⟨fun h=>by omega,fun h=>⟨fun h=>by omega,fun h=>⟨ikw (by omega) (by omega),l.use ?_⟩⟩⟩⟩⟩
   simp only[ybj,go_sem,zA,zB,↓reduceIte,reduceCtorEq];refine s.use ?_;simp only[go_sem,zA,↓reduceIte,reduceCtorEq];refine y.use ?_;simp only[go_sem,zA,zB,↓reduceIte,reduceCtorEq];rw[show at_+(Ex.ite x a b).ser.length=at_+1+x.ser.length+a.ser.length+b.ser.length by simp[Ex.ser];omega]
   refine⟨fun A=>?_,fun A=>?_⟩
   .show Sim _ (.tp [.i .i64 (if _ then _ else _),_])
    rw[if_pos A];exact Sim.refl _
   .show Sim _ (.tp [.i .i64 (if _ then _ else _),_])
    rw[if_neg (not_not_intro A)];exact Sim.refl _
theorem ybjj(p:ProgR){g:Gr}(e:ybi g){b:Nat}{c:Conf}(d:ConfIn g.ports.length b c){v:Nat}(h:v<g.ports.length)(x:Ex)(j:x.ok b false=true)(f:x.ser.length<=1000) :
 Returns zC 169 [.rf (ygw p g),yct c,.i .i64 v,yx x.ser] (.i .i64 (ycp g c v x (-1))):=by
 have a:=yis p e d h x.ser f x false (-1) 0 [] j (fun q=>by cases q) (by unfold InB;omega) (by simp)
 refine Returns.of (ydls _ _ ?_);simp only[yks,ygw,yct,ybb,yx,yj,yem,zBH]at a;simp only[c169,yddy,ydbp,ydda,yczw,ygw,yct,ybb,yx,yj,yem,splice,go_sem,zA,zB,zD,zG,↓reduceIte,reduceCtorEq];refine .inl (a.use ?_);simp only[ybj,ych,go_sem,zA,zB,↓reduceIte,reduceCtorEq]
end Sh
end
section
theorem yni{a:Nat}(h:a<2^32):IntKind.wrap .u32 (a:Int)=a:=by
 unfold IntKind.wrap;simp[IntKind.bits,IntKind.signed];omega
theorem u32_and{a b:Nat}(c:a<2^32)(d:b<2^32):IntKind.wrap .u32 (((zL (IntKind.bits .u32) (a:Int))&&&zL (IntKind.bits .u32) (b:Int)).toNat:Int)=((a&&&b:Nat):Int):=by
 show IntKind.wrap .u32 (((zL 32 (a:Int))&&&zL 32 (b:Int)).toNat:Int)=_;rw[zV,zV,BitVec.toNat_and,zAF,zAF,zAJ c,zAJ d];exact yni (Nat.lt_of_le_of_lt zBL c)
theorem u32_or{a b:Nat}(c:a<2^32)(d:b<2^32):IntKind.wrap .u32 (((zL (IntKind.bits .u32) (a:Int))|||zL (IntKind.bits .u32) (b:Int)).toNat:Int)=((a|||b:Nat):Int):=by
 show IntKind.wrap .u32 (((zL 32 (a:Int))|||zL 32 (b:Int)).toNat:Int)=_;rw[zV,zV,BitVec.toNat_or,zAF,zAF,zAJ c,zAJ d];exact yni (Nat.or_lt_two_pow c d)
theorem u32_andNot{a b:Nat}(c:a<2^32)(f:b<2^32):IntKind.wrap .u32 (((zL (IntKind.bits .u32) (a:Int)) &&& ~~~zL (IntKind.bits .u32) (b:Int)).toNat:Int)=((difB a b:Nat):Int):=by
 show IntKind.wrap .u32 (((zL 32 (a:Int)) &&& ~~~zL 32 (b:Int)).toNat:Int)=_
 have e:((zL 32 (a:Int)) &&& ~~~zL 32 (b:Int)).toNat=difB a b:=by
  rw[zV,zV];refine zAW fun i=>?_;rw[ybby,BitVec.testBit_toNat,BitVec.getLsbD_and,BitVec.getLsbD_not,zAX,zAX]
  by_cases d:i<32
  .simp[d]
  .rw[zAI (zAO c (zAL (by omega) (by omega)))]
   simp
 rw[e];exact yni (yvh c)
theorem u32_neg{a:Nat}(b:0<a)(c:a<2^32):IntKind.wrap .u32 (0-(a:Int))=((2^32-a:Nat):Int):=by
 unfold IntKind.wrap;simp[IntKind.bits,IntKind.signed];omega
theorem ybow{v:Nat}(a:v<32):IntKind.wrap .u32 (1*2^(v:Int).toNat)=((2^v:Nat):Int):=by
 have h:2^v<2^32:=Nat.pow_lt_pow_right (by omega) a
 have:=yni h;rw[zW,Int.one_mul];rw[<-this]
 norm_cast
theorem ydld{a v:Nat}:(a:Int).fdiv (2^(v:Int).toNat)=((a>>>v:Nat):Int):=by
 rw[zW,Nat.shiftRight_eq_div_pow];rw[Int.fdiv_eq_ediv_of_nonneg _ (Int.pow_nonneg (by omega))]
 simp
end
section
namespace Sh
open Go Ev
def yka(p:ProgR)(g:Gr):List SV:=[.a (.string p.name),yfk p.vars,ydn p.rules,.rf (ygw p g),yzt g.ids.length p.vars (ybh g)]
theorem ybgi(p:ProgR){g:Gr}(c:ybi g)(e:p.vars.all VarR.ok=true)(d:p.vars.length<=6):Returns zC 123 [.ag (yoq p),grV g] (.rf (yka p g)):=by
 refine Returns.of (ydgp _ _ ?_);have a:=ybge p c;have b:=ybjn p c e d;simp only[yoq,grV]at a b;simp only[c123,ycwg,ydah,yoq,grV,go_sem,zA,zB,zG];refine a.use ?_;simp only[ybj,go_sem,zA,zB,zD,zG];refine b.use ?_;simp only[yzt,yka,go_sem,zA,zB,zD];refine⟨by decide,by decide,Sim.refl _⟩
theorem yceq(p:ProgT){g:Gr}(m:ybi g)(h:p.ok=true){c:Conf}(l:ConfIn g.ports.length p.vars.length c){v:Nat}(n:v<g.ports.length){r:Nat}(k:r<p.rules.length) :
 Returns zC 168 [.rf (ygw p.raw g),yct c,.i .i64 v,.i .i64 r] (.b (yoa g c v (p.rules.getD r default))):=by
 refine Returns.of (ydiu _ _ ?_);obtain⟨R,f⟩:∃R,p.rules.getD r default=R:=⟨_,rfl⟩
 have a:R.ok p.vars.length=true:=by
  unfold ProgT.ok at h;simp only[zF]at h;rw[<-f,getD_at k];exact List.all_eq_true.1 h.2 _ (zJ _)
 unfold RuleT.ok at a;simp only[zF,decide_eq_true_eq]at a;have j:=ybjj p.raw m l n R.guard a.1.1.1 a.1.1.2
 have e:p.raw.rules.getD r default=R.raw:=by
  rw[<-f];simp[ProgT.raw,zM,k]
 have d:p.raw.rules.length=p.rules.length:=by simp[ProgT.raw]
 simp only[ygw,ydn,d]at j;rw[f];simp only[c168,ycrz,ycyy,ygw,ydn,e,d,go_sem,zA,zB,zD];refine⟨by omega,j.use ?_⟩
 simp only[ybj,yts,yoa,go_sem,zA,zB]
theorem ydyt{p:ProgT}{g:Gr}{c:Conf}{v k:Nat}(hk:k<p.rules.length)(a:(p.rules.take k).findIdx? (yoa g c v)=none)(h:yoa g c v (p.rules.getD k default)=true):yeq p g c v=k:=by
 unfold yeq
 have:p.rules.findIdx? (yoa g c v)=some k:=by
  rw[zS];refine⟨hk,by rwa [getD_at hk]at h,fun j b=>?_⟩
  rw[zU]at a;have:=a p.rules[j] (List.mem_take_iff_getElem.2 ⟨j,by omega,rfl⟩)
  simpa using this
 rw[this]
theorem ybue{p:ProgT}{g:Gr}{c:Conf}{v:Nat}(a:(p.rules.take p.rules.length).findIdx? (yoa g c v)=none):yeq p g c v = -1:=by
 unfold yeq;rw[zAC]at a;rw[a]
theorem ycks(p:ProgT)(g:Gr)(c:Conf)(v:Nat):-1<=yeq p g c v/\yeq p g c v<p.rules.length:=by
 unfold yeq;split
 .rename_i i a
  obtain⟨h,_⟩:=List.findIdx?_eq_some_iff_getElem.1 a;omega
 .omega
theorem ycob(p:ProgT){g:Gr}(l:ybi g)(d:p.ok=true){c:Conf}(j:ConfIn g.ports.length p.vars.length c){v:Nat}(m:v<g.ports.length) :
 Returns zC 126 [.rf (yka p.raw g),yct c,.i .i64 v] (.i .i64 (yeq p g c v)):=by
 refine Returns.of (ydjs _ _ ?_);have b:p.raw.rules.length=p.rules.length:=by simp[ProgT.raw]
 have f:p.rules.length<=12:=by
  unfold ProgT.ok at d;simp only[zF,decide_eq_true_eq]at d;exact d.1.2
 simp only[c126,ycyg,ycxb,yka,ydn,b,go_sem,zA,zB,zD];refine ybd (σ:=Nat) (fun k=>⟨[(14,.i .i64 k),(13,.i .i64 p.rules.length),(0,.rf (yka p.raw g)),(1,yct c),(2,.i .i64 v)],[]⟩) (fun k=>k<=p.rules.length/\(p.rules.take k).findIdx? (yoa g c v)=none) (fun k=>p.rules.length-k) 0 ⟨zK _,by simp⟩ ?_ ?_
 .refine yu ?_;simp only[yka,ydn,b,wk,go_sem,zA]
 .intro k ⟨hk,hno⟩;simp only[yczo,yczr,ycud,ydau,ycwq,ycwv,yka,ych,go_sem,zA,zB,zD];refine⟨fun e=>?_,fun e=>?_⟩
  .have a:k<p.rules.length:=by omega
   refine(yceq p l d j m a).use ?_;simp only[ybj,ych,go_sem,zA,zB];refine⟨fun h=>by rw[ydyt a hno h],fun h=>⟨ikw (by omega) (by omega),?_⟩⟩
   refine yh (k+1) ⟨by omega,?_⟩ (by omega) ?_
   .rw[zH a,zAD,hno];rw[getD_at a]at h;simp[h]
   .refine yu ?_;simp only[wk,go_sem,zA];simp
  .obtain rfl:k=p.rules.length:=by omega
   rw[ybue hno]
theorem ytc(p:ProgT)(g:Gr)(c:Conf)(v:Nat):∀(sets:List (Int×Ex)) (b:List Int),(ytt p g c v b sets).length=b.length
 |[],_=>rfl
 | a::sets,b=>by
   show(ytt p g c v (b.set _ _) sets).length=_;rw[ytc p g c v sets];simp
theorem ybrz(p:ProgT)(g:Gr)(c:Conf)(v:Nat)(a:List Int)(sets:List (Int×Ex))(k:Nat)(h:k<sets.length) :
 ytt p g c v a (sets.take (k+1))=(ytt p g c v a (sets.take k)).set (sets.getD k default).1.toNat (yhm (p.vars.getD (sets.getD k default).1.toNat default).kind (ybh g v (p.vars.getD (sets.getD k default).1.toNat default)) (ycp g c v (sets.getD k default).2 (-1))):=by
 unfold ytt;rw[zH h,zQ,getD_at h];rfl
theorem ypq(p:ProgT)(g:Gr)(c:Conf)(s:Nat){v:Nat}(a:v<c.length):(ygl p g c s).getD v []=if s.testBit v then yjs p g c v (yeq p g c v).toNat else c.getD v []:=by
 unfold ygl;simp[zM,a]
theorem ylm(p:ProgT)(g:Gr)(c:Conf)(s:Nat):(ygl p g c s).length=c.length:=by simp[ygl]
end Sh
end
section
namespace Sh
open Go Ev
def ybjm(p:ProgT)(g:Gr):Bool:=p.vars.all fun x=>decide (x.kind=1)==false||(decide ((ybh g 0 x).1<=(ybh g 0 x).2)&&decide ((ybh g 0 x).2-(ybh g 0 x).1+1<=4096))
def yfu(b c:(Nat->Option ABlk)->Value->Prop)(p:ProgR):List SV:=[.a (.string p.name),.ex b (yfk p.vars),.ex c (ydn p.rules)]
theorem ybhj(a b:(Nat->Option ABlk)->Value->Prop)(p:ProgR):Sim (.ag (yfu a b p)) (.ag (yoq p)):=ybps ⟨Sim.refl _,ybgc _ _,ybgc _ _,trivial⟩
theorem ybbw{q t:(Nat->Option ABlk)->Value->Prop}(p:ProgT){g:Gr}(r:ybi g)(G:p.ok=true)(D:ybjm p g=true)(y:Returns zC 130 [.ag (yfu q t p.raw)] (.b true))(w:Returns zC 131 [grV g] (.b true)) :
 Returns zC 62 [.ag (yfu q t p.raw),grV g] (.i .i64 0):=by
 refine Returns.of (ydue _ _ ?_);have j:=G;unfold ProgT.ok at j;simp only[zF,decide_eq_true_eq]at j;have l:p.raw.vars=p.vars:=rfl;simp only[yfu,grV]at y w;simp only[c62,ydzg,yduv,ydqw,ydwv,ydzb,ydso,yfu,grV,go_sem,zA,zB,zG];refine y.use ?_;simp only[ybj,go_sem,zA,zB];refine w.use ?_;simp only[yfk,l,go_sem,zA,zB,zD]
 have n:∀k,k<p.vars.length->(p.vars.getD k default).ok=true/\((p.vars.getD k default).kind=1->(ybh g 0 (p.vars.getD k default)).1<=(ybh g 0 (p.vars.getD k default)).2/\(ybh g 0 (p.vars.getD k default)).2-(ybh g 0 (p.vars.getD k default)).1+1<=4096):=fun k hk=>by
  rw[getD_at hk];refine⟨List.all_eq_true.1 j.1.1.2 _ (zJ _),fun m=>?_⟩;have:=List.all_eq_true.1 D _ (zJ hk)
  simpa[m]using this
 refine ybd (σ:=Nat) (fun k=>⟨[(18,.i .i64 k),(17,.i .i64 p.vars.length),(16,.ex q (yfk p.vars)),(3,.pt (3,0) 0 0)],[(3,.one (some ⟨27,true,2,1,fun _=>[ybb g.ids,yj g.ports]⟩))]⟩) (fun k=>k<=p.vars.length) (fun k=>p.vars.length-k) 0 (zK _) ?_ ?_
 .refine yu ?_;simp only[yfk,wk,go_sem,zA,zG]
 .intro k hk;obtain⟨x,A⟩:∃x,p.vars.getD k default=x:=⟨_,rfl⟩;simp only[ydta,ydsx,ydok,ydxe,yddf,ycxe,ydcf,ycth,yfk,varC,splice,ych,A,go_sem,zA,zB,zD,zG];intro F;have s:k<p.vars.length:=by omega
  obtain⟨d,o⟩:=n k s;rw[A]at d o;have u:=yzq r d (v:=0) (by have:=r.1;omega)
  simp only[varC,grV,zBH]at u;obtain⟨B,C⟩:=ywr r d;have H:=ybsu d;refine⟨by omega,fun m=>⟨ikw (by omega) (by omega),?_⟩,fun m=>u.use ?_⟩
  .refine ycb (k+1) ?_;refine yu ?_;simp only[wk,go_sem,zA,zG];omega
  .obtain⟨f,h⟩:=o m;obtain⟨I,a⟩:∃b,(ybh g 0 x).1=b:=⟨_,rfl⟩;obtain⟨J,c⟩:∃b,(ybh g 0 x).2=b:=⟨_,rfl⟩;have e:ybh g 0 x=(x.lo,x.hi+x.perNode*(g.ids.length:Int)+x.perID*maxI g.ids):=by unfold ybh;rw[if_pos m]
   rw[e]at a c;simp only[]at a c;simp only[e]at f h;rw[e];simp only[ybj,ych,go_sem,zA,zB];simp only[a,c]at f h ⊢;refine⟨fun _=>⟨ikw (by omega) (by omega),ikw (by omega) (by omega),fun E=>absurd h (by omega),fun _=>⟨ikw (by omega) (by omega),?_⟩⟩,fun z=>absurd f (by omega)⟩
   refine ycb (k+1) ?_;refine yu ?_;simp only[wk,go_sem,zA,zG];omega
end Sh
end
section
namespace Sh
open Go Ev Go.RowKit
def GrI(g:Gr):Prop:=(∀x∈g.ids,I64 x)/\∀a∈g.ports,∀l∈a,I64 l.1/\I64 l.2
def ycfp(c:List (List Int)):Prop:=∀s∈c,∀x∈s,I64 x
section
variable {G:AM}{m:Mem}{φ:Phi}{M:AM}{w:World}{u u':Value}
theorem ycix {X:Type}{z n:Nat}{K:Nat->List SV}{xs:List X}{E:Elem X}(hG:Le G m.b.get) (hr:RV G om0 (.sl z n K) u) (d:VR φ u u') (hR:Rel φ M w) (hs:Sub m M) (R:xs.length=n)
 (hE:∀k x b o L r,xs[k]?=some x->RVL G om0 (K k) L->VRL φ L r->(∀j v,r[j]?=some v->w.cell? ⟨b,o+j,none⟩=some v)->E w b o x):SlAt z E w u' xs:=by
 rcases hr.sl_inv with⟨rfl,O⟩|⟨Y,p,cp,T,N,e,zz,L,rfl,g1,g2,g3,g4,g5,g6,g7⟩
 .have:xs=[]:=zX R;subst this;rcases O with rfl|⟨b,o,c,rfl⟩
  .have e:=d.eq_simple rfl;subst e;exact SlAt.nil w
  .obtain⟨g,A,t,V,k2,F,W,k5,H,I⟩:=d.slice_inv;subst F;exact⟨some A,t,rfl,zK _,H,fun q=>absurd q (by simp)⟩
 .obtain⟨g,A,t,V,k2,F,W,k5,H,I⟩:=d.slice_inv;subst F;subst R;refine⟨some A,t,rfl,W,H,fun S=>?_⟩;rcases I with⟨rfl,_⟩|I
  .obtain⟨a2,P,h2⟩:=hR.blk _ _ (hs _ _ (hG _ _ g1));have D:φ Y=some g:=V;rw[D]at P;cases P
   obtain⟨h3,h4,y,J,a0,O,Q,h6,h7⟩:=h2;refine⟨g.blk,g.base+p,rfl,(Array.getElem?_eq_some_iff.1 Q).1,fun k x U=>?_⟩;have hk:k<xs.length:=(List.getElem?_eq_some_iff.1 U).1;have a1:=yld (z:=z) hk;have f:∀j v,j<z->(L k)[j]?=some v->∃i,y[g.base+(p+k*z+j)]?=some i/\VR φ v i:=fun j v C d=>h7 _ v (by omega) (by rw[g5 k hk j C];exact d)
   have B:∀(l:List Value) (q:Nat),(∀j v,l[j]?=some v->∃i,y[q+j]?=some i/\VR φ v i)->∃s,VRL φ l s/\∀j v,s[j]?=some v->y[q+j]?=some v:=by
    intro l
    induction l with
    |nil=>intro q _;exact⟨[],.nil,fun j v h=>by simp at h⟩
    | cons a l ih =>
      intro q h;obtain⟨i,Z,J⟩:=h 0 a rfl;obtain⟨s,e3,e4⟩:=ih (q+1) (fun j v d=>by have:=h (j+1) v (by simpa using d);rw[show q+1+j=q+(j+1)by omega];exact this)
      refine⟨i::s,.cons J e3,fun j v d=>?_⟩;cases j with
      |zero=>simp at d;subst d;exact Z
      |succ j=>have:=e4 j v (by simpa using d);rw[show q+(j+1)=q+1+j by omega];exact this
   obtain⟨r,r1,r2⟩:=B (L k) (g.base+p+k*z) (fun j v d=>by
    have C:j<z:=by rw[<-g4 k hk];exact(List.getElem?_eq_some_iff.1 d).1
    have:=f j v C d;rw[show g.base+p+k*z+j=g.base+(p+k*z+j)by omega]
    exact this)
   exact hE k x _ _ (L k) r U (g6 k hk) r1 fun j v d=>cell_of Q (by have:=r2 j v d;exact this)
  .omega
theorem ints_at{l:List Int}(h:Le G m.b.get)(p:RV G om0 (ybb l) u)(r:VR φ u u')(j:Rel φ M w)(q:Sub m M)(i:∀x∈l,I64 x):yof w u' l:=by
 refine ycix h p r j q rfl fun k x b o L s e g c n=>?_;have hk:k<l.length:=(List.getElem?_eq_some_iff.1 e).1;have f:l.getD k 0=x:=by simp[zM,e]
 rw[f]at g;cases g with
 | cons a b =>
   cases b
   cases a.int_inv
   obtain⟨t,rfl,d⟩:=ygo c;have:=d.eq_simple rfl;subst this;exact⟨n 0 _ rfl,i x (zN e)⟩
theorem ycpc{ls:List (Int×Int)}(p:Le G m.b.get)(s:RV G om0 (yx ls) u)(v:VR φ u u')(r:Rel φ M w)(t:Sub m M)(q:∀l∈ls,I64 l.1/\I64 l.2):ybyh w u' ls:=by
 refine ycix p s v r t rfl fun k x b o L y g e c f=>?_;have d:ls.getD k (0,0)=x:=by simp[zM,g]
 rw[d]at e;cases e with
 | cons a b =>
   cases b with
   | cons h i =>
     cases i
     cases a.int_inv
     cases h.int_inv
     obtain⟨v1,v2,rfl,j,n⟩:=yxr c;have:=j.eq_simple rfl;subst this;have:=n.eq_simple rfl;subst this;exact⟨f 0 _ rfl,f 1 _ rfl,q x (zN g)⟩
theorem ycov{ps:List (List (Int×Int))}(f:Le G m.b.get)(q:RV G om0 (yj ps) u)(r:VR φ u u')(h:Rel φ M w)(i:Sub m M)(n:∀ls∈ps,∀l∈ls,I64 l.1/\I64 l.2):ybdu w u' ps:=by
 refine ycix f q r h i rfl fun k x b o L t j g c p=>?_;have e:ps.getD k []=x:=by simp[zM,j]
 rw[e]at g;cases g with
 | cons a b =>
   cases b
   obtain⟨s,rfl,d⟩:=ygo c;exact⟨s,p 0 _ rfl,ycpc f a d h i (n x (zN j))⟩
theorem ydfk{c:List (List Int)}(g:Le G m.b.get)(q:RV G om0 (yct c) u)(r:VR φ u u')(i:Rel φ M w)(j:Sub m M)(n:ycfp c):yctj w u' c:=by
 refine ycix g q r i j rfl fun k x b o L t l h d p=>?_;have f:c.getD k []=x:=by simp[zM,l]
 rw[f]at h;cases h with
 | cons a b =>
   cases b
   obtain⟨s,rfl,e⟩:=ygo d;exact⟨s,p 0 _ rfl,ints_at g a e i j (n x (zN l))⟩
theorem ycmj{g:Gr}(d:Le G m.b.get)(o:RV G om0 (grV g) u)(p:VR φ u u')(f:Rel φ M w)(h:Sub m M)(e:GrI g):GrAt w u' g:=by
 obtain⟨L,rfl,n⟩:=o.ag_inv;cases n with
 | cons a b =>
   cases b with
   | cons i j =>
     cases j
     obtain⟨q,rfl,c⟩:=p.agg_inv;obtain⟨v1,v2,rfl,k,l⟩:=yxr c;exact⟨v1,v2,rfl,ints_at d a k f h e.1,ycov d i l f h e.2⟩
end
theorem ybii {g:FuncId}{args:List SV}{r:SV}{v:Value}(n:∃fn c,Tryz.prog.funcs[g]?=some fn/\fn.body=some c) (f:∀F,RV F om0 r v) (i:∀φ,VR φ v v)
 (h:∀(G:AM) (m:Mem) (us:List Value),Le G m.b.get->RVL G om0 args us->∀φ M w a,Rel φ M w->Sub m M->VRL φ us a->Calls zC g a.toArray w fun e j=>e = .returned v/\Below w.heap.size w j):Returns zC g args r:=by
 intro G m us s d o;refine⟨v,ygg m,r,yob yua n fun φ M w a k p q=>(h G m us d o φ M w a k p q).mono ?_,zY _,Le.refl _,rfl,f _⟩;rintro e j ⟨rfl,l⟩;exact⟨v,rfl,i φ,l⟩
theorem rvl1{F:AM}{ω:Om}{a:SV}{us:List Value}(h:RVL F ω [a] us):∃u,us=[u]/\RV F ω a u:=by
 cases h with|cons x y=>cases y;exact⟨_,rfl,x⟩
theorem rvl2{F:AM}{ω:Om}{a b:SV}{us:List Value}(h:RVL F ω [a,b] us):∃u v,us=[u,v]/\RV F ω a u/\RV F ω b v:=by
 cases h with|cons x y=>obtain⟨v,rfl,q⟩:=rvl1 y;exact⟨_,v,rfl,x,q⟩
end Sh
end
end Go.Proofs.YthclbjjgfcgbgaaGreatDoor
