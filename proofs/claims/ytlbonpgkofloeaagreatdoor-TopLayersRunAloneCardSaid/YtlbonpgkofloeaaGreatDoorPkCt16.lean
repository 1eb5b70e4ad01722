/- Joined. -/
import Derived.Test.YtlbonpgkofloeaaGreatDoorPkCt3
import Derived.Test.YtlbonpgkofloeaaGreatDoorPkCt4
set_option linter.unusedSimpArgs false
set_option linter.unusedVariables false
set_option maxRecDepth 8000
open Nat renaming reduceEqDiff->zA,reduceAdd->zB,reduceLT->zD,reduceLeDiff->zG,zero_le->zJ,le_refl->zS,pow_le_pow_right->zAD,not_lt_zero->zAF,lt_of_lt_of_le->zAG,testBit_lt_two_pow->zAH,lt_succ_self->zAR,mod_eq_of_lt->zAS,testBit_eq_decide_div_mod_eq->zAT,lt_pow_two_of_testBit->zAZ,shiftRight_eq_div_pow->zBA,mul_div_cancel_left->zBF,testBit_and->zBJ,eq_of_testBit_eq->zBK,pow_lt_pow_right->zBM,reduceBEq->zBO,reduceMul->zBP,lt_of_le_of_lt->zBT,pow_succ->zBU,lt_trichotomy->zBV,div_le_self->zCE,and_le_left->zCF,two_pow_pos->zCG,mul_le_mul->zCJ,add_zero->zCL,lt_or_ge->zCM,testBit->zCO
open Go.Proofs.Tryz renaming prog->zC,underlying22->zBX
open Bool renaming and_eq_true->zF,false_eq_true->zBR
open List renaming getElem?_eq_getElem->zH,take_succ_eq_append_getElem->zI,getElem_mem->zK,getD->zM,mem_of_getElem?->zQ,replicate->zT,getElem?_set->zU,foldl_append->zV,findIdx?_eq_some_iff_getElem->zW,range->zX,findIdx?_eq_none_iff->zY,eq_nil_of_length_eq_zero->zAA,take_of_length_le->zAB,getD_eq_getElem?_getD->zAC,take_length->zAE,mem_cons_of_mem->zAI,findIdx?_append->zAJ,mem_cons_self->zAM,getElem_append_left->zAO,getElem?_replicate->zAP,length->zAQ,mem_zipIdx_iff_getElem?->zAU,length_append->zAV,append_assoc->zAW,getElem?_zip_eq_some->zAX,drop_eq_getElem_cons->zAY,getElem_append_right->zBB,length_cons->zBC,ext_getElem->zBD,all_eq_true->zBE,length_nil->zBH,length_map->zBI,any_cons->zBN,drop_succ_cons->zBQ,countP_append->zBS,pairwise_map->zBW,countP_cons->zBZ,length_take->zCA,elem_eq_mem->zCB,range_succ->zCD,drop_zero->zCH,map_cons->zCK
open Go.Lib renaming hid->zL
open BitVec renaming ofInt->zN,ofInt_natCast->zZ,toNat_ofNat->zAN,getLsbD_ofNat->zBL
open Int renaming toNat_natCast->zO,reduceToNat->zAK,eq_ofNat_of_zero_le->zBG,natCast_zero->zCC,natAbs_mul->zCI,le_trans->zCN
open Classical renaming byContradiction->zAL
open Option renaming getD_some->zBY
open Go
namespace Go.Proofs.YtlbonpgkofloeaaGreatDoor
section
namespace Sh
open Go Ev
theorem ydgh {g:FuncId}{fn:Func}{sc:SC}{rs:List SR}(f:Tryz.prog.funcs[g]?=some fn) (a:fn.body.bind (cmp zC fn.ntmps)=some sc) (b:cmpR zC fn.results.toList=some rs)
 {i:List FuncId}{args:List SV}{Q:SV->Prop}(h:vc ⟨Ct zC,Cm zC,ItC zC,[],i⟩ sc (retK rs Q) ⟨slots args 0,[]⟩):Ct zC g args Q:=by
 obtain⟨c,d,e⟩:=bind_some a;exact ycqu mix ybcu f d e b h
theorem ydib {g:FuncId}{fn:Func}{sc:SC}{rs:List SR}(i:Tryz.prog.funcs[g]?=some fn) (a:fn.body.bind (cmp zC fn.ntmps)=some sc) (b:cmpR zC fn.results.toList=some rs)
 {d:List Nm}{j:List FuncId}{o:Own}{args:List SV}{Q:SV->Own->Prop}(h:vc ⟨Ct zC,Cm zC,ItC zC,d,j⟩ sc (retM rs d Q) ⟨slots args 0,o⟩):Cm zC g d o args Q:=by
 obtain⟨c,e,f⟩:=bind_some a;exact ycdl mix ybcu i e f b h
def Fn(g:FuncId)(c:SC)(rs:List SR):Prop:=∀(a:List SV) (Q:SV->Prop),vc ⟨Ct zC,Cm zC,ItC zC,[],[]⟩ c (retK rs Q) ⟨slots a 0,[]⟩->Ct zC g a Q
def FnU(g:FuncId)(c:SC)(rs:List SR):Prop:=∀(b:List FuncId) (a:List SV) (Q:SV->Prop),vc ⟨Ct zC,Cm zC,ItC zC,[],b⟩ c (retK rs Q) ⟨slots a 0,[]⟩->Ct zC g a Q
def FnM(g:FuncId)(c:SC)(rs:List SR):Prop:=∀(b:List Nm) (d:List FuncId) (o:Own) (a:List SV) (Q:SV->Own->Prop),vc ⟨Ct zC,Cm zC,ItC zC,b,d⟩ c (retM rs b Q) ⟨slots a 0,o⟩->Cm zC g b o a Q
section
variable {g:FuncId}{fn:Func}{sc:SC}{rs:List SR}
theorem fn_0(c:Tryz.prog.funcs[g]?=some fn)(a:fn.body.bind (cmp zC fn.ntmps)=some sc:=by kernel_rfl)(b:cmpR zC fn.results.toList=some rs:=by kernel_rfl):Fn g sc rs:=fun _ _ h=>ydgh c a b h
theorem fn_u(c:Tryz.prog.funcs[g]?=some fn)(a:fn.body.bind (cmp zC fn.ntmps)=some sc:=by kernel_rfl)(b:cmpR zC fn.results.toList=some rs:=by kernel_rfl):FnU g sc rs:=fun _ _ _ h=>ydgh c a b h
theorem fn_m(c:Tryz.prog.funcs[g]?=some fn)(a:fn.body.bind (cmp zC fn.ntmps)=some sc:=by kernel_rfl)(b:cmpR zC fn.results.toList=some rs:=by kernel_rfl):FnM g sc rs:=fun _ _ _ _ _ h=>ydib c a b h
end
def o3(x:SOp)(d a:Nat):SOper:=⟨x,some d,none,a⟩
def o0(x:SOp)(a:Nat):SOper:=⟨x,none,none,a⟩
abbrev LO:=List SOper
def mv'(x d a:Nat):SOper:=⟨.mv (.tmp x),some d,none,a⟩
def bn'(b:BinOp)(x y d a:Nat):SOper:=⟨.bin b (.tmp x) (.tmp y),some d,none,a⟩
def ld'(n x d a:Nat):SOper:=⟨.load false n (.tmp x),some d,none,a⟩
def fa'(o n x d a:Nat):SOper:=⟨.faddr o n (.tmp x),some d,none,a⟩
def ix'(z x k d a:Nat):SOper:=⟨.idx z (.tmp x) (.tmp k),some d,none,a⟩
def ln'(x d a:Nat):SOper:=⟨.len (.tmp x),some d,none,a⟩
def xt'(x k d a:Nat):SOper:=⟨.extract (.tmp x) k,some d,none,a⟩
def cl'(g:FuncId)(xs:List Nat)(d a:Nat):SOper:=⟨.call (.func g) (xs.map .tmp),some d,none,a⟩
def ci'(n:Int):Operand:=.const (.int .i64 n)
def mc(n:Int)(d a:Nat):SOper:=⟨.mv (.const (.int .i64 n)),some d,none,a⟩
def bc(b:BinOp)(x:Nat)(n:Int)(d a:Nat):SOper:=⟨.bin b (.tmp x) (.const (.int .i64 n)),some d,none,a⟩
def mb(b:Bool)(d a:Nat):SOper:=⟨.mv (.const (.bool b)),some d,none,a⟩
def nl'(d a:Nat):SOper:=⟨.mv (.const (.slice none 0 0)),some d,none,a⟩
def sto(n x y a:Nat):SOper:=⟨.store n (.tmp x) (.tmp y),none,none,a⟩
def la'(n x d a:Nat):SOper:=⟨.load true n (.tmp x),some d,none,a⟩
def nk'(x d a:Nat):SOper:=⟨.nilck (.tmp x),some d,none,a⟩
def bx'(t x d a:Nat):SOper:=⟨.box t (.tmp x),some d,none,a⟩
def pk'(x y d a:Nat):SOper:=⟨.pick (.tmp x) (.const (.bool true)) (.tmp y),some d,none,a⟩
def gf(x:SOp)(d g a:Nat):SOper:=⟨x,some d,some (g,false),a⟩
def gt(x:SOp)(d g a:Nat):SOper:=⟨x,some d,some (g,true),a⟩
def sr(l:LO)(k:SC):SC:=.seq (.reg false l) k
def cn(t:Nat)(a b:SC):SC:=.cond (.tmp t) a b
attribute [go_sem] o3 o0 mv' bn' ld' fa' ix' ln' xt' cl' ci' mc bc mb nl' sto la' nk' bx' pk' gf gt sr cn
attribute [go_sem] ydnn ycys yclr ycjb ydln yczh ydcs ycwm ycpu ydaj ycnt ybiw ybdf ybvl ybnj puts ycxm
attribute [go_sem] ydbf ydlw ydid ybhl ybve ycjg ybea ybkv ybsp ybst ycat ybnp ycsx ybmq ycsc
attribute [go_sem] yst Fam.at Prod.mk.injEq ycur ycwu yczc ydbb ycyu yczs ybfu oldX oldV yln ypn yceh ycve gb_x ydku resX yjd slots ycoy
attribute [go_sem] ycsq ycdg runO opO yceh bsO xOp SS.get SS.pget SS.gets SS.lit look lookO SS.put SS.own ydab ycuo ydbc ybdg yclq ycka ycok
attribute [go_sem] ycti ycjv ycsj ycsk ycpe ybqf simple ynq yyx ybih part idxX natX ytz ybrj xbin xun eqL splice fill OB.set ofV fits yczn
attribute [go_sem] ybqb allP SRec.no SRec.pure clash nmem List.isEmpty_nil List.isEmpty_cons List.drop List.take List.all List.any List.map zAQ List.head? List.append
attribute [go_sem] List.nil_append List.append_nil List.cons_append List.all_cons List.all_nil zBQ zCH List.take_succ_cons List.take_zero List.drop_nil
attribute [go_sem] List.take_nil zBC zBH zCK List.map_nil List.getElem?_cons_zero List.getElem?_cons_succ List.elem zO Nat.zero_add
attribute [go_sem] zCL if_true if_false ite_true ite_false Option.isNone Option.isNone_none Option.map_some Option.map_none Bool.not_true Bool.not_false Bool.true_or
attribute [go_sem] Bool.or_true Bool.false_or Bool.or_false Bool.and_true Bool.true_and Bool.and_false Bool.false_and Bool.and_self Bool.or_self true_and and_true and_self
attribute [go_sem] true_implies false_implies implies_true forall_const Nat.lt_add_one Nat.one_pos Nat.zero_lt_one Nat.lt_irrefl zS decide_true decide_false zBR
attribute [go_sem] Bool.true_eq_false forall_eq BEq.rfl beq_self_eq_true decide_eq_true_eq decide_eq_false_iff_not beq_iff_eq beq_eq_false_iff_ne bne_iff_ne bne_eq_false_iff_eq
attribute [go_sem] Bool.not_eq_true Bool.not_eq_false Bool.not_eq_true' Bool.not_eq_false' ycwe ycyp ycze yckm ycpt ycft ycrz ycqc ycns
attribute [go_sem] yclm ycfn yczw ydig ycva ycrk ycsz ycju ycqy ycmo ycnr ybwg ycbj ybrp ybyi ycbc ybxp
attribute [go_sem] ycbg ycdv ybxj ydel ydfp ydbe ydac ycwi yckq ydad ydaw ycwx ycup ycwr ycyk ydnp ydnb ydkh ydfj ydcb
attribute [go_sem] ycyt ydgl ydgd ydeg ydfk ydga yddm ydbg ydiq ydfh ybmo ycxd ycnc ycyx ycyj ycxc ycxj ycvs ycyi
attribute [go_sem] yzj ybjo idxF yddp ytp ylz own1 ybrd ycwd ycwl zBR false_implies Tel telL yqn ybct ycwb ycwh ycyz
attribute [go_sem] ycqi ycpw ycph ycpm yckv ycoi yctj ycpy ycmh ydlf ydos ydkf ydfy ydcp ydfb ydhk ydhc yddb yddk ydir
attribute [go_sem] ydjb lv nmem rid ygb ydnl ydau ywi yddr ycuy yly yqu ybqc yctz ydcd ybow ykc yddv ydko ydna ydmg ydfc ydhe ydaz
attribute [go_sem] ydgy ydjq ydbz ydiv ydie ydis zBN List.any_nil Option.isSome ycyq or_false false_or or_true true_or false_and exists_const exists_false
attribute [go_sem] List.not_mem_nil and_false
attribute [go_sem ↓] gb_t gb_f ydmh ydlz
end Sh
end
section
namespace Sh
open Go Ev
def ybcs:Code->Nat->Option (List Oper)
 | .seq a b,k=>match ybcs a k with
   |some l=>some l
   |none=>ybcs b k
 | .cond _ a b,k=>match ybcs a k with
   |some l=>some l
   |none=>ybcs b k
 |.block _ b,k=>ybcs b k
 |.loop b,k=>ybcs b k
 |.region id c _,k=>if id=k then some c.toList else none
 | .rangeFunc _ _ a b,k=>match ybcs a k with
   |some l=>some l
   |none=>ybcs b k
 |_,_=>none
noncomputable def rg(g k:Nat):LO:=((Tryz.prog.funcs[g]?).bind fun fn=>fn.body.bind fun b=>(ybcs b k).bind fun l=>cmpL zC fn.ntmps l (ancs l []).reverse l 0).getD []
def skl(R:Nat->LO):Code->SC
 |.skip=>.skip
 |.seq a b=>.seq (skl R a) (skl R b)
 |.cond c a b=>.cond c (skl R a) (skl R b)
 |.block id b=>.block id (skl R b)
 |.loop b=>.loop (skl R b)
 |.exit id=>.exit id
 |.ret=>.ret
 |.region id _ d=>.reg d (R id)
 |.rangeFunc g e a b=>.range g e.toList (skl R a) (skl R b)
 |_=>.no
noncomputable def sk(g:Nat)(R:Nat->LO):SC:=((Tryz.prog.funcs[g]?).bind fun fn=>fn.body.bind fun b=>some (skl R b)).getD .no
noncomputable def cd(g:Nat):SC:=sk g (rg g)
theorem cdE(g:Nat){f:(Nat->LO)->SC}(h:(fun R=>sk g R)=f:=by conv=>lhs;reduce):cd g=f (rg g):=congrFun h (rg g)
theorem rgE(g k:Nat){l:LO}(h:rg g k=l:=by conv=>lhs;reduce;try simp only[Int.reduceOfNat,Int.reduceNegSucc]):rg g k=l:=h
section
variable {fn:Func}{rs:List SR}
theorem okG(g:Nat)(c:Tryz.prog.funcs[g]?=some fn:=by exact rfl)(a:fn.body.bind (cmp zC fn.ntmps)=some (cd g):=by kernel_rfl)(b:cmpR zC fn.results.toList=some rs:=by conv=>lhs;reduce):Fn g (cd g) rs:=fn_0 c a b
theorem okGU(g:Nat)(c:Tryz.prog.funcs[g]?=some fn:=by exact rfl)(a:fn.body.bind (cmp zC fn.ntmps)=some (cd g):=by kernel_rfl)(b:cmpR zC fn.results.toList=some rs:=by conv=>lhs;reduce):FnU g (cd g) rs:=fn_u c a b
theorem okGM(g:Nat)(c:Tryz.prog.funcs[g]?=some fn:=by exact rfl)(a:fn.body.bind (cmp zC fn.ntmps)=some (cd g):=by kernel_rfl)(b:cmpR zC fn.results.toList=some rs:=by conv=>lhs;reduce):FnM g (cd g) rs:=fn_m c a b
end
end Sh
end
section
namespace Sh
open Go Ev
def yzw:List Nat:=[0,1,1,2,1,2,2,3,1,2,2,3,2,3,3,4,1,2,2,3,2,3,3,4,2,3,3,4,3,4,4,5,1,2,2,3,2,3,3,4,2,3,3,4,3,4,4,5,2,3,3,4,3,4,4,5,3,4,4,5,4,5,5,6,1,2,2,3,2,3,3,4,2,3,3,4,3,4,4,5,2,3,3,4,3,4,4,5,3,4,4,5,4,5,5,6,2,3,3,4,3,4,4,5,3,4,4,5,4,5,5,6,3,4,4,5,4,5,5,6,4,5,5,6,5,6,6,7,1,2,2,3,2,3,3,4,2,3,3,4,3,4,4,5,2,3,3,4,3,4,4,5,3,4,4,5,4,5,5,6,2,3,3,4,3,4,4,5,3,4,4,5,4,5,5,6,3,4,4,5,4,5,5,6,4,5,5,6,5,6,6,7,2,3,3,4,3,4,4,5,3,4,4,5,4,5,5,6,3,4,4,5,4,5,5,6,4,5,5,6,5,6,6,7,3,4,4,5,4,5,5,6,4,5,5,6,5,6,6,7,4,5,5,6,5,6,6,7,5,6,6,7,6,7,7,8]
def ycug:LO:=[mc 0 2 0]
def yctr:LO:=[mv' 0 3 0,o3 (.bin .shr (.tmp 3) (.const (.int .u64 24))) 4 1,o3 (.stri yzw (.tmp 4)) 5 3,mv' 0 6 0,o3 (.bin .shr (.tmp 6) (.const (.int .u64 16))) 7 8,o3 (.bin .and (.tmp 7) (.const (.int .u32 255))) 8 24,o3 (.stri yzw (.tmp 8)) 9 56,bn' .add 5 9 10 127,mv' 0 11 0,o3 (.bin .shr (.tmp 11) (.const (.int .u64 8))) 12 256,o3 (.bin .and (.tmp 12) (.const (.int .u32 255))) 13 768,o3 (.stri yzw (.tmp 13)) 14 1792,bn' .add 10 14 15 4095,mv' 0 16 0,o3 (.bin .and (.tmp 16) (.const (.int .u32 255))) 17 8192,o3 (.stri yzw (.tmp 17)) 18 24576,bn' .add 15 18 19 65535,o3 (.conv .i64 (.tmp 19)) 20 131071,mv' 20 2 262143]
def c165:SC:=(sr ycug <| .seq (.reg true yctr) .ret)
theorem ycwq:Fn 165 c165 [.t 2]:=fn_0 Tryz.func165
end Sh
end
section
def adj(g:Gr)(u v:Nat):Prop:=∃a,g.ports[u]?=some a/\∃l∈a,l.1=(v:Int)
def Walk(g:Gr)(a:Nat):Nat->Nat->Prop
 |0,v=>v=a
 |k+1,v=>∃u,Walk g a k u/\adj g u v
def ybcq(g:Gr)(a v:Nat)(x:Int):Prop:=(x = -1/\∀k,¬Walk g a k v)\/∃k:Nat,x=k/\Walk g a k v/\∀j,j<k->¬Walk g a j v
def ywd(g:Gr)(a:Nat)(D:List Int):Prop:=D.length=g.ports.length/\∀v x,D[v]?=some x->ybcq g a v x
theorem ybcq.unique{g:Gr}{a v:Nat}{x y:Int}(h:ybcq g a v x)(d:ybcq g a v y):x=y:=by
 rcases h with⟨rfl,b⟩|⟨k,rfl,b,e⟩<;>rcases d with⟨rfl,c⟩|⟨j,rfl,c,f⟩
 .rfl
 .exact absurd c (b j)
 .exact absurd b (c k)
 .rcases zBV k j with h|h|h
  .exact absurd b (f k h)
  .rw[h]
  .exact absurd c (e j h)
theorem ywd.unique{g:Gr}{a:Nat}{D b:List Int}(h:ywd g a D)(c:ywd g a b):D=b:=by
 apply zBD (by rw[h.1,c.1])
 intro i d e;exact(h.2 i _ (zH d)).unique (c.2 i _ (zH e))
theorem ybe.link{g:Gr}(h:ybe g){v:Nat}{ls:List (Int×Int)}(c:g.ports[v]?=some ls){l:Int×Int}(b:l∈ls):0<=l.1/\l.1<g.ports.length/\l.1≠v/\1<=l.2/\l.2<=15:=by
 obtain⟨a,e⟩:=List.getElem?_eq_some_iff.1 c;have:=(h.2.2.2.2.2.1 ⟨v,a⟩).1 l (by simp only[Fin.getElem_fin,e];exact b)
 unfold ymo at this;simp only at this;omega
theorem ybe.adj_lt{g:Gr}(h:ybe g){u v:Nat}(b:adj g u v):u<g.ports.length/\v<g.ports.length:=by
 obtain⟨d,a,l,c,e⟩:=b;have:=h.link a c;exact⟨(List.getElem?_eq_some_iff.1 a).1,by omega⟩
theorem ybe.adj_symm{g:Gr}(h:ybe g){u v:Nat}(b:adj g u v):adj g v u:=by
 obtain⟨j,c⟩:=h.adj_lt b;obtain⟨k,f,l,i,e⟩:=b;obtain⟨a,d⟩:=List.getElem?_eq_some_iff.1 f;have:=h.2.2.2.2.2.2 ⟨u,a⟩ l (by simp only[Fin.getElem_fin,d];exact i)
 rw[e,zO]at this;simp only[zM,zH c,zBY]at this;exact⟨_,zH c,_,this,rfl⟩
structure BfsInv(g:Gr)(a:Nat)(R:List Int)(Q:List Nat):Prop where
 len:R.length=g.ports.length
 src:R[a]?=some 0
 val:∀(v:Nat) (x:Int),R[v]?=some x->x = -1\/∃k:Nat,x=k/\Walk g a k v/\∀j,j<k->¬Walk g a j v
 qin:∀q∈Q,∃k:Nat,R[q]?=some (k:Int)
 sorted:Q.Pairwise (fun p q=>∀x y,R[p]?=some x->R[q]?=some y->x<=y/\y<=x+1)
 done:∀(v k:Nat),R[v]?=some (k:Int)->v∉Q->∀u,adj g v u->∃j:Nat,R[u]?=some (j:Int)
structure BfsIn(g:Gr)(a v d:Nat)(ls:List (Int×Int))(i:Nat)(R:List Int)(Q:List Nat):Prop where
 len:R.length=g.ports.length
 src:R[a]?=some 0
 val:∀(v:Nat) (x:Int),R[v]?=some x->x = -1\/∃k:Nat,x=k/\Walk g a k v/\∀j,j<k->¬Walk g a j v
 qin:∀q∈Q,∃k:Nat,R[q]?=some (k:Int)
 sorted:Q.Pairwise (fun p q=>∀x y,R[p]?=some x->R[q]?=some y->x<=y/\y<=x+1)
 rv:R[v]?=some (d:Int)
 low:∀q∈Q,∀y,R[q]?=some y->(d:Int)<=y/\y<=d+1
 done:∀(u k:Nat),R[u]?=some (k:Int)->u∉Q->u≠v->∀t,adj g u t->∃j:Nat,R[t]?=some (j:Int)
 part:∀l∈ls.take i,∃j:Nat,R[l.1.toNat]?=some (j:Int)
theorem BfsInv.start{g:Gr}{a:Nat}(ha:a<g.ports.length):BfsInv g a ((zT g.ports.length (-1)).set a 0) [a] where
 len:=by simp
 src:=by simp[ha]
 val := by
  intro v x h;rw[zU]at h;split at h
  .rename_i e
   subst e;simp[ha]at h;subst h;exact .inr ⟨0,rfl,rfl,fun j hj=>absurd hj (by omega)⟩
  .rw[zAP]at h;split at h
   .cases h;exact .inl rfl
   .cases h
 qin:=by
  intro q hq;obtain rfl:q=a:=by simpa using hq
  exact⟨0,by simp[ha]⟩
 sorted:=by simp
 done:=by
  intro v k h hv u _;rw[zU]at h;split at h
  .rename_i e
   exact absurd (by simp[e]) hv
  .rw[zAP]at h;split at h
   .cases h
   .cases h
theorem BfsInv.pop{g:Gr}{a:Nat}{R:List Int}{v:Nat}{Q:List Nat}(h:BfsInv g a R (v::Q)){d:Nat}(hd:R[v]?=some (d:Int))(ls:List (Int×Int)):BfsIn g a v d ls 0 R Q where
 len:=h.len
 src:=h.src
 val:=h.val
 qin:=fun q hq=>h.qin q (zAI _ hq)
 sorted:=(List.pairwise_cons.1 h.sorted).2
 rv:=hd
 low:=fun q hq y hy=>(List.pairwise_cons.1 h.sorted).1 q hq _ y hd hy
 done:=fun u k hu hq hv t ht=>h.done u k hu (by simp[hq,hv]) t ht
 part:=by simp
theorem BfsIn.finish{g:Gr}{a v d:Nat}{ls:List (Int×Int)}{R:List Int}{Q:List Nat}(h:BfsIn g a v d ls ls.length R Q)(hls:g.ports[v]?=some ls):BfsInv g a R Q where
 len:=h.len
 src:=h.src
 val:=h.val
 qin:=h.qin
 sorted:=h.sorted
 done:=by
  intro u k hu hq t ht
  by_cases e:u=v
  .subst e;obtain⟨ls',h1,l,hl,e2⟩:=ht;rw[hls]at h1;cases h1
   have:=h.part l (by rw[zAE];exact hl)
   rwa [e2,zO]at this
  .exact h.done u k hu hq e t ht
theorem BfsIn.skip{g:Gr}{a v d:Nat}{ls:List (Int×Int)}{i:Nat}{R:List Int}{Q:List Nat}(h:BfsIn g a v d ls i R Q)(c:i<ls.length){j:Nat}(e:R[ls[i].1.toNat]?=some (j:Int)):BfsIn g a v d ls (i+1) R Q :=
 ⟨h.len,h.src,h.val,h.qin,h.sorted,h.rv,h.low,h.done,by
   intro l b;rw[take_snoc ls i c]at b;rcases List.mem_append.1 b with b|b
   .exact h.part l b
   .obtain rfl:l=ls[i]:=by simpa using b
    exact⟨j,e⟩⟩
theorem BfsIn.found{g:Gr}{a v d:Nat}{ls:List (Int×Int)}{i:Nat}{R:List Int}{Q:List Nat}(h:BfsIn g a v d ls i R Q) :
 ∀k,k<=d->∀t,Walk g a k t->∃j:Nat,R[t]?=some (j:Int):=by
 intro k
 induction k with
 |zero=>intro _ t q;obtain rfl:t=a:=q;exact⟨0,h.src⟩
 | succ k r =>
   intro hk t ⟨p,hp,hpt⟩;obtain⟨j,c⟩:=r (by omega) p hp
   have n:j<=k:=by
    rcases h.val p _ c with e|⟨s,e,_,b⟩
    .omega
    .have:j=s:=by omega
     subst this;rcases zCM k j with l|f
     .exact absurd hp (b k l)
     .exact f
   refine h.done p j c ?_ ?_ t hpt
   .intro o;have:=(h.low p o _ c).1;omega
   .rintro rfl;have m:=h.rv;rw[c]at m;have u:=Option.some.inj m;omega
theorem BfsIn.discover{g:Gr}{a v d:Nat}{ls:List (Int×Int)}{i:Nat}{R:List Int}{Q:List Nat}(h:BfsIn g a v d ls i R Q)(D:g.ports[v]?=some ls)(I:i<ls.length){u:Nat}(J:ls[i].1=(u:Int))(H:R[u]?=some (-1)) :
 BfsIn g a v d ls (i+1) (R.set u ((d:Int)+1)) (Q++[u]):=by
 have G:u<R.length:=(List.getElem?_eq_some_iff.1 H).1
 have f:∀t (k:Nat),R[t]?=some (k:Int)->t≠u:=by
  rintro t k z rfl;rw[H]at z;have:=Option.some.inj z;omega
 have b:∀t,t≠u->(R.set u ((d:Int)+1))[t]?=R[t]?:=fun t z=>by rw[zU,if_neg (by omega)]
 have m:(R.set u ((d:Int)+1))[u]?=some ((d:Int)+1):=by rw[zU,if_pos rfl,if_pos G]
 have keep:∀t:Nat,(∃j:Nat,R[t]?=some (j:Int))->∃j:Nat,(R.set u ((d:Int)+1))[t]?=some (j:Int):=by
  rintro t ⟨j,C⟩;exact⟨j,by rw[b t (f t j C)];exact C⟩
 have A:adj g v u:=⟨ls,D,ls[i],zK I,J⟩
 have r:u∉Q:=fun c=>by
  obtain⟨k,hk⟩:=h.qin u c;exact f u k hk rfl
 refine⟨by simp[h.len],?_,?_,?_,?_,?_,?_,?_,?_⟩
 .rw[b a (f a 0 h.src)];exact h.src
 .intro t x n
  by_cases e:t=u
  .subst e;rw[m]at n;cases n
   refine .inr ⟨d+1,by omega,?_,?_⟩
   .rcases h.val v _ h.rv with e|⟨k,e,hk,_⟩
    .omega
    .have:d=k:=by omega
     subst this;exact⟨v,hk,A⟩
   .intro j C N;obtain⟨k,hk⟩:=h.found j (by omega) t N
    exact f t k hk rfl
  .rw[b t e]at n;exact h.val t x n
 .intro q c;rcases List.mem_append.1 c with c|c
  .exact keep q (h.qin q c)
  .obtain rfl:q=u:=by simpa using c
   exact⟨d+1,by rw[m];rfl⟩
 .rw[List.pairwise_append];refine⟨?_,by simp,?_⟩
  .refine(List.Pairwise.and_mem.1 h.sorted).imp ?_;rintro p q ⟨B,c,E⟩ x y n o;rw[b p (fun e=>r (e▸B))]at n;rw[b q (fun e=>r (e▸c))]at o;exact E x y n o
  .intro p B q c x y n o;obtain rfl:q=u:=by simpa using c
   rw[b p (fun e=>r (e▸B))]at n;rw[m]at o;cases o
   have:=h.low p B x n;omega
 .rw[b v (f v d h.rv)];exact h.rv
 .intro q c y o;rcases List.mem_append.1 c with c|c
  .rw[b q (fun e=>r (e▸c))]at o;exact h.low q c y o
  .obtain rfl:q=u:=by simpa using c
   rw[m]at o;cases o
   omega
 .intro t k z c M s L;have F:t≠u:=fun e=>c (by simp[e])
  rw[b t F]at z;exact keep s (h.done t k z (fun K=>c (List.mem_append_left _ K)) M s L)
 .intro l w;rw[take_snoc ls i I]at w;rcases List.mem_append.1 w with w|w
  .exact keep _ (h.part l w)
  .obtain rfl:l=ls[i]:=by simpa using w
   rw[J,zO];exact⟨d+1,by rw[m];rfl⟩
theorem BfsInv.isDist{g:Gr}{a:Nat}{R:List Int}(h:BfsInv g a R []):ywd g a R:=by
 have found:∀k t,Walk g a k t->∃j:Nat,R[t]?=some (j:Int):=by
  intro k
  induction k with
  |zero=>intro t e;obtain rfl:t=a:=e;exact⟨0,h.src⟩
  | succ k f =>
    intro t ⟨p,hp,hpt⟩;obtain⟨j,b⟩:=f p hp;exact h.done p j b (by simp) t hpt
 refine⟨h.len,fun v x c=>?_⟩;rcases h.val v x c with rfl|d
 .refine .inl ⟨rfl,fun k hk=>?_⟩;obtain⟨j,b⟩:=found k v hk;rw[c]at b;have:=Option.some.inj b;omega
 .exact .inr d
def ydd(R:List Int):Nat:=R.countP (fun x=>decide (x<0))
theorem yye{R:List Int}{u:Nat}{x:Int}(f:R[u]?=some (-1))(g:0<=x):ydd (R.set u x)+1=ydd R:=by
 obtain⟨a,e⟩:=List.getElem?_eq_some_iff.1 f;have c:R=R.take u++R[u]::R.drop (u+1):=by rw[List.getElem_cons_drop,List.take_append_drop]
 have d:R.set u x=R.take u++x::R.drop (u+1):=by rw[List.set_eq_take_append_cons_drop,if_pos a]
 have b:decide (x<0)=false:=by simp;omega
 unfold ydd;rw[d]
 conv=>rhs;rw[c]
 rw[zBS,zBS,zBZ,zBZ,e,b];simp;omega
end
section
def ycni(R:List Int)(x:Int)(ls:List (Int×Int)):Bool:=ls.any (fun l=>decide (R[l.1.toNat]?=some x))
def ycou(g:Gr)(d:Int)(R:List Int)(v:Nat):List Int :=
 if decide (R.getD v 0<0)&&ycni R (d-1) (g.ports.getD v [])then R.set v d else R
def stepD(g:Gr)(R:List Int)(d:Nat):List Int:=(zX g.ports.length).foldl (ycou g d) R
def start(g:Gr)(a:Nat):List Int:=(zT g.ports.length (-1)).set a 0
def ybr(g:Gr)(a:Nat):List Int:=(zX (g.ports.length-1)).foldl (fun R d=>stepD g R (d+1)) (start g a)
def Upto(g:Gr)(a d v:Nat)(x:Int):Prop:=(x = -1/\∀k,k<=d->¬Walk g a k v)\/∃k:Nat,k<=d/\x=k/\Walk g a k v/\∀j,j<k->¬Walk g a j v
theorem Upto.eq{g:Gr}{a d v:Nat}{x:Int}(h:Upto g a d v x){k:Nat}(hk:k<=d):x=k↔Walk g a k v/\∀j,j<k->¬Walk g a j v:=by
 rcases h with⟨rfl,b⟩|⟨i,m,rfl,b,c⟩
 .exact⟨fun e=>by omega,fun e=>absurd e.1 (b k hk)⟩
 .constructor
  .intro e;obtain rfl:i=k:=by omega
   exact⟨b,c⟩
  .rintro⟨f,l⟩;rcases zBV i k with h|h|h
   .exact absurd b (l i h)
   .omega
   .exact absurd f (c k h)
theorem Upto.more{g:Gr}{a d v:Nat}{x:Int}(h:Upto g a d v x)(f:0<=x):Upto g a (d+1) v x:=by
 rcases h with⟨rfl,b⟩|⟨i,e,rfl,b,c⟩
 .omega
 .exact .inr ⟨i,by omega,rfl,b,c⟩
structure LayerInv(g:Gr)(a d v:Nat)(R:List Int):Prop where
 len:R.length=g.ports.length
 new:∀(u:Nat) (x:Int),R[u]?=some x->u<v->Upto g a (d+1) u x
 old:∀(u:Nat) (x:Int),R[u]?=some x->v<=u->Upto g a d u x
theorem LayerInv.at_{g:Gr}{a d v:Nat}{R:List Int}(h:LayerInv g a d v R){u:Nat}(i:u<g.ports.length):R[u]?=some (d:Int)↔Walk g a d u/\∀j,j<d->¬Walk g a j u:=by
 have f:=h.len;have e:R[u]?=some R[u]:=zH (by omega)
 have c:R[u]=(d:Int)↔Walk g a d u/\∀j,j<d->¬Walk g a j u:=by
  by_cases b:u<v
  .exact(h.new u _ e b).eq (by omega)
  .exact(h.old u _ e (by omega)).eq (by omega)
 rw[e]
 simpa using c
theorem LayerInv.step{g:Gr}(r:ybe g){a d v:Nat}{R:List Int}(h:LayerInv g a d v R)(w:v<g.ports.length):LayerInv g a d (v+1) (ycou g ((d:Int)+1) R v):=by
 have c:=h.len;have ev:R[v]?=some R[v]:=zH (by omega)
 have E:R.getD v 0=R[v]:=by simp[zM,ev]
 have F:g.ports.getD v []=g.ports[v]:=by simp[zM,zH w]
 have m:ycni R ((d:Int)+1-1) g.ports[v]=true↔∃u,adj g u v/\Walk g a d u/\∀j,j<d->¬Walk g a j u:=by
  unfold ycni;rw[List.any_eq_true];constructor
  .rintro⟨l,s,i⟩;have H:=r.link (zH w) s;have i:=of_decide_eq_true i;rw[show(d:Int)+1-1=d by omega]at i
   refine⟨l.1.toNat,r.adj_symm ⟨_,zH w,l,s,by omega⟩,?_⟩
   exact(h.at_ (by omega)).1 i
  .rintro⟨u,b,o⟩;obtain⟨C,_⟩:=r.adj_lt b;obtain⟨K,i,l,s,e⟩:=r.adj_symm b;rw[zH w]at i;cases i
   refine⟨l,s,decide_eq_true ?_⟩;rw[e,zO,show(d:Int)+1-1=d by omega]
   exact(h.at_ C).2 o
 have A:=h.old v _ ev (zS _);unfold ycou;rw[E,F]
 by_cases c1:R[v]<0
 .have y:R[v] = -1/\∀k,k<=d->¬Walk g a k v:=by
   rcases A with i|⟨k,_,e,_⟩
   .exact i
   .omega
  by_cases c2:ycni R ((d:Int)+1-1) g.ports[v]=true
  .rw[if_pos (by rw[zF];exact⟨decide_eq_true c1,c2⟩)]
   obtain⟨p,B,o,_⟩:=m.1 c2;have n:∀t,t≠v->(R.set v ((d:Int)+1))[t]?=R[t]?:=fun t J=>by rw[zU,if_neg (by omega)]
   refine⟨by simp[c],fun u x b f=>?_,fun u x b f=>?_⟩
   .by_cases e:u=v
    .subst e;rw[zU,if_pos rfl,if_pos (by omega)]at b
     cases b
     exact .inr ⟨d+1,zS _,by omega,⟨p,o,B⟩,fun j G=>y.2 j (by omega)⟩
    .rw[n u e]at b;exact h.new u x b (by omega)
   .rw[n u (by omega)]at b
    exact h.old u x b (by omega)
  .rw[if_neg (fun e=>c2 (zF _ _▸e).2)];refine⟨c,fun u x b f=>?_,fun u x b f=>h.old u x b (by omega)⟩
   by_cases e:u=v
   .subst e;rw[ev]at b;cases b
    refine .inl ⟨y.1,fun k hk o=>?_⟩;rcases zCM d k with I|z
    .obtain rfl:k=d+1:=by omega
     obtain⟨p,B,q⟩:=o;refine c2 (m.2 ⟨p,q,B,fun j G D=>y.2 (j+1) (by omega) ⟨p,D,q⟩⟩)
    .exact y.2 k z o
   .exact h.new u x b (by omega)
 .rw[if_neg (by simp[c1])]
  refine⟨c,fun u x b f=>?_,fun u x b f=>h.old u x b (by omega)⟩
  by_cases e:u=v
  .subst e;exact(h.old u x b (zS _)).more (by rw[ev]at b;cases b;omega)
  .exact h.new u x b (by omega)
theorem ybam{g:Gr}(b:ybe g){a d:Nat}{R:List Int}(h:LayerInv g a d 0 R):∀v,v<=g.ports.length->LayerInv g a d v ((zX v).foldl (ycou g ((d:Int)+1)) R)
 |0,_=>h
 | v+1,c=>by
   rw[zCD,zV];exact(ybam b h v (by omega)).step b (by omega)
def ybdl(g:Gr)(a d:Nat)(R:List Int):Prop:=R.length=g.ports.length/\∀(u:Nat) (x:Int),R[u]?=some x->Upto g a d u x
theorem ybtb{g:Gr}{a:Nat}(c:a<g.ports.length):ybdl g a 0 (start g a):=by
 refine⟨by simp[start],fun u x b=>?_⟩
 unfold start at b;rw[zU]at b;split at b
 .rename_i e
  subst e;simp[c]at b;subst b;exact .inr ⟨0,zS _,rfl,rfl,fun j d=>absurd d (by omega)⟩
 .rename_i e
  rw[zAP]at b;split at b
  .cases b
   refine .inl ⟨rfl,fun k hk f=>?_⟩;obtain rfl:k=0:=by omega
   exact e f.symm
  .cases b
theorem ybsw{g:Gr}(f:ybe g){a d:Nat}{R:List Int}(h:ybdl g a d R):ybdl g a (d+1) (stepD g R (d+1)):=by
 have e:LayerInv g a d 0 R:=⟨h.1,fun _ _ _ b=>absurd b (by omega),fun u x b _=>h.2 u x b⟩
 have c:=ybam f e g.ports.length (zS _);unfold stepD;rw[show((d+1:Nat):Int)=(d:Int)+1 by omega]
 exact⟨c.len,fun u x b=>c.new u x b (by rw[<-c.len];exact(List.getElem?_eq_some_iff.1 b).1)⟩
theorem ywl{g:Gr}(c:ybe g){a:Nat}(b:a<g.ports.length):∀d,ybdl g a d ((zX d).foldl (fun R d=>stepD g R (d+1)) (start g a))
 |0=>ybtb b
 |d+1=>by rw[zCD,zV];exact ybsw c (ywl c b d)
theorem chain{g:Gr}{a:Nat}:∀k v,Walk g a k v->(∀j,j<k->¬Walk g a j v)->∃f:Nat->Nat,∀j,j<=k->Walk g a j (f j)/\∀i,i<j->¬Walk g a i (f j)
 | 0,v,h,_=>⟨fun _=>v,fun j d=>by obtain rfl:j=0:=by omega
                                  exact⟨h,fun i n=>absurd n (by omega)⟩⟩
 | k + 1,v,h,e=>by
   obtain⟨p,l,c⟩:=h;obtain⟨f,m⟩:=chain k p l (fun j d o=>e (j+1) (by omega) ⟨p,o,c⟩)
   refine⟨fun j=>if j<=k then f j else v,fun j d=>?_⟩
   by_cases b:j<=k
   .simp only[if_pos b];exact m j b
   .obtain rfl:j=k+1:=by omega
    simp only[if_neg b];exact⟨⟨p,l,c⟩,e⟩
theorem walk_lt{g:Gr}(c:ybe g){a:Nat}(b:a<g.ports.length):∀k v,Walk g a k v->v<g.ports.length
 |0,v,h=>by obtain rfl:v=a:=h;exact b
 |k+1,v,h=>by obtain⟨u,_,d⟩:=h;exact(c.adj_lt d).2
theorem least_walk{g:Gr}{a v:Nat}:∀k,Walk g a k v->∃j,j<=k/\Walk g a j v/\∀i,i<j->¬Walk g a i v:=by
 intro k
 induction k using Nat.strongRecOn with
 | _ k l =>
   intro f
   by_cases h:∃j,j<k/\Walk g a j v
   .obtain⟨j,e,c⟩:=h;obtain⟨i,d,r⟩:=l j e c;exact⟨i,by omega,r⟩
   .exact⟨k,zS _,f,fun i d b=>h ⟨i,d,b⟩⟩
theorem yxd{g:Gr}(p:ybe g){a v k:Nat}(o:a<g.ports.length)(h:Walk g a k v)(q:∀j,j<k->¬Walk g a j v):k<g.ports.length:=by
 obtain⟨f,l⟩:=chain k v h q;have c:∀i j,i<j->j<=k->f i≠f j:=fun i j b d e=>(l j d).2 i b (by rw[<-e];exact(l i (by omega)).1)
 have m:((zX (k+1)).map f).Nodup:=by
  rw[List.Nodup,zBW];refine(List.Pairwise.and_mem.1 List.pairwise_lt_range).imp ?_;rintro i j ⟨_,d,b⟩;exact c i j b (by simp at d;omega)
 have n:(zX (k+1)).map f ⊆ zX g.ports.length:=by
  intro x r;obtain⟨j,d,rfl⟩:=List.mem_map.1 r;simp only[List.mem_range]at d ⊢;exact walk_lt p o j _ (l j (by omega)).1
 have:=List.Nodup.length_le_of_subset m n;simp at this;omega
theorem yec{g:Gr}(c:ybe g){a:Nat}(b:a<g.ports.length):ywd g a (ybr g a):=by
 obtain⟨e,f⟩:=ywl c b (g.ports.length-1);refine⟨e,fun v x l=>?_⟩;rcases f v x l with⟨rfl,h⟩|⟨k,_,r⟩
 .refine .inl ⟨rfl,fun k hk=>?_⟩;obtain⟨j,_,d,i⟩:=least_walk k hk;have:=yxd c b d i;exact h j (by omega) d
 .exact .inr ⟨k,r⟩
theorem ywd.bound{g:Gr}(b:ybe g){a:Nat}(f:a<g.ports.length){D:List Int}(h:ywd g a D):∀x∈D,-1<=x/\x<=24:=by
 intro x j;obtain⟨v,i,rfl⟩:=List.mem_iff_getElem.1 j;rcases h.2 v _ (zH i)with⟨e,_⟩|⟨k,e,c,d⟩
 .omega
 .have:=yxd b f c d;have:=b.2.1;omega
end
section
def ycj(g:Gr):Bool:=yhc g&&(ybr g 0).all (fun x=>decide (0<=x))
def ybu(D:List Int):Int:=D.foldl max (-1)
def eccP(g:Gr)(v:Int):Int:=if ycj g=true/\0<=v/\v<g.ports.length then ybu (ybr g v.toNat)else -1
theorem ymn(D:List Int):∀m:Int,m<=D.foldl max m:=by
 induction D with
 |nil=>intro m;exact Int.le_refl _
 |cons x D a=>intro m;exact zCN (Int.le_max_left m x) (a _)
theorem yoh(D:List Int)(k:Nat)(hk:k<D.length):ybu (D.take (k+1))=max (ybu (D.take k)) D[k]:=by
 unfold ybu;rw[take_snoc D k hk,zV];rfl
theorem ytu(D:List Int)(m:Int)(c:-1<=m)(h:∀x∈D,x<=m):ybu D<=m:=by
 unfold ybu
 suffices ∀a:Int,a<=m->D.foldl max a<=m from this _ c
 induction D with
 |nil=>intro a b;exact b
 |cons x D e=>intro a b;exact e (fun y d=>h y (by simp[d])) _ (Int.max_le.2 ⟨b,h x (by simp)⟩)
theorem ybfo(D:List Int):∀x∈D,x<=ybu D:=by
 unfold ybu
 suffices ∀a:Int,∀x∈D,x<=D.foldl max a from this _
 induction D with
 |nil=>intro a x b;simp at b
 | cons y D c =>
   intro a x b;rcases List.mem_cons.1 b with rfl|b
   .exact zCN (Int.le_max_right a x) (ymn D _)
   .exact c _ x b
theorem ybdd(D:List Int):-1<=ybu D:=ymn D _
theorem yhg{g:Gr}(c:ybe g){a:Nat}(b:a<g.ports.length):(ybr g a).length=g.ports.length:=(yec c b).1
theorem Walk.trans{g:Gr}{a b:Nat}:∀{j:Nat}{c:Nat}{k:Nat},Walk g a k b->Walk g b j c->Walk g a (k+j) c
 |0,c,k,d,e=>by obtain rfl:c=b:=e;exact d
 | j+1,c,k,d,e=>by
   obtain⟨u,h,f⟩:=e;exact⟨u,Walk.trans d h,f⟩
theorem Walk.one{g:Gr}{a b:Nat}(h:adj g a b):Walk g a 1 b:=⟨a,rfl,h⟩
theorem Walk.symm{g:Gr}(d:ybe g){a:Nat}:∀{k:Nat}{b:Nat},Walk g a k b->Walk g b k a
 |0,b,h=>by obtain rfl:b=a:=h;exact rfl
 | k+1,b,h=>by
   obtain⟨u,e,c⟩:=h;have:=Walk.trans (Walk.one (d.adj_symm c)) (Walk.symm d e)
   rwa [Nat.add_comm]at this
theorem ybmd{g:Gr}(j:ybe g){a:Nat}(i:a<g.ports.length):(ybr g a).all (fun x=>decide (0<=x))=true↔∀v,v<g.ports.length->∃k,Walk g a k v:=by
 have c:=yec j i;rw[zBE];constructor
 .intro h v d;have b:v<(ybr g a).length:=by rw[c.1];exact d
  rcases c.2 v _ (zH b)with⟨e,_⟩|⟨k,_,hk,_⟩
  .have:=of_decide_eq_true (h _ (zK b));omega
  .exact⟨k,hk⟩
 .intro h x l;obtain⟨v,d,rfl⟩:=List.mem_iff_getElem.1 l;obtain⟨k,hk⟩:=h v (by rw[<-c.1];exact d)
  rcases c.2 v _ (zH d)with⟨e,f⟩|⟨k,e,_⟩
  .exact absurd hk (f k)
  .rw[e];simp
theorem ycrp{g:Gr}(c:ybe g){a b:Nat}(e:a<g.ports.length)(d:b<g.ports.length)(h:(ybr g a).all (fun x=>decide (0<=x))=true):(ybr g b).all (fun x=>decide (0<=x))=true:=by
 rw[ybmd c e]at h;rw[ybmd c d];intro v i;obtain⟨k,hk⟩:=h v i;obtain⟨j,f⟩:=h b d;exact⟨_,Walk.trans (Walk.symm c f) hk⟩
end
section
abbrev Conf:=List (List Int)
abbrev Bounds:=List (Int×Int)
def yvu(bs:Bounds)(s:List Int):Bool:=decide (s.length=bs.length)&&(bs.zip s).all (fun p=>decide (p.1.1<=p.2)&&decide (p.2<=p.1.2))
def yol(n:Nat)(bs:Nat->Bounds)(c:Conf):Bool:=decide (c.length=n)&&c.zipIdx.all (fun p=>yvu (bs p.2) p.1)
def yfu(bs:Bounds)(s:List Int):Prop:=s.length=bs.length/\∀(i:Nat) b x,bs[i]?=some b->s[i]?=some x->b.1<=x/\x<=b.2
def ybox(n:Nat)(bs:Nat->Bounds)(c:Conf):Prop:=c.length=n/\∀(v:Nat) s,c[v]?=some s->yfu (bs v) s
theorem ygw(bs:Bounds)(s:List Int):yvu bs s=true↔yfu bs s:=by
 unfold yvu yfu;rw[zF,decide_eq_true_iff,zBE];refine and_congr_right fun _=>⟨fun h i b x c e=>?_,fun h p d=>?_⟩
 .have:=h (b,x) (zQ (i:=i) (by simp[zAX,c,e]))
  simpa using this
 .obtain⟨i,a⟩:=List.mem_iff_getElem?.1 d;obtain⟨b,x⟩:=p;rw[zAX]at a
  simpa using h i b x a.1 a.2
theorem ydi(n:Nat)(bs:Nat->Bounds)(c:Conf):yol n bs c=true↔ybox n bs c:=by
 unfold yol ybox;rw[zF,decide_eq_true_iff,zBE];refine and_congr_right fun _=>⟨fun h v s b=>?_,fun h p a=>?_⟩
 .refine(ygw _ _).1 (h (s,v) ?_);rw[zAU];exact b
 .rw[zAU]at a;exact(ygw _ _).2 (h p.2 p.1 a)
theorem ykx{n:Nat}{bs:Nat->Bounds}{c:Conf}(h:¬ybox n bs c):yol n bs c=false:=by
 cases a:yol n bs c with
 |false=>rfl
 |true=>exact absurd ((ydi n bs c).1 a) h
theorem yzs{n:Nat}{bs:Nat->Bounds}{c:Conf}(h:ybox n bs c):yol n bs c=true:=(ydi n bs c).2 h
def ycjp(g:Gr)(v:Nat):Nat:=(g.ports.getD v []).length
def ydm(g:Gr)(G:List Int)(v:Nat):Bounds:=G.map (fun h=>if h = -1 then(-1,(ycjp g v:Int)-1)else(0,h))
def ybvn(g:Gr):Int:=g.ids.foldl max 0
end
section
open Go.RowKit
end
section
open Go.RowKit
end
section
open Go.RowKit
def yjt(a:Int×Int->Bool)(ls:List (Int×Int)):Int:=match ls.findIdx? a with|some i=>i|none=>-1
end
section
def yxs(D:List Int)(v:Nat)(l:Int×Int):Bool:=D.getD l.1.toNat 0==D.getD v 0-1
def wayP(g:Gr)(D:List Int)(v:Nat):Int:=yjt (yxs D v) (g.ports.getD v [])
def ysx(g:Gr)(D:List Int)(v:Nat)(s:List Int):Bool:=decide (s=[D.getD v 0,wayP g D v])
end
section
def ybhv(ids:List Int)(k:Nat):Int:=(ids.take k).tail.foldl max (ids.headD 0)
abbrev maxI(ids:List Int):Int:=ybhv ids ids.length
theorem ycaq{ids:List Int}{k:Nat}(a:1<=k)(hk:k<ids.length):(ids.take (k+1)).tail=(ids.take k).tail++[ids[k]]:=by
 rw[zI hk,List.tail_append_of_ne_nil];intro h;have:=congrArg zAQ h;rw[zCA,zBH]at this;omega
theorem ycgm(ids:List Int):ybhv ids 1=ids.headD 0:=by cases ids<;>simp[ybhv]
theorem ybrz{ids:List Int}{k:Nat}(a:1<=k)(hk:k<ids.length):ybhv ids (k+1)=max (ybhv ids k) ids[k]:=by
 unfold ybhv;rw[ycaq a hk,zV];rfl
theorem ybqg{ids:List Int}(a:0<ids.length)(h:∀x∈ids,0<=x):maxI ids=ids.foldl max 0:=by
 cases ids with
 |nil=>simp at a
 | cons x l =>
   have b:max 0 x=x:=Int.max_eq_right (h x (by simp))
   simp[maxI,ybhv,b]
def idxP(ids:List Int)(x:Int):Int:=match ids.findIdx? (fun y=>x==y)with
 |some i=>i
 |none=>-1
theorem ycog{ids:List Int}{x:Int}{k:Nat}(hk:k<ids.length)(h:x=ids[k])(a:(ids.take k).findIdx? (fun y=>x==y)=none):idxP ids x=k:=by
 unfold idxP
 have:ids.findIdx? (fun y=>x==y)=some k:=by
  rw[zW];refine⟨hk,by simp[h],fun j b=>?_⟩
  rw[zY]at a;simp[a ids[j] (List.mem_take_iff_getElem.2 ⟨j,by omega,rfl⟩)]
 rw[this]
theorem ychz{ids:List Int}{x:Int}(a:(ids.take ids.length).findIdx? (fun y=>x==y)=none):idxP ids x = -1:=by
 rw[zAE]at a;unfold idxP;rw[a]
theorem yclf{ids:List Int}{x:Int}{k:Nat}(hk:k<ids.length)(h:x≠ids[k])(a:(ids.take k).findIdx? (fun y=>x==y)=none):(ids.take (k+1)).findIdx? (fun y=>x==y)=none:=by
 rw[zI hk,zAJ,a];simp[h]
end
section
namespace Sh
open Go Ev
def yj(l:List Int):SV:=.sl 1 l.length (fun k=>[.i .i64 (l.getD k 0)])
def ybd(ls:List (Int×Int)):SV:=.sl 2 ls.length (fun j=>[.i .i64 (ls.getD j (0,0)).1,.i .i64 (ls.getD j (0,0)).2])
def yba(a:List (List (Int×Int))):SV:=.sl 1 a.length (fun v=>[ybd (a.getD v [])])
def ybf(c:List (List Int)):SV:=.sl 1 c.length (fun v=>[yj (c.getD v [])])
def grV(g:Gr):SV:=.ag [yj g.ids,yba g.ports]
theorem ik{n:Int}(a:-1000000000000<=n)(b:n<=1000000000000):inK .i64 n:=by
 unfold inK;simp[IntKind.min,IntKind.max,IntKind.bits,IntKind.signed];omega
theorem ikw{n:Int}(a:-4611686018427387904<=n)(b:n<=4611686018427387904):inK .i64 n:=by
 unfold inK;simp[IntKind.min,IntKind.max,IntKind.bits,IntKind.signed];omega
theorem ydc{a b:Prop}(k:b)(h:a:=by first|omega|decide|exact ikw (by omega) (by omega)):a/\b:=⟨h,k⟩
theorem getD_at{a:Type}{l:List a}{k:Nat}{d:a}(h:k<l.length):l.getD k d=l[k]:=by simp[zM,h]
theorem ybcm{l:List Int}{i k:Nat}{x:Int}(h:i<l.length):(l.set i x).getD k 0=if k=i then x else l.getD k 0:=by
 simp only[zM,zU]
 by_cases q:i=k
 .subst q;simp[h]
 .rw[if_neg q,if_neg (Ne.symm q)]
theorem ycck(l:List Int)(x:Int)(c:l.length<=100000):Returns zC 206 [yj l,.i .i64 x] (.i .i64 (idxP l x)):=by
 refine Returns.of ((okG 206) _ _ ?_);simp only[cdE 206,rgE 206 0,rgE 206 1,yj,go_sem,zB,↓reduceIte,reduceCtorEq];refine ybk (σ:=Nat) (fun k=>⟨[(8,.i .i64 k),(0,yj l),(1,.i .i64 x),(7,.i .i64 l.length)],[]⟩) (fun k=>k<=l.length/\(l.take k).findIdx? (fun y=>x==y)=none) (fun k=>l.length-k) 0 ⟨zJ _,by simp⟩ ?_ ?_
 .refine yx ?_;simp only[yj,wk,go_sem,zA,↓reduceIte,reduceCtorEq]
 .intro k ⟨hk,hno⟩;simp only[rgE 206 2,rgE 206 3,rgE 206 4,rgE 206 5,rgE 206 6,rgE 206 7,yj,ycc,go_sem,zA,zB,↓reduceIte,reduceCtorEq];refine⟨fun h=>⟨by omega,fun b=>?_,fun b=>⟨ik (by omega) (by omega),?_⟩⟩,fun h=>?_⟩
  .have a:k<l.length:=by omega
   rw[ycog a (by rw[b,getD_at a]) hno]
  .have a:k<l.length:=by omega
   refine ybb (k+1) ⟨by omega,yclf a (by rw[<-getD_at (d:=0) a];exact b) hno⟩ (by omega) ?_
   refine yx ?_;simp only[wk,go_sem,zA,↓reduceIte,reduceCtorEq];simp
  .obtain rfl:k=l.length:=by omega
   rw[ychz hno]
theorem ycvq(l:List Int)(b:0<l.length)(c:l.length<=100000):Returns zC 111 [yj l] (.i .i64 (maxI l)):=by
 refine Returns.of ((okG 111) _ _ ?_);simp only[cdE 111,rgE 111 0,rgE 111 1,rgE 111 2,rgE 111 3,rgE 111 4,yj,go_sem,zAK,zA,zB,↓reduceIte,reduceCtorEq];refine⟨fun h=>by omega,fun _=>⟨by omega,?_⟩⟩
 refine ybk (σ:=Nat) (fun k=>⟨[(4,.i .i64 k),(3,.i .i64 (ybhv l k)),(0,yj l)],[]⟩) (fun k=>1<=k/\k<=l.length) (fun k=>l.length-k) 1 ⟨by omega,by omega⟩ ?_ ?_
 .refine yx ?_;simp only[yj,ycgm,wk,go_sem,zA,↓reduceIte,reduceCtorEq];cases l<;>simp at b ⊢
 .intro k ⟨hk1,hk⟩;simp only[rgE 111 5,rgE 111 6,rgE 111 7,rgE 111 8,yj,ycc,go_sem,zA,zB,↓reduceIte,reduceCtorEq];refine⟨fun h=>⟨by omega,ik (by omega) (by omega),?_⟩,fun h=>?_⟩
  .refine ybb (k+1) ⟨by omega,by omega⟩ (by omega) ?_
   refine yx ?_;have a:k<l.length:=by omega
   simp only[ybrz hk1 a,getD_at a,wk,go_sem,zA,↓reduceIte,reduceCtorEq];simp
  .obtain rfl:k=l.length:=by omega
   rfl
theorem ybzz(a b:List Int)(m:a.length<=100000):Returns zC 160 [yj a,yj b] (.b (decide (a=b))):=by
 refine Returns.of ((okG 160) _ _ ?_);simp only[cdE 160,rgE 160 0,rgE 160 1,rgE 160 2,rgE 160 3,yj,ygd,go_sem,zA,zB,↓reduceIte,reduceCtorEq];refine⟨fun h=>?_,fun h=>?_⟩
 .have:a≠b:=fun e=>h (by rw[e])
  simp[this]
 have c:a.length=b.length:=by omega
 refine ybk (σ:=Nat) (fun k=>⟨[(13,.i .i64 k),(0,yj a),(1,yj b),(12,.i .i64 a.length)],[]⟩) (fun k=>k<=a.length/\∀j,j<k->a.getD j 0=b.getD j 0) (fun k=>a.length-k) 0 ⟨zJ _,fun j h=>absurd h (zAF _)⟩ ?_ ?_
 .refine yx ?_;simp only[yj,wk,go_sem,zA,↓reduceIte,reduceCtorEq]
 .intro k ⟨hk,hno⟩;simp only[rgE 160 4,rgE 160 5,rgE 160 6,rgE 160 7,rgE 160 8,rgE 160 9,yj,ygd,clash,go_sem,zA,zB,↓reduceIte,reduceCtorEq];refine⟨fun h=>⟨by omega,by omega,fun d=>?_,fun d=>⟨ik (by omega) (by omega),?_⟩⟩,fun h=>?_⟩
  .have:a≠b:=fun e=>d (by rw[e])
   simp[this]
  .refine ybb (k+1) ⟨by omega,fun j l=>?_⟩ (by omega) ?_
   .by_cases q:j<k
    .exact hno j q
    .obtain rfl:j=k:=by omega
     exact d
   .refine yx ?_;simp only[wk,go_sem,zA,↓reduceIte,reduceCtorEq];simp
  .have:a=b:=by
    refine zBD c fun j f g=>?_;have:=hno j (by omega)
    rwa [getD_at f,getD_at g]at this
   simp[this]
theorem ybjk(l:List Int)(b:l.length<=100000):Returns zC 203 [yj l] (.i .i64 (ybu l)):=by
 refine Returns.of ((okG 203) _ _ ?_);simp only[cdE 203,rgE 203 0,rgE 203 1,rgE 203 2,yj,go_sem,zB,↓reduceIte,reduceCtorEq];refine ybk (σ:=Nat) (fun k=>⟨[(8,.i .i64 k),(3,.i .i64 (ybu (l.take k))),(6,yj l),(7,.i .i64 l.length)],[]⟩) (fun k=>k<=l.length) (fun k=>l.length-k) 0 (zJ _) ?_ ?_
 .refine yx ?_;simp only[yj,wk,go_sem,zA,↓reduceIte,reduceCtorEq];simp[ybu]
 .intro k hk;simp only[rgE 203 3,rgE 203 4,rgE 203 5,rgE 203 6,rgE 203 7,yj,ycc,go_sem,zA,zB,↓reduceIte,reduceCtorEq];refine⟨fun h=>⟨by omega,ik (by omega) (by omega),?_⟩,fun h=>?_⟩
  .refine ybw (k+1) ?_;refine yx ?_;have a:k<l.length:=by omega
   simp only[yoh l k a,getD_at a,wk,go_sem,zA,↓reduceIte,reduceCtorEq];simp
  .obtain rfl:k=l.length:=by omega
   simp
theorem ybcz (g:Gr) (v:Nat) (t:v<g.ports.length) (h:FuncId) (n:List SV) (e:Int×Int->Bool) (a:n.any (owned 4)=false) (q:(g.ports.getD v []).length<=100000)
 (f:∀l∈g.ports.getD v [],Returns zC h (.ag [.i .i64 l.1,.i .i64 l.2]::n) (.b (e l))):Returns zC 153 [grV g,.i .i64 v,.fn h [] n] (.i .i64 (yjt e (g.ports.getD v []))):=by
 refine Returns.of ((okG 153) _ _ ?_);have o:=yod a;simp only[cdE 153,rgE 153 0,rgE 153 1,grV,yba,ybd,yj,go_sem,zA,zB,zD,↓reduceIte,reduceCtorEq];refine⟨by omega,?_⟩
 obtain⟨d,p⟩:∃d,g.ports.getD v []=d:=⟨_,rfl⟩;rw[p]at q f ⊢;refine ybk (σ:=Nat) (fun k=>⟨[(15,.i .i64 k),(13,ybd d),(14,.i .i64 d.length),(2,.fn h [] n)],[]⟩) (fun k=>k<=d.length/\(d.take k).findIdx? e=none) (fun k=>d.length-k) 0 ⟨zJ _,by simp⟩ ?_ ?_
 .refine yx ?_;simp only[ybd,ygc _ a,yge _ a,wk,go_sem,zA,↓reduceIte,reduceCtorEq]
 .intro k ⟨hk,hno⟩;simp only[rgE 153 2,rgE 153 3,rgE 153 4,rgE 153 5,rgE 153 6,rgE 153 7,ybd,ycc,o,zBN,go_sem,zA,zB,zD,↓reduceIte,reduceCtorEq];refine⟨fun c=>⟨by omega,?_⟩,fun c=>?_⟩
  .have c:k<d.length:=by omega
   have r:d.getD k (0,0)∈d:=by rw[getD_at c];exact zK c
   refine(f _ r).use ?_;simp only[yw,ycc,go_sem,zA,zB,↓reduceIte,reduceCtorEq];refine⟨fun m=>?_,fun m=>⟨ik (by omega) (by omega),?_⟩⟩
   .rw[getD_at c]at m
    have:d.findIdx? e=some k:=by
     rw[zW];refine⟨c,m,fun j s=>?_⟩;rw[zY]at hno;simp[hno d[j] (List.mem_take_iff_getElem.2 ⟨j,by omega,rfl⟩)]
    unfold yjt;rw[this]
   .rw[getD_at c]at m;refine ybb (k+1) ⟨by omega,?_⟩ (by omega) ?_
    .rw[zI c,zAJ,hno];simp[m]
    .refine yx ?_;simp only[ygc _ a,yge _ a,wk,go_sem,zA,↓reduceIte,reduceCtorEq];simp
  .obtain rfl:k=d.length:=by omega
   rw[zAE]at hno;unfold yjt;rw[hno]
end Sh
end
section
structure VarR where
 name:ByteArray
 kind:Int
 lo:Int
 hi:Int
 perNode:Int
 perID:Int
theorem ybub(ids:List Int)(k:Nat)(hk:k<ids.length):(ids.take (k+1)).foldl max 0=max ((ids.take k).foldl max 0) ids[k]:=by
 rw[take_snoc ids k hk,zV];rfl
theorem ybhw(D:List Int)(m:Int)(h:∀x∈D,x<=m):∀a:Int,a<=m->D.foldl max a<=m:=by
 induction D with
 |nil=>intro a b;exact b
 |cons x D d=>intro a b;exact d (fun y c=>h y (by simp[c])) _ (Int.max_le.2 ⟨b,h x (by simp)⟩)
theorem yyh{g:Gr}(a:ybe g):0<=ybvn g/\ybvn g<=255:=⟨ymn _ _,ybhw _ _ (fun x b=>(a.2.2.2.1 x b).2) _ (by omega)⟩
end
section
abbrev Tm:=Int×Int
structure SetR where
 var:Int
 val:List Tm
structure RuleR where
 name:ByteArray
 guard:List Tm
 sets:List SetR
structure ProgR where
 name:ByteArray
 vars:List VarR
 rules:List RuleR
instance:Inhabited VarR:=⟨⟨.empty,0,0,0,0,0⟩⟩
instance:Inhabited SetR:=⟨⟨0,[]⟩⟩
instance:Inhabited RuleR:=⟨⟨.empty,[],[]⟩⟩
inductive Ex where
 |leaf (op arg:Int)
 |un (op:Int) (a:Ex)
 |agg (op:Int) (a:Ex)
 |bin (op:Int) (a b:Ex)
 |ite (c a b:Ex)
def Ex.ser:Ex->List Tm
 |.leaf d arg=>[(d,arg)]
 |.un d a=>(d,0)::a.ser
 |.agg d a=>(d,0)::a.ser
 |.bin d a b=>(d,0)::(a.ser++b.ser)
 |.ite c a b=>(43,0)::(c.ser++(a.ser++b.ser))
def satP(a:Int):Int:=max (-1073741824) (min a 1073741824)
def ycd(b:Bool):Int:=if b then 1 else 0
def yys(a b:Int):Int:=if b=0 then 0 else if a.tmod b≠0/\(decide (a<0)≠decide (b<0))then a.tdiv b-1 else a.tdiv b
def unP(b a:Int):Int:=if b=18 then -a else ycd (a==0)
def cmpP(c a b:Int):Bool:=if c=35 then a==b else if c=36 then a != b else if c=37 then decide (a<b)else if c=38 then decide (a<=b)else if c=39 then decide (a>b)else decide (a>=b)
def binP(c a b:Int):Int :=
 if c=30 then satP (a*b)else if c=31 then satP (yys a b)else if c=32 then(if b=0 then 0 else satP (a-b*yys a b))else if c=33 then satP (a+b)else if c=34 then satP (a-b)
 else if c=41 then ycd (a != 0&&b != 0)else if c=42 then ycd (a != 0||b != 0)else ycd (cmpP c a b)
def countP(l:List Int):Int:=((l.filter (· != 0)).length:Int)
def ymf(l:List Int):Int:=l.foldl min 1073741824
def yek(l:List Int):Int×Int:=l.foldl (fun p a=>if a>p.1 then(a,p.1)else(p.1,max p.2 a)) (-1073741824,-1073741824)
def yzi(l:List Int):Nat->Int->Int
 |0,r=>r
 |n+1,r=>if l.elem r then yzi l n (r+1)else r
def mexP(l:List Int):Int:=yzi l (l.length+1) 0
def yfl(l:List Int):Int:=match l.findIdx? (· != 0)with|some i=>i|none=>-1
def yhf(a:Int)(l:List Int):Int :=
 if a=20 then ycd (countP l==l.length)else if a=21 then ycd (decide (countP l>0))else if a=22 then countP l else if a=23 then yfl l else if a=24 then ymf l else if a=25 then(yek l).1
 else if a=26 then satP l.sum else if a=27 then mexP l else if a=28 then(yek l).2 else l.headD 0
structure Sc where
 g:Gr
 c:Conf
def yds(g:Gr)(v a:Nat):Int×Int:=(g.ports.getD v []).getD a (0,0)
def ymj(g:Gr)(v:Nat):List Int:=(g.ports.getD v []).map fun l=>yoi (g.ports.getD l.1.toNat []) v
def yqv(g:Gr)(b:Int)(v:Nat)(a:Int):Int :=
 if b=6 then g.ids.length else if b=7 then ybvn g else if b=8 then g.ids.getD v 0 else if b=9 then((g.ports.getD v []).length:Int)else if b=10 then ycd ((v:Int)==0)else if b=11 then a
 else(let l:=yds g v a.toNat
  if b=13 then g.ids.getD l.1.toNat 0 else if b=14 then((g.ports.getD l.1.toNat []).length:Int)else if b=15 then ycd (l.1==0)else if b=16 then l.2 else(ymj g v).getD a.toNat 0)
def yqw(g:Gr)(c:Conf)(b arg:Int)(v:Nat)(a:Int):Int :=
 if b=1 then arg else if b=2 then 1 else if b=3 then 0 else if b=4 then -1 else if b=5 then(c.getD v []).getD arg.toNat 0 else if b=12 then(c.getD (yds g v a.toNat).1.toNat []).getD arg.toNat 0
 else yqv g b v a
def ybv(g:Gr)(c:Conf)(v:Nat):Ex->Int->Int
 |.leaf d arg,p=>yqw g c d arg v p
 |.un d a,p=>unP d (ybv g c v a p)
 |.agg d a,_=>yhf d ((zX (g.ports.getD v []).length).map fun(q:Nat)=>ybv g c v a (q:Int))
 |.bin d a b,p=>binP d (ybv g c v a p) (ybv g c v b p)
 |.ite x a b,p=>if ybv g c v x p≠0 then ybv g c v a p else ybv g c v b p
def Ex.ok(e:Int)(c:Bool):Ex->Bool
 |.leaf d arg=>decide (1<=d/\d<=17)&&(if d=1 then decide (0<=arg/\arg<=1073741824)else if d=5\/d=12 then decide (0<=arg/\arg<e)else true)&&(if 11<=d then c else true)
 |.un d a=>decide (d=18\/d=19)&&a.ok e c
 |.agg d a=>decide (20<=d/\d<=29)&&a.ok e true
 |.bin d a b=>decide (30<=d/\d<=42)&&a.ok e c&&b.ok e c
 |.ite x a b=>x.ok e c&&a.ok e c&&b.ok e c
def InB(x:Int):Prop:=-1073741824<=x/\x<=1073741824
theorem ysi(a:Int):InB (satP a):=by unfold InB satP;omega
theorem yhe(b:Bool):InB (ycd b):=by unfold InB ycd;cases b<;>simp
theorem ydgr{b a:Int}(h:InB a):InB (unP b a):=by
 unfold unP;split
 .unfold InB at *;omega
 .exact yhe _
theorem ydap(c a b:Int):InB (binP c a b):=by
 unfold binP;split;· exact ysi _
 split;· exact ysi _
 split
 .split
  .unfold InB;omega
  .exact ysi _
 split;· exact ysi _
 split;· exact ysi _
 split;· exact yhe _
 split;· exact yhe _
 exact yhe _
theorem countP_le(l:List Int):0<=countP l/\countP l<=l.length:=by
 unfold countP;have:=List.length_filter_le (· != 0) l;omega
theorem ycaw(l:List Int)(h:∀x∈l,InB x):InB (ymf l):=by
 unfold ymf
 have:∀(l:List Int) (a:Int),InB a->(∀x∈l,InB x)->InB (l.foldl min a):=by
  intro l
  induction l with
  |nil=>intro a b _;exact b
  | cons x l e =>
    intro a b c;refine e _ ?_ fun y d=>c y (zAI _ d);have:=c x zAM;unfold InB at *;omega
 exact this l _ (by unfold InB;omega) h
theorem yzp(l:List Int)(h:∀x∈l,InB x):InB (yek l).1/\InB (yek l).2:=by
 unfold yek
 have:∀(l:List Int) (p:Int×Int),InB p.1/\InB p.2->(∀x∈l,InB x)->InB (l.foldl (fun p a=>if a>p.1 then(a,p.1)else(p.1,max p.2 a)) p).1/\InB (l.foldl (fun p a=>if a>p.1 then(a,p.1)else(p.1,max p.2 a)) p).2:=by
  intro l
  induction l with
  |nil=>intro p c _;exact c
  | cons x l e =>
    intro p c b;refine e _ ?_ fun y d=>b y (zAI _ d);have:=b x zAM;unfold InB at *
    dsimp only
    split<;>dsimp only<;>omega
 exact this l _ (by unfold InB;simp) h
theorem ybpa(l:List Int):∀(n:Nat) (r:Int),r<=yzi l n r/\yzi l n r<=r+n
 |0,r=>by unfold yzi;omega
 | n+1,r=>by
   unfold yzi;have:=ybpa l n (r+1);split<;>omega
theorem ybfl(l:List Int):-1<=yfl l/\yfl l<l.length\/yfl l = -1:=by
 unfold yfl;split
 .rename_i i a
  obtain⟨h,_⟩:=List.findIdx?_eq_some_iff_getElem.1 a;left;omega
 .exact .inr rfl
theorem ycnh{a:Int}{l:List Int}(c:l.length<=1000)(h:∀x∈l,InB x):InB (yhf a l):=by
 have b:=countP_le l;unfold yhf;split;· exact yhe _
 split;· exact yhe _
 split;· unfold InB;omega
 split;· have:=ybfl l;unfold InB;omega
 split;· exact ycaw l h
 split;· exact(yzp l h).1
 split;· exact ysi _
 split;· have:=ybpa l (l.length+1) 0;unfold mexP InB;omega
 split;· exact(yzp l h).2
 cases l with
 |nil=>unfold InB;simp
 |cons x l=>exact h x zAM
structure ConfIn(n nv:Nat)(c:Conf):Prop where
 len:c.length=n
 row:∀s∈c,s.length=nv/\∀x∈s,InB x
theorem ConfIn.at_{n b:Nat}{c:Conf}(h:ConfIn n b c){v:Nat}(g:v<n):(c.getD v []).length=b/\∀k,InB ((c.getD v []).getD k 0):=by
 have a:v<c.length:=by rw[h.len];exact g
 have e:c.getD v []=c[v]:=by simp[zM,a]
 obtain⟨d,f⟩:=h.row c[v] (zK a);rw[e];refine⟨d,fun k=>?_⟩;rw[zAC];cases hk:c[v][k]? with
 |none=>simp;unfold InB;omega
 |some x=>simp;exact f x (zQ hk)
theorem ybe.yds{g:Gr}(h:ybe g){v p:Nat}(b:v<g.ports.length)(a:p<(g.ports.getD v []).length):0<=(yds g v p).1/\(yds g v p).1<g.ports.length/\1<=(yds g v p).2/\(yds g v p).2<=15:=by
 have e:g.ports.getD v []=g.ports[v]:=by simp[zM,b]
 have d:=h.2.2.2.2.2.1 ⟨v,b⟩;rw[e]at a;have i:(g.ports[v])[p]∈g.ports[v]:=zK a;have f:=d.1 _ i;unfold ymo at f;have c:Go.Proofs.YtlbonpgkofloeaaGreatDoor.yds g v p=(g.ports[v])[p]:=by unfold Go.Proofs.YtlbonpgkofloeaaGreatDoor.yds;rw[e];simp[zM,a]
 rw[c];omega
theorem ybe.deg_lt{g:Gr}(b:ybe g){v:Nat}:(g.ports.getD v []).length<24:=by
 by_cases a:v<g.ports.length
 .have c:=b.2.2.2.2.2.1 ⟨v,a⟩;have:=ybne a c;have e:g.ports.getD v []=g.ports[v]:=by simp[zM,a]
  rw[e];have:=b.2.1;have d:g.ports[(⟨v,a⟩:Fin g.ports.length)].length=g.ports[v].length:=rfl;omega
 .rw[zAC,List.getElem?_eq_none (by omega)]
  simp
theorem ybe.id_in{g:Gr}(a:ybe g)(v:Nat):0<=g.ids.getD v 0/\g.ids.getD v 0<=255:=by
 rw[zAC];cases h:g.ids[v]? with
 |none=>simp
 |some x=>exact a.2.2.2.1 x (zQ h)
theorem ycnl{g:Gr}{c:Conf}{n s:Nat}(a:ybe g)(A:g.ports.length=n)(o:ConfIn n s c){t arg:Int}{d:Bool}(q:(Ex.leaf t arg).ok s d=true){v:Nat}(m:v<n){p:Int}(r:d=true->0<=p/\p<(g.ports.getD v []).length)(j:InB p):InB (yqw g c t arg v p):=by
 subst A;have y:=a.2.1;have I:=a.deg_lt (v:=v);unfold yqw;simp only[Ex.ok,zF,decide_eq_true_eq]at q;obtain⟨⟨B,f⟩,b⟩:=q;split
 .rename_i h;rw[if_pos h]at f;simp at f;unfold InB;omega
 split;· unfold InB;omega
 split;· unfold InB;omega
 split;· unfold InB;omega
 split;· exact(o.at_ m).2 _
 split
 .rename_i h
  rw[if_pos (by omega)]at b
  obtain⟨C,D⟩:=r b;have z:=a.yds m (p:=p.toNat) (by omega)
  exact(o.at_ (v:=(yds g v p.toNat).1.toNat) (by omega)).2 _
 .unfold yqv;split;· rw[a.2.2.1];unfold InB;omega
  split;· have:=yyh a;unfold InB;omega
  split;· have:=a.id_in v;unfold InB;omega
  split;· unfold InB;omega
  split;· exact yhe _
  split;· exact j
  rename_i E F G H w x
  rw[if_pos (by omega)]at b
  obtain⟨C,D⟩:=r b;have z:=a.yds m (p:=p.toNat) (by omega)
  simp only;split;· have:=a.id_in (yds g v p.toNat).1.toNat;unfold InB;omega
  split;· have:=a.deg_lt (v:=(yds g v p.toNat).1.toNat);unfold InB;omega
  split;· exact yhe _
  split;· unfold InB;omega
  .unfold ymj;rw[zAC,List.getElem?_map];cases hk:(g.ports.getD v [])[p.toNat]? with
   |none=>simp;unfold InB;omega
   | some l =>
     simp;have i:=a.deg_lt (v:=l.1.toNat);rcases ybbw (ls:=g.ports.getD l.1.toNat []) (u:=(v:Int))with e|⟨k,e,hk⟩
     .simp at e;rw[e];unfold InB;omega
     .simp at e hk i;rw[e];unfold InB;omega
theorem yix{g:Gr}{c:Conf}{n r:Nat}(i:ybe g)(k:g.ports.length=n)(j:ConfIn n r c){v:Nat}(l:v<n):∀(x:Ex) {e:Bool}{p:Int},x.ok r e=true->(e=true->0<=p/\p<(g.ports.getD v []).length)->InB p->InB (ybv g c v x p)
 |.leaf m arg,e,p,h,f,d=>ycnl i k j h l f d
 | .un m a,e,p,h,f,d=>by
   simp only[Ex.ok,zF]at h;exact ydgr (yix i k j l a h.2 f d)
 | .agg m a,e,p,h,f,d=>by
   simp only[Ex.ok,zF]at h;have:=i.deg_lt (v:=v);refine ycnh (by simp;simp at this;omega) fun x s=>?_
   obtain⟨q,o,rfl⟩:=List.mem_map.1 s;have o:=List.mem_range.1 o;exact yix i k j l a h.2 (fun _=>by omega) (by unfold InB;omega)
 |.bin m a b,e,p,h,f,d=>ydap _ _ _
 | .ite x a b,e,p,h,f,d=>by
   simp only[Ex.ok,zF]at h;unfold ybv;split
   .exact yix i k j l a h.1.2 f d
   .exact yix i k j l b h.2 f d
end
section
namespace Sh
open Go Ev
theorem mulB{a b:Int}(c:InB a)(d:InB b):-1152921504606846976<=a*b/\a*b<=1152921504606846976:=by
 unfold InB at *
 have h:(a*b).natAbs<=1073741824*1073741824:=by
  rw[zCI];exact zCJ (by omega) (by omega)
 omega
theorem yfk(b:Bool):Returns zC 295 [.b b] (.i .i64 (ycd b)):=by
 refine Returns.of ((okG 295) _ _ ?_);simp only[cdE 295,rgE 295 0,rgE 295 1,rgE 295 2,rgE 295 3,ycc,ycd,go_sem,↓reduceIte,reduceCtorEq];cases b<;>simp
theorem yfd(a:Int):Returns zC 297 [.i .i64 a] (.i .i64 (satP a)):=by
 refine Returns.of ((okG 297) _ _ ?_);simp only[cdE 297,rgE 297 0,rgE 297 1,ycc,satP,go_sem,zA,zB,↓reduceIte,reduceCtorEq]
theorem ydgj{a b:Int}(e:InB a):-1073741824<=a.tdiv b/\a.tdiv b<=1073741824:=by
 have c:(a.tdiv b).natAbs=a.natAbs/b.natAbs:=Int.natAbs_tdiv a b;have d:a.natAbs/b.natAbs<=a.natAbs:=zCE _ _;rw[<-c]at d;unfold InB at e;omega
theorem ycmb{a b:Int}(c:InB a):-1073741825<=yys a b/\yys a b<=1073741824:=by
 have:=ydgj (b:=b) c;unfold yys;split
 .omega
 .split<;>omega
theorem ybxo{a b:Int}(c:InB a)(e:InB b):-1152921505680588800<=b*yys a b/\b*yys a b<=1152921505680588800:=by
 have d:=ycmb (b:=b) c
 have h:(b*yys a b).natAbs<=1073741824*1073741825:=by
  unfold InB at *;rw[zCI];exact zCJ (by omega) (by omega)
 omega
theorem ybxs(b a:Int)(c:InB a):Returns zC 286 [.i .i64 b,.i .i64 a] (.i .i64 (unP b a)):=by
 refine Returns.of ((okG 286) _ _ ?_);simp only[cdE 286,rgE 286 0,rgE 286 1,rgE 286 2,rgE 286 3,ycc,unP,IntKind.signed,go_sem,zA,zB,↓reduceIte,reduceCtorEq];unfold InB at c;refine⟨fun h=>⟨ikw (by omega) (by omega),by rw[if_pos h];omega⟩,fun h=>(yfk _).use ?_⟩
 simp only[yw,ycc,go_sem,zA,zB,↓reduceIte,reduceCtorEq];rw[if_neg h]
theorem yth(a b:Int)(e:InB a):Returns zC 298 [.i .i64 a,.i .i64 b] (.i .i64 (yys a b)):=by
 refine Returns.of ((okG 298) _ _ ?_);simp only[cdE 298,rgE 298 0,rgE 298 1,rgE 298 2,rgE 298 3,rgE 298 4,rgE 298 5,rgE 298 6,ycc,yys,go_sem,zA,zB,↓reduceIte,reduceCtorEq];have:=ydgj (b:=b) e;refine⟨fun h=>by rw[if_pos h],fun h=>⟨⟨h,ikw (by omega) (by omega)⟩,h,fun c=>⟨fun d=>⟨ikw (by omega) (by omega),?_⟩,fun d=>?_⟩,fun c=>?_⟩⟩
 .rw[if_neg h,if_pos ⟨c,d⟩]
 .rw[if_neg h,if_neg (fun q=>q.2 d)]
 .rw[if_neg h,if_neg (fun q=>q.1 c)]
theorem ybil(j a b:Int):Returns zC 299 [.i .i64 j,.i .i64 a,.i .i64 b] (.b (cmpP j a b)):=by
 refine Returns.of ((okG 299) _ _ ?_);simp only[cdE 299,rgE 299 0,rgE 299 1,rgE 299 2,rgE 299 3,rgE 299 4,rgE 299 5,rgE 299 6,rgE 299 7,rgE 299 8,rgE 299 9,rgE 299 10,rgE 299 11,rgE 299 12,ygd,cmpP,go_sem,zA,zB,↓reduceIte,reduceCtorEq];refine⟨fun h=>by rw[if_pos h],fun c=>⟨fun h=>by rw[if_neg c,if_pos h],fun d=>⟨fun h=>by rw[if_neg c,if_neg d,if_pos h],fun e=>⟨fun h=>by rw[if_neg c,if_neg d,if_neg e,if_pos h],fun f=>⟨fun h=>by rw[if_neg c,if_neg d,if_neg e,if_neg f,if_pos h],fun g=>by rw[if_neg c,if_neg d,if_neg e,if_neg f,if_neg g]⟩⟩⟩⟩⟩
theorem ybup(p a b:Int)(d:InB a)(o:InB b):Returns zC 288 [.i .i64 p,.i .i64 a,.i .i64 b] (.i .i64 (binP p a b)):=by
 refine Returns.of ((okG 288) _ _ ?_);simp only[cdE 288,rgE 288 0,rgE 288 1,rgE 288 2,rgE 288 3,rgE 288 4,rgE 288 5,rgE 288 6,rgE 288 7,rgE 288 8,rgE 288 9,rgE 288 10,rgE 288 11,rgE 288 12,rgE 288 13,rgE 288 14,rgE 288 15,rgE 288 16,rgE 288 17,rgE 288 18,ycc,go_sem,zA,zB,↓reduceIte,reduceCtorEq];have s:=mulB d o;have t:=ybxo d o;have q:=d;have r:=o;unfold InB at q r;refine⟨fun h=>⟨ikw (by omega) (by omega),(yfd _).use ?_⟩,fun f=>⟨fun h=>(yth a b d).use ?_,fun g=>⟨fun h=>⟨fun e=>?_,fun e=>(yth a b d).use ?_⟩,fun j=>⟨fun h=>⟨ikw (by omega) (by omega),(yfd _).use ?_⟩,fun k=>⟨fun h=>⟨ikw (by omega) (by omega),(yfd _).use ?_⟩,fun l=>?_⟩⟩⟩⟩⟩
 .simp only[yw,ycc,go_sem,zA,zB,↓reduceIte,reduceCtorEq];simp[binP,h]
 .simp only[yw,go_sem,zA,zB,↓reduceIte,reduceCtorEq];refine(yfd _).use ?_;simp only[ycc,go_sem];simp[binP,h]
 .simp[binP,h,e]
 .simp only[yw,go_sem,zA,zB,↓reduceIte,reduceCtorEq];refine⟨ikw (by omega) (by omega),ikw (by omega) (by omega),(yfd _).use ?_⟩
  simp only[ycc,go_sem];simp[binP,h,e]
 .simp only[yw,ycc,go_sem,zA,zB,↓reduceIte,reduceCtorEq];simp[binP,h]
 .simp only[yw,ycc,go_sem,zA,zB,↓reduceIte,reduceCtorEq];simp[binP,h]
 .refine⟨fun h=>?_,fun m=>⟨fun h=>?_,fun n=>?_⟩⟩
  .refine⟨fun c=>(yfk _).use ?_,fun c=>(yfk _).use ?_⟩
   .simp only[yw,ycc,go_sem,zA,zB,↓reduceIte,reduceCtorEq];simp[binP,h];rw[show(a != 0)=true by simpa using c];simp
   .simp only[yw,ycc,go_sem,zA,zB,↓reduceIte,reduceCtorEq];simp[binP,h,c]
  .refine⟨fun c=>(yfk _).use ?_,fun c=>(yfk _).use ?_⟩
   .simp only[yw,ycc,go_sem,zA,zB,↓reduceIte,reduceCtorEq];simp[binP,h,c]
   .simp only[yw,ycc,go_sem,zA,zB,↓reduceIte,reduceCtorEq];simp[binP,h];rw[show(a != 0)=true by simpa using c];simp
  .refine(ybil p a b).use ?_;simp only[yw,go_sem,zA,zB,↓reduceIte,reduceCtorEq];refine(yfk _).use ?_;simp only[ycc,go_sem];simp[binP,f,g,j,k,l,m,n]
end Sh
end
section
namespace Sh
open Go Ev
theorem yyd{l:List Int}{k:Nat}(h:k<l.length):countP (l.take (k+1))=countP (l.take k)+(if l.getD k 0≠0 then 1 else 0):=by
 unfold countP;rw[zI h,List.filter_append,zAV,getD_at h]
 by_cases q:l[k]=0
 .simp[q]
 .simp[q]
theorem ybkg{l:List Int}(k:Nat):0<=countP (l.take k)/\countP (l.take k)<=k:=by
 have:=countP_le (l.take k);simp only[zCA]at this;omega
theorem ycgx(l:List Int)(e:l.length<=1000):Returns zC 303 [yj l] (.i .i64 (countP l)):=by
 refine Returns.of ((okG 303) _ _ ?_);simp only[cdE 303,rgE 303 0,rgE 303 1,rgE 303 2,yj,go_sem,zB,↓reduceIte,reduceCtorEq];refine ybk (σ:=Nat) (fun k=>⟨[(8,.i .i64 k),(3,.i .i64 (countP (l.take k))),(6,yj l),(7,.i .i64 l.length)],[]⟩) (fun k=>k<=l.length) (fun k=>l.length-k) 0 (zJ _) ?_ ?_
 .refine yx ?_;simp only[yj,wk,go_sem,zA,↓reduceIte,reduceCtorEq];simp[countP]
 .intro k hk;simp only[rgE 303 3,rgE 303 4,rgE 303 5,rgE 303 6,rgE 303 7,rgE 303 8,yj,ycc,go_sem,zA,zB,↓reduceIte,reduceCtorEq];have d:=ybkg (l:=l) k;refine⟨fun c=>⟨by omega,fun b=>⟨ikw (by omega) (by omega),ikw (by omega) (by omega),?_⟩,fun b=>⟨ikw (by omega) (by omega),?_⟩⟩,fun c=>?_⟩
  .have a:k<l.length:=by omega
   refine ybw (k+1) ?_;refine yx ?_;simp only[yyd a,if_pos b,wk,go_sem,zA,↓reduceIte,reduceCtorEq];simp
  .have a:k<l.length:=by omega
   refine ybw (k+1) ?_;refine yx ?_;simp only[yyd a,if_neg (not_not_intro b),wk,go_sem,zA,↓reduceIte,reduceCtorEq];simp
  .rw[zAB (by omega)]
theorem ytl{l:List Int}{k:Nat}(h:k<l.length):yek (l.take (k+1))=(if l.getD k 0>(yek (l.take k)).1 then(l.getD k 0,(yek (l.take k)).1)else((yek (l.take k)).1,max (yek (l.take k)).2 (l.getD k 0))):=by
 unfold yek;rw[zI h,zV,getD_at h];rfl
theorem ywb(l:List Int)(d:l.length<=1000):Returns zC 306 [yj l] (.tp [.i .i64 (yek l).1,.i .i64 (yek l).2]):=by
 refine Returns.of ((okG 306) _ _ ?_);simp only[cdE 306,rgE 306 0,rgE 306 1,rgE 306 2,yj,go_sem,zB,↓reduceIte,reduceCtorEq];refine ybk (σ:=Nat) (fun k=>⟨[(8,.i .i64 k),(2,.i .i64 (yek (l.take k)).1),(3,.i .i64 (yek (l.take k)).2),(6,yj l),(7,.i .i64 l.length)],[]⟩) (fun k=>k<=l.length) (fun k=>l.length-k) 0 (zJ _) ?_ ?_
 .refine yx ?_;simp only[yj,wk,go_sem,zA,↓reduceIte,reduceCtorEq];simp[yek]
 .intro k hk;simp only[rgE 306 3,rgE 306 4,rgE 306 5,rgE 306 6,rgE 306 7,rgE 306 8,rgE 306 9,yj,go_sem,zA,zB,↓reduceIte,reduceCtorEq];refine⟨fun c=>⟨by omega,fun b=>⟨ikw (by omega) (by omega),?_⟩,fun b=>⟨ikw (by omega) (by omega),?_⟩⟩,fun c=>?_⟩
  .have a:k<l.length:=by omega
   refine ybw (k+1) ?_;refine yx ?_;simp only[ytl a,if_pos b,wk,go_sem,zA,↓reduceIte,reduceCtorEq];simp
  .have a:k<l.length:=by omega
   refine ybw (k+1) ?_;refine yx ?_;simp only[ytl a,if_neg b,wk,go_sem,zA,↓reduceIte,reduceCtorEq];simp
  .rw[zAB (by omega)]
   exact Sim.refl _
theorem ybfp(l:List Int)(x:Int)(d:l.length<=100000):Returns zC 311 [yj l,.i .i64 x] (.b (l.elem x)):=by
 refine Returns.of ((okG 311) _ _ ?_);simp only[cdE 311,rgE 311 0,rgE 311 1,yj,go_sem,zA,zB,↓reduceIte,reduceCtorEq];refine(ycck l x d).use ?_;simp only[yw,ygd,go_sem,zA,zB,↓reduceIte,reduceCtorEq];unfold idxP;cases h:l.findIdx? (fun y=>x==y)with
 | none =>
   rw[zY]at h
   have:l.elem x=false:=by
    rw[zCB,decide_eq_false_iff_not];intro e;have:=h x e;simp at this
   rw[this];simp
 | some i =>
   obtain⟨a,c,_⟩:=List.findIdx?_eq_some_iff_getElem.1 h
   have:l.elem x=true:=by
    rw[zCB,decide_eq_true_eq];have:x=l[i]:=by simpa using c
    rw[this];exact zK a
   rw[this];simp
theorem ybut{l:List Int}{n:Nat}{r:Int}(h:l.elem r=true):yzi l (n+1) r=yzi l n (r+1):=by
 show(if l.elem r then _ else _)=_;rw[if_pos h]
theorem ybsz{l:List Int}{n:Nat}{r:Int}(h:l.elem r=false):yzi l n r=r:=by
 cases n with
 |zero=>rfl
 |succ n=>show(if l.elem r then _ else _)=_;rw[if_neg (by rw[h];simp)]
theorem ybgz{l:List Int}{k:Nat}(h:∀j:Nat,j<k->l.elem (j:Int)=true):k<=l.length:=by
 have d:((zX k).map fun(j:Nat)=>(j:Int)).Nodup:=by
  rw[List.Nodup,zBW];exact List.nodup_range.imp fun {a b} c e=>c (by omega)
 have f:((zX k).map fun(j:Nat)=>(j:Int)) ⊆ l:=fun x i=>by
  obtain⟨j,g,rfl⟩:=List.mem_map.1 i;have:=h j (List.mem_range.1 g)
  simpa using this
 have:=List.Nodup.length_le_of_subset d f
 simpa using this
theorem ycvf(l:List Int)(e:l.length<=1000):Returns zC 307 [yj l] (.i .i64 (mexP l)):=by
 refine Returns.of ((okG 307) _ _ ?_);simp only[cdE 307,rgE 307 0,rgE 307 1,yj,go_sem];refine ybk (σ:=Nat) (fun k=>⟨[(3,.i .i64 k),(0,yj l)],[]⟩) (fun k=>(∀j:Nat,j<k->l.elem (j:Int)=true)/\mexP l=yzi l (l.length+1-k) k) (fun k=>l.length+1-k) 0 ⟨fun j h=>absurd h (zAF _),rfl⟩ ?_ ?_
 .refine yx ?_;simp only[yj,wk,go_sem,↓reduceIte,reduceCtorEq]
 .intro k ⟨hk,he⟩;have c:=ybgz hk;simp only[rgE 307 2,rgE 307 3,rgE 307 4,yj,go_sem,zA,zB,↓reduceIte,reduceCtorEq];refine(ybfp l k (by omega)).use ?_
  simp only[yw,ycc,go_sem,zA,zB,↓reduceIte,reduceCtorEq];refine⟨fun h=>⟨ikw (by omega) (by omega),?_⟩,fun h=>?_⟩
  .have a:∀j:Nat,j<k+1->l.elem (j:Int)=true:=fun j d=>by
    by_cases q:j<k
    .exact hk j q
    .obtain rfl:j=k:=by omega
     exact h
   have b:=ybgz a;refine ybb (k+1) ⟨a,?_⟩ (by omega) ?_
   .rw[he,show l.length+1-k=(l.length+1-(k+1))+1 by omega,ybut h];simp
   .refine yx ?_;simp only[wk,go_sem,↓reduceIte,reduceCtorEq];simp
  .rw[he,ybsz h]
theorem ybvv(x:Int):Returns zC 305 [.i .i64 x] (.b (x != 0)):=by
 refine Returns.of ((okG 305) _ _ ?_);simp only[cdE 305,rgE 305 0,rgE 305 1,ygd,go_sem,zA,zB,↓reduceIte,reduceCtorEq]
theorem ybcb(l:List Int)(d:l.length<=1000):Returns zC 304 [yj l,.fn 305 [] []] (.i .i64 (yfl l)):=by
 refine Returns.of ((okG 304) _ _ ?_);simp only[cdE 304,rgE 304 0,rgE 304 1,yj,go_sem,zB,↓reduceIte,reduceCtorEq];refine ybk (σ:=Nat) (fun k=>⟨[(8,.i .i64 k),(0,yj l),(1,.fn 305 [] []),(7,.i .i64 l.length)],[]⟩) (fun k=>k<=l.length/\(l.take k).findIdx? (· != 0)=none) (fun k=>l.length-k) 0 ⟨zJ _,by simp⟩ ?_ ?_
 .refine yx ?_;simp only[yj,wk,go_sem,zA,↓reduceIte,reduceCtorEq]
 .intro k ⟨hk,hno⟩;simp only[rgE 304 2,rgE 304 3,rgE 304 4,rgE 304 5,rgE 304 6,rgE 304 7,yj,ycc,go_sem,zA,zB,↓reduceIte,reduceCtorEq];refine⟨fun a=>⟨by omega,(ybvv _).use ?_⟩,fun a=>?_⟩
  .have a:k<l.length:=by omega
   simp only[yw,ycc,go_sem,zA,zB,↓reduceIte,reduceCtorEq];rw[getD_at a];refine⟨fun b=>?_,fun b=>⟨ikw (by omega) (by omega),?_⟩⟩
   .have:l.findIdx? (· != 0)=some k:=by
     rw[zW];refine⟨a,by simpa using b,fun j c=>?_⟩
     rw[zY]at hno;have:=hno l[j] (List.mem_take_iff_getElem.2 ⟨j,by omega,rfl⟩)
     simpa using this
    unfold yfl;rw[this]
   .refine ybb (k+1) ⟨by omega,?_⟩ (by omega) ?_
    .rw[zI a,zAJ,hno];simp[b]
    .refine yx ?_;simp only[wk,go_sem,zA,↓reduceIte,reduceCtorEq];simp
  .obtain rfl:k=l.length:=by omega
   rw[zAE]at hno;unfold yfl;rw[hno]
end Sh
end
section
namespace Sh
open Go Ev
theorem ybnk{l:List Int}{k:Nat}(h:k<l.length):ymf (l.take (k+1))=min (ymf (l.take k)) (l.getD k 0):=by
 unfold ymf;rw[zI h,zV,getD_at h];rfl
theorem ybbx{l:List Int}{k:Nat}(h:k<l.length):(l.take (k+1)).sum=(l.take k).sum+l.getD k 0:=by
 rw[zI h,List.sum_append,getD_at h];simp
theorem ybwi{l:List Int}(h:∀x∈l,InB x):∀k,k<=l.length -> -1073741824*(k:Int)<=(l.take k).sum/\(l.take k).sum<=1073741824*(k:Int)
 |0,_=>by simp
 | k+1,hk=>by
   have a:=ybwi h k (by omega)
   rw[ybbx (by omega)]
   have:=h l[k] (zK (by omega))
   rw[<-getD_at (d:=0) (show k<l.length by omega)]at this
   unfold InB at this;omega
theorem ycrj(t:Int)(l:List Int)(y:l.length<=24)(q:∀x∈l,InB x):Returns zC 296 [.i .i64 t,yj l] (.i .i64 (yhf t l)):=by
 refine Returns.of ((okG 296) _ _ ?_);have w:∀k,k<l.length->InB (l.getD k 0):=fun k hk=>by rw[getD_at hk];exact q _ (zK hk)
 obtain⟨L,u⟩:∃L,yj l=L:=⟨_,rfl⟩;have v:L = .sl 1 l.length (fun k=>[.i .i64 (l.getD k 0)]):=u.symm;simp only[cdE 296,rgE 296 0,rgE 296 1,rgE 296 2,rgE 296 3,rgE 296 4,rgE 296 5,rgE 296 6,rgE 296 7,rgE 296 8,rgE 296 9,rgE 296 10,rgE 296 11,rgE 296 12,rgE 296 13,rgE 296 14,rgE 296 15,rgE 296 16,rgE 296 17,rgE 296 18,rgE 296 19,rgE 296 20,rgE 296 21,rgE 296 22,rgE 296 23,rgE 296 24,rgE 296 25,rgE 296 26,rgE 296 27,rgE 296 28,rgE 296 29,rgE 296 30,rgE 296 31,rgE 296 32,rgE 296 33,rgE 296 34,rgE 296 35,rgE 296 36,yj,go_sem,zAK,zA,zB,↓reduceIte,reduceCtorEq]
 have a:=ycgx l (by omega)
 have c:=ywb l (by omega)
 simp only[yj]at a c;refine⟨fun d=>a.use ?_,fun d=>⟨fun e=>a.use ?_,fun e=>⟨fun f=>a.use ?_,fun f=>⟨fun g=>?_,fun g=>⟨fun h=>?_,fun h=>⟨fun j=>c.use ?_,fun j=>⟨fun m=>?_,fun m=>⟨fun n=>?_,fun n=>⟨fun o=>c.use ?_,fun o=>?_⟩⟩⟩⟩⟩⟩⟩⟩⟩
 .simp only[yw,go_sem,zA,zB,↓reduceIte,reduceCtorEq];refine(yfk _).use ?_;simp only[ycc,go_sem];simp[yhf,d]
 .simp only[yw,go_sem,zA,zB,↓reduceIte,reduceCtorEq];refine(yfk _).use ?_;simp only[ycc,go_sem];simp[yhf,e]
 .simp only[yw,ycc,go_sem,zA,zB,↓reduceIte,reduceCtorEq];simp[yhf,f]
 .have:=ybcb l (by omega)
  simp only[yj]at this;refine this.use ?_;simp only[yw,ycc,go_sem,zA,zB,↓reduceIte,reduceCtorEq];simp[yhf,g]
 .refine ybk (σ:=Nat) (fun k=>⟨[(42,.i .i64 k),(5,.i .i64 (ymf (l.take k))),(40,yj l),(41,.i .i64 l.length)],[]⟩) (fun k=>k<=l.length) (fun k=>l.length-k) 0 (zJ _) ?_ ?_
  .refine yx ?_;simp only[yj,wk,go_sem,zA,↓reduceIte,reduceCtorEq];simp[ymf]
  .intro k hk;simp only[yj,ycc,go_sem,zA,zB,↓reduceIte,reduceCtorEq];refine⟨fun p=>⟨by omega,ikw (by omega) (by omega),?_⟩,fun p=>?_⟩
   .have b:k<l.length:=by omega
    refine ybw (k+1) ?_;refine yx ?_;simp only[ybnk b,wk,go_sem,zA,↓reduceIte,reduceCtorEq];simp
   .rw[zAB (by omega)]
    simp[yhf,h]
 .simp only[yw,ycc,go_sem,zA,zB,↓reduceIte,reduceCtorEq];simp[yhf,j]
 .refine ybk (σ:=Nat) (fun k=>⟨[(63,.i .i64 k),(10,.i .i64 (l.take k).sum),(61,yj l),(62,.i .i64 l.length)],[]⟩) (fun k=>k<=l.length) (fun k=>l.length-k) 0 (zJ _) ?_ ?_
  .refine yx ?_;simp only[yj,wk,go_sem,zA,↓reduceIte,reduceCtorEq];simp
  .intro k hk;simp only[yj,go_sem,zA,zB,↓reduceIte,reduceCtorEq];have z:=ybwi q k hk;refine⟨fun p=>?_,fun p=>(yfd _).use ?_⟩
   .have b:k<l.length:=by omega
    have r:=ybwi q (k+1) b;rw[ybbx b]at r;refine⟨by omega,ikw (by omega) (by omega),ikw (by omega) (by omega),?_⟩
    refine ybw (k+1) ?_;refine yx ?_;simp only[ybbx b,wk,go_sem,zA,↓reduceIte,reduceCtorEq];simp
   .simp only[yw,ycc,go_sem,zA,zB,↓reduceIte,reduceCtorEq];rw[zAB (by omega)]
    simp[yhf,m]
 .have:=ycvf l (by omega)
  simp only[yj]at this;refine this.use ?_;simp only[yw,ycc,go_sem,zA,zB,↓reduceIte,reduceCtorEq];simp[yhf,n]
 .simp only[yw,ycc,go_sem,zA,zB,↓reduceIte,reduceCtorEq];simp[yhf,o]
 .refine⟨fun s=>?_,fun s=>⟨by omega,?_⟩⟩
  .simp only[ycc,go_sem];have:l=[]:=zAA (by omega)
   simp[yhf,d,e,f,g,h,j,m,n,o,this]
  .cases l with
   |nil=>simp at s
   | cons x l=>
     simp only[ycc,go_sem];simp[yhf,d,e,f,g,h,j,m,n,o]
end Sh
end
section
def Ex.shp:Ex->Bool
 |.leaf c _=>decide (1<=c/\c<=17)
 |.un c a=>decide (18<=c/\c<=29)&&a.shp
 |.agg c a=>decide (18<=c/\c<=29)&&a.shp
 |.bin c a b=>decide (30<=c/\c<=42)&&a.shp&&b.shp
 |.ite x a b=>x.shp&&a.shp&&b.shp
theorem Ex.ok_shp{e:Int}:∀(x:Ex) {c:Bool},x.ok e c=true->x.shp=true
 | .leaf d arg,c,h=>by
   simp only[Ex.ok,zF]at h;exact h.1.1
 | .un d a,c,h=>by
   simp only[Ex.ok,zF,decide_eq_true_eq]at h;simp only[Ex.shp,zF,decide_eq_true_eq];exact⟨by omega,Ex.ok_shp a h.2⟩
 | .agg d a,c,h=>by
   simp only[Ex.ok,zF,decide_eq_true_eq]at h;simp only[Ex.shp,zF,decide_eq_true_eq];exact⟨by omega,Ex.ok_shp a h.2⟩
 | .bin d a b,c,h=>by
   simp only[Ex.ok,zF,decide_eq_true_eq]at h;simp only[Ex.shp,zF,decide_eq_true_eq];exact⟨⟨h.1.1,Ex.ok_shp a h.1.2⟩,Ex.ok_shp b h.2⟩
 | .ite x a b,c,h=>by
   simp only[Ex.ok,zF]at h;simp only[Ex.shp,zF];exact⟨⟨Ex.ok_shp x h.1.1,Ex.ok_shp a h.1.2⟩,Ex.ok_shp b h.2⟩
def yoc(a:Int):Int:=if a<1\/a>43 then -1 else if a<=17 then 0 else if a<=29 then 1 else if a<=42 then 2 else 3
def serL(a:List Ex):List Tm:=(a.map Ex.ser).flatten
def Ex.head:Ex->Tm
 |.leaf a arg=>(a,arg)
 |.un a _=>(a,0)
 |.agg a _=>(a,0)
 |.bin a _ _=>(a,0)
 |.ite _ _ _=>(43,0)
def Ex.subs:Ex->List Ex
 |.leaf _ _=>[]
 |.un _ a=>[a]
 |.agg _ a=>[a]
 |.bin _ a b=>[a,b]
 |.ite x a b=>[x,a,b]
theorem Ex.ser_eq(x:Ex):x.ser=x.head::serL x.subs:=by
 cases x<;>simp[Ex.ser,Ex.head,Ex.subs,serL]
theorem yclu{a:Int}(h:1<=a/\a<=17):yoc a=0:=by
 unfold yoc;rw[if_neg (by omega),if_pos (by omega)]
theorem ybqi{a:Int}(h:18<=a/\a<=29):yoc a=1:=by
 unfold yoc;rw[if_neg (by omega),if_neg (by omega),if_pos (by omega)]
theorem ycmv{a:Int}(h:30<=a/\a<=42):yoc a=2:=by
 unfold yoc;rw[if_neg (by omega),if_neg (by omega),if_neg (by omega),if_pos (by omega)]
theorem Ex.arity(x:Ex)(h:x.shp=true):yoc x.head.1=x.subs.length:=by
 cases x with
 |leaf c arg=>simp only[Ex.shp,decide_eq_true_eq]at h;exact yclu h
 |un c a=>simp only[Ex.shp,zF,decide_eq_true_eq]at h;exact ybqi h.1
 |agg c a=>simp only[Ex.shp,zF,decide_eq_true_eq]at h;exact ybqi h.1
 |bin c a b=>simp only[Ex.shp,zF,decide_eq_true_eq]at h;exact ycmv h.1.1
 |ite x a b=>simp[Ex.head,Ex.subs,yoc]
theorem Ex.subs_shp(x:Ex)(h:x.shp=true):∀y∈x.subs,y.shp=true:=by
 cases x with
 |leaf d arg=>intro y c;cases c
 |un d a=>simp only[Ex.shp,zF]at h;intro y c;simp[Ex.subs]at c;subst c;exact h.2
 |agg d a=>simp only[Ex.shp,zF]at h;intro y c;simp[Ex.subs]at c;subst c;exact h.2
 |bin d a b=>simp only[Ex.shp,zF]at h;intro y c;simp[Ex.subs]at c;rcases c with rfl|rfl<;>first|exact h.1.2|exact h.2
 |ite x a b=>simp only[Ex.shp,zF]at h;intro y c;simp[Ex.subs]at c;rcases c with rfl|rfl|rfl<;>first|exact h.1.1|exact h.1.2|exact h.2
theorem ygn{e:List Tm}{at_:Nat}{t:Tm}{r:List Tm}(h:e.drop at_=t::r):at_<e.length/\e.getD at_ (0,0)=t/\e.drop (at_+1)=r:=by
 have a:at_<e.length:=by
  refine zAL fun b=>?_;rw[List.drop_of_length_le (by omega)]at h;cases h
 refine⟨a,?_,?_⟩
 .rw[zAY a]at h;simp only[List.cons.injEq]at h;simp[zM,a,h.1]
 .rw[zAY a]at h;simp only[List.cons.injEq]at h;exact h.2
namespace Sh
open Go Ev
theorem ycam(c:Int):Returns zC 269 [.i .i64 c] (.i .i64 (yoc c)):=by
 refine Returns.of ((okG 269) _ _ ?_);simp only[cdE 269,rgE 269 0,rgE 269 1,rgE 269 2,rgE 269 3,rgE 269 4,rgE 269 5,rgE 269 6,rgE 269 7,rgE 269 8,rgE 269 9,ycc,yoc,go_sem,zA,zB,↓reduceIte,reduceCtorEq];refine⟨fun e=>⟨fun h=>by rw[if_pos (.inr h)],fun f=>⟨fun h=>by rw[if_neg (by omega),if_pos h],fun a=>⟨fun h=>by rw[if_neg (by omega),if_neg a,if_pos h],fun b=>⟨fun h=>by rw[if_neg (by omega),if_neg a,if_neg b,if_pos h],fun d=>by rw[if_neg (by omega),if_neg a,if_neg b,if_neg d]⟩⟩⟩⟩,fun h=>by rw[if_pos (.inl h)]⟩
theorem ycvr(e:List Tm)(x:Ex)(at_:Nat)(rest:List Tm)(u:x.shp=true)(j:e.drop at_=x.ser++rest)(B:e.length<=1000):Returns zC 251 [ybd e,.i .i64 at_] (.i .i64 ((at_+x.ser.length:Nat):Int)):=by
 refine Returns.of ((okG 251) _ _ ?_)
 have A:at_<e.length:=by
  rw[x.ser_eq]at j;exact(ygn j).1
 simp only[cdE 251,rgE 251 0,rgE 251 1,rgE 251 2,rgE 251 3,ybd,ycc,go_sem,zA,zB,↓reduceIte,reduceCtorEq];refine⟨fun _=>⟨fun h=>by omega,fun _=>?_⟩,fun h=>by omega⟩
 refine ybk (σ:=Nat×List Ex) (fun p=>⟨[(1,.i .i64 p.1),(5,.i .i64 p.2.length),(0,ybd e)],[]⟩)
  (fun p=>e.drop p.1=serL p.2++rest/\p.2≠[]/\(∀y∈p.2,y.shp=true)/\p.1+(serL p.2).length=at_+x.ser.length/\p.2.length<=3*p.1+1) (fun p=>e.length-p.1) (at_,[x]) ⟨by simpa[serL]using j,by simp,by simpa using u,by simp[serL],by simp⟩ ?_ ?_
 .refine yx ?_;simp only[ybd,wk,go_sem,zA,↓reduceIte,reduceCtorEq];simp
 .rintro⟨k,b⟩ ⟨hk,m,f,a,n⟩;cases b with
  |nil=>exact absurd rfl m
  | cons y b =>
    dsimp only at hk a n ⊢
    have d:serL (y::b)=y.head::(serL y.subs++serL b):=by
     show(y.ser++serL b)=_;rw[y.ser_eq];rfl
    rw[d]at hk a;obtain⟨d1,d2,d3⟩:=ygn hk;have r:=f y zAM;have g:=y.arity r;have o:y.subs.length<=3:=by cases y<;>simp[Ex.subs]
    simp only[zBC]at n a;simp only[rgE 251 4,rgE 251 5,rgE 251 6,rgE 251 7,rgE 251 8,rgE 251 9,rgE 251 10,rgE 251 11,rgE 251 12,ybd,ycc,go_sem,zA,zB,zG,↓reduceIte,reduceCtorEq];refine⟨fun l=>⟨by omega,(ycam _).use ?_⟩,fun l=>by omega⟩
    rw[d2,g];simp only[yw,ycc,go_sem,zA,zB,↓reduceIte,reduceCtorEq];refine⟨fun h=>by omega,fun _=>⟨ikw (by omega) (by omega),ikw (by simp;omega) (by simp;omega),fun h=>⟨ikw (by omega) (by omega),?_⟩,fun h=>⟨ikw (by omega) (by omega),?_⟩⟩⟩
    .have s:b=[]:=zAA (by omega)
     have t:y.subs=[]:=zAA (by omega)
     subst s;rw[t]at a;simp[serL]at a;omega
    .have c:y.subs++b≠[]:=fun q=>by
      have w:=congrArg zAQ q;simp only[zAV,zBH]at w;omega
     refine ybb (k+1,y.subs++b) ⟨?_,c,?_,?_,?_⟩ (by dsimp only;omega) ?_
     .dsimp only
      rw[d3];simp[serL]
     .intro z v;rcases List.mem_append.1 v with q|q
      .exact y.subs_shp r z q
      .exact f z (zAI _ q)
     .dsimp only
      have:(serL (y.subs++b)).length=(serL y.subs++serL b).length:=by simp[serL]
      rw[this];omega
     .dsimp only
      simp only[zAV];omega
     .refine yx ?_;simp only[wk,go_sem,zA,↓reduceIte,reduceCtorEq];simp;omega
end Sh
end
section
namespace Sh
open Go Ev
def varC(x:VarR):List SV:=[.a (.string x.name),.i .i64 x.kind,.i .i64 x.lo,.i .i64 x.hi,.i .i64 x.perNode,.i .i64 x.perID]
def ybx(l:List VarR):SV:=.sl 6 l.length (fun k=>varC (l.getD k default))
def yki(l:List SetR):SV:=.sl 2 l.length (fun k=>[.i .i64 (l.getD k default).var,ybd (l.getD k default).val])
def ydr(l:List RuleR):SV:=.sl 3 l.length (fun k=>[.a (.string (l.getD k default).name),ybd (l.getD k default).guard,yki (l.getD k default).sets])
def yrg(p:ProgR):List SV:=[.a (.string p.name),ybx p.vars,ydr p.rules]
def yey(g:Gr):SV:=.sl 1 g.ports.length (fun v=>[yj (ymj g v)])
def yhi(p:ProgR)(g:Gr):List SV:=[.a (.string p.name),ybx p.vars,ydr p.rules,yj g.ids,yba g.ports,.i .i64 (ybvn g),yey g]
def ylf(p:ProgR)(g:Gr)(c:Conf)(v:Nat)(e:List Tm):List SV:=[.rf (yhi p g),ybf c,.i .i64 v,ybd e]
theorem ybug(l:List Int):one1 (yj l)=true:=rfl
theorem yboh{n:Nat}(l:List Int):owned (n+1) (yj l)=false:=rfl
theorem ybhs{n:Nat}(l:List Int):scalar (n+1) (yj l)=false:=rfl
theorem ybtw{n:Nat}(o:Own)(l:List Int):view o (n+1) (yj l)=yj l:=rfl
theorem ybwu{n:Nat}(o:Own)(l:List Int):vok o (n+1) (yj l)=True:=rfl
theorem yccs{n:Nat}(h:Nm->Nm)(l:List Int):ren h (n+1) (yj l)=yj l:=rfl
theorem ybwl{n:Nat}(L:Nm->Bool)(l:List Int):cln L (n+1) (yj l)=true:=rfl
theorem ybnr(l:List (Int×Int)):one1 (ybd l)=true:=rfl
theorem ybgb{n:Nat}(l:List (Int×Int)):owned (n+1) (ybd l)=false:=rfl
theorem ybej{n:Nat}(l:List (Int×Int)):scalar (n+1) (ybd l)=false:=rfl
theorem ybnn{n:Nat}(o:Own)(l:List (Int×Int)):view o (n+1) (ybd l)=ybd l:=rfl
theorem ybuf{n:Nat}(o:Own)(l:List (Int×Int)):vok o (n+1) (ybd l)=True:=rfl
theorem ybtq{n:Nat}(h:Nm->Nm)(l:List (Int×Int)):ren h (n+1) (ybd l)=ybd l:=rfl
theorem ybta{n:Nat}(L:Nm->Bool)(l:List (Int×Int)):cln L (n+1) (ybd l)=true:=rfl
theorem ybks(l:List (List (Int×Int))):one1 (yba l)=true:=rfl
theorem ybje{n:Nat}(l:List (List (Int×Int))):owned (n+1) (yba l)=false:=rfl
theorem ybdn{n:Nat}(l:List (List (Int×Int))):scalar (n+1) (yba l)=false:=rfl
theorem ybnd{n:Nat}(o:Own)(l:List (List (Int×Int))):view o (n+1) (yba l)=yba l:=rfl
theorem ybrk{n:Nat}(o:Own)(l:List (List (Int×Int))):vok o (n+1) (yba l)=True:=rfl
theorem ybsx{n:Nat}(h:Nm->Nm)(l:List (List (Int×Int))):ren h (n+1) (yba l)=yba l:=rfl
theorem ybvr{n:Nat}(L:Nm->Bool)(l:List (List (Int×Int))):cln L (n+1) (yba l)=true:=rfl
theorem ybum(l:List (List Int)):one1 (ybf l)=true:=rfl
theorem yblb{n:Nat}(l:List (List Int)):owned (n+1) (ybf l)=false:=rfl
theorem ybjt{n:Nat}(l:List (List Int)):scalar (n+1) (ybf l)=false:=rfl
theorem ybrx{n:Nat}(o:Own)(l:List (List Int)):view o (n+1) (ybf l)=ybf l:=rfl
theorem ychr{n:Nat}(o:Own)(l:List (List Int)):vok o (n+1) (ybf l)=True:=rfl
theorem ycjf{n:Nat}(h:Nm->Nm)(l:List (List Int)):ren h (n+1) (ybf l)=ybf l:=rfl
theorem ycfb{n:Nat}(L:Nm->Bool)(l:List (List Int)):cln L (n+1) (ybf l)=true:=rfl
theorem ybvd(l:List VarR):one1 (ybx l)=true:=rfl
theorem ybnf{n:Nat}(l:List VarR):owned (n+1) (ybx l)=false:=rfl
theorem ybic{n:Nat}(l:List VarR):scalar (n+1) (ybx l)=false:=rfl
theorem ybtl{n:Nat}(o:Own)(l:List VarR):view o (n+1) (ybx l)=ybx l:=rfl
theorem ycee{n:Nat}(o:Own)(l:List VarR):vok o (n+1) (ybx l)=True:=rfl
theorem ycdi{n:Nat}(h:Nm->Nm)(l:List VarR):ren h (n+1) (ybx l)=ybx l:=rfl
theorem ybvz{n:Nat}(L:Nm->Bool)(l:List VarR):cln L (n+1) (ybx l)=true:=rfl
theorem ybus(l:List SetR):one1 (yki l)=true:=rfl
theorem yboo{n:Nat}(l:List SetR):owned (n+1) (yki l)=false:=rfl
theorem ybii{n:Nat}(l:List SetR):scalar (n+1) (yki l)=false:=rfl
theorem ybvg{n:Nat}(o:Own)(l:List SetR):view o (n+1) (yki l)=yki l:=rfl
theorem ycdu{n:Nat}(o:Own)(l:List SetR):vok o (n+1) (yki l)=True:=rfl
theorem ycgr{n:Nat}(h:Nm->Nm)(l:List SetR):ren h (n+1) (yki l)=yki l:=rfl
theorem ycjd{n:Nat}(L:Nm->Bool)(l:List SetR):cln L (n+1) (yki l)=true:=rfl
theorem ybkr(l:List RuleR):one1 (ydr l)=true:=rfl
theorem ybif{n:Nat}(l:List RuleR):owned (n+1) (ydr l)=false:=rfl
theorem ybbo{n:Nat}(l:List RuleR):scalar (n+1) (ydr l)=false:=rfl
theorem ybml{n:Nat}(o:Own)(l:List RuleR):view o (n+1) (ydr l)=ydr l:=rfl
theorem ybtn{n:Nat}(o:Own)(l:List RuleR):vok o (n+1) (ydr l)=True:=rfl
theorem ybuv{n:Nat}(h:Nm->Nm)(l:List RuleR):ren h (n+1) (ydr l)=ydr l:=rfl
theorem ybvk{n:Nat}(L:Nm->Bool)(l:List RuleR):cln L (n+1) (ydr l)=true:=rfl
theorem ybmj(l:Gr):one1 (yey l)=true:=rfl
theorem ybix{n:Nat}(l:Gr):owned (n+1) (yey l)=false:=rfl
theorem ybdi{n:Nat}(l:Gr):scalar (n+1) (yey l)=false:=rfl
theorem ybom{n:Nat}(o:Own)(l:Gr):view o (n+1) (yey l)=yey l:=rfl
theorem ybsr{n:Nat}(o:Own)(l:Gr):vok o (n+1) (yey l)=True:=rfl
theorem ybvo{n:Nat}(h:Nm->Nm)(l:Gr):ren h (n+1) (yey l)=yey l:=rfl
theorem ybuo{n:Nat}(L:Nm->Bool)(l:Gr):cln L (n+1) (yey l)=true:=rfl
theorem ybmn{n:Nat}(a:List Nm)(o:Own)(l:List Int):yee a o (n+1) (yj l)=yj l:=rfl
theorem ychb{n:Nat}(a:List Nm)(o:Own)(l:List Int):pok a o (n+1) (yj l)=True:=rfl
theorem ybju{n:Nat}(a:List Nm)(o:Own)(l:List (Int×Int)):yee a o (n+1) (ybd l)=ybd l:=rfl
theorem ybsn{n:Nat}(a:List Nm)(o:Own)(l:List (Int×Int)):pok a o (n+1) (ybd l)=True:=rfl
theorem ybjb{n:Nat}(a:List Nm)(o:Own)(l:List (List (Int×Int))):yee a o (n+1) (yba l)=yba l:=rfl
theorem ybsg{n:Nat}(a:List Nm)(o:Own)(l:List (List (Int×Int))):pok a o (n+1) (yba l)=True:=rfl
theorem yblc{n:Nat}(a:List Nm)(o:Own)(l:List (List Int)):yee a o (n+1) (ybf l)=ybf l:=rfl
theorem ycak{n:Nat}(a:List Nm)(o:Own)(l:List (List Int)):pok a o (n+1) (ybf l)=True:=rfl
theorem yblv{n:Nat}(a:List Nm)(o:Own)(l:List VarR):yee a o (n+1) (ybx l)=ybx l:=rfl
theorem ycie{n:Nat}(a:List Nm)(o:Own)(l:List VarR):pok a o (n+1) (ybx l)=True:=rfl
theorem ybnl{n:Nat}(a:List Nm)(o:Own)(l:List SetR):yee a o (n+1) (yki l)=yki l:=rfl
theorem ycfk{n:Nat}(a:List Nm)(o:Own)(l:List SetR):pok a o (n+1) (yki l)=True:=rfl
theorem ybij{n:Nat}(a:List Nm)(o:Own)(l:List RuleR):yee a o (n+1) (ydr l)=ydr l:=rfl
theorem ybui{n:Nat}(a:List Nm)(o:Own)(l:List RuleR):pok a o (n+1) (ydr l)=True:=rfl
theorem ybeo{n:Nat}(a:List Nm)(o:Own)(l:Gr):yee a o (n+1) (yey l)=yey l:=rfl
theorem ybvm{n:Nat}(a:List Nm)(o:Own)(l:Gr):pok a o (n+1) (yey l)=True:=rfl
theorem ybno(l:List Int):SV.cells (yj l)=[yj l]:=rfl
theorem ybft(l:List (Int×Int)):SV.cells (ybd l)=[ybd l]:=rfl
theorem ybfd(l:List (List (Int×Int))):SV.cells (yba l)=[yba l]:=rfl
theorem ybla(l:List (List Int)):SV.cells (ybf l)=[ybf l]:=rfl
theorem ybni(l:List VarR):SV.cells (ybx l)=[ybx l]:=rfl
theorem ybkf(l:List SetR):SV.cells (yki l)=[yki l]:=rfl
theorem ybel(l:List RuleR):SV.cells (ydr l)=[ydr l]:=rfl
theorem ybjc(l:Gr):SV.cells (yey l)=[yey l]:=rfl
attribute [go_sem] ybug yboh ybhs ybtw ybwu yccs ybwl ybnr ybgb ybej ybnn ybuf ybtq ybta
attribute [go_sem] ybks ybje ybdn ybnd ybrk ybsx ybvr ybum yblb ybjt ybrx ychr ycjf
attribute [go_sem] ycfb ybvd ybnf ybic ybtl ycee ycdi ybvz ybus yboo ybii ybvg ycdu ycgr
attribute [go_sem] ycjd ybkr ybif ybbo ybml ybtn ybuv ybvk ybmj ybix ybdi ybom ybsr
attribute [go_sem] ybvo ybuo ybmn ychb ybju ybsn ybjb ybsg yblc ycak yblv ycie ybnl ycfk
attribute [go_sem] ybij ybui ybeo ybvm ybno ybft ybfd ybla ybni ybkf ybel ybjc
end Sh
end
section
namespace Sh
open Go Ev
theorem ycps(p:ProgR){g:Gr}(q:ybe g)(b:Int){v:Nat}(u:v<g.ports.length)(a:Int)(t:b=6\/b=7\/b=8\/b=9\/b=10\/b=11\/(0<=a/\a<(g.ports.getD v []).length)) :
 Returns zC 294 [.rf (yhi p g),.i .i64 b,.i .i64 v,.i .i64 a] (.i .i64 (yqv g b v a)):=by
 refine Returns.of ((okG 294) _ _ ?_);have r:=q.2.2.1;simp only[cdE 294,rgE 294 0,rgE 294 1,rgE 294 2,rgE 294 3,rgE 294 4,rgE 294 5,rgE 294 6,rgE 294 7,rgE 294 8,rgE 294 9,rgE 294 10,rgE 294 11,rgE 294 12,rgE 294 13,rgE 294 14,rgE 294 15,rgE 294 16,rgE 294 17,rgE 294 18,rgE 294 19,rgE 294 20,rgE 294 21,rgE 294 22,rgE 294 23,rgE 294 24,yhi,yj,yba,ybd,yey,ycc,go_sem,zA,zB,zG,zD,↓reduceIte,reduceCtorEq]
 refine⟨fun k=>?_,fun k=>⟨fun l=>?_,fun l=>⟨fun m=>⟨by omega,?_⟩,fun m=>⟨fun n=>⟨by omega,?_⟩,fun n=>⟨fun c=>(yfk _).use ?_,fun c=>⟨fun d=>?_,fun d=>?_⟩⟩⟩⟩⟩⟩
 .simp[yqv,k]
 .simp[yqv,l]
 .simp[yqv,m]
 .simp[yqv,n]
 .simp only[yw,ycc,go_sem,zA,zB,↓reduceIte,reduceCtorEq];simp[yqv,c]
 .simp[yqv,d]
 .have t:0<=a/\a<(g.ports.getD v []).length:=by omega
  have o:a.toNat<(g.ports.getD v []).length:=by omega
  have s:=q.yds u o;unfold yds at s;refine⟨by omega,by omega,fun e=>⟨by omega,?_⟩,fun e=>⟨fun f=>⟨by omega,?_⟩,fun f=>⟨fun h=>(yfk _).use ?_,fun h=>⟨fun j=>?_,fun j=>⟨by omega,?_⟩⟩⟩⟩⟩
  .simp[yqv,e,yds]
  .simp[yqv,f,yds]
  .simp only[yw,ycc,go_sem,zA,zB,↓reduceIte,reduceCtorEq];simp[yqv,h,yds]
  .simp[yqv,j,yds]
  .refine⟨by rw[show(ymj g v).length=(g.ports.getD v []).length from zBI _];omega,?_⟩
   simp[yqv,k,l,m,n,c,d,e,f,h,j]
theorem ycow(p:ProgR){g:Gr}(y:ybe g){C:Nat}{c:Conf}(r:ConfIn g.ports.length C c){v:Nat}(w:v<g.ports.length)(e:List Tm){j arg:Int}{h:Bool}(A:(Ex.leaf j arg).ok C h=true)(a:Int)(s:h=true->0<=a/\a<(g.ports.getD v []).length) :
 Returns zC 285 [.rf (ylf p g c v e),.ag [.i .i64 j,.i .i64 arg],.i .i64 a] (.i .i64 (yqw g c j arg v a)):=by
 refine Returns.of ((okG 285) _ _ ?_);simp only[Ex.ok,zF,decide_eq_true_eq]at A;obtain⟨⟨E,b⟩,d⟩:=A;have z:=r.len;have B:=r.at_ w;have x:=ycps p y j w a;simp only[yhi,yj,yba,ybd,yey]at x;simp only[cdE 285,rgE 285 0,rgE 285 1,rgE 285 2,rgE 285 3,rgE 285 4,rgE 285 5,rgE 285 6,rgE 285 7,rgE 285 8,rgE 285 9,rgE 285 10,rgE 285 11,rgE 285 12,rgE 285 13,rgE 285 14,ylf,ybf,yhi,yj,yba,ybd,yey,ycc,go_sem,zA,zB,zG,zD,↓reduceIte,reduceCtorEq]
 refine⟨fun k=>?_,fun k=>⟨fun l=>?_,fun l=>⟨fun m=>?_,fun m=>⟨fun n=>?_,fun n=>⟨fun o=>?_,fun o=>⟨fun f=>?_,fun f=>(x ?_).use ?_⟩⟩⟩⟩⟩⟩
 .simp[yqw,k]
 .simp[yqw,l]
 .simp[yqw,m]
 .simp[yqw,n]
 .rw[if_neg (by omega),if_pos (by omega)]at b
  have b:=of_decide_eq_true b;refine⟨by omega,by omega,?_⟩
  simp[yqw,o]
 .rw[if_neg (by omega),if_pos (by omega)]at b
  have b:=of_decide_eq_true b;rw[if_pos (by omega)]at d
  have s:=s d;have t:a.toNat<(g.ports.getD v []).length:=by omega
  have D:=y.yds w t;have u:=r.at_ (v:=(yds g v a.toNat).1.toNat) (by omega)
  unfold yds at D u;refine⟨by omega,by omega,by omega,by omega,?_⟩
  simp[yqw,f,yds]
 .by_cases q:11<=j
  .rw[if_pos q]at d;have:=s d;omega
  .omega
 .simp only[yw,ycc,go_sem,zA,zB,↓reduceIte,reduceCtorEq];simp[yqw,k,l,m,n,o,f]
theorem yva{e:List Tm}{at_:Nat}{a b:List Tm}(h:e.drop at_=a++b):e.drop (at_+a.length)=b:=by
 rw[<-List.drop_drop,h,List.drop_left]
theorem ycjs{n:Nat}{a:Nat->List SV}{l:List Int}(b:n=l.length)(h:∀k,k<n->a k=[.i .i64 (l.getD k 0)]):Sim (.sl 1 n a) (yj l):=by
 subst b;exact ygf h
def yciy(p:ProgR)(g:Gr)(d:Nat)(c:Conf)(v:Nat)(e:List Tm)(x:Ex):Prop :=
 ∀ (b:Bool) (a:Int) (at_:Nat) (rest:List Tm),x.ok d b=true->(b=true->0<=a/\a<(g.ports.getD v []).length)->InB a->e.drop at_=x.ser++rest ->
   Returns zC 274 [.rf (ylf p g c v e),.i .i64 at_,.i .i64 a] (.tp [.i .i64 (ybv g c v x a),.i .i64 ((at_+x.ser.length:Nat):Int)])
theorem ybbq(p:ProgR){g:Gr}(C:ybe g){y:Nat}{c:Conf}(H:ConfIn g.ports.length y c){v:Nat}(M:v<g.ports.length)(e:List Tm)(L:e.length<=1000){f:Int}{a:Ex}(o:(Ex.agg f a).ok y true=true)(O:yciy p g y c v e a)(at_:Nat)(rest:List Tm)(r:e.drop at_=(Ex.agg f a).ser++rest) :
 Returns zC 287 [.rf (ylf p g c v e),.i .i64 f,.i .i64 at_] (.tp [.i .i64 (ybv g c v (.agg f a) 0),.i .i64 ((at_+(Ex.agg f a).ser.length:Nat):Int)]):=by
 have u:=o;simp only[Ex.ok,zF,decide_eq_true_eq]at o;have I:=C.deg_lt (v:=v);obtain⟨b,h⟩:∃d,(g.ports.getD v []).length=d:=⟨_,rfl⟩;rw[h]at I;have s:∀q:Nat,q<b->InB (ybv g c v a q):=fun q D=>yix C rfl H M a o.2 (fun _=>by omega) (by unfold InB;omega)
 have w:=Ex.ok_shp _ u;have j:e.drop (at_+1)=a.ser++rest:=(ygn (show e.drop at_=(f,0)::(a.ser++rest)from r)).2.2
 have G:=(ygn (show e.drop at_=(f,0)::(a.ser++rest)from r)).1
 have B:at_+1+a.ser.length<=e.length:=by
  have:=congrArg zAQ j;simp at this;omega
 refine Returns.of ((okG 287) _ _ ?_);simp only[cdE 287,rgE 287 0,rgE 287 1,rgE 287 2,rgE 287 3,ylf,ybf,yhi,yj,yba,ybd,yey,h,go_sem,zA,zB,zG,zD,↓reduceIte,reduceCtorEq];refine⟨by omega,?_⟩
 let val:Nat->Int:=fun q=>ybv g c v a q
 refine ybk (σ:=Nat) (fun k=>⟨[(27,.i .i64 k),(26,.i .i64 b),(9,.i .i64 b),(0,.rf (ylf p g c v e)),(1,.i .i64 f),(2,.i .i64 at_),(8,.pt (8,0) 0 0),(7,.i .i64 (if k=0 then 0 else((at_+1+a.ser.length:Nat):Int)))],
  [(8,.one (some ⟨255,true,1,24,fun i=>[.i .i64 (if i<k then val i else 0)]⟩))]⟩) (fun k=>k<=b) (fun k=>b-k) 0 (zJ _) ?_ ?_
 .refine yx ?_;simp only[ylf,ybf,yhi,yj,yba,ybd,yey,wk,go_sem,zA,zD,↓reduceIte,reduceCtorEq];intro i _;rw[if_neg (by omega)]
 .intro k hk;simp only[rgE 287 4,rgE 287 5,rgE 287 6,rgE 287 7,rgE 287 8,rgE 287 9,rgE 287 10,go_sem,zA,zB,zG,zD,↓reduceIte,reduceCtorEq];refine⟨fun t=>⟨ikw (by omega) (by omega),?_⟩,fun t=>?_⟩
  .have K:k<b:=by omega
   have n:=O true (k:Int) (at_+1) rest o.2 (fun _=>by rw[h];omega) (by unfold InB;omega) j
   rw[show((at_+1:Nat):Int)=(at_:Int)+1 by omega]at n
   refine n.use ?_;simp only[yw,splice,go_sem,zA,zB,↓reduceIte,reduceCtorEq];refine⟨by omega,by omega,ikw (by omega) (by omega),?_⟩
   refine ybw (k+1) ?_;refine yx ?_;simp only[wk,go_sem,zA,zD,↓reduceIte,reduceCtorEq];refine⟨by omega,?_⟩
   intro i J
   by_cases q:i=k
   .rw[if_pos q,if_pos (by omega)]
    subst q;simp only[val,wk,go_sem,reduceCtorEq]
   .rw[if_neg q]
    by_cases E:i<k
    .rw[if_pos E,if_pos (by omega)]
     simp only[wk,go_sem,reduceCtorEq]
    .rw[if_neg E,if_neg (by omega)]
     simp only[wk,go_sem,reduceCtorEq]
  .obtain rfl:k=b:=by omega
   have z:=ycvr e _ at_ rest w r L
   have A:=ycrj f ((zX k).map val) (by simp;omega) (fun x N=>by
    obtain⟨q,D,rfl⟩:=List.mem_map.1 N;exact s q (List.mem_range.1 D))
   have m:ybv g c v (.agg f a) 0=yhf f ((zX k).map val):=by
    show yhf f _=_;rw[h]
   rw[m];simp only[ylf,ybd,go_sem,zA,zB,↓reduceIte,reduceCtorEq];simp only[ybd]at z
   have l:SimL [.i .i64 f,.sl 1 (k-0) fun i=>[.i .i64 (if i<k then val i else 0)]] [.i .i64 f,yj ((zX k).map val)]:=by
    refine⟨Sim.refl _,ycjs (by simp) fun i J=>?_,trivial⟩
    rw[if_pos (by omega)]
    simp[zM,show i<k by omega]
   refine⟨fun F=>z.use ?_,fun F=>?_⟩
   .simp only[yw,go_sem,zA,zB,zG,zD,↓reduceIte,reduceCtorEq];refine⟨by simp;omega,.inl ⟨by omega,A.useS l ?_⟩⟩
    simp only[go_sem];exact Sim.refl _
   .refine⟨by simp;omega,.inl ⟨by omega,A.useS l ?_⟩⟩
    simp only[yw,if_neg (show ¬k=0 by omega),go_sem,zA,zB,↓reduceIte,reduceCtorEq]
    rw[show at_+(Ex.agg f a).ser.length=at_+1+a.ser.length by simp[Ex.ser];omega]
    exact Sim.refl _
end Sh
end
section
namespace Sh
open Go Ev
theorem ybuj(g:Gr)(v:Nat)(f:v<g.ports.length)(u:Int)(e:(g.ports.getD v []).length<=100000):Returns zC 218 [grV g,.i .i64 v,.i .i64 u] (.i .i64 (yoi (g.ports.getD v []) u)):=by
 refine Returns.of ((okG 218) _ _ ?_);simp only[cdE 218,rgE 218 0,rgE 218 1,grV,yba,ybd,yj,go_sem,zA,zB,zD,↓reduceIte,reduceCtorEq];refine⟨by omega,?_⟩
 obtain⟨b,d⟩:∃b,g.ports.getD v []=b:=⟨_,rfl⟩;rw[d]at e ⊢;refine ybk (σ:=Nat) (fun k=>⟨[(15,.i .i64 k),(13,ybd b),(14,.i .i64 b.length),(2,.i .i64 u)],[]⟩) (fun k=>k<=b.length/\(b.take k).findIdx? (fun l=>l.1==u)=none) (fun k=>b.length-k) 0 ⟨zJ _,by simp⟩ ?_ ?_
 .refine yx ?_;simp only[ybd,wk,go_sem,zA,↓reduceIte,reduceCtorEq]
 .intro k ⟨hk,hno⟩;simp only[rgE 218 2,rgE 218 3,rgE 218 4,rgE 218 5,rgE 218 6,rgE 218 7,ybd,ycc,splice,go_sem,zA,zB,zG,zD,↓reduceIte,reduceCtorEq];refine⟨fun a=>⟨by omega,fun c=>?_,fun c=>⟨ikw (by omega) (by omega),?_⟩⟩,fun a=>?_⟩
  .have a:k<b.length:=by omega
   rw[getD_at a]at c;rw[ybte b u k a c hno]
  .have a:k<b.length:=by omega
   rw[getD_at a]at c;refine ybb (k+1) ⟨by omega,ybid b u k a c hno⟩ (by omega) ?_
   refine yx ?_;simp only[wk,go_sem,zA,↓reduceIte,reduceCtorEq];simp
  .obtain rfl:k=b.length:=by omega
   rw[yboe b u hno]
theorem ybvu{ids:List Int}{k:Nat}(h:k<ids.length):(ids.take (k+1)).foldl max 0=max ((ids.take k).foldl max 0) (ids.getD k 0):=by
 rw[ybub ids k h,getD_at h]
theorem ybfz(p:ProgR){g:Gr}(o:ybe g):Returns zC 143 [.ag (yrg p),grV g] (.rf (yhi p g)):=by
 refine Returns.of ((okG 143) _ _ ?_);have t:=o.2.1;have hid:=o.2.2.1;obtain⟨n,h⟩:∃n,g.ports.length=n:=⟨_,rfl⟩;rw[h]at t hid;simp only[cdE 143,rgE 143 0,rgE 143 1,rgE 143 2,grV,yba,ybd,yj,yrg,splice,h,go_sem,zA,zB,zG,zD,↓reduceIte,reduceCtorEq];refine⟨by omega,?_⟩
 refine ybk (σ:=Nat) (fun k=>⟨[(21,.i .i64 k),(19,yba g.ports),(20,.i .i64 n),(3,.pt (3,0) 0 0),(5,.pt (17,0) 0 0)],
  [(3,.one (some ⟨30,true,2,1,fun _=>[yj g.ids,yba g.ports]⟩)),(17,.one (some ⟨190,true,7,1,fun _=>[.a (.string p.name),ybx p.vars,ydr p.rules,yj g.ids,yba g.ports,.i .i64 ((g.ids.take k).foldl max 0),.os (15,0) 0 n true]⟩)),
   (15,.one (some ⟨22,false,1,n,fun i=>[if i<k then yj (ymj g i)else .a (.slice none 0 0)]⟩))]⟩) (fun k=>k<=n) (fun k=>n-k) 0 (zJ _) ?_ ?_
 .refine yx ?_;simp only[yba,ybd,yj,h,wk,go_sem,zA,zD,↓reduceIte,reduceCtorEq];refine⟨fun i _=>by simp,fun i _=>?_⟩
  rw[if_neg (by omega)]
  simp only[wk,go_sem]
 .intro k hk;simp only[rgE 143 3,rgE 143 4,rgE 143 5,rgE 143 6,yba,ybd,yj,splice,h,go_sem,zA,zB,zG,↓reduceIte,reduceCtorEq];refine⟨fun e=>⟨by omega,by omega,by decide,?_⟩,fun e=>?_⟩
  .have A:k<n:=by omega
   obtain⟨c,b⟩:∃c,g.ports.getD k []=c:=⟨_,rfl⟩;have s:=o.deg_lt (v:=k);rw[b]at s;rw[b]
   have l:∀j,j<c.length->(ymj g k).getD j 0=yoi (g.ports.getD (c.getD j (0,0)).1.toNat []) k:=fun j z=>by
    unfold ymj;rw[b];simp[zM,z]
   have u:(ymj g k).length=c.length:=by unfold ymj;rw[b,zBI]
   refine ybk (σ:=Nat) (fun j=>⟨[(41,.i .i64 j),(39,ybd c),(40,.i .i64 c.length),(6,.i .i64 k),(21,.i .i64 k),(19,yba g.ports),(20,.i .i64 n),(3,.pt (3,0) 0 0),(5,.pt (17,0) 0 0)],
    [(3,.one (some ⟨30,true,2,1,fun _=>[yj g.ids,yba g.ports]⟩)),(17,.one (some ⟨190,true,7,1,fun _=>[.a (.string p.name),ybx p.vars,ydr p.rules,yj g.ids,yba g.ports,.i .i64 ((g.ids.take (k+1)).foldl max 0),.os (15,0) 0 n true]⟩)),
     (15,.one (some ⟨22,false,1,n,fun i=>[if i<k then yj (ymj g i)else if i=k then .os (100,0) 0 j true else .a (.slice none 0 0)]⟩)),
     (100,.one (some ⟨3,false,1,j,fun q=>[.i .i64 ((ymj g k).getD q 0)]⟩))]⟩) (fun j=>j<=c.length) (fun j=>c.length-j) 0 (zJ _) ?_ ?_
   .refine ybm [] [100] [] ?_;simp only[yba,ybd,yj,h,ybvu (show k<g.ids.length by omega),wk,go_sem,zA,zD,zBO,↓reduceIte,reduceCtorEq]
    intro i w
    by_cases f:i<k
    .simp only[if_pos f];simp only[wk,go_sem,reduceCtorEq]
    .by_cases d:i=k
     .simp only[if_neg f,if_pos d];simp only[wk,go_sem,zA,↓reduceIte];simp
     .simp only[if_neg f,if_neg d];simp only[wk,go_sem,reduceCtorEq]
   .intro j z;simp only[rgE 143 7,rgE 143 8,rgE 143 9,rgE 143 10,rgE 143 11,yba,ybd,yj,splice,h,go_sem,zA,zB,zG,zD,↓reduceIte,reduceCtorEq]
    have r:=fun e:j<c.length=>ybuj g (c.getD j (0,0)).1.toNat (by
     have:=o.yds (v:=k) (p:=j) (by omega) (by rw[b];omega)
     unfold yds at this;rw[b]at this;omega) (k:Int) (by have:=o.deg_lt (v:=(c.getD j (0,0)).1.toNat);omega)
    have y:j<c.length->((c.getD j (0,0)).1.toNat:Int)=(c.getD j (0,0)).1:=fun e=>by
     have:=o.yds (v:=k) (p:=j) (by omega) (by rw[b];omega)
     unfold yds at this;rw[b]at this;omega
    refine⟨fun e=>⟨by omega,by omega,by omega,?_⟩,fun e=>?_⟩
    .have m:j<c.length:=by omega
     have r:=r m;rw[y m]at r;simp only[grV,yba,ybd,yj,h]at r;refine r.use ?_;simp only[yw,splice,go_sem,zA,zB,zG,zD,↓reduceIte,reduceCtorEq];refine⟨by decide,by omega,by decide,by omega,by omega,by decide,ikw (by omega) (by omega),?_⟩
     refine ybw (j+1) ?_;refine ybm [(100,fun _=>(63,0))] [] [] ?_;simp only[wk,go_sem,zA,zD,↓reduceIte,reduceCtorEq];refine⟨by omega,fun i w=>?_,fun i w=>?_⟩
     .by_cases d:i=k
      .simp only[if_pos d,if_neg (show ¬i<k by omega)]
       simp only[wk,go_sem,zA,↓reduceIte,reduceCtorEq]
      .simp only[if_neg d]
       by_cases f:i<k
       .simp only[if_pos f];simp only[wk,go_sem,reduceCtorEq]
       .simp only[if_neg f];simp only[wk,go_sem,reduceCtorEq]
     .by_cases d:i<j
      .simp only[if_pos d];simp only[wk,go_sem,reduceCtorEq]
      .obtain rfl:i=j:=by omega
       simp only[if_neg d,Nat.sub_self,Nat.zero_mul];simp only[wk,go_sem,reduceCtorEq];rw[l i m]
    .obtain rfl:j=c.length:=by omega
     refine⟨ikw (by omega) (by omega),?_⟩
     refine ybw (k+1) ?_;refine ybm [] [] [(100,0)] ?_;simp only[wk,go_sem,zA,zG,zD,↓reduceIte,reduceCtorEq];refine⟨by omega,fun i w=>?_⟩
     by_cases f:i<k
     .simp only[if_pos f,if_pos (show i<k+1 by omega)]
      simp only[wk,go_sem]
     .by_cases d:i=k
      .simp only[if_neg f,if_pos d,if_pos (show i<k+1 by omega)]
       subst d;simp only[u,wk,go_sem,zA,↓reduceIte]
      .simp only[if_neg f,if_neg d,if_neg (show ¬i<k+1 by omega)]
       simp only[wk,go_sem]
  .obtain rfl:k=n:=by omega
   simp only[rgE 143 12,go_sem,zA,zB,zG,↓reduceIte,reduceCtorEq];refine⟨fun q x=>by simp only[if_pos x];simp only[go_sem],?_⟩
   refine ydgq ?_ (by simp only[yhi,go_sem])
   simp only[SimL,yhi,yj,yba,ybd,yey,h,ypl,true_and,and_true];refine⟨?_,?_⟩
   .rw[ycc];refine⟨rfl,?_⟩;unfold ybvn;rw[zAB (by omega)]
   .refine yel fun q x=>?_;simp only[if_pos x];simp only[SimL,ypl,go_sem]
end Sh
end
section
def ygp(f:Nat->Bool):Nat->Nat
 |0=>0
 |n+1=>if f n then ygp f n|||2^n else ygp f n
theorem yfm(f:Nat->Bool):∀(n i:Nat),(ygp f n).testBit i=(decide (i<n)&&f i)
 |0,i=>by simp[ygp]
 | n + 1,i=>by
   unfold ygp;have a:=yfm f n i
   by_cases h:f n=true
   .rw[if_pos h,Nat.testBit_or,a,Nat.testBit_two_pow]
    by_cases e:n=i
    .subst e;simp[h]
    .have:(i<n+1)=(i<n):=propext (by omega)
     simp[e,this]
   .rw[if_neg h,a]
    by_cases e:n=i
    .subst e;simp[h]
    .have:(i<n+1)=(i<n):=propext (by omega)
     simp[this]
theorem yrh(f:Nat->Bool)(n:Nat):ygp f n<2^n:=by
 refine zAZ _ fun i a=>?_;rw[yfm];simp;omega
def difB(a b:Nat):Nat:=a ^^^ (a&&&b)
theorem yqy(a b i:Nat):(difB a b).testBit i=(a.testBit i && !(b.testBit i)):=by
 unfold difB;rw[Nat.testBit_xor,zBJ];cases a.testBit i<;>cases b.testBit i<;>rfl
theorem ych(a:Nat):a=0↔∀i,a.testBit i=false:=by
 constructor
 .rintro rfl i;simp
 .intro h;exact zBK fun i=>by rw[h i];simp
theorem ybxk{a b n:Nat}(h:a<2^n):a&&&b<2^n:=by
 have:=zCF (n:=a) (m:=b);omega
theorem ybmm{a b n:Nat}(h:a<2^n):difB a b<2^n:=by
 refine zAZ _ fun i c=>?_;rw[yqy,zAH (zAG h (zAD (by omega) c))]
 rfl
structure Cnt where
 steps:Nat
 moves:Nat
 rounds:Nat
 begun:Nat
 pend:Nat
def yhv(s:Nat):Nat->Nat
 |0=>0
 |n+1=>yhv s n+(s.testBit n).toNat
def popP(s:Nat):Nat:=yhv s 32
def yeo(e:Nat):Cnt:=⟨0,0,0,0,e⟩
def addP(k:Cnt)(a after:Nat):Cnt :=
 let p:=difB k.pend a&&&after
 ⟨k.steps+1,k.moves+popP a,if p=0 then k.rounds+1 else k.rounds,k.rounds+1,if p=0 then after else p⟩
def Cnt.ok(k:Cnt):Prop:=k.rounds<=k.begun/\k.begun<=k.rounds+1/\k.begun<=k.steps/\k.steps<=k.moves/\k.moves<=24*k.steps/\k.pend<2^24
theorem ymx(s:Nat):∀n,yhv s n<=n
 |0=>zS _
 | n+1=>by
   have:=ymx s n;unfold yhv;cases s.testBit n<;>simp[Bool.toNat]<;>omega
theorem yzt(s:Nat)(h:s<2^24):∀k,yhv s (24+k)=yhv s 24
 |0=>rfl
 | k+1=>by
   have e:s.testBit (24+k)=false:=zAH (zAG h (zAD (by omega) (by omega)))
   show yhv s (24+k)+(s.testBit (24+k)).toNat=_;rw[yzt s h k,e];rfl
theorem ycgc(s:Nat)(h:s<2^24):popP s<=24:=by
 have:=yzt s h 8;unfold popP;rw[this];exact ymx s 24
theorem ybgp{s i:Nat}(a:s.testBit i=true):∀n,i<n->1<=yhv s n
 |0,h=>by omega
 | n+1,h=>by
   unfold yhv
   by_cases e:i=n
   .subst e;rw[a];simp
   .have:=ybgp a n (by omega);omega
theorem ycte(s:Nat)(h:s<2^32)(c:s≠0):1<=popP s:=by
 refine zAL fun d=>c ?_;rw[ych];intro i;cases a:s.testBit i with
 |false=>rfl
 | true =>
   exfalso
   have b:i<32:=by
    refine zAL fun b=>?_;rw[zAH (zAG h (zAD (by omega) (by omega)))]at a
    cases a
   exact d (ybgp a 32 b)
theorem yvi{e:Nat}(h:e<2^24):(yeo e).ok:=⟨zS _,by simp[yeo],zS _,zS _,by simp[yeo],h⟩
theorem yblp{k:Cnt}{s e:Nat}(hk:k.ok)(c:s<2^24)(a:s≠0)(j:e<2^24):(addP k s e).ok:=by
 obtain⟨d,f,g,h,i,b⟩:=hk;have m:=ycgc s c;have n:=ycte s (by omega) a
 have l:difB k.pend s&&&e<2^24:=ybxk (ybmm b);unfold addP Cnt.ok;simp only;refine⟨by split<;>omega,by split<;>omega,by omega,by omega,by omega,by split<;>omega⟩
structure Sys where
 n:Nat
 en:Conf->Nat
 mv:Conf->Nat->Conf
def Sys.run(S:Sys)(res:Nat->Nat->Nat):List Nat->Conf->Cnt->List (Conf×Cnt)
 |[],_,_=>[]
 | w::a,c,k=>if S.en c=0 then[]else(let s:=res (S.en c) w
   let d:=S.mv c s
   (d,addP k s (S.en d))::S.run res a d (addP k s (S.en d)))
def Sys.runs(S:Sys)(res:Nat->Nat->Nat)(ws:List Nat)(c:Conf):List (Conf×Cnt):=(c,yeo (S.en c))::S.run res ws c (yeo (S.en c))
def subB(a b:Nat):Prop:=∀i,a.testBit i=true->b.testBit i=true
def ydnq(res:Nat->Nat->Nat):Prop:=∀e w,e≠0->res e w≠0/\subB (res e w) e
structure ByRounds(S:Sys)(V:Conf->Prop)(P:Nat->Nat->List Int->Prop):Prop where
 valid:∀c s,V c->s≠0->subB s (S.en c)->V (S.mv c s)
 stay:∀c s v,V c->v<S.n->s.testBit v=false->(S.mv c s).getD v []=c.getD v []
 move:∀c s v r,V c->v<S.n->s.testBit v=true->subB s (S.en c)->(∀u,u<S.n->P r u (c.getD u []))->P (r+1) v ((S.mv c s).getD v [])
 rest:∀c v r,V c->v<S.n->(S.en c).testBit v=false->(∀u,u<S.n->P r u (c.getD u []))->P (r+1) v (c.getD v [])
 less:∀r v s,P (r+1) v s->P r v s
structure RInv(S:Sys)(V:Conf->Prop)(P:Nat->Nat->List Int->Prop)(c:Conf)(k:Cnt):Prop where
 valid:V c
 all:∀v,v<S.n->P k.rounds v (c.getD v [])
 done:∀v,v<S.n->k.pend.testBit v=false->P (k.rounds+1) v (c.getD v [])
 begun:k.begun<=k.rounds+1
end
section
structure RuleT where
 name:ByteArray
 guard:Ex
 sets:List (Int×Ex)
structure ProgT where
 name:ByteArray
 vars:List VarR
 rules:List RuleT
instance:Inhabited Ex:=⟨.leaf 0 0⟩
instance:Inhabited RuleT:=⟨⟨.empty,default,[]⟩⟩
def RuleT.raw(r:RuleT):RuleR:=⟨r.name,r.guard.ser,r.sets.map fun s=>⟨s.1,s.2.ser⟩⟩
def ProgT.raw(p:ProgT):ProgR:=⟨p.name,p.vars,p.rules.map RuleT.raw⟩
def RuleT.ok(a:Nat)(r:RuleT):Bool:=r.guard.ok a false&&decide (r.guard.ser.length<=1000)&&decide (r.sets.length<=100)&&r.sets.all fun s=>decide (0<=s.1/\s.1<a)&&s.2.ok a false&&decide (s.2.ser.length<=1000)
def VarR.ok(x:VarR):Bool:=decide (x.kind=1\/x.kind=2\/x.kind=3)&&decide (0<=x.lo/\x.lo<=4096)&&decide (-4096<=x.hi/\x.hi<=4096)&&decide (0<=x.perNode/\x.perNode<=255)&&decide (0<=x.perID/\x.perID<=255)
def ProgT.ok(p:ProgT):Bool:=decide (1<=p.vars.length/\p.vars.length<=6)&&p.vars.all VarR.ok&&decide (p.rules.length<=12)&&p.rules.all (RuleT.ok p.vars.length)
def yei(g:Gr)(c:Conf)(v:Nat)(r:RuleT):Bool:=ybv g c v r.guard (-1)!=0
def yea(p:ProgT)(g:Gr)(c:Conf)(v:Nat):Int:=match p.rules.findIdx? (yei g c v)with|some i=>i|none=>-1
def ybj(g:Gr)(v:Nat)(x:VarR):Int×Int :=
 if x.kind=1 then(x.lo,x.hi+x.perNode*(g.ids.length:Int)+x.perID*maxI g.ids)else if x.kind=2 then(0,1)else if x.kind=3 then(-1,((g.ports.getD v []).length:Int)-1)else(0,-1)
def ygt(kind:Int)(b:Int×Int)(x:Int):Int:=if x>=b.1/\x<=b.2 then x else if kind=3 then -1 else if x<b.1 then b.1 else b.2
def yjl(p:ProgT)(g:Gr)(c:Conf)(v:Nat)(b:List Int)(sets:List (Int×Ex)):List Int :=
 sets.foldl (fun s a=>s.set a.1.toNat (ygt (p.vars.getD a.1.toNat default).kind (ybj g v (p.vars.getD a.1.toNat default)) (ybv g c v a.2 (-1)))) b
def ysg(p:ProgT)(g:Gr)(c:Conf)(v:Nat)(r:Nat):List Int:=yjl p g c v (c.getD v []) (p.rules.getD r default).sets
def yh(p:ProgT)(g:Gr)(c:Conf):Nat:=ygp (fun v=>decide (yea p g c v>=0)) g.ids.length
def yez(p:ProgT)(g:Gr)(c:Conf)(s:Nat):Conf:=c.zipIdx.map fun q=>if s.testBit q.2 then ysg p g c q.2 (yea p g c q.2).toNat else q.1
def ybq(p:ProgT)(g:Gr):Sys:=⟨g.ids.length,yh p g,yez p g⟩
def ycb(p:ProgT)(g:Gr)(c:Conf):Bool:=yol g.ids.length (fun v=>p.vars.map (ybj g v)) c
end
section
namespace Sh
open Go Ev
theorem yczf{g:Gr}(a:ybe g):0<=maxI g.ids/\maxI g.ids<=255:=by
 have c:=a.1;have d:=a.2.2.1;rw[ybqg (by omega) fun x b=>(a.2.2.2.1 x b).1]
 exact yyh a
theorem ybnq{x:VarR}(h:x.ok=true):(x.kind=1\/x.kind=2\/x.kind=3)/\(0<=x.lo/\x.lo<=4096)/\(-4096<=x.hi/\x.hi<=4096)/\(0<=x.perNode/\x.perNode<=255)/\(0<=x.perID/\x.perID<=255):=by
 unfold VarR.ok at h;simp only[zF,decide_eq_true_eq]at h;obtain⟨⟨⟨⟨a,b⟩,c⟩,d⟩,e⟩:=h;exact⟨a,b,c,d,e⟩
theorem mulN{a b A B:Int}(d:0<=a)(e:a<=A)(c:0<=b)(f:b<=B):0<=a*b/\a*b<=A*B:=⟨Int.mul_nonneg d c,Int.mul_le_mul e f c (by omega)⟩
theorem yph{g:Gr}(a:ybe g){x:VarR}(e:x.ok=true):(0<=x.perNode*(g.ids.length:Int)/\x.perNode*(g.ids.length:Int)<=255*24)/\(0<=x.perID*maxI g.ids/\x.perID*maxI g.ids<=255*255):=by
 obtain⟨_,_,_,b,c⟩:=ybnq e;have d:=yczf a;have f:=a.2.1;have h:=a.2.2.1;exact⟨mulN b.1 b.2 (by omega) (by omega),mulN c.1 c.2 d.1 d.2⟩
theorem ybli{g:Gr}(a:ybe g){x:VarR}(c:x.ok=true)(v:Int):Returns zC 255 [.ag (varC x),grV g,.i .i64 v] (.tp [.i .i64 x.lo,.i .i64 (x.hi+x.perNode*(g.ids.length:Int)+x.perID*maxI g.ids)]):=by
 refine Returns.of ((okG 255) _ _ ?_);have h:=a.1;have j:=a.2.1;have k:=a.2.2.1;have b:=ycvq g.ids (by omega) (by omega)
 obtain⟨d,e⟩:=yph a c;obtain⟨_,_,f,_,_⟩:=ybnq c;simp only[yj]at b;simp only[cdE 255,rgE 255 0,rgE 255 1,grV,varC,yj,go_sem,zA,zB,zG,zD,↓reduceIte,reduceCtorEq];refine⟨ikw (by omega) (by omega),ikw (by omega) (by omega),b.use ?_⟩
 simp only[yw,go_sem,zA,zB,↓reduceIte,reduceCtorEq];refine⟨ikw (by omega) (by omega),ikw (by omega) (by omega),?_⟩
 exact Sim.refl _
theorem yblj(g:Gr)(x:VarR)(v:Int):Returns zC 256 [.ag (varC x),grV g,.i .i64 v] (.tp [.i .i64 0,.i .i64 1]):=by
 refine Returns.of ((okG 256) _ _ ?_);simp only[cdE 256,rgE 256 0,rgE 256 1,grV,varC,go_sem,zA,zB,zD,↓reduceIte,reduceCtorEq];exact Sim.refl _
theorem yblz{g:Gr}(a:ybe g)(x:VarR){v:Nat}(c:v<g.ports.length):Returns zC 257 [.ag (varC x),grV g,.i .i64 v] (.tp [.i .i64 (-1),.i .i64 (((g.ports.getD v []).length:Int)-1)]):=by
 refine Returns.of ((okG 257) _ _ ?_);have b:=a.deg_lt (v:=v);simp only[cdE 257,rgE 257 0,rgE 257 1,grV,yba,ybd,varC,go_sem,zA,zB,zD,↓reduceIte,reduceCtorEq];refine⟨by omega,ikw (by omega) (by omega),?_⟩
 exact Sim.refl _
theorem ycje(kind:Int)(b:Int×Int)(x:Int):Returns zC 268 [.i .i64 kind,.ag [.i .i64 b.1,.i .i64 b.2],.i .i64 x] (.i .i64 (ygt kind b x)):=by
 refine Returns.of ((okG 268) _ _ ?_);simp only[cdE 268,rgE 268 0,rgE 268 1,rgE 268 2,rgE 268 3,rgE 268 4,rgE 268 5,rgE 268 6,rgE 268 7,ycc,ygt,go_sem,zAK,zA,zB,zG,zD,zBP,↓reduceIte,reduceCtorEq];refine⟨by omega,fun d=>⟨by omega,fun e=>by rw[if_pos ⟨d,e⟩],fun e=>⟨fun a=>by rw[if_neg (fun q=>e q.2),if_pos a],fun a=>⟨by omega,fun c=>⟨by omega,by rw[if_neg (fun q=>e q.2),if_neg a,if_pos c]⟩,fun c=>⟨by omega,by rw[if_neg (fun q=>e q.2),if_neg a,if_neg c]⟩⟩⟩⟩,fun d=>⟨fun a=>by rw[if_neg (fun q=>d q.1),if_pos a],fun a=>⟨by omega,fun c=>⟨by omega,by rw[if_neg (fun q=>d q.1),if_neg a,if_pos c]⟩,fun c=>⟨by omega,by rw[if_neg (fun q=>d q.1),if_neg a,if_neg c]⟩⟩⟩⟩
theorem yzo{g:Gr}(f:ybe g){x:VarR}(l:x.ok=true){v:Nat}(p:v<g.ports.length):Returns zC 219 [.ag (varC x),grV g,.i .i64 v] (.tp [.i .i64 (ybj g v x).1,.i .i64 (ybj g v x).2]):=by
 refine Returns.of ((okG 219) _ _ ?_);have b:=ybli f l v;have c:=yblj g x v;have d:=yblz f x p;obtain⟨hk,_⟩:=ybnq l;simp only[varC,grV]at b c d;simp only[cdE 219,rgE 219 0,rgE 219 1,rgE 219 2,varC,grV,splice,go_sem,zA,zB,zG,zD,↓reduceIte,reduceCtorEq]
 refine ybk (σ:=Nat) (fun k=>⟨[(17,.i .i64 k),(15,.os (14,0) 0 3 true),(16,.i .i64 3),(2,.i .i64 v),(3,.pt (3,0) 0 0),(4,.pt (4,0) 0 0)],
  [(3,.one (some ⟨69,true,6,1,fun _=>varC x⟩)),(4,.one (some ⟨30,true,2,1,fun _=>[yj g.ids,yba g.ports]⟩)),
   (14,.one (some ⟨224,false,2,3,fun k=>if k=0 then[.i .i64 1,.fn 255 [] []]else if k=1 then[.i .i64 2,.fn 256 [] []]else[.i .i64 3,.fn 257 [] []]⟩))]⟩)
  (fun k=>k<=2/\(1<=k->x.kind≠1)/\(2<=k->x.kind≠2)) (fun k=>3-k) 0 ⟨by omega,by omega,by omega⟩ ?_ ?_
 .refine yx ?_;simp only[varC,wk,go_sem,zA,zD,↓reduceIte,reduceCtorEq];refine⟨rfl,fun i j=>?_⟩;rcases(show i=0\/i=1\/i=2 by omega)with rfl|rfl|rfl
  .simp only[wk,go_sem,↓reduceIte,reduceCtorEq]
  .simp only[if_neg (show ¬(1:Nat)=0 by omega),wk,go_sem,↓reduceIte,reduceCtorEq]
  .simp only[if_neg (show ¬(2:Nat)=0 by omega),if_neg (show ¬(2:Nat)=1 by omega),wk,go_sem,zA,↓reduceIte,reduceCtorEq]
 .rintro k ⟨m,n,o⟩;rcases(show k=0\/k=1\/k=2 by omega)with rfl|rfl|rfl
  .simp only[rgE 219 3,rgE 219 4,rgE 219 5,rgE 219 6,rgE 219 7,rgE 219 8,varC,splice,go_sem,zA,zB,zG,zD,↓reduceIte,reduceCtorEq];refine⟨fun _=>⟨by omega,fun a=>b.use ?_,fun a=>⟨ikw (by omega) (by omega),?_⟩⟩,fun h=>by omega⟩
   .simp only[yw,go_sem,zA,zB,↓reduceIte,reduceCtorEq];have e:ybj g v x=(x.lo,x.hi+x.perNode*(g.ids.length:Int)+x.perID*maxI g.ids):=by unfold ybj;rw[if_pos a.symm]
    rw[e];exact Sim.refl _
   .refine ybb 1 ⟨by omega,fun _ q=>a q.symm,by omega⟩ (by omega) ?_
    refine yx ?_;simp only[wk,go_sem,zA,zD,↓reduceIte,reduceCtorEq];refine⟨by omega,fun i j=>?_⟩
    rcases(show i=0\/i=1\/i=2 by omega)with rfl|rfl|rfl
    .simp only[wk,go_sem,↓reduceIte,reduceCtorEq]
    .simp only[if_neg (show ¬(1:Nat)=0 by omega),wk,go_sem,↓reduceIte,reduceCtorEq]
    .simp only[if_neg (show ¬(2:Nat)=0 by omega),if_neg (show ¬(2:Nat)=1 by omega),wk,go_sem,zA,↓reduceIte,reduceCtorEq]
  .simp only[rgE 219 3,rgE 219 4,rgE 219 5,rgE 219 6,rgE 219 7,rgE 219 8,varC,splice,go_sem,zA,zB,zG,zD,↓reduceIte,reduceCtorEq];refine⟨fun _=>⟨by omega,fun a=>c.use ?_,fun a=>⟨ikw (by omega) (by omega),?_⟩⟩,fun h=>by omega⟩
   .simp only[yw,go_sem,zA,zB,↓reduceIte,reduceCtorEq];have e:ybj g v x=(0,1):=by unfold ybj;rw[if_neg (by omega),if_pos a.symm]
    rw[e];exact Sim.refl _
   .refine ybb 2 ⟨by omega,fun _=>by omega,fun _ q=>a q.symm⟩ (by omega) ?_
    refine yx ?_;simp only[wk,go_sem,zA,zD,↓reduceIte,reduceCtorEq];refine⟨by omega,fun i j=>?_⟩
    rcases(show i=0\/i=1\/i=2 by omega)with rfl|rfl|rfl
    .simp only[wk,go_sem,↓reduceIte,reduceCtorEq]
    .simp only[if_neg (show ¬(1:Nat)=0 by omega),wk,go_sem,↓reduceIte,reduceCtorEq]
    .simp only[if_neg (show ¬(2:Nat)=0 by omega),if_neg (show ¬(2:Nat)=1 by omega),wk,go_sem,zA,↓reduceIte,reduceCtorEq]
  .simp only[rgE 219 3,rgE 219 4,rgE 219 5,rgE 219 6,rgE 219 7,rgE 219 8,varC,splice,go_sem,zA,zB,zG,zD,↓reduceIte,reduceCtorEq];refine⟨fun _=>⟨by omega,fun a=>d.use ?_,fun a=>by omega⟩,fun h=>by omega⟩
   simp only[yw,go_sem,zA,zB,↓reduceIte,reduceCtorEq];have e:ybj g v x=(-1,((g.ports.getD v []).length:Int)-1):=by unfold ybj;rw[if_neg (by omega),if_neg (by omega),if_pos a.symm]
   rw[e];exact Sim.refl _
def ylh(n:Nat)(a:List VarR)(b:Nat->VarR->Int×Int):SV:=.sl 1 n (fun v=>[.sl 2 a.length (fun i=>[.i .i64 (b v (a.getD i default)).1,.i .i64 (b v (a.getD i default)).2])])
def rowT(a:List VarR)(b:VarR->Int×Int):SV:=.sl 2 a.length (fun i=>[.i .i64 (b (a.getD i default)).1,.i .i64 (b (a.getD i default)).2])
theorem ybjy(p:ProgR){g:Gr}(o:ybe g)(z:p.vars.all VarR.ok=true)(y:p.vars.length<=6):Returns zC 144 [.ag (yrg p),grV g] (ylh g.ids.length p.vars (ybj g)):=by
 refine Returns.of ((okG 144) _ _ ?_);have t:=o.2.1;have hid:=o.2.2.1;obtain⟨n,r⟩:∃n,g.ids.length=n:=⟨_,rfl⟩;obtain⟨h,c⟩:∃k,p.vars.length=k:=⟨_,rfl⟩;rw[r];rw[c]at y;simp only[cdE 144,rgE 144 0,rgE 144 1,rgE 144 2,grV,yj,yrg,r,go_sem,zA,zB,zG,zD,↓reduceIte,reduceCtorEq];refine⟨by omega,?_⟩
 refine ybk (σ:=Nat) (fun k=>⟨[(15,.i .i64 k),(14,.i .i64 n),(5,.os (12,0) 0 n true),(2,.pt (2,0) 0 0),(3,.pt (3,0) 0 0)],
  [(2,.one (some ⟨35,true,3,1,fun _=>yrg p⟩)),(3,.one (some ⟨30,true,2,1,fun _=>[yj g.ids,yba g.ports]⟩)),
   (12,.one (some ⟨192,false,1,n,fun i=>[if i<k then rowT p.vars (ybj g i)else .a (.slice none 0 0)]⟩))]⟩) (fun k=>k<=n) (fun k=>n-k) 0 (zJ _) ?_ ?_
 .refine yx ?_;simp only[yrg,yj,r,wk,go_sem,zA,zD,↓reduceIte,reduceCtorEq];intro i _;rw[if_neg (by omega)]
  simp only[wk,go_sem]
 .intro k hk;simp only[rgE 144 3,rgE 144 4,rgE 144 5,rgE 144 6,yrg,ybx,splice,c,go_sem,zA,zB,zG,zD,↓reduceIte,reduceCtorEq];refine⟨fun f=>⟨by omega,by omega,by omega,?_⟩,fun f=>?_⟩
  .have w:k<n:=by omega
   let b:Nat->Int×Int:=fun i=>ybj g k (p.vars.getD i default)
   refine ybk (σ:=Nat) (fun j=>⟨[(28,.i .i64 j),(26,ybx p.vars),(27,.i .i64 h),(6,.i .i64 k),(15,.i .i64 k),(14,.i .i64 n),(5,.os (12,0) 0 n true),(2,.pt (2,0) 0 0),(3,.pt (3,0) 0 0)],
    [(2,.one (some ⟨35,true,3,1,fun _=>yrg p⟩)),(3,.one (some ⟨30,true,2,1,fun _=>[yj g.ids,yba g.ports]⟩)),
     (12,.one (some ⟨192,false,1,n,fun i=>[if i<k then rowT p.vars (ybj g i)else if i=k then .os (23,0) 0 h true else .a (.slice none 0 0)]⟩)),
     (23,.one (some ⟨194,false,2,h,fun i=>[.i .i64 (if i<j then(b i).1 else 0),.i .i64 (if i<j then(b i).2 else 0)]⟩))]⟩) (fun j=>j<=h) (fun j=>h-j) 0 (zJ _) ?_ ?_
   .refine yx ?_;simp only[yrg,ybx,c,wk,go_sem,zA,zD,↓reduceIte,reduceCtorEq];refine⟨fun i m=>?_,fun i m=>?_⟩
    .by_cases e:i=k
     .simp only[if_pos e,if_neg (show ¬i<k by omega)]
      simp only[wk,go_sem,zA,↓reduceIte,reduceCtorEq]
     .simp only[if_neg e]
      by_cases d:i<k
      .simp only[if_pos d];simp only[rowT,wk,go_sem,reduceCtorEq]
      .simp only[if_neg d];simp only[wk,go_sem,reduceCtorEq]
    .simp only[if_neg (zAF i),and_self]
   .intro j A;simp only[rgE 144 7,rgE 144 8,rgE 144 9,rgE 144 10,rgE 144 11,yrg,ybx,varC,splice,c,go_sem,zA,zB,zD,↓reduceIte,reduceCtorEq];refine⟨fun f=>?_,fun f=>?_⟩
    .have u:j<h:=by omega
     have s:=yzo o (x:=p.vars.getD j default) (by
      rw[getD_at (by omega)]
      exact List.all_eq_true.1 z _ (zK _)) (v:=k) (by omega)
     simp only[varC,grV]at s;refine⟨by omega,by omega,by omega,by omega,by omega,s.use ?_⟩
     simp only[yw,splice,go_sem,zAK,zA,zB,zG,zBP,↓reduceIte,reduceCtorEq];refine⟨by omega,by omega,by omega,by decide,by omega,by omega,by omega,by decide,ikw (by omega) (by omega),?_⟩
     refine ybw (j+1) ?_;refine yx ?_;simp only[wk,go_sem,zA,zD,↓reduceIte,reduceCtorEq];refine⟨by omega,fun i m=>?_,fun i m=>?_⟩
     .by_cases d:i<k
      .simp only[if_pos d];simp only[rowT,wk,go_sem]
      .simp only[if_neg d]
       by_cases e:i=k
       .simp only[if_pos e];simp only[wk,go_sem,zA,↓reduceIte]
       .simp only[if_neg e];simp only[wk,go_sem]
     .by_cases e:i=j
      .subst e;simp only[if_pos (zAR i),↓reduceIte];simp only[wk,go_sem,reduceCtorEq];exact⟨rfl,rfl⟩
      .simp only[if_neg e]
       by_cases d:i<j
       .simp only[if_pos d,if_pos (show i<j+1 by omega)]
        simp only[wk,go_sem,reduceCtorEq]
       .simp only[if_neg d,if_neg (show ¬i<j+1 by omega)]
        simp only[wk,go_sem,reduceCtorEq]
    .obtain rfl:j=h:=by omega
     refine⟨ikw (by omega) (by omega),?_⟩
     refine ybw (k+1) ?_;refine ybm [] [] [(23,0)] ?_;simp only[wk,go_sem,zA,zG,zD,↓reduceIte,reduceCtorEq];refine⟨by omega,fun i m=>?_⟩
     by_cases d:i<k
     .simp only[if_pos d,if_pos (show i<k+1 by omega)]
      simp only[rowT,wk,go_sem]
     .by_cases e:i=k
      .simp only[if_neg d,if_pos e,if_pos (show i<k+1 by omega)]
       subst e;simp only[rowT,c,go_sem,zA,↓reduceIte];refine yel fun q l=>?_;simp only[if_pos l];simp only[SimL,go_sem];exact⟨Sim.refl _,Sim.refl _⟩
      .simp only[if_neg d,if_neg e,if_neg (show ¬i<k+1 by omega)]
       simp only[wk,go_sem]
  .obtain rfl:k=n:=by omega
   simp only[rgE 144 12,go_sem,zA,zB,↓reduceIte,reduceCtorEq];refine⟨fun q l=>by simp only[if_pos l];simp only[rowT,go_sem],?_⟩
   refine yel fun q l=>?_;simp only[if_pos l];simp only[SimL,ypl,rowT,c,go_sem]
end Sh
end
section
namespace Sh
open Go Ev
theorem ybyb(bs:Bounds)(s:List Int)(n:bs.length<=1000):Returns zC 244 [ybd bs,yj s] (.b (yvu bs s)):=by
 refine Returns.of ((okG 244) _ _ ?_);simp only[cdE 244,rgE 244 0,rgE 244 1,rgE 244 2,rgE 244 3,ybd,yj,ygd,go_sem,zA,zB,↓reduceIte,reduceCtorEq];refine⟨fun h=>?_,fun h=>?_⟩
 .have:¬yvu bs s=true:=fun q=>h (by rw[((ygw bs s).1 q).1])
  simpa using this
 have c:s.length=bs.length:=by omega
 refine ybk (σ:=Nat) (fun k=>⟨[(14,.i .i64 k),(13,.i .i64 s.length),(12,yj s),(0,ybd bs)],[]⟩) (fun k=>k<=s.length/\∀i,i<k->(bs.getD i (0,0)).1<=s.getD i 0/\s.getD i 0<=(bs.getD i (0,0)).2) (fun k=>s.length-k) 0 ⟨zJ _,fun i h=>absurd h (zAF _)⟩ ?_ ?_
 .refine yx ?_;simp only[ybd,yj,wk,go_sem,zA,↓reduceIte,reduceCtorEq]
 .intro k ⟨hk,hall⟩;simp only[rgE 244 4,rgE 244 5,rgE 244 6,rgE 244 7,rgE 244 8,rgE 244 9,ybd,yj,ygd,go_sem,zAK,zA,zB,zG,zBP,↓reduceIte,reduceCtorEq]
  have d:k<s.length->¬((bs.getD k (0,0)).1<=s.getD k 0/\s.getD k 0<=(bs.getD k (0,0)).2)->yvu bs s=false:=fun a l=>by
   have:¬yvu bs s=true:=fun q=>l (by
    have e:k<bs.length:=by omega
    have:=((ygw bs s).1 q).2 k bs[k] s[k] (zH e) (zH a);rw[getD_at a,getD_at e];exact this)
   simpa using this
  refine⟨fun a=>⟨by omega,by omega,by omega,fun f=>⟨by omega,by omega,fun j=>?_,fun j=>⟨ikw (by omega) (by omega),?_⟩⟩,fun f=>?_⟩,fun a=>?_⟩
  .rw[d (by omega) (by omega)]
  .refine ybb (k+1) ⟨by omega,fun i m=>?_⟩ (by omega) ?_
   .by_cases q:i<k
    .exact hall i q
    .obtain rfl:i=k:=by omega
     omega
   .refine yx ?_;simp only[wk,go_sem,zA,↓reduceIte,reduceCtorEq];simp
  .rw[d (by omega) (by omega)]
  .obtain rfl:k=s.length:=by omega
   rw[(ygw bs s).2 ⟨c,fun i b x e g=>by
    have f:=(List.getElem?_eq_some_iff.1 g).1;have:=hall i f;simp only[zM,e,g,zBY]at this;exact this⟩]
theorem ybun{n:Nat}(a:List VarR)(o:a.length<=1000)(b:Nat->VarR->Int×Int)(c:Conf)(p:n<=1000):Returns zC 211 [ylh n a b,ybf c] (.b (yol n (fun v=>a.map (b v)) c)):=by
 refine Returns.of ((okG 211) _ _ ?_);simp only[cdE 211,rgE 211 0,rgE 211 1,rgE 211 2,rgE 211 3,ylh,ybf,ygd,go_sem,zA,zB,↓reduceIte,reduceCtorEq];refine⟨fun h=>?_,fun h=>?_⟩
 .rw[ykx fun q=>h (by rw[q.1])]
 have f:c.length=n:=by omega
 refine ybk (σ:=Nat) (fun k=>⟨[(14,.i .i64 k),(13,.i .i64 n),(12,ylh n a b),(1,ybf c)],[]⟩) (fun k=>k<=n/\∀(i:Nat) s,i<k->c[i]?=some s->yfu (a.map (b i)) s) (fun k=>n-k) 0 ⟨zJ _,fun i s h=>absurd h (zAF _)⟩ ?_ ?_
 .refine yx ?_;simp only[ylh,ybf,wk,go_sem,zA,↓reduceIte,reduceCtorEq]
 .intro k ⟨hk,hall⟩;simp only[rgE 211 4,rgE 211 5,rgE 211 6,rgE 211 7,rgE 211 8,rgE 211 9,ylh,ybf,yj,ygd,go_sem,zA,zB,↓reduceIte,reduceCtorEq];refine⟨fun j=>⟨by omega,by omega,?_⟩,fun j=>?_⟩
  .have m := ybyb (a.map (b k)) (c.getD k []) (by simpa using o)
   refine m.useS ⟨?_,Sim.refl _,trivial⟩ ?_
   .show Sim (.sl 2 a.length _) (ybd (a.map (b k)));unfold ybd;rw[zBI];refine ygf fun i l=>?_;simp[zM,l]
   .simp only[yw,ygd,go_sem,zA,zB,↓reduceIte,reduceCtorEq];have d:k<c.length:=by omega
    rw[getD_at d];refine⟨fun g=>?_,fun g=>⟨ikw (by omega) (by omega),?_⟩⟩
    .rw[ykx fun q=>by
      have:=(ygw _ _).2 (q.2 k c[k] (zH d));rw[this]at g;cases g]
    .refine ybb (k+1) ⟨by omega,fun i s l e=>?_⟩ (by omega) ?_
     .by_cases q:i<k
      .exact hall i s q e
      .obtain rfl:i=k:=by omega
       rw[zH d]at e;cases e
       exact(ygw _ _).1 g
     .refine yx ?_;simp only[wk,go_sem,zA,↓reduceIte,reduceCtorEq];simp
  .obtain rfl:k=n:=by omega
   rw[yzs ⟨f,fun v s e=>hall v s (by have:=(List.getElem?_eq_some_iff.1 e).1;omega) e⟩]
theorem ypw(c:Conf)(m:∀s∈c,0<s.length/\s.length<=1000)(o:c.length<=1000):Returns zC 141 [ybf c] (ybf c):=by
 refine Returns.of ((okG 141) _ _ ?_);obtain⟨n,b⟩:∃n,c.length=n:=⟨_,rfl⟩;rw[b]at o;simp only[cdE 141,rgE 141 0,rgE 141 1,rgE 141 2,ybf,b,go_sem,zA,zB,zD,↓reduceIte,reduceCtorEq];refine⟨by omega,?_⟩
 refine ybk (σ:=Nat) (fun k=>⟨[(11,.i .i64 k),(10,.i .i64 n),(9,ybf c),(3,.os (8,0) 0 n true)],[(8,.one (some ⟨22,false,1,n,fun i=>[if i<k then yj (c.getD i [])else .a (.slice none 0 0)]⟩))]⟩) (fun k=>k<=n) (fun k=>n-k) 0 (zJ _) ?_ ?_
 .refine yx ?_;simp only[ybf,b,wk,go_sem,zA,zD,↓reduceIte,reduceCtorEq];intro i _;rw[if_neg (by omega)]
  simp only[wk,go_sem]
 .intro k hk
  have d:k<n->0<(c.getD k []).length/\(c.getD k []).length<=1000:=fun h=>by
   have:=m (c.getD k []) (by rw[getD_at (show k<c.length by omega)];exact zK _)
   exact this
  by_cases p:k<n
  .have t:=d (by omega)
   have f:¬(c.getD k []).length=0:=by omega
   have g:decide ((k:Int)<(n:Int))=true:=decide_eq_true (by omega)
   simp only[rgE 141 3,rgE 141 4,rgE 141 5,rgE 141 6,rgE 141 7,ybf,yj,splice,b,f,g,go_sem,zA,zB,zD,↓reduceIte,reduceCtorEq];refine⟨by omega,by omega,by omega,by omega,ikw (by omega) (by omega),?_⟩
   refine ybw (k+1) ?_;refine ybm [] [] [(19,0)] ?_;simp only[wk,go_sem,zA,zD,↓reduceIte,reduceCtorEq];refine⟨by omega,fun i r=>?_⟩
   by_cases l:i=k
   .subst l;simp only[if_pos (zAR i),↓reduceIte];simp only[wk,go_sem,zA,↓reduceIte,reduceCtorEq]
   .simp only[if_neg l]
    by_cases j:i<k
    .simp only[if_pos j,if_pos (show i<k+1 by omega)]
     simp only[wk,go_sem,reduceCtorEq]
    .simp only[if_neg j,if_neg (show ¬i<k+1 by omega)]
     simp only[wk,go_sem,reduceCtorEq]
  .obtain rfl:k=n:=by omega
   have g:decide ((k:Int)<(k:Int))=false:=decide_eq_false (by omega)
   simp only[rgE 141 3,rgE 141 4,rgE 141 5,rgE 141 6,rgE 141 7,ybf,yj,b,g,go_sem,zA,zB,↓reduceIte,reduceCtorEq];refine⟨fun q e=>by simp only[if_pos e];simp only[go_sem],?_⟩
   refine yel fun q e=>?_;simp only[if_pos e];simp only[SimL,ypl,go_sem]
theorem ycmk(c:Conf)(m:∀s∈c,0<s.length/\s.length<=1000)(p:c.length<=1000):Cm zC 141 [] [] [ybf c] fun r o=>r = .os (8,0) 0 c.length true/\o=[(8,.one (some ⟨22,false,1,c.length,fun i=>[yj (c.getD i [])]⟩))]:=by
 refine(okGM 141) [] [] _ _ _ ?_;obtain⟨n,b⟩:∃n,c.length=n:=⟨_,rfl⟩;rw[b]at p ⊢;simp only[cdE 141,rgE 141 0,rgE 141 1,rgE 141 2,ybf,b,go_sem,zA,zB,zD,↓reduceIte,reduceCtorEq];refine⟨by omega,?_⟩
 refine ybk (σ:=Nat) (fun k=>⟨[(11,.i .i64 k),(10,.i .i64 n),(9,ybf c),(3,.os (8,0) 0 n true)],[(8,.one (some ⟨22,false,1,n,fun i=>[if i<k then yj (c.getD i [])else .a (.slice none 0 0)]⟩))]⟩) (fun k=>k<=n) (fun k=>n-k) 0 (zJ _) ?_ ?_
 .refine yx ?_;simp only[ybf,b,wk,go_sem,zA,zD,↓reduceIte,reduceCtorEq];intro i _;rw[if_neg (by omega)]
  simp only[wk,go_sem]
 .intro k hk
  have d:k<n->0<(c.getD k []).length/\(c.getD k []).length<=1000:=fun h=>by
   have:=m (c.getD k []) (by rw[getD_at (show k<c.length by omega)];exact zK _)
   exact this
  by_cases q:k<n
  .have t:=d (by omega)
   have e:¬(c.getD k []).length=0:=by omega
   have f:decide ((k:Int)<(n:Int))=true:=decide_eq_true (by omega)
   simp only[rgE 141 3,rgE 141 4,rgE 141 5,rgE 141 6,rgE 141 7,ybf,yj,splice,b,e,f,go_sem,zA,zB,zD,↓reduceIte,reduceCtorEq];refine⟨by omega,by omega,by omega,by omega,ikw (by omega) (by omega),?_⟩
   refine ybw (k+1) ?_;refine ybm [] [] [(19,0)] ?_;simp only[wk,go_sem,zA,zD,↓reduceIte,reduceCtorEq];refine⟨by omega,fun i g=>?_⟩
   by_cases l:i=k
   .subst l;simp only[if_pos (zAR i),↓reduceIte];simp only[wk,go_sem,zA,↓reduceIte,reduceCtorEq]
   .simp only[if_neg l]
    by_cases j:i<k
    .simp only[if_pos j,if_pos (show i<k+1 by omega)]
     simp only[wk,go_sem,reduceCtorEq]
    .simp only[if_neg j,if_neg (show ¬i<k+1 by omega)]
     simp only[wk,go_sem,reduceCtorEq]
  .obtain rfl:k=n:=by omega
   have f:decide ((k:Int)<(k:Int))=false:=decide_eq_false (by omega)
   simp only[rgE 141 3,rgE 141 4,rgE 141 5,rgE 141 6,rgE 141 7,ybf,yj,b,f,ygo,go_sem,zA,zB,↓reduceIte,reduceCtorEq];refine⟨.os (8,0) 0 k true,[(8,.one (some ⟨22,false,1,k,fun i=>[yj (c.getD i [])]⟩))],?_,?_,rfl,rfl⟩
   .refine yx ?_;simp only[yj,wk,go_sem,zD,↓reduceIte,reduceCtorEq];intro i g;simp only[if_pos g];simp only[wk,go_sem]
   .simp only[ybz,yeg,wk,go_sem,↓reduceIte]
end Sh
end
section
namespace Sh
open Go Ev
theorem yiu(p:ProgR){g:Gr}(o:ybe g){D:Nat}{c:Conf}(n:ConfIn g.ports.length D c){v:Nat}(q:v<g.ports.length)(e:List Tm)(w:e.length<=1000):∀x:Ex,yciy p g D c v e x
 | .leaf r arg=>by
   intro j d at_ rest u m f t;obtain⟨d1,d2,d3⟩:=ygn (show e.drop at_=(r,arg)::rest from t)
   have F:=ycow p o n q e u d m;have k:=u;simp only[Ex.ok,zF,decide_eq_true_eq]at k;simp only[ylf,ybd]at F;refine Returns.of ((okG 274) _ _ ?_);simp only[cdE 274,rgE 274 0,rgE 274 1,rgE 274 2,rgE 274 3,rgE 274 4,rgE 274 5,rgE 274 6,rgE 274 7,rgE 274 8,rgE 274 9,rgE 274 10,rgE 274 11,rgE 274 12,rgE 274 13,rgE 274 14,rgE 274 15,rgE 274 16,rgE 274 17,rgE 274 18,ylf,ybd,d2,splice,go_sem,zA,zB,zG,zD,↓reduceIte,reduceCtorEq]
   refine⟨by omega,fun h=>F.use ?_,fun h=>by omega⟩
   simp only[yw,go_sem,zA,zB,↓reduceIte,reduceCtorEq];refine⟨ikw (by omega) (by omega),?_⟩
   exact Sim.refl _
 | .un r a=>by
   intro j d at_ rest u m f t;obtain⟨d1,d2,d3⟩:=ygn (show e.drop at_=(r,0)::(a.ser++rest)from t)
   have k:=u;simp only[Ex.ok,zF,decide_eq_true_eq]at k;have B:=yiu p o n q e w a j d (at_+1) rest k.2 m f d3;rw[show((at_+1:Nat):Int)=(at_:Int)+1 by omega]at B
   have H:=ybxs r (ybv g c v a d) (yix o rfl n q a k.2 m f);simp only[ylf,ybd]at B;refine Returns.of ((okG 274) _ _ ?_);simp only[cdE 274,rgE 274 0,rgE 274 1,rgE 274 2,rgE 274 3,rgE 274 4,rgE 274 5,rgE 274 6,rgE 274 7,rgE 274 8,rgE 274 9,rgE 274 10,rgE 274 11,rgE 274 12,rgE 274 13,rgE 274 14,rgE 274 15,rgE 274 16,rgE 274 17,rgE 274 18,ylf,ybd,d2,splice,go_sem,zA,zB,zG,zD,↓reduceIte,reduceCtorEq];refine⟨by omega,fun h=>by omega,fun h=>⟨fun h=>⟨ikw (by omega) (by omega),B.use ?_⟩,fun h=>by omega⟩⟩
   simp only[yw,go_sem,zA,zB,zG,↓reduceIte,reduceCtorEq];refine H.use ?_;simp only[go_sem];rw[show at_+(Ex.un r a).ser.length=at_+1+a.ser.length by simp[Ex.ser];omega]
   exact Sim.refl _
 | .agg r a=>by
   intro j d at_ rest u m f t;obtain⟨d1,d2,d3⟩:=ygn (show e.drop at_=(r,0)::(a.ser++rest)from t)
   have k:=u;simp only[Ex.ok,zF,decide_eq_true_eq]at k;have C:(Ex.agg r a).ok D true=true:=by simp only[Ex.ok,zF,decide_eq_true_eq];exact k
   have E:=ybbq p o n q e w C (yiu p o n q e w a) at_ rest t;simp only[ylf,ybd]at E;refine Returns.of ((okG 274) _ _ ?_);simp only[cdE 274,rgE 274 0,rgE 274 1,rgE 274 2,rgE 274 3,rgE 274 4,rgE 274 5,rgE 274 6,rgE 274 7,rgE 274 8,rgE 274 9,rgE 274 10,rgE 274 11,rgE 274 12,rgE 274 13,rgE 274 14,rgE 274 15,rgE 274 16,rgE 274 17,rgE 274 18,ylf,ybd,d2,splice,go_sem,zA,zB,zG,zD,↓reduceIte,reduceCtorEq];refine⟨by omega,fun h=>by omega,fun h=>⟨fun h=>by omega,fun h=>⟨fun h=>E.use ?_,fun h=>by omega⟩⟩⟩
   simp only[yw,go_sem,zA,zB,↓reduceIte,reduceCtorEq];exact Sim.refl _
 | .bin r a b=>by
   intro j d at_ rest u m f t;obtain⟨d1,d2,d3⟩:=ygn (show e.drop at_=(r,0)::((a.ser++b.ser)++rest)from t)
   have k:=u;simp only[Ex.ok,zF,decide_eq_true_eq]at k;rw[zAW]at d3
   have z:at_+1+a.ser.length<=e.length:=by
    have:=congrArg zAQ d3;simp at this;omega
   have l:=yiu p o n q e w a j d (at_+1) _ k.1.2 m f d3;have s:=yiu p o n q e w b j d (at_+1+a.ser.length) _ k.2 m f (yva d3);rw[show((at_+1:Nat):Int)=(at_:Int)+1 by omega]at l
   have G:=ybup r (ybv g c v a d) (ybv g c v b d) (yix o rfl n q a k.1.2 m f) (yix o rfl n q b k.2 m f);simp only[ylf,ybd]at l s;refine Returns.of ((okG 274) _ _ ?_);simp only[cdE 274,rgE 274 0,rgE 274 1,rgE 274 2,rgE 274 3,rgE 274 4,rgE 274 5,rgE 274 6,rgE 274 7,rgE 274 8,rgE 274 9,rgE 274 10,rgE 274 11,rgE 274 12,rgE 274 13,rgE 274 14,rgE 274 15,rgE 274 16,rgE 274 17,rgE 274 18,ylf,ybd,d2,splice,go_sem,zA,zB,zG,zD,↓reduceIte,reduceCtorEq]
   refine⟨by omega,fun h=>by omega,fun h=>⟨fun h=>by omega,fun h=>⟨fun h=>by omega,fun h=>⟨fun h=>⟨ikw (by omega) (by omega),l.use ?_⟩,fun h=>by omega⟩⟩⟩⟩
   simp only[yw,go_sem,zA,zB,↓reduceIte,reduceCtorEq];refine s.use ?_;simp only[go_sem,zA,zB,zG,↓reduceIte];refine G.use ?_;simp only[go_sem];rw[show at_+(Ex.bin r a b).ser.length=at_+1+a.ser.length+b.ser.length by simp[Ex.ser];omega]
   exact Sim.refl _
 | .ite x a b=>by
   intro j d at_ rest u m f t;obtain⟨d1,d2,d3⟩:=ygn (show e.drop at_=(43,0)::((x.ser++(a.ser++b.ser))++rest)from t)
   have k:=u;simp only[Ex.ok,zF]at k;rw[zAW,zAW]at d3
   have z:at_+1+x.ser.length+a.ser.length<=e.length:=by
    have:=congrArg zAQ d3;simp at this;omega
   have l:=yiu p o n q e w x j d (at_+1) _ k.1.1 m f d3;have s:=yiu p o n q e w a j d (at_+1+x.ser.length) _ k.1.2 m f (yva d3);have y:=yiu p o n q e w b j d (at_+1+x.ser.length+a.ser.length) _ k.2 m f (yva (yva d3));rw[show((at_+1:Nat):Int)=(at_:Int)+1 by omega]at l
   simp only[ylf,ybd]at l s y;refine Returns.of ((okG 274) _ _ ?_);simp only[cdE 274,rgE 274 0,rgE 274 1,rgE 274 2,rgE 274 3,rgE 274 4,rgE 274 5,rgE 274 6,rgE 274 7,rgE 274 8,rgE 274 9,rgE 274 10,rgE 274 11,rgE 274 12,rgE 274 13,rgE 274 14,rgE 274 15,rgE 274 16,rgE 274 17,rgE 274 18,ylf,ybd,d2,splice,go_sem,zA,zB,zG,zD,↓reduceIte,reduceCtorEq];refine⟨by omega,fun h=>by omega,fun h=>⟨fun h=>by omega,fun h=>⟨fun h=>by omega,fun h=>⟨fun h=>by omega,fun h=>⟨ikw (by omega) (by omega),l.use ?_⟩⟩⟩⟩⟩
   simp only[yw,go_sem,zA,zB,↓reduceIte,reduceCtorEq];refine s.use ?_;simp only[go_sem,zA,↓reduceIte,reduceCtorEq];refine y.use ?_;simp only[go_sem,zA,zB,↓reduceIte,reduceCtorEq];rw[show at_+(Ex.ite x a b).ser.length=at_+1+x.ser.length+a.ser.length+b.ser.length by simp[Ex.ser];omega]
   refine⟨fun A=>?_,fun A=>?_⟩
   .show Sim _ (.tp [.i .i64 (if _ then _ else _),_])
    rw[if_pos A];exact Sim.refl _
   .show Sim _ (.tp [.i .i64 (if _ then _ else _),_])
    rw[if_neg (not_not_intro A)];exact Sim.refl _
theorem ybfe(p:ProgR){g:Gr}(e:ybe g){b:Nat}{c:Conf}(d:ConfIn g.ports.length b c){v:Nat}(h:v<g.ports.length)(x:Ex)(j:x.ok b false=true)(f:x.ser.length<=1000) :
 Returns zC 258 [.rf (yhi p g),ybf c,.i .i64 v,ybd x.ser] (.i .i64 (ybv g c v x (-1))):=by
 have a:=yiu p e d h x.ser f x false (-1) 0 [] j (fun q=>by cases q) (by unfold InB;omega) (by simp)
 refine Returns.of ((okG 258) _ _ ?_);simp only[ylf,yhi,ybf,yj,ybd,yba,yey,zCC]at a;simp only[cdE 258,rgE 258 0,rgE 258 1,rgE 258 2,rgE 258 3,yhi,ybf,yj,ybd,yba,yey,splice,go_sem,zA,zB,zG,zD,↓reduceIte,reduceCtorEq];refine .inl (a.use ?_);simp only[yw,ycc,go_sem,zA,zB,↓reduceIte,reduceCtorEq]
end Sh
end
section
theorem ynk{a:Nat}(h:a<2^32):IntKind.wrap .u32 (a:Int)=a:=by
 unfold IntKind.wrap;simp[IntKind.bits,IntKind.signed];omega
theorem u32_and{a b:Nat}(c:a<2^32)(d:b<2^32):IntKind.wrap .u32 (((zN (IntKind.bits .u32) (a:Int))&&&zN (IntKind.bits .u32) (b:Int)).toNat:Int)=((a&&&b:Nat):Int):=by
 show IntKind.wrap .u32 (((zN 32 (a:Int))&&&zN 32 (b:Int)).toNat:Int)=_;rw[zZ,zZ,BitVec.toNat_and,zAN,zAN,zAS c,zAS d];exact ynk (zBT zCF c)
theorem u32_or{a b:Nat}(c:a<2^32)(d:b<2^32):IntKind.wrap .u32 (((zN (IntKind.bits .u32) (a:Int))|||zN (IntKind.bits .u32) (b:Int)).toNat:Int)=((a|||b:Nat):Int):=by
 show IntKind.wrap .u32 (((zN 32 (a:Int))|||zN 32 (b:Int)).toNat:Int)=_;rw[zZ,zZ,BitVec.toNat_or,zAN,zAN,zAS c,zAS d];exact ynk (Nat.or_lt_two_pow c d)
theorem u32_andNot{a b:Nat}(c:a<2^32)(f:b<2^32):IntKind.wrap .u32 (((zN (IntKind.bits .u32) (a:Int)) &&& ~~~zN (IntKind.bits .u32) (b:Int)).toNat:Int)=((difB a b:Nat):Int):=by
 show IntKind.wrap .u32 (((zN 32 (a:Int)) &&& ~~~zN 32 (b:Int)).toNat:Int)=_
 have e:((zN 32 (a:Int)) &&& ~~~zN 32 (b:Int)).toNat=difB a b:=by
  rw[zZ,zZ];refine zBK fun i=>?_;rw[yqy,BitVec.testBit_toNat,BitVec.getLsbD_and,BitVec.getLsbD_not,zBL,zBL]
  by_cases d:i<32
  .simp[d]
  .rw[zAH (zAG c (zAD (by omega) (by omega)))]
   simp
 rw[e];exact ynk (ybmm c)
theorem u32_neg{a:Nat}(b:0<a)(c:a<2^32):IntKind.wrap .u32 (0-(a:Int))=((2^32-a:Nat):Int):=by
 unfold IntKind.wrap;simp[IntKind.bits,IntKind.signed];omega
theorem yms{v:Nat}(a:v<32):IntKind.wrap .u32 (1*2^(v:Int).toNat)=((2^v:Nat):Int):=by
 have h:2^v<2^32:=zBM (by omega) a
 have:=ynk h;rw[zO,Int.one_mul];rw[<-this]
 norm_cast
theorem ycax{a v:Nat}:(a:Int).fdiv (2^(v:Int).toNat)=((a>>>v:Nat):Int):=by
 rw[zO,zBA];rw[Int.fdiv_eq_ediv_of_nonneg _ (Int.pow_nonneg (by omega))]
 simp
theorem ycuq(a v:Nat):((a>>>v)&&&1=1)↔a.testBit v=true:=by
 rw[zCO,bne_iff_ne];rw[Nat.and_comm 1 (a>>>v)];rw[Nat.and_one_is_mod];omega
theorem ybdv{s v:Nat}(d:s<2^32):IntKind.wrap .u32 (((zN (IntKind.bits .u32) ((s:Int).fdiv (2^v)))&&&zN (IntKind.bits .u32) 1).toNat:Int)=(((s>>>v)&&&1:Nat):Int):=by
 have h:=ycax (a:=s) (v:=v);rw[zO]at h;rw[h];have c:s>>>v<2^32:=by rw[zBA];exact zBT (zCE _ _) d
 exact u32_and (a:=s>>>v) (b:=1) c (by decide)
theorem ykk{s v:Nat}:((((s>>>v)&&&1:Nat):Int)=1)↔s.testBit v=true:=by
 rw[<-ycuq s v];omega
def lowB(e:Nat):Nat:=e&&&(2^32-e)
theorem yur(e:Nat):subB (lowB e) e:=fun i h=>by
 unfold lowB at h;rw[zBJ,zF]at h;exact h.1
theorem ybhy:∀(n e:Nat),0<e->e<2^n->∃i q,i<n/\e=2^i*(2*q+1)
 |0,e,h,a=>by simp at a;omega
 | n + 1,e,h,a=>by
   by_cases d:e%2=1
   .exact⟨0,e/2,by omega,by omega⟩
   .obtain⟨i,q,c,b⟩:=ybhy n (e/2) (by omega) (by rw[zBU]at a;omega)
    exact⟨i+1,q,by omega,by rw[zBU,Nat.mul_assoc,Nat.mul_left_comm,<-b];omega⟩
theorem ybmp{e:Nat}(m:e≠0)(a:e<2^32):lowB e≠0:=by
 obtain⟨i,q,n,b⟩:=ybhy 32 e (by omega) a
 have f:e.testBit i=true:=by
  rw[b,zAT,zBF _ (zCG i)];simp
 have g:(2^32-e).testBit i=true:=by
  obtain⟨j,h⟩:∃j,32=i+(j+1):=⟨31-i,by omega⟩
  have c:2^32=2^i*(2*2^j):=by
   have:(2:Nat)^32=2^(i+(j+1)):=by rw[<-h]
   rw[this,Nat.pow_add,zBU,Nat.mul_comm (2^j) 2]
  have k:2*q+1<2*2^j:=by
   rw[c,b]at a;exact Nat.lt_of_mul_lt_mul_left a
  have d:2^32-e=2^i*(2*2^j-(2*q+1)):=by rw[c,b,Nat.mul_sub]
  rw[d,zAT,zBF _ (zCG i)];simp;try omega
 intro l;have:(lowB e).testBit i=true:=by unfold lowB;rw[zBJ,f,g];rfl
 rw[l]at this;simp at this
def resD(e w:Nat):Nat:=if w&&&e=0 then lowB e else w&&&e
def resC(e w:Nat):Nat:=lowB (resD e w)
end
section
namespace Sh
open Go Ev
def yfp(p:ProgR)(g:Gr):List SV:=[.a (.string p.name),ybx p.vars,ydr p.rules,.rf (yhi p g),ylh g.ids.length p.vars (ybj g)]
theorem ytr(p:ProgR){g:Gr}(c:ybe g)(e:p.vars.all VarR.ok=true)(d:p.vars.length<=6):Returns zC 81 [.ag (yrg p),grV g] (.rf (yfp p g)):=by
 refine Returns.of ((okG 81) _ _ ?_);have a:=ybfz p c;have b:=ybjy p c e d;simp only[yrg,grV]at a b;simp only[cdE 81,rgE 81 0,rgE 81 1,yrg,grV,go_sem,zA,zB,zD,↓reduceIte,reduceCtorEq];refine a.use ?_;simp only[yw,go_sem,zA,zB,zG,zD,↓reduceIte,reduceCtorEq];refine b.use ?_;simp only[ylh,yfp,go_sem,zA,zB,zG,↓reduceIte];refine⟨by decide,by decide,Sim.refl _⟩
theorem ycbq(p:ProgT){g:Gr}(m:ybe g)(h:p.ok=true){c:Conf}(l:ConfIn g.ports.length p.vars.length c){v:Nat}(n:v<g.ports.length){r:Nat}(k:r<p.rules.length) :
 Returns zC 220 [.rf (yhi p.raw g),ybf c,.i .i64 v,.i .i64 r] (.b (yei g c v (p.rules.getD r default))):=by
 refine Returns.of ((okG 220) _ _ ?_);obtain⟨R,f⟩:∃R,p.rules.getD r default=R:=⟨_,rfl⟩
 have a:R.ok p.vars.length=true:=by
  unfold ProgT.ok at h;simp only[zF]at h;rw[<-f,getD_at k];exact List.all_eq_true.1 h.2 _ (zK _)
 unfold RuleT.ok at a;simp only[zF,decide_eq_true_eq]at a;have j:=ybfe p.raw m l n R.guard a.1.1.1 a.1.1.2
 have e:p.raw.rules.getD r default=R.raw:=by
  rw[<-f];simp[ProgT.raw,zM,k]
 have d:p.raw.rules.length=p.rules.length:=by simp[ProgT.raw]
 simp only[yhi,ydr,d]at j;rw[f];simp only[cdE 220,rgE 220 0,rgE 220 1,yhi,ydr,e,d,go_sem,zA,zB,zG,↓reduceIte,reduceCtorEq];refine⟨by omega,j.use ?_⟩
 simp only[yw,ygd,yei,go_sem,zA,zB,↓reduceIte,reduceCtorEq]
theorem ydfs{p:ProgT}{g:Gr}{c:Conf}{v k:Nat}(hk:k<p.rules.length)(a:(p.rules.take k).findIdx? (yei g c v)=none)(h:yei g c v (p.rules.getD k default)=true):yea p g c v=k:=by
 unfold yea
 have:p.rules.findIdx? (yei g c v)=some k:=by
  rw[zW];refine⟨hk,by rwa [getD_at hk]at h,fun j b=>?_⟩
  rw[zY]at a;have:=a p.rules[j] (List.mem_take_iff_getElem.2 ⟨j,by omega,rfl⟩)
  simpa using this
 rw[this]
theorem ybro{p:ProgT}{g:Gr}{c:Conf}{v:Nat}(a:(p.rules.take p.rules.length).findIdx? (yei g c v)=none):yea p g c v = -1:=by
 unfold yea;rw[zAE]at a;rw[a]
theorem ybce(p:ProgT)(g:Gr)(c:Conf)(v:Nat):-1<=yea p g c v/\yea p g c v<p.rules.length:=by
 unfold yea;split
 .rename_i i a
  obtain⟨h,_⟩:=List.findIdx?_eq_some_iff_getElem.1 a;omega
 .omega
theorem ybqv(p:ProgT){g:Gr}(l:ybe g)(d:p.ok=true){c:Conf}(j:ConfIn g.ports.length p.vars.length c){v:Nat}(m:v<g.ports.length) :
 Returns zC 147 [.rf (yfp p.raw g),ybf c,.i .i64 v] (.i .i64 (yea p g c v)):=by
 refine Returns.of ((okG 147) _ _ ?_);have b:p.raw.rules.length=p.rules.length:=by simp[ProgT.raw]
 have f:p.rules.length<=12:=by
  unfold ProgT.ok at d;simp only[zF,decide_eq_true_eq]at d;exact d.1.2
 simp only[cdE 147,rgE 147 0,rgE 147 1,yfp,ydr,b,go_sem,zA,zB,zG,↓reduceIte,reduceCtorEq];refine ybk (σ:=Nat) (fun k=>⟨[(14,.i .i64 k),(13,.i .i64 p.rules.length),(0,.rf (yfp p.raw g)),(1,ybf c),(2,.i .i64 v)],[]⟩) (fun k=>k<=p.rules.length/\(p.rules.take k).findIdx? (yei g c v)=none) (fun k=>p.rules.length-k) 0 ⟨zJ _,by simp⟩ ?_ ?_
 .refine yx ?_;simp only[yfp,ydr,b,wk,go_sem,zA,↓reduceIte,reduceCtorEq]
 .intro k ⟨hk,hno⟩;simp only[rgE 147 2,rgE 147 3,rgE 147 4,rgE 147 5,rgE 147 6,rgE 147 7,yfp,ycc,go_sem,zA,zB,zG,↓reduceIte,reduceCtorEq];refine⟨fun e=>?_,fun e=>?_⟩
  .have a:k<p.rules.length:=by omega
   refine(ycbq p l d j m a).use ?_;simp only[yw,ycc,go_sem,zA,zB,↓reduceIte,reduceCtorEq];refine⟨fun h=>by rw[ydfs a hno h],fun h=>⟨ikw (by omega) (by omega),?_⟩⟩
   refine ybb (k+1) ⟨by omega,?_⟩ (by omega) ?_
   .rw[zI a,zAJ,hno];rw[getD_at a]at h;simp[h]
   .refine yx ?_;simp only[wk,go_sem,zA,↓reduceIte,reduceCtorEq];simp
  .obtain rfl:k=p.rules.length:=by omega
   rw[ybro hno]
theorem ycbe(n:Nat)(r:n<=32)(h:FuncId)(c:List SV)(f:Nat->Bool)(a:c.any (owned 4)=false)(p:∀v,v<n->Returns zC h (.i .i64 v::c) (.b (f v))):Returns zC 145 [.i .i64 n,.fn h [] c] (.i .u32 (ygp f n)):=by
 refine Returns.of ((okG 145) _ _ ?_);have j:=yod a;simp only[cdE 145,rgE 145 0,rgE 145 1,rgE 145 2,go_sem,zB,↓reduceIte,reduceCtorEq];refine ybk (σ:=Nat) (fun k=>⟨[(8,.i .i64 k),(7,.i .i64 n),(1,.fn h [] c),(5,.i .u32 (ygp f k))],[]⟩) (fun k=>k<=n) (fun k=>n-k) 0 (zJ _) ?_ ?_
 .refine yx ?_;simp only[ygc _ a,yge _ a,ygp,wk,go_sem,zA,↓reduceIte,reduceCtorEq]
 .intro k hk;simp only[rgE 145 3,rgE 145 4,rgE 145 5,rgE 145 6,rgE 145 7,rgE 145 8,ycc,j,zBN,go_sem,zA,zB,↓reduceIte,reduceCtorEq];refine⟨fun l=>(p k (by omega)).use ?_,fun l=>?_⟩
  .have q:k<n:=by omega
   have e:ygp f k<2^32:=zAG (yrh f k) (zAD (by omega) (by omega))
   have g:2^k<2^32:=zBM (by omega) (by omega)
   simp only[yw,IntKind.bits,go_sem,zA,zB,↓reduceIte,reduceCtorEq];refine⟨fun d=>⟨by omega,ikw (by omega) (by omega),?_⟩,fun d=>⟨ikw (by omega) (by omega),?_⟩⟩
   .refine ybw (k+1) ?_;refine yx ?_;have m:=yms (v:=k) (by omega)
    have o:=u32_or e g;rw[zO]at m;simp only[ygc _ a,yge _ a,m,wk,go_sem,zA,↓reduceIte,reduceCtorEq];refine⟨by omega,?_⟩
    rw[show ygp f (k+1)=ygp f k|||2^k by show(if f k then _ else _)=_;rw[if_pos d]]
    exact o
   .refine ybw (k+1) ?_;refine yx ?_;simp only[ygc _ a,yge _ a,wk,go_sem,zA,↓reduceIte,reduceCtorEq];rw[show ygp f (k+1)=ygp f k by show(if f k then _ else _)=_;rw[if_neg (by rw[d];simp)]]
    simp
  .obtain rfl:k=n:=by omega
   rfl
theorem ybhu(p:ProgT){g:Gr}(e:ybe g)(f:p.ok=true){c:Conf}(d:ConfIn g.ports.length p.vars.length c){v:Nat}(h:v<g.ports.length) :
 Returns zC 146 [.i .i64 v,.rf [.rf (yfp p.raw g)],.rf [ybf c]] (.b (decide (yea p g c v>=0))):=by
 refine Returns.of ((okG 146) _ _ ?_);have a:=ybqv p e f d h;simp only[cdE 146,rgE 146 0,rgE 146 1,go_sem,zA,zB,↓reduceIte,reduceCtorEq];refine a.use ?_;simp only[yw,ygd,go_sem,zA,zB,↓reduceIte,reduceCtorEq]
theorem yew(p:ProgT){g:Gr}(b:ybe g)(f:p.ok=true){c:Conf}(e:ConfIn g.ports.length p.vars.length c) :
 Returns zC 82 [.rf (yfp p.raw g),ybf c] (.i .u32 (yh p g c)):=by
 refine Returns.of ((okG 82) _ _ ?_);have hid:=b.2.2.1;have d:=b.2.1;have a:=ycbe g.ids.length (by omega) 146 [.rf [.rf (yfp p.raw g)],.rf [ybf c]] (fun v=>decide (yea p g c v>=0)) rfl (fun v h=>ybhu p b f e (by omega))
 simp only[yfp]at a;simp only[cdE 82,rgE 82 0,rgE 82 1,yfp,ylh,go_sem,zA,zB,zG,zD,↓reduceIte,reduceCtorEq];simp only[ylh]at a;refine .inl (a.use ?_);simp only[yw,ycc,go_sem,zA,zB,↓reduceIte,reduceCtorEq];rfl
theorem ytn(p:ProgT)(g:Gr)(c:Conf)(v:Nat):∀(sets:List (Int×Ex)) (b:List Int),(yjl p g c v b sets).length=b.length
 |[],_=>rfl
 | a::sets,b=>by
   show(yjl p g c v (b.set _ _) sets).length=_;rw[ytn p g c v sets];simp
theorem ybtt(p:ProgT)(g:Gr)(c:Conf)(v:Nat)(a:List Int)(sets:List (Int×Ex))(k:Nat)(h:k<sets.length) :
 yjl p g c v a (sets.take (k+1))=(yjl p g c v a (sets.take k)).set (sets.getD k default).1.toNat (ygt (p.vars.getD (sets.getD k default).1.toNat default).kind (ybj g v (p.vars.getD (sets.getD k default).1.toNat default)) (ybv g c v (sets.getD k default).2 (-1))):=by
 unfold yjl;rw[zI h,zV,getD_at h];rfl
theorem ycmw(p:ProgT){g:Gr}(D:ybe g)(K:p.ok=true){c:Conf}(u:ConfIn g.ports.length p.vars.length c){v:Nat}(G:v<g.ports.length){r:Nat}(F:r<p.rules.length) :
 Returns zC 246 [.rf (yfp p.raw g),ybf c,.i .i64 v,.i .i64 r] (yj (ysg p g c v r)):=by
 refine Returns.of ((okG 246) _ _ ?_);obtain⟨R,w⟩:∃R,p.rules.getD r default=R:=⟨_,rfl⟩;have d:=K;unfold ProgT.ok at d;simp only[zF,decide_eq_true_eq]at d
 have b:R.ok p.vars.length=true:=by
  rw[<-w,getD_at F];exact List.all_eq_true.1 d.2 _ (zK _)
 unfold RuleT.ok at b;simp only[zF,decide_eq_true_eq]at b
 have o:p.raw.rules.getD r default=R.raw:=by
  rw[<-w];simp[ProgT.raw,zM,F]
 have e:p.raw.rules.length=p.rules.length:=by simp[ProgT.raw]
 have l:R.raw.sets.length=R.sets.length:=by simp[RuleT.raw]
 have hid:=D.2.2.1;have J:=u.len;have s:=u.at_ G;have B:¬(c.getD v []).length=0:=by omega
 simp only[cdE 246,rgE 246 0,rgE 246 1,rgE 246 2,B,yfp,ydr,yki,o,e,l,ybf,yj,go_sem,zA,zB,zG,zD,↓reduceIte,reduceCtorEq];obtain⟨C,h⟩:∃k,p.vars.length=k:=⟨_,rfl⟩;have j:=s.1;rw[h]at j b u;rw[h]at d;have A:ysg p g c v r=yjl p g c v (c.getD v []) R.sets:=by unfold ysg;rw[w]
 have n:∀k,(yjl p g c v (c.getD v []) (R.sets.take k)).length=C:=fun k=>(ytn p g c v _ _).trans j;refine⟨by omega,by omega,by omega,?_⟩
 refine ybk (σ:=Nat) (fun k=>⟨[(28,.i .i64 k),(27,.i .i64 R.sets.length),(26,yki R.raw.sets),(0,.rf (yfp p.raw g)),(1,ybf c),(2,.i .i64 v),(9,.os (17,0) 0 C true)],
  [(17,.one (some ⟨3,false,1,C,fun i=>[.i .i64 ((yjl p g c v (c.getD v []) (R.sets.take k)).getD i 0)]⟩))]⟩) (fun k=>k<=R.sets.length) (fun k=>R.sets.length-k) 0 (zJ _) ?_ ?_
 .refine yx ?_;simp only[yfp,ydr,yki,e,l,j,ybf,yj,wk,go_sem,zA,zD,↓reduceIte,reduceCtorEq];simp[yjl]
 .intro k hk;simp only[rgE 246 3,rgE 246 4,rgE 246 5,yfp,yki,l,splice,go_sem,zA,zB,zG,zD,↓reduceIte,reduceCtorEq];refine⟨fun z=>?_,fun z=>?_⟩
  .have f:k<R.sets.length:=by omega
   obtain⟨S,x⟩:∃S,R.sets.getD k default=S:=⟨_,rfl⟩
   have t:R.raw.sets.getD k default=⟨S.1,S.2.ser⟩:=by
    rw[<-x];simp[RuleT.raw,zM,f]
   have a:=List.all_eq_true.1 b.2 S (by rw[<-x,getD_at f];exact zK _)
   simp only[zF,decide_eq_true_eq]at a;have I:=ybfe p.raw D u G S.2 a.1.2 a.2;refine⟨by omega,?_⟩
   rw[t];refine I.use ?_;have H:=ycje (p.vars.getD S.1.toNat default).kind (ybj g v (p.vars.getD S.1.toNat default)) (ybv g c v S.2 (-1));have m:p.raw.vars=p.vars:=rfl;simp only[rgE 246 6,yw,ylh,ybx,varC,splice,m,h,go_sem,zA,zB,zG,↓reduceIte,reduceCtorEq];refine⟨by omega,by omega,by omega,H.use ?_⟩
   simp only[go_sem,zA,↓reduceIte];have y:zCO 134217727 25=true:=by decide
   simp only[rgE 246 7,y,go_sem,zA,zB,↓reduceIte,reduceCtorEq];refine⟨by omega,by omega,ikw (by omega) (by omega),?_⟩
   refine ybw (k+1) ?_;refine yx ?_;simp only[ybtt p g c v _ _ k f,x,wk,go_sem,zA,zD,↓reduceIte,reduceCtorEq];refine⟨by omega,fun i L=>?_⟩
   rw[ybcm (by rw[n];omega)]
   by_cases q:i=S.1.toNat
   .simp only[if_pos q];simp only[wk,go_sem,reduceCtorEq]
   .simp only[if_neg q];simp only[wk,go_sem,reduceCtorEq]
  .obtain rfl:k=R.sets.length:=by omega
   simp only[rgE 246 8,go_sem,zA,zB,↓reduceIte,reduceCtorEq];have E:=n R.sets.length;rw[zAE]at E ⊢;rw[A,E];exact Sim.refl _
theorem ygy(p:ProgT)(g:Gr)(c:Conf)(s:Nat){v:Nat}(a:v<c.length):(yez p g c s).getD v []=if s.testBit v then ysg p g c v (yea p g c v).toNat else c.getD v []:=by
 unfold yez;simp[zM,a]
theorem yeb(p:ProgT)(g:Gr)(c:Conf)(s:Nat):(yez p g c s).length=c.length:=by simp[yez]
theorem ybcx(p:ProgT){g:Gr}(l:ybe g)(o:p.ok=true){c:Conf}(h:ConfIn g.ports.length p.vars.length c){s:Nat}(G:s<2^32)(j:subB s (yh p g c)) :
 Returns zC 214 [.rf (yfp p.raw g),ybf c,.i .u32 s] (ybf (yez p g c s)):=by
 refine Returns.of ((okGU 214) [141] _ _ ?_);have A:=l.2.1;have C:=h.len;have e:=o;unfold ProgT.ok at e;simp only[zF,decide_eq_true_eq]at e;have B:=ycmk c (fun x H=>by have:=(h.row x H).1;omega) (by omega)
 simp only[cdE 214,rgE 214 0,rgE 214 1,go_sem,zA,zB,↓reduceIte,reduceCtorEq];refine ydk B [] 100 [0,1,2] [] ?_ ?_
 .simp only[go_sem,to1,okN,ybz,yeg,ydp,yda,wk,go_sem,zA,↓reduceIte,reduceCtorEq]
 .rintro r I ⟨rfl,rfl⟩;simp only[rgE 214 2,ybf,yj,ykz,yjk,nuF,nu,difN,ydp,yda,Fam.ren,OB.ren,dim,ywi,ykc,go_sem,zA,zB,↓reduceIte,reduceCtorEq];obtain⟨n,y⟩:∃n,c.length=n:=⟨_,rfl⟩
  let row:Nat->Nat->List Int:=fun k i=>if i<k then(yez p g c s).getD i []else c.getD i []
  refine ybk (σ:=Nat) (fun k=>⟨[(13,.i .i64 k),(12,.i .i64 n),(7,.os (108,0) 0 n true),(0,.rf (yfp p.raw g)),(1,ybf c),(2,.i .u32 s)],
   [(108,.one (some ⟨22,false,1,n,fun i=>[yj (row k i)]⟩))]⟩) (fun k=>k<=n) (fun k=>n-k) 0 (zJ _) ?_ ?_
  .refine yx ?_;simp only[ybf,y,wk,go_sem,zA,zD,↓reduceIte,reduceCtorEq];refine⟨Sim.refl _,fun i w=>?_⟩;simp only[row,if_neg (zAF i)];exact Sim.refl _
  .intro k hk;have z:=ybdv (s:=s) (v:=k) G;simp only[IntKind.bits]at z;simp only[rgE 214 3,rgE 214 4,rgE 214 5,rgE 214 6,rgE 214 7,rgE 214 8,IntKind.bits,z,ykk,go_sem,zA,zB,zBO,↓reduceIte,reduceCtorEq];refine⟨fun m=>⟨by omega,fun f=>?_,fun f=>?_⟩,fun m=>?_⟩
   .have a:k<c.length:=by omega
    have d:k<g.ports.length:=by omega
    have E:0<=yea p g c k:=by
     have:=j k f;unfold yh at this;rw[yfm]at this;simp only[zF,decide_eq_true_eq]at this;exact this.2
    have F:=(ybce p g c k).2;have t:yea p g c k=((yea p g c k).toNat:Int):=by omega
    refine(ybqv p l o h d).use ?_;simp only[yw,splice,go_sem,zA,zB,zBO,↓reduceIte,reduceCtorEq];have u:=ycmw p l o h d (r:=(yea p g c k).toNat) (by omega)
    rw[<-t]at u;refine u.use ?_;simp only[go_sem,zA,↓reduceIte];refine⟨by omega,by omega,ikw (by omega) (by omega),?_⟩
    refine ybw (k+1) ?_;refine yx ?_;simp only[wk,go_sem,zA,zD,↓reduceIte,reduceCtorEq];refine⟨by omega,fun i w=>?_⟩
    by_cases q:i=k
    .simp only[if_pos q];subst q;simp only[go_sem,wk,go_sem];simp only[row,if_pos (zAR i),ygy p g c s a,f,↓reduceIte];exact Sim.refl _
    .simp only[if_neg q];simp only[go_sem,wk,go_sem]
     have:row (k+1) i=row k i:=by
      simp only[row]
      by_cases b:i<k
      .rw[if_pos b,if_pos (by omega)]
      .rw[if_neg b,if_neg (by omega)]
     rw[this];exact Sim.refl _
   .have a:k<c.length:=by omega
    refine⟨ikw (by omega) (by omega),?_⟩
    refine ybw (k+1) ?_;refine yx ?_;simp only[wk,go_sem,zA,zD,↓reduceIte,reduceCtorEq];refine⟨by omega,fun i w=>?_⟩
    have:row (k+1) i=row k i:=by
     simp only[row]
     by_cases b:i<k
     .rw[if_pos b,if_pos (by omega)]
     .by_cases q:i=k
      .subst q;rw[if_neg b,if_pos (by omega),ygy p g c s a,if_neg (fun q=>f (ykk.2 q))]
      .rw[if_neg b,if_neg (by omega)]
    rw[this];exact Sim.refl _
   .obtain rfl:k=n:=by omega
    rw[yeb,y];refine yel fun q D=>⟨⟨?_,trivial⟩,rfl⟩;simp only[row,if_pos D];exact Sim.refl _
end Sh
end
section
namespace Sh
open Go Ev
def yhj(p:ProgT)(g:Gr):Bool:=p.vars.all fun x=>decide (x.kind=1)==false||(decide ((ybj g 0 x).1<=(ybj g 0 x).2)&&decide ((ybj g 0 x).2-(ybj g 0 x).1+1<=4096))
def ybs(b c:(Nat->Option ABlk)->Value->Prop)(p:ProgR):List SV:=[.a (.string p.name),.ex b (ybx p.vars),.ex c (ydr p.rules)]
theorem ycsa{q t:(Nat->Option ABlk)->Value->Prop}(p:ProgT){g:Gr}(r:ybe g)(G:p.ok=true)(D:yhj p g=true)(y:Returns zC 77 [.ag (ybs q t p.raw)] (.b true))(w:Returns zC 209 [grV g] (.b true)) :
 Returns zC 210 [.ag (ybs q t p.raw),grV g] (.i .i64 0):=by
 refine Returns.of ((okG 210) _ _ ?_);have j:=G;unfold ProgT.ok at j;simp only[zF,decide_eq_true_eq]at j;have l:p.raw.vars=p.vars:=rfl;simp only[ybs,grV]at y w;simp only[cdE 210,rgE 210 0,rgE 210 1,rgE 210 2,rgE 210 3,rgE 210 4,rgE 210 5,ybs,grV,go_sem,zA,zB,zD,↓reduceIte,reduceCtorEq];refine y.use ?_;simp only[yw,go_sem,zA,zB,↓reduceIte];refine w.use ?_;simp only[ybx,l,go_sem,zA,zB,zG,↓reduceIte,reduceCtorEq]
 have n:∀k,k<p.vars.length->(p.vars.getD k default).ok=true/\((p.vars.getD k default).kind=1->(ybj g 0 (p.vars.getD k default)).1<=(ybj g 0 (p.vars.getD k default)).2/\(ybj g 0 (p.vars.getD k default)).2-(ybj g 0 (p.vars.getD k default)).1+1<=4096):=fun k hk=>by
  rw[getD_at hk];refine⟨List.all_eq_true.1 j.1.1.2 _ (zK _),fun m=>?_⟩;have:=List.all_eq_true.1 D _ (zK hk)
  simpa[m]using this
 refine ybk (σ:=Nat) (fun k=>⟨[(18,.i .i64 k),(17,.i .i64 p.vars.length),(16,.ex q (ybx p.vars)),(3,.pt (3,0) 0 0)],[(3,.one (some ⟨30,true,2,1,fun _=>[yj g.ids,yba g.ports]⟩))]⟩) (fun k=>k<=p.vars.length) (fun k=>p.vars.length-k) 0 (zJ _) ?_ ?_
 .refine yx ?_;simp only[ybx,wk,go_sem,zA,zD,↓reduceIte,reduceCtorEq]
 .intro k hk;obtain⟨x,A⟩:∃x,p.vars.getD k default=x:=⟨_,rfl⟩;simp only[rgE 210 6,rgE 210 7,rgE 210 8,rgE 210 9,rgE 210 10,rgE 210 11,rgE 210 12,rgE 210 13,ybx,varC,splice,ycc,A,go_sem,zA,zB,zG,zD,↓reduceIte,reduceCtorEq];intro F;have s:k<p.vars.length:=by omega
  obtain⟨d,o⟩:=n k s;rw[A]at d o;have u:=yzo r d (v:=0) (by have:=r.1;omega)
  simp only[varC,grV,zCC]at u;obtain⟨B,C⟩:=yph r d;have H:=ybnq d;refine⟨by omega,fun m=>⟨ikw (by omega) (by omega),?_⟩,fun m=>u.use ?_⟩
  .refine ybw (k+1) ?_;refine yx ?_;simp only[wk,go_sem,zA,zD,↓reduceIte,reduceCtorEq];omega
  .obtain⟨f,h⟩:=o m;obtain⟨I,a⟩:∃b,(ybj g 0 x).1=b:=⟨_,rfl⟩;obtain⟨J,c⟩:∃b,(ybj g 0 x).2=b:=⟨_,rfl⟩;have e:ybj g 0 x=(x.lo,x.hi+x.perNode*(g.ids.length:Int)+x.perID*maxI g.ids):=by unfold ybj;rw[if_pos m]
   rw[e]at a c;simp only[]at a c;simp only[e]at f h;rw[e];simp only[yw,ycc,go_sem,zA,zB,↓reduceIte,reduceCtorEq];simp only[a,c]at f h ⊢;refine⟨fun _=>⟨ikw (by omega) (by omega),ikw (by omega) (by omega),fun E=>absurd h (by omega),fun _=>⟨ikw (by omega) (by omega),?_⟩⟩,fun z=>absurd f (by omega)⟩
   refine ybw (k+1) ?_;refine yx ?_;simp only[wk,go_sem,zA,zD,↓reduceIte,reduceCtorEq];omega
end Sh
end
section
namespace Sh
open Go Ev Go.RowKit
def GrI(g:Gr):Prop:=(∀x∈g.ids,I64 x)/\∀a∈g.ports,∀l∈a,I64 l.1/\I64 l.2
def ybhg(c:List (List Int)):Prop:=∀s∈c,∀x∈s,I64 x
section
variable {G:AM}{m:Mem}{φ:Phi}{M:AM}{w:World}{u u':Value}
theorem yclj {X:Type}{z n:Nat}{K:Nat->List SV}{xs:List X}{E:Elem X}(hG:Le G m.b.get) (hr:RV G om0 (.sl z n K) u) (d:VR φ u u') (hR:Rel φ M w) (hs:Sub m M) (R:xs.length=n)
 (hE:∀k x b o L r,xs[k]?=some x->RVL G om0 (K k) L->VRL φ L r->(∀j v,r[j]?=some v->w.cell? ⟨b,o+j,none⟩=some v)->E w b o x):SlAt z E w u' xs:=by
 rcases hr.sl_inv with⟨rfl,O⟩|⟨Y,p,cp,T,N,e,zz,L,rfl,g1,g2,g3,g4,g5,g6,g7⟩
 .have:xs=[]:=zAA R;subst this;rcases O with rfl|⟨b,o,c,rfl⟩
  .have e:=d.eq_simple rfl;subst e;exact SlAt.nil w
  .obtain⟨g,A,t,V,k2,F,W,k5,H,I⟩:=d.slice_inv;subst F;exact⟨some A,t,rfl,zJ _,H,fun q=>absurd q (by simp)⟩
 .obtain⟨g,A,t,V,k2,F,W,k5,H,I⟩:=d.slice_inv;subst F;subst R;refine⟨some A,t,rfl,W,H,fun S=>?_⟩;rcases I with⟨rfl,_⟩|I
  .obtain⟨a2,P,h2⟩:=hR.blk _ _ (hs _ _ (hG _ _ g1));have D:φ Y=some g:=V;rw[D]at P;cases P
   obtain⟨h3,h4,y,J,a0,O,Q,h6,h7⟩:=h2;refine⟨g.blk,g.base+p,rfl,(Array.getElem?_eq_some_iff.1 Q).1,fun k x U=>?_⟩;have hk:k<xs.length:=(List.getElem?_eq_some_iff.1 U).1;have a1:=ylg (z:=z) hk;have f:∀j v,j<z->(L k)[j]?=some v->∃i,y[g.base+(p+k*z+j)]?=some i/\VR φ v i:=fun j v C d=>h7 _ v (by omega) (by rw[g5 k hk j C];exact d)
   have B:∀(l:List Value) (q:Nat),(∀j v,l[j]?=some v->∃i,y[q+j]?=some i/\VR φ v i)->∃s,VRL φ l s/\∀j v,s[j]?=some v->y[q+j]?=some v:=by
    intro l
    induction l with
    |nil=>intro q _;exact⟨[],.nil,fun j v h=>by simp at h⟩
    | cons a l ih =>
      intro q h;obtain⟨i,Z,J⟩:=h 0 a rfl;obtain⟨s,e3,e4⟩:=ih (q+1) (fun j v d=>by have:=h (j+1) v (by simpa using d);rw[show q+1+j=q+(j+1)by omega];exact this)
      refine⟨i::s,.cons J e3,fun j v d=>?_⟩;cases j with
      |zero=>simp at d;subst d;exact Z
      |succ j=>have:=e4 j v (by simpa using d);rw[show q+(j+1)=q+1+j by omega];exact this
   obtain⟨r,r1,r2⟩:=B (L k) (g.base+p+k*z) (fun j v d=>by
    have C:j<z:=by rw[<-g4 k hk];exact(List.getElem?_eq_some_iff.1 d).1
    have:=f j v C d;rw[show g.base+p+k*z+j=g.base+(p+k*z+j)by omega]
    exact this)
   exact hE k x _ _ (L k) r U (g6 k hk) r1 fun j v d=>cell_of Q (by have:=r2 j v d;exact this)
  .omega
theorem ints_at{l:List Int}(h:Le G m.b.get)(p:RV G om0 (yj l) u)(r:VR φ u u')(j:Rel φ M w)(q:Sub m M)(i:∀x∈l,I64 x):ynw w u' l:=by
 refine yclj h p r j q rfl fun k x b o L s e g c n=>?_;have hk:k<l.length:=(List.getElem?_eq_some_iff.1 e).1;have f:l.getD k 0=x:=by simp[zM,e]
 rw[f]at g;cases g with
 | cons a b =>
   cases b
   cases a.int_inv
   obtain⟨t,rfl,d⟩:=yiq c;have:=d.eq_simple rfl;subst this;exact⟨n 0 _ rfl,i x (zQ e)⟩
theorem ycme{ls:List (Int×Int)}(p:Le G m.b.get)(s:RV G om0 (ybd ls) u)(v:VR φ u u')(r:Rel φ M w)(t:Sub m M)(q:∀l∈ls,I64 l.1/\I64 l.2):ybzy w u' ls:=by
 refine yclj p s v r t rfl fun k x b o L y g e c f=>?_;have d:ls.getD k (0,0)=x:=by simp[zM,g]
 rw[d]at e;cases e with
 | cons a b =>
   cases b with
   | cons h i =>
     cases i
     cases a.int_inv
     cases h.int_inv
     obtain⟨v1,z,rfl,j,n⟩:=yxb c;have:=j.eq_simple rfl;subst this;have:=n.eq_simple rfl;subst this;exact⟨f 0 _ rfl,f 1 _ rfl,q x (zQ g)⟩
theorem ycqs{c:List (List (Int×Int))}(g:Le G m.b.get)(r:RV G om0 (yba c) u)(s:VR φ u u')(i:Rel φ M w)(j:Sub m M)(p:∀ls∈c,∀l∈ls,I64 l.1/\I64 l.2):ybcj w u' c:=by
 refine yclj g r s i j rfl fun k x b o L v n h d q=>?_;have f:c.getD k []=x:=by simp[zM,n]
 rw[f]at h;cases h with
 | cons a b =>
   cases b
   obtain⟨t,rfl,e⟩:=yiq d;exact⟨t,q 0 _ rfl,ycme g a e i j (p x (zQ n))⟩
theorem ydak{c:List (List Int)}(g:Le G m.b.get)(q:RV G om0 (ybf c) u)(r:VR φ u u')(i:Rel φ M w)(j:Sub m M)(n:ybhg c):ycty w u' c:=by
 refine yclj g q r i j rfl fun k x b o L t l h d p=>?_;have f:c.getD k []=x:=by simp[zM,l]
 rw[f]at h;cases h with
 | cons a b =>
   cases b
   obtain⟨s,rfl,e⟩:=yiq d;exact⟨s,p 0 _ rfl,ints_at g a e i j (n x (zQ l))⟩
theorem ycmd{g:Gr}(d:Le G m.b.get)(o:RV G om0 (grV g) u)(p:VR φ u u')(f:Rel φ M w)(h:Sub m M)(e:GrI g):GrAt w u' g:=by
 obtain⟨L,rfl,n⟩:=o.ag_inv;cases n with
 | cons a b =>
   cases b with
   | cons i j =>
     cases j
     obtain⟨r,rfl,c⟩:=p.agg_inv;obtain⟨v1,q,rfl,k,l⟩:=yxb c;exact⟨v1,q,rfl,ints_at d a k f h e.1,ycqs d i l f h e.2⟩
end
theorem ybqn {g:FuncId}{args:List SV}{r:SV}{v:Value}(n:∃fn c,Tryz.prog.funcs[g]?=some fn/\fn.body=some c) (f:∀F,RV F om0 r v) (i:∀φ,VR φ v v)
 (h:∀(G:AM) (m:Mem) (us:List Value),Le G m.b.get->RVL G om0 args us->∀φ M w a,Rel φ M w->Sub m M->VRL φ us a->Calls zC g a.toArray w fun e j=>e = .returned v/\Below w.heap.size w j):Returns zC g args r:=by
 intro G m us s d o;refine⟨v,enterM m,r,ynz ybcu n fun φ M w a k p q=>(h G m us d o φ M w a k p q).mono ?_,zS _,Le.refl _,rfl,f _⟩;rintro e j ⟨rfl,l⟩;exact⟨v,rfl,i φ,l⟩
theorem rvl1{F:AM}{ω:Om}{a:SV}{us:List Value}(h:RVL F ω [a] us):∃u,us=[u]/\RV F ω a u:=by
 cases h with|cons x y=>cases y;exact⟨_,rfl,x⟩
theorem rvl2{F:AM}{ω:Om}{a b:SV}{us:List Value}(h:RVL F ω [a,b] us):∃u v,us=[u,v]/\RV F ω a u/\RV F ω b v:=by
 cases h with|cons x y=>obtain⟨v,rfl,q⟩:=rvl1 y;exact⟨_,v,rfl,x,q⟩
end Sh
end
section
open Go.RowKit
theorem ycfr(n k:Nat)(hk:k<n):(zT k (-1:Int)++zT (n-k) 0).set k (-1)=zT (k+1) (-1)++zT (n-(k+1)) 0:=by
 apply zBD
 .simp;omega
 .intro i b c;rw[List.getElem_set];split
  .subst_vars
   rw[zAO (by simp)]
   simp
  .by_cases a:i<k
   .rw[zAO (by simpa using a),zAO (by simp;omega)];simp
   .rw[zBB (by simp;omega),zBB (by simp;omega)];simp
theorem ypx(g:Gr)(a:Nat)(h:g.ports.length<=24):1+ydd (start g a)<=30:=by
 have b:=List.countP_le_length (p:=fun x:Int=>decide (x<0)) (l:=start g a);have c:(start g a).length=g.ports.length:=by simp[start]
 unfold ydd;omega
set_option maxHeartbeats 2000000 in
theorem ybad(gv:Value)(g:Gr)(a:Nat)(w:World)(hg:GrAt w gv g)(r:ybe g)(N:a<g.ports.length) :
 Calls zC 204 #[gv,.int .i64 a] w (ydba (ybr g a) w):=by
 have U:=r.2.1;have Hgood:=zL r
 clear r
 obtain⟨i,p,rfl,hi,hp⟩:=hg;obtain⟨A2,c2,rfl,d5,d6⟩:=yct hp;have Hp:=zL hp
 clear hi hp
 have b7:=ybjd g.ports.length (by omega)
 go_enter Tryz.func204,Tryz.ntmps204
 go_wp2
 go_loopg [17] g.ports.length (fun q t wr=>∃k:Nat,q+k=g.ports.length/\t = .int .i64 k/\Hid (Below (w.heap.size+1) (w.alloc (.cells #[i,.slice A2 g.ports.length c2] 30)) wr)/\Hid (IBlk wr (w.heap.size+1) (zT k (-1)++zT (g.ports.length-k) 0)))
 case atStart =>
  refine⟨0,by omega,rfl,zL ((Below.refl _ _).alloc (by simp) _),zL ?_⟩
  have:=IBlk.new (w.alloc (.cells #[i,.slice A2 g.ports.length c2] 30)) (zT g.ports.length (0:Int))
  simpa using this
 case round =>
  obtain⟨k,hq,rfl,c,b⟩:=hrel
  by_cases B:k<g.ports.length
  .obtain⟨x,L⟩:∃x,wr.cell? ⟨w.heap.size+1,k,none⟩=some (.int .i64 x):=⟨_,b.out.cell (by simp;omega)⟩
   have hf:=b.out.frozen k
   go_wp2
   go_roundg (gk-1)
   case measure=>omega
   case rel =>
    refine⟨k+1,by omega,by go_num,zL (c.out.setCell (by simp) _),zL ?_⟩
    have:=b.out.set_ k (-1)
    rwa [ycfr _ _ B]at this
  .obtain rfl:k=g.ports.length:=by omega
   have m:IBlk wr (w.heap.size+1) (zT g.ports.length (-1)):=by simpa using b.out
   obtain⟨x,L⟩:∃x,wr.cell? ⟨w.heap.size+1,a,none⟩=some (.int .i64 x):=⟨_,m.cell (by simpa using N)⟩
   have hf:=m.frozen a;have Hb0:=zL m
   clear m b b7
   go_wp2
   go_loopg [7] (1+ydd (start g a)) (fun q t wr=>∃R Q,q=Q.length+ydd R/\q<=30/\Hid (Below (w.heap.size+1) (w.alloc (.cells #[i,.slice A2 g.ports.length c2] 30)) wr)/\Hid (IBlk wr (w.heap.size+1) R)/\Hid (BfsInv g a R Q)/\Hid (Owns wr (w.heap.size+2) 3 1 t Q.length (Q.map (fun q:Nat=>Value.int .i64 (q:Int)))))
   case atStart =>
    refine⟨start g a,[a],rfl,ypx g a U,zL ((c.out.setCell (by simp) _).alloc (by have:=c.out.size;simp at this ⊢;omega) _),zL ((Hb0.out.set_ a 0).alloc _),zL (BfsInv.start N),zL ?_⟩
    refine⟨rfl,.inr ⟨_,0,1,#[.int .i64 (a:Int)],rfl,?_,?_,zS _,by simp[maxLen],by simp,?_⟩⟩
    .have:=Hb0.out.lt;simp;omega
    .have:=heap_alloc_new (wr.setCell ⟨w.heap.size+1,a,none⟩ (.int .i64 0)) (.cells #[.int .i64 (a:Int)] 3);simpa using this
    .intro j u hu
     simpa using hu
   case round =>
    clear c Hb0 L hf
    obtain⟨R,Q,hq,d2,c,b,f,hown⟩:=hrel;obtain⟨AQ,cQ,rfl⟩:=hown.out.val;cases Q with
    | nil =>
      have Hd:=zL (f.out.isDist.unique (yec Hgood.out N))
      go_wp2
      go_ret
      have h:=b.out.ints (fun x L=>by have:=f.out.isDist.bound Hgood.out N x L;unfold I64;omega) (by rw[f.out.len];omega)
      rw[f.out.len,Hd.out]at h;exact⟨_,rfl,h,(box2 c.out).2.2.1⟩
    | cons v Q =>
      obtain⟨gQ,oQ,d4,hv,e1,e2,b1,b4,o⟩:=hown.out.form (by simp)
      cases hv
      have O:=o 0 (.int .i64 (v:Int)) rfl;simp only[zCL]at O;have a7:=zL o;obtain⟨d,hd⟩:=f.out.qin v (by simp)
      have a3:v<g.ports.length:=by rw[<-f.out.len];exact(List.getElem?_eq_some_iff.1 hd).1
      obtain⟨q0,q1,n,a0⟩:=box2 c.out;obtain⟨b2,a6,lv,rfl,d7,E,D⟩:=ypi Hp.out (zH a3);have S:=yml n _ _ E
      clear E
      obtain⟨A3,c3,rfl,b6,e3⟩:=yct D;obtain⟨z,s⟩:∃z,g.ports[v]=z:=⟨_,rfl⟩;have Hlp:=zL (show g.ports[v]?=some z by rw[zH a3,s])
      rw[s]at D S b6;have Hls:=zL D;have Hin:=zL (f.out.pop hd z);have M:=zL n
      clear s D n o f hd
      simp only[zBC]at hq b1 hown O;obtain⟨i0,H,a4,K,a5⟩:=info_parts ybqy;obtain⟨vQ,Y,J,V⟩:=yckl (P:=zC) zBX H K hown.out (k:=1) (by simp) (by simp)
      simp only[Nat.add_sub_cancel,Nat.mul_one,zCK,zBQ,zCH]at J;have Z:∀W,(Instr.slice 22 (.slice (some ⟨gQ,oQ,none⟩) (Q.length+1) cQ) (some (.int .i64 1)) none none).run zC W = .ok vQ W:=fun W=>by simpa using Y W
      have HoQ:=zL J;have Hi0:=zL (show _/\_/\_/\_ from⟨H,a4,K,a5⟩)
      clear J hown Y V H a4 K a5
      unfold maxLen at b4
      go_wp2
      clear Z
      obtain⟨go,rfl⟩:∃go,go=gk:=⟨_,rfl⟩
      go_loopg [43,7] z.length (fun q t tq wr=>∃(k:Nat) (R:List Int) (Q:List Nat),q+k=z.length/\t = .int .i64 k/\Hid (go=Q.length+1+ydd R)/\Hid (Below (w.heap.size+1) (w.alloc (.cells #[i,.slice (some ⟨b2,a6,none⟩) g.ports.length c2] 30)) wr)/\Hid (IBlk wr (w.heap.size+1) R)/\Hid (BfsIn g a v d z k R Q)/\Hid (Owns wr (w.heap.size+2) 3 1 tq Q.length (Q.map (fun q:Nat=>Value.int .i64 (q:Int)))))
      case atStart=>exact⟨0,R,Q,by omega,rfl,zL (by omega),c,b,Hin,HoQ⟩
      case round =>
       clear c b Hin HoQ hq S q0 q1 M a0
       obtain⟨k,R,Q,hq,rfl,Hgk,c,b,Hin,HoQ⟩:=hrel
       by_cases B:k<z.length
       .obtain⟨q0,q1,n,a0⟩:=box2 c.out;have M:=zL n;obtain⟨A4,c4,e4,_,_,hE⟩:=Hls.out.below Stable.link n;cases e4
        obtain⟨b3,d3,rfl,d8,hE⟩:=hE (by omega)
        obtain⟨⟨l1,wt⟩,s⟩:∃l,z[k]=l:=⟨_,rfl⟩;have I:z[k]?=some (l1,wt):=by rw[zH B,s]
        obtain⟨c8,c9,⟨b9,c0⟩,⟨c6,c7⟩⟩:=hE k _ I;obtain⟨k1,k2,k3,k4,k5⟩:=Hgood.out.link Hlp.out (zQ I);simp only at k1 k2 k3 k4 k5 c8 c9 b9 c0 c6 c7;obtain⟨u,rfl⟩:=zBG k1;have a1:u<R.length:=by rw[Hin.out.len];omega
        have a2:v<R.length:=by rw[Hin.out.len];omega
        have G:R[v]?=some (d:Int):=Hin.out.rv;have b0:=b.out.cell a2;rw[show R[v]=(d:Int)by have:=zH a2;rw[G]at this;exact(Option.some.inj this).symm]at b0
        have d9:=b.out.cell a1;have e0:=b.out.frozen u
        have d0:d<g.ports.length:=by
         rcases Hin.out.val v _ G with e|⟨k',e,h1,h2⟩
         .omega
         .obtain rfl:d=k':=by omega
          exact yxd Hgood.out N h1 h2
        have y:z[k].1=(u:Int):=by rw[s]
        have A:R[u]?=some R[u]:=zH a1;have hB:w.heap.size+1<wr.heap.size:=b.out.lt
        clear hE I s n k1 k3 G
        by_cases d1:R[u]<0
        .have F:R[u]?=some (-1):=by
          rcases Hin.out.val u _ A with e|⟨k',e,_⟩
          .exact A.trans (congrArg some e)
          .exact absurd e (by omega)
         have Hd:=zL (Hin.out.discover Hlp.out B y F);have Hun:=zL (yye (R:=R) (u:=u) (x:=(d:Int)+1) F (by omega))
         clear A F y
         go_wp2
         go_region
         go_wp2_with (at_builtin;refine yqc _ rfl _ _ 22 rfl (w.heap.size+2) 3 i0 (.int .i64 0) 1 8 zBX Hi0.out.1 Hi0.out.2.1 Hi0.out.2.2.1 Hi0.out.2.2.2 rfl (by decide) u7 Q.length (Q.map (fun q:Nat=>Value.int .i64 (q:Int))) (by rfl) ?hown _ 1 1 [.int .i64 (u:Int)] (by rfl) rfl ?c1 ?c2 ?c3 ?c4 ?c5 ?_)
         case hown=>exact(((HoQ.out.low (p:=⟨w.heap.size+1,u,none⟩) (by simp) _).alloc _).alloc _).drew
         case c1=>exact ycqk (by simp)
         case c2=>simp[Value.oneCell']
         case c3=>have:=Hgk.out;simp only[maxLen];omega
         case c4=>have:=Hgk.out;omega
         case c5=>simp;omega
         intro e5 w' C T b8;have hgo:=Hgk.out;have Hown:=zL C;have Hgr:=zL T
         clear C T b8
         go_wp2
         go_roundg (gk-1)
         case measure=>omega
         case rel =>
          have a9:=(((c.out.setCell (p:=⟨w.heap.size+1,u,none⟩) (by simp) (.int .i64 ((d:Int)+1))).alloc (by simp;omega) (.cells #[.int .i64 (u:Int),.int .i64 wt] 97)).alloc (by simp;omega) (.cells #[.int .i64 (u:Int)] 3)).drew
          have b5:=((((b.out.set_ u ((d:Int)+1)).alloc (.cells #[.int .i64 (u:Int),.int .i64 wt] 97)).alloc (.cells #[.int .i64 (u:Int)] 3)).drew);refine⟨k+1,R.set u ((d:Int)+1),Q++[u],by omega,by go_num,zL ?_,zL (a9.grown Hgr.out (by simp;omega) (fun x L=>?_)),zL (b5.grown Hgr.out (fun e=>?_)),Hd,zL ?_⟩
          .have:=Hun.out;simp;omega
          .have:=(HoQ.out.lt L).1;omega
          .have:=(HoQ.out.lt e.symm).1;omega
          .have:=Hown.out
           simpa using this
        .have X:0<=R[u]:=by omega
         obtain⟨j,hj⟩:=zBG X;have a8:=zL (Hin.out.skip B (j:=j) (by rw[y,zO,A,hj]))
         clear A y hj
         go_wp2
         have hgo:=Hgk.out
         go_roundg (gk-1)
         case measure=>omega
         case rel=>exact⟨k+1,R,Q,by omega,by go_num,Hgk,zL (c.out.alloc (by omega) _),zL (b.out.alloc _),a8,zL (HoQ.out.alloc _)⟩
       .obtain rfl:k=z.length:=by omega
        go_wp2
        have hgo:=Hgk.out
        go_roundg (Q.length+ydd R)
        case measure=>omega
        case rel=>exact⟨R,Q,rfl,by omega,c,b,zL (Hin.out.finish Hlp.out),HoQ⟩
end
end Go.Proofs.YtlbonpgkofloeaaGreatDoor
