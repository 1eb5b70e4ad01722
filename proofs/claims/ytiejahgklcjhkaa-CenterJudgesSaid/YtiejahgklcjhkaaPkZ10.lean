/- Joined. -/
import Derived.Test.YtiejahgklcjhkaaPkZ7
import Derived.Test.YtiejahgklcjhkaaPkZ8
set_option linter.unusedSimpArgs false
set_option linter.unusedVariables false
set_option maxRecDepth 8000
open Go.Lib renaming hid→zA
open List renaming getElem?_eq_getElem→zB,mem_of_getElem?→zD,replicate→zG,getElem?_set→zH,getD→zI,getElem_mem→zK,range→zL,getElem_append_left→zN,getElem?_replicate→zO,foldl_append→zQ,mem_zipIdx_iff_getElem?→zS,getD_eq_getElem?_getD→zT,getElem?_zip_eq_some→zU,getElem_append_right→zV,all_eq_true→zW,getElem?_eq_none→zY,mem_append_left→zZ,drop_succ_cons→zAA,countP_append→zAB,length_cons→zAE,ext_getElem→zAF,take_length→zAG,countP_cons→zAH,range_succ→zAI,drop_zero→zAK,map_cons→zAL
open Nat renaming le_refl→zC,reduceEqDiff→zX,lt_trichotomy→zAD,reduceAdd→zAM,add_zero→zAN,lt_or_ge→zAO,mul_one→zAP,zero_le→zAQ
open Int renaming toNat_natCast→zF,eq_ofNat_of_zero_le→zJ,le_trans→zAC
open Bool renaming and_eq_true→zM
open Array renaming replicate→zAJ
open Go
namespace Go.Proofs.Ytiejahgklcjhkaa
section
namespace Sh
open Go Ev
theorem ycca {g:FuncId}{fn:Func}{sc:SC}{rs:List SR}(hg:Try.prog.funcs[g]?=some fn) (hcmp:fn.body.bind (cmp Try.prog fn.ntmps)=some sc) (hrs:cmpR Try.prog fn.results.toList=some rs)
 {mu:List FuncId}{args:List SV}{Q:SV->Prop}(h:vc ⟨Ct Try.prog,Cm Try.prog,ItC Try.prog,[],mu⟩ sc (retK rs Q) ⟨slots args 0,[]⟩):Ct Try.prog g args Q:=by
 obtain⟨c,h1,h2⟩:=bind_some hcmp;exact ybiz mix ybcb hg h1 h2 hrs h
def Fn(g:FuncId)(c:SC)(rs:List SR):Prop:=∀(args:List SV) (Q:SV->Prop),vc ⟨Ct Try.prog,Cm Try.prog,ItC Try.prog,[],[]⟩ c (retK rs Q) ⟨slots args 0,[]⟩->Ct Try.prog g args Q
section
variable {g:FuncId}{fn:Func}{sc:SC}{rs:List SR}(hg:Try.prog.funcs[g]?=some fn) (hcmp:fn.body.bind (cmp Try.prog fn.ntmps)=some sc) (hrs:cmpR Try.prog fn.results.toList=some rs)
include hg hcmp hrs
theorem fn_0:Fn g sc rs:=fun _ _ h=>ycca hg hcmp hrs h
end
def o3(x:SOp)(d a:Nat):SOper:=⟨x,some d,none,a⟩
def o0(x:SOp)(a:Nat):SOper:=⟨x,none,none,a⟩
abbrev LO:=List SOper
def mv'(x d a:Nat):SOper:=⟨.mv (.tmp x),some d,none,a⟩
def bn'(op:BinOp)(x y d a:Nat):SOper:=⟨.bin op (.tmp x) (.tmp y),some d,none,a⟩
def ld'(ag:Bool)(n x d a:Nat):SOper:=⟨.load ag n (.tmp x),some d,none,a⟩
def fa'(o n x d a:Nat):SOper:=⟨.faddr o n (.tmp x),some d,none,a⟩
def ix'(z x k d a:Nat):SOper:=⟨.idx z (.tmp x) (.tmp k),some d,none,a⟩
def ln'(x d a:Nat):SOper:=⟨.len (.tmp x),some d,none,a⟩
def xt'(x k d a:Nat):SOper:=⟨.extract (.tmp x) k,some d,none,a⟩
def cl'(g:FuncId)(xs:List Nat)(d a:Nat):SOper:=⟨.call (.func g) (xs.map .tmp),some d,none,a⟩
def ci'(n:Int):Operand:=.const (.int .i64 n)
attribute [go_sem] o3 o0 mv' bn' ld' fa' ix' ln' xt' cl' ci'
attribute [go_sem] ycbp ybnx ybkq ybft ycbr ybqx ybss ybno ybjt ybqj ybkc yvc yqq ybbl yxh puts ybpn
attribute [go_sem] ybys ycbn ybwy yur ybbh ybha yrp yys ybbn ybbq ybfx yxw yble yxb ybjj
attribute [go_sem] yky Fam.at Prod.mk.injEq ybrh ybpo ybqs ybru ybri ybpv ybbi oldX oldV ygz yjd ybfh ybpp gb_x ycaq resX yha slots ybks
attribute [go_sem] yblu ybfz runO opO ybfh xOp SS.get SS.pget SS.gets SS.lit look lookO SS.put SS.own ybpa ybpg ybnl ybjk yblv ybla ybjs
attribute [go_sem] ybmg ybkt ybmo yblg ybal simple yiy yoq ysy part idxX natX ykv ybap xbin xun eqL splice fill OB.set ofV fits ybyj yzk
attribute [go_sem] allP SRec.no SRec.pure clash nmem List.isEmpty_nil List.isEmpty_cons List.drop List.take List.all List.any List.map List.length List.head? List.append
attribute [go_sem] List.nil_append List.append_nil List.cons_append List.all_cons List.all_nil zAA zAK List.take_succ_cons List.take_zero List.drop_nil
attribute [go_sem] List.take_nil zAE List.length_nil zAL List.map_nil List.getElem?_cons_zero List.getElem?_cons_succ List.elem zF Nat.zero_add
attribute [go_sem] zAN if_true if_false ite_true ite_false Option.isNone Option.isNone_none Option.map_some Option.map_none Bool.not_true Bool.not_false Bool.true_or
attribute [go_sem] Bool.or_true Bool.false_or Bool.or_false Bool.and_true Bool.true_and Bool.and_false Bool.false_and Bool.and_self Bool.or_self true_and and_true and_self
attribute [go_sem] true_implies false_implies implies_true forall_const Nat.lt_add_one Nat.one_pos Nat.zero_lt_one Nat.lt_irrefl zC decide_true decide_false Bool.false_eq_true
attribute [go_sem] Bool.true_eq_false forall_eq BEq.rfl beq_self_eq_true decide_eq_true_eq decide_eq_false_iff_not beq_iff_eq beq_eq_false_iff_ne bne_iff_ne bne_eq_false_iff_eq
attribute [go_sem] Bool.not_eq_true Bool.not_eq_false Bool.not_eq_true' Bool.not_eq_false' ybnq ybpq yboh ybiq ybka ybgp ybjd yblb ybim
attribute [go_sem] ybkx ybhu ybol ybza yboj ybmd ybmc ybkf ybjx ybmn ybge ybhd ybdh ybfk ybea ybee ybey
attribute [go_sem] ybfa ybvi ybsd ybxm ybnu ybpt ybli ybqr ybrs yboy ybrn ybop ycbu ycaw ycav ybzm ybyn ybrt ybwz ybxi ybyo
attribute [go_sem] ybxe ybyx ybsx ybww ybtq ybof ybqi ybix ybos ybqy ybrv yboz ybok
attribute [go_sem] yrg ybau idxF ybzc ypr ykc own1 yzu Tel telL ymn yvy yboq ybqu yboa ybku ybjv ybjg ybjm ybjc ybld
attribute [go_sem] ybma yblc ycal ycbs ycak ybzr ybtl ybwh ybtr ybxv ybuv ybtd ybuk lv nmem rid ycam ycbg ycbj ybzg ybyh ybpm ybxa
attribute [go_sem] ybvt ybyv ybuq ycab ybxp ybtu ycax ycbl ycbe ybup ybtx ybqn ybvu ybwf ybsv ybtp ybzz List.any_cons List.any_nil Option.isSome
attribute [go_sem] ybpz or_false false_or or_true true_or false_and exists_const exists_false List.not_mem_nil and_false
attribute [go_sem ↓] gb_t gb_f ycbw ycao
end Sh
end
section
namespace Sh
open Go Ev
def ycaa:LO:=[o3 (.box 25 (.tmp 0)) 1 0,o3 (.mv (.const (.int .u32 0))) 2 0]
def ybto:LO:=[fa' 0 1 1 3 0,ld' false 1 3 4 1,ln' 4 5 3,o3 (.bin .shl (.const (.int .u32 1)) (.tmp 5)) 6 7,o3 (.bin .sub (.tmp 6) (.const (.int .u32 1))) 7 15,mv' 7 2 31]
def c45:SC:=(.seq (.reg false ycaa) (.seq (.reg false ybto) .ret))
theorem ybuy:Fn 45 c45 [.t 2]:=fn_0 Try.func45 (by kernel_rfl) (by kernel_rfl)
def ybye:LO:=[o3 (.box 25 (.tmp 0)) 2 0,o3 (.mv (.const (.slice none 0 0))) 4 0]
def ybyy:LO:=[fa' 1 1 2 11 0,ld' false 1 11 12 1,ln' 12 13 3,o3 (.mk 3 1 8 [.i .i64 0] (.tmp 13) (.tmp 13)) 14 7,mv' 14 5 15]
def ybvx:LO:=[mv' 5 15 0,ln' 15 16 1,o3 (.mv (ci' 0)) 17 0]
def ybqp:LO:=[bn' .lss 17 16 18 0]
def ybux:LO:=[mv' 17 19 0,mv' 19 6 1]
def ybut:LO:=[mv' 5 20 0,mv' 6 21 0,ix' 1 20 21 22 3,o0 (.store 1 (.tmp 22) (.const (.int .i64 (-1)))) 7]
def ybwx:LO:=[o3 (.bin .add (.tmp 17) (ci' 1)) 23 0,mv' 23 17 1]
def ybzy:LO:=[mv' 5 24 0,mv' 1 25 0,ix' 1 24 25 26 3,o0 (.store 1 (.tmp 26) (ci' 0)) 7]
def ybwr:LO:=[mv' 1 27 0,o3 (.bslice 3 1 1 [.i .i64 0] [(0,1,(.tmp 27))]) 28 1,mv' 28 7 3]
def ybob:LO:=[mv' 7 29 0,ln' 29 30 1,o3 (.bin .gtr (.tmp 30) (ci' 0)) 31 3]
def ybnd:LO:=[mv' 7 32 0,o3 (.idx 1 (.tmp 32) (ci' 0)) 33 1,ld' false 1 33 34 3,mv' 34 8 7]
def ybnb:LO:=[mv' 7 35 0,o3 (.cut 1 (.tmp 35) (some (ci' 1)) none) 36 1,mv' 36 7 3]
def ybmq:LO:=[fa' 1 1 2 37 0,ld' false 1 37 38 1,mv' 8 39 0,ix' 1 38 39 40 7,ld' false 1 40 41 15,ln' 41 42 31,o3 (.mv (ci' 0)) 43 0]
def yzf:LO:=[bn' .lss 43 42 44 0]
def yzc:LO:=[ix' 2 41 43 45 0,ld' true 2 45 46 1,o3 (.alloc 55 1 [.i .i64 0,.i .i64 0]) 10 0,o0 (.store 2 (.tmp 10) (.tmp 46)) 7]
def ybam:LO:=[mv' 5 47 0,fa' 0 1 10 48 0,ld' false 1 48 49 2,ix' 1 47 49 50 7,ld' false 1 50 51 15,o3 (.bin .lss (.tmp 51) (ci' 0)) 52 31]
def yzr:LO:=[mv' 5 53 0,fa' 0 1 10 54 0,ld' false 1 54 55 2,mv' 5 56 0,mv' 8 57 0,ix' 1 56 57 58 24,ld' false 1 58 59 56,o3 (.bin .add (.tmp 59) (ci' 1)) 60 120,ix' 1 53 55 61 255,o0 (.store 1 (.tmp 61) (.tmp 60)) 511]
def yzs:LO:=[mv' 7 62 0,fa' 0 1 10 63 0,ld' false 1 63 64 2,o3 (.bslice 3 1 1 [.i .i64 0] [(0,1,(.tmp 64))]) 65 6,o3 (.app 3 1 8 (.tmp 62) (.tmp 65)) 66 15,mv' 66 7 31]
def yzi:LO:=[o3 (.bin .add (.tmp 43) (ci' 1)) 67 0,mv' 67 43 1]
def ybne:LO:=[mv' 5 68 0,mv' 68 4 1]
def c43:SC:=(.seq (.reg false ybye) (.seq (.reg false ybyy) (.seq (.seq (.reg false ybvx) (.block 0 (.loop (.seq (.reg false ybqp) (.seq (.cond (.tmp 18) .skip (.exit 0)) (.seq (.block 1 (.seq (.reg false ybux) (.reg false ybut))) (.reg false ybwx))))))) (.seq (.reg false ybzy) (.seq (.reg false ybwr) (.seq (.block 2 (.loop (.seq (.seq (.reg false ybob) (.cond (.tmp 31) .skip (.exit 2))) (.block 3 (.seq (.reg false ybnd) (.seq (.reg false ybnb) (.seq (.reg false ybmq) (.block 4 (.loop (.seq (.reg false yzf) (.seq (.cond (.tmp 44) .skip (.exit 4)) (.seq (.block 5 (.seq (.reg false yzc) (.seq (.reg false ybam) (.cond (.tmp 52) (.seq (.reg true yzr) (.reg false yzs)) .skip)))) (.reg false yzi))))))))))))) (.seq (.reg false ybne) .ret)))))))
theorem ybyp:Fn 43 c43 [.t 4]:=fn_0 Try.func43 (by kernel_rfl) (by kernel_rfl)
def ybxo:LO:=[o3 (.mv (ci' 0)) 2 0]
def ybvl:LO:=[o3 (.mv (.const (.int .i64 (-1)))) 3 0]
def ybzx:LO:=[mv' 0 6 0,ln' 6 7 1,o3 (.mv (ci' 0)) 8 0]
def ybwk:LO:=[bn' .lss 8 7 9 0]
def ybwo:LO:=[ix' 1 6 8 10 0,ld' false 1 10 11 1,mv' 11 5 3]
def ybur:LO:=[mv' 3 12 0,mv' 5 13 0,o3 (.mm true (.tmp 12) (.tmp 13)) 14 3,mv' 14 3 7]
def ybyt:LO:=[o3 (.bin .add (.tmp 8) (ci' 1)) 15 0,mv' 15 8 1]
def ybuz:LO:=[mv' 3 16 0,mv' 16 2 1]
def c42:SC:=(.seq (.reg false ybxo) (.seq (.reg false ybvl) (.seq (.seq (.reg false ybzx) (.block 0 (.loop (.seq (.reg false ybwk) (.seq (.cond (.tmp 9) .skip (.exit 0)) (.seq (.block 1 (.seq (.reg false ybwo) (.reg false ybur))) (.reg false ybyt))))))) (.seq (.reg false ybuz) .ret))))
theorem ybtg:Fn 42 c42 [.t 2]:=fn_0 Try.func42 (by kernel_rfl) (by kernel_rfl)
end Sh
end
section
def adj(g:Gr)(u v:Nat):Prop:=∃ls,g.ports[u]?=some ls/\∃l∈ls,l.1=(v:Int)
def Walk(g:Gr)(a:Nat):Nat->Nat->Prop
 |0,v=>v=a
 |k+1,v=>∃u,Walk g a k u/\adj g u v
def yql(g:Gr)(a v:Nat)(x:Int):Prop:=(x = -1/\∀k,¬Walk g a k v)\/∃k:Nat,x=k/\Walk g a k v/\∀j,j<k->¬Walk g a j v
def ynb(g:Gr)(a:Nat)(D:List Int):Prop:=D.length=g.ports.length/\∀v x,D[v]?=some x->yql g a v x
theorem yql.unique{g:Gr}{a v:Nat}{x y:Int}(h:yql g a v x)(h':yql g a v y):x=y:=by
 rcases h with⟨rfl,h1⟩|⟨k,rfl,h1,h2⟩<;>rcases h' with⟨rfl,h3⟩|⟨j,rfl,h3,h4⟩
 ·rfl
 ·exact absurd h3 (h1 j)
 ·exact absurd h1 (h3 k)
 ·rcases zAD k j with h|h|h
  ·exact absurd h1 (h4 k h)
  ·rw[h]
  ·exact absurd h3 (h2 j h)
theorem ynb.unique{g:Gr}{a:Nat}{D D':List Int}(h:ynb g a D)(h':ynb g a D'):D=D':=by
 apply zAF (by rw[h.1,h'.1])
 intro i h1 h2;exact(h.2 i _ (zB h1)).unique (h'.2 i _ (zB h2))
theorem ybh.link{g:Gr}(h:ybh g){v:Nat}{ls:List (Int×Int)}(hv:g.ports[v]?=some ls){l:Int×Int}(hl:l∈ls):0<=l.1/\l.1<g.ports.length/\l.1≠v/\1<=l.2/\l.2<=15:=by
 obtain⟨hlt,e⟩:=List.getElem?_eq_some_iff.1 hv;have:=(h.2.2.2.2.2.1 ⟨v,hlt⟩).1 l (by simp only[Fin.getElem_fin,e];exact hl)
 unfold ygx at this;simp only at this;omega
theorem ybh.adj_lt{g:Gr}(h:ybh g){u v:Nat}(ha:adj g u v):u<g.ports.length/\v<g.ports.length:=by
 obtain⟨ls,h1,l,hl,e⟩:=ha;have:=h.link h1 hl;exact⟨(List.getElem?_eq_some_iff.1 h1).1,by omega⟩
theorem ybh.adj_symm{g:Gr}(h:ybh g){u v:Nat}(ha:adj g u v):adj g v u:=by
 obtain⟨hu,hv⟩:=h.adj_lt ha;obtain⟨ls,h1,l,hl,e⟩:=ha;obtain⟨hlt,e1⟩:=List.getElem?_eq_some_iff.1 h1;have:=h.2.2.2.2.2.2 ⟨u,hlt⟩ l (by simp only[Fin.getElem_fin,e1];exact hl)
 rw[e,zF]at this;simp only[zI,zB hv,Option.getD_some]at this;exact⟨_,zB hv,_,this,rfl⟩
structure BfsInv(g:Gr)(a:Nat)(R:List Int)(Q:List Nat):Prop where
 len:R.length=g.ports.length
 src:R[a]?=some 0
 val:∀(v:Nat) (x:Int),R[v]?=some x->x = -1\/∃k:Nat,x=k/\Walk g a k v/\∀j,j<k->¬Walk g a j v
 qin:∀q∈Q,∃k:Nat,R[q]?=some (k:Int)
 sorted:Q.Pairwise (fun p q=>∀x y,R[p]?=some x->R[q]?=some y->x<=y/\y<=x+1)
 done:∀(v k:Nat),R[v]?=some (k:Int)->v∉Q->∀u,adj g v u->∃j:Nat,R[u]?=some (j:Int)
structure BfsIn(g:Gr)(a v d:Nat)(ls:List (Int×Int))(i:Nat)(R:List Int)(Q:List Nat):Prop where
 len:R.length=g.ports.length
 src:R[a]?=some 0
 val:∀(v:Nat) (x:Int),R[v]?=some x->x = -1\/∃k:Nat,x=k/\Walk g a k v/\∀j,j<k->¬Walk g a j v
 qin:∀q∈Q,∃k:Nat,R[q]?=some (k:Int)
 sorted:Q.Pairwise (fun p q=>∀x y,R[p]?=some x->R[q]?=some y->x<=y/\y<=x+1)
 rv:R[v]?=some (d:Int)
 low:∀q∈Q,∀y,R[q]?=some y->(d:Int)<=y/\y<=d+1
 done:∀(u k:Nat),R[u]?=some (k:Int)->u∉Q->u≠v->∀t,adj g u t->∃j:Nat,R[t]?=some (j:Int)
 part:∀l∈ls.take i,∃j:Nat,R[l.1.toNat]?=some (j:Int)
theorem BfsInv.start{g:Gr}{a:Nat}(ha:a<g.ports.length):BfsInv g a ((zG g.ports.length (-1)).set a 0) [a] where
 len:=by simp
 src:=by simp[ha]
 val := by
  intro v x h;rw[zH]at h;split at h
  ·rename_i e
   subst e;simp[ha]at h;subst h;exact .inr ⟨0,rfl,rfl,fun j hj=>absurd hj (by omega)⟩
  ·rw[zO]at h;split at h
   ·cases h;exact .inl rfl
   ·cases h
 qin:=by
  intro q hq;obtain rfl:q=a:=by simpa using hq
  exact⟨0,by simp[ha]⟩
 sorted:=by simp
 done:=by
  intro v k h hv u _;rw[zH]at h;split at h
  ·rename_i e
   exact absurd (by simp[e]) hv
  ·rw[zO]at h;split at h
   ·cases h
   ·cases h
theorem BfsInv.pop{g:Gr}{a:Nat}{R:List Int}{v:Nat}{Q:List Nat}(h:BfsInv g a R (v::Q)){d:Nat}(hd:R[v]?=some (d:Int))(ls:List (Int×Int)):BfsIn g a v d ls 0 R Q where
 len:=h.len
 src:=h.src
 val:=h.val
 qin:=fun q hq=>h.qin q (List.mem_cons_of_mem _ hq)
 sorted:=(List.pairwise_cons.1 h.sorted).2
 rv:=hd
 low:=fun q hq y hy=>(List.pairwise_cons.1 h.sorted).1 q hq _ y hd hy
 done:=fun u k hu hq hv t ht=>h.done u k hu (by simp[hq,hv]) t ht
 part:=by simp
theorem BfsIn.finish{g:Gr}{a v d:Nat}{ls:List (Int×Int)}{R:List Int}{Q:List Nat}(h:BfsIn g a v d ls ls.length R Q)(hls:g.ports[v]?=some ls):BfsInv g a R Q where
 len:=h.len
 src:=h.src
 val:=h.val
 qin:=h.qin
 sorted:=h.sorted
 done:=by
  intro u k hu hq t ht
  by_cases e:u=v
  ·subst e;obtain⟨ls',h1,l,hl,e2⟩:=ht;rw[hls]at h1;cases h1
   have:=h.part l (by rw[zAG];exact hl)
   rwa [e2,zF]at this
  ·exact h.done u k hu hq e t ht
theorem BfsIn.skip{g:Gr}{a v d:Nat}{ls:List (Int×Int)}{i:Nat}{R:List Int}{Q:List Nat}(h:BfsIn g a v d ls i R Q)(hi:i<ls.length){j:Nat}(hj:R[ls[i].1.toNat]?=some (j:Int)):BfsIn g a v d ls (i+1) R Q :=
 ⟨h.len,h.src,h.val,h.qin,h.sorted,h.rv,h.low,h.done,by
   intro l hl;rw[take_snoc ls i hi]at hl;rcases List.mem_append.1 hl with hl|hl
   ·exact h.part l hl
   ·obtain rfl:l=ls[i]:=by simpa using hl
    exact⟨j,hj⟩⟩
theorem BfsIn.found{g:Gr}{a v d:Nat}{ls:List (Int×Int)}{i:Nat}{R:List Int}{Q:List Nat}(h:BfsIn g a v d ls i R Q) :
 ∀k,k<=d->∀t,Walk g a k t->∃j:Nat,R[t]?=some (j:Int):=by
 intro k
 induction k with
 |zero=>intro _ t ht;obtain rfl:t=a:=ht;exact⟨0,h.src⟩
 | succ k ih =>
   intro hk t ⟨p,hp,hpt⟩;obtain⟨j,hj⟩:=ih (by omega) p hp
   have hjk:j<=k:=by
    rcases h.val p _ hj with e|⟨k',e,_,hmin⟩
    ·omega
    ·have:j=k':=by omega
     subst this;rcases zAO k j with hlt|hge
     ·exact absurd hp (hmin k hlt)
     ·exact hge
   refine h.done p j hj ?_ ?_ t hpt
   ·intro hq;have:=(h.low p hq _ hj).1;omega
   ·rintro rfl;have e1:=h.rv;rw[hj]at e1;have e2:=Option.some.inj e1;omega
theorem BfsIn.discover{g:Gr}{a v d:Nat}{ls:List (Int×Int)}{i:Nat}{R:List Int}{Q:List Nat}(h:BfsIn g a v d ls i R Q)(hls:g.ports[v]?=some ls)(hi:i<ls.length){u:Nat}(hu:ls[i].1=(u:Int))(hR:R[u]?=some (-1)) :
 BfsIn g a v d ls (i+1) (R.set u ((d:Int)+1)) (Q++[u]):=by
 have hul:u<R.length:=(List.getElem?_eq_some_iff.1 hR).1
 have hne:∀t (k:Nat),R[t]?=some (k:Int)->t≠u:=by
  rintro t k ht rfl;rw[hR]at ht;have:=Option.some.inj ht;omega
 have hset:∀t,t≠u->(R.set u ((d:Int)+1))[t]?=R[t]?:=fun t ht=>by rw[zH,if_neg (by omega)]
 have hsu:(R.set u ((d:Int)+1))[u]?=some ((d:Int)+1):=by rw[zH,if_pos rfl,if_pos hul]
 have keep:∀t:Nat,(∃j:Nat,R[t]?=some (j:Int))->∃j:Nat,(R.set u ((d:Int)+1))[t]?=some (j:Int):=by
  rintro t ⟨j,hj⟩;exact⟨j,by rw[hset t (hne t j hj)];exact hj⟩
 have hadj:adj g v u:=⟨ls,hls,ls[i],zK hi,hu⟩
 have hnq:u∉Q:=fun hq=>by
  obtain⟨k,hk⟩:=h.qin u hq;exact hne u k hk rfl
 refine⟨by simp[h.len],?_,?_,?_,?_,?_,?_,?_,?_⟩
 ·rw[hset a (hne a 0 h.src)];exact h.src
 ·intro t x hx
  by_cases e:t=u
  ·subst e;rw[hsu]at hx;cases hx
   refine .inr ⟨d+1,by omega,?_,?_⟩
   ·rcases h.val v _ h.rv with e|⟨k,e,hk,_⟩
    ·omega
    ·have:d=k:=by omega
     subst this;exact⟨v,hk,hadj⟩
   ·intro j hj hw;obtain⟨k,hk⟩:=h.found j (by omega) t hw
    exact hne t k hk rfl
  ·rw[hset t e]at hx;exact h.val t x hx
 ·intro q hq;rcases List.mem_append.1 hq with hq|hq
  ·exact keep q (h.qin q hq)
  ·obtain rfl:q=u:=by simpa using hq
   exact⟨d+1,by rw[hsu];rfl⟩
 ·rw[List.pairwise_append];refine⟨?_,by simp,?_⟩
  ·refine(List.Pairwise.and_mem.1 h.sorted).imp ?_;rintro p q ⟨hp,hq,hpq⟩ x y hx hy;rw[hset p (fun e=>hnq (e▸hp))]at hx;rw[hset q (fun e=>hnq (e▸hq))]at hy;exact hpq x y hx hy
  ·intro p hp q hq x y hx hy;obtain rfl:q=u:=by simpa using hq
   rw[hset p (fun e=>hnq (e▸hp))]at hx;rw[hsu]at hy;cases hy
   have:=h.low p hp x hx;omega
 ·rw[hset v (hne v d h.rv)];exact h.rv
 ·intro q hq y hy;rcases List.mem_append.1 hq with hq|hq
  ·rw[hset q (fun e=>hnq (e▸hq))]at hy;exact h.low q hq y hy
  ·obtain rfl:q=u:=by simpa using hq
   rw[hsu]at hy;cases hy
   omega
 ·intro t k ht hq hv s hs;have htu:t≠u:=fun e=>hq (by simp[e])
  rw[hset t htu]at ht;exact keep s (h.done t k ht (fun hh=>hq (zZ _ hh)) hv s hs)
 ·intro l hl;rw[take_snoc ls i hi]at hl;rcases List.mem_append.1 hl with hl|hl
  ·exact keep _ (h.part l hl)
  ·obtain rfl:l=ls[i]:=by simpa using hl
   rw[hu,zF];exact⟨d+1,by rw[hsu];rfl⟩
theorem BfsInv.isDist{g:Gr}{a:Nat}{R:List Int}(h:BfsInv g a R []):ynb g a R:=by
 have found:∀k t,Walk g a k t->∃j:Nat,R[t]?=some (j:Int):=by
  intro k
  induction k with
  |zero=>intro t ht;obtain rfl:t=a:=ht;exact⟨0,h.src⟩
  | succ k ih =>
    intro t ⟨p,hp,hpt⟩;obtain⟨j,hj⟩:=ih p hp;exact h.done p j hj (by simp) t hpt
 refine⟨h.len,fun v x hx=>?_⟩;rcases h.val v x hx with rfl|h1
 ·refine .inl ⟨rfl,fun k hk=>?_⟩;obtain⟨j,hj⟩:=found k v hk;rw[hx]at hj;have:=Option.some.inj hj;omega
 ·exact .inr h1
def ybw(R:List Int):Nat:=R.countP (fun x=>decide (x<0))
theorem yoa{R:List Int}{u:Nat}{x:Int}(hR:R[u]?=some (-1))(hx:0<=x):ybw (R.set u x)+1=ybw R:=by
 obtain⟨hlt,e⟩:=List.getElem?_eq_some_iff.1 hR;have h1:R=R.take u++R[u]::R.drop (u+1):=by rw[List.getElem_cons_drop,List.take_append_drop]
 have h2:R.set u x=R.take u++x::R.drop (u+1):=by rw[List.set_eq_take_append_cons_drop,if_pos hlt]
 have hx':decide (x<0)=false:=by simp;omega
 unfold ybw;rw[h2]
 conv=>rhs;rw[h1]
 rw[zAB,zAB,zAH,zAH,e,hx'];simp;omega
end
section
def yhy(R:List Int)(x:Int)(ls:List (Int×Int)):Bool:=ls.any (fun l=>decide (R[l.1.toNat]?=some x))
def yln(g:Gr)(d:Int)(R:List Int)(v:Nat):List Int :=
 if decide (R.getD v 0<0)&&yhy R (d-1) (g.ports.getD v [])then R.set v d else R
def stepD(g:Gr)(R:List Int)(d:Nat):List Int:=(zL g.ports.length).foldl (yln g d) R
def start(g:Gr)(a:Nat):List Int:=(zG g.ports.length (-1)).set a 0
def ybj(g:Gr)(a:Nat):List Int:=(zL (g.ports.length-1)).foldl (fun R d=>stepD g R (d+1)) (start g a)
def Upto(g:Gr)(a d v:Nat)(x:Int):Prop:=(x = -1/\∀k,k<=d->¬Walk g a k v)\/∃k:Nat,k<=d/\x=k/\Walk g a k v/\∀j,j<k->¬Walk g a j v
theorem Upto.eq{g:Gr}{a d v:Nat}{x:Int}(h:Upto g a d v x){k:Nat}(hk:k<=d):x=k↔Walk g a k v/\∀j,j<k->¬Walk g a j v:=by
 rcases h with⟨rfl,h1⟩|⟨i,hi,rfl,h1,h2⟩
 ·exact⟨fun e=>by omega,fun e=>absurd e.1 (h1 k hk)⟩
 ·constructor
  ·intro e;obtain rfl:i=k:=by omega
   exact⟨h1,h2⟩
  ·rintro⟨h3,h4⟩;rcases zAD i k with h|h|h
   ·exact absurd h1 (h4 i h)
   ·omega
   ·exact absurd h3 (h2 k h)
theorem Upto.more{g:Gr}{a d v:Nat}{x:Int}(h:Upto g a d v x)(hx:0<=x):Upto g a (d+1) v x:=by
 rcases h with⟨rfl,h1⟩|⟨i,hi,rfl,h1,h2⟩
 ·omega
 ·exact .inr ⟨i,by omega,rfl,h1,h2⟩
structure LayerInv(g:Gr)(a d v:Nat)(R:List Int):Prop where
 len:R.length=g.ports.length
 new:∀(u:Nat) (x:Int),R[u]?=some x->u<v->Upto g a (d+1) u x
 old:∀(u:Nat) (x:Int),R[u]?=some x->v<=u->Upto g a d u x
theorem LayerInv.at_{g:Gr}{a d v:Nat}{R:List Int}(h:LayerInv g a d v R){u:Nat}(hu:u<g.ports.length):R[u]?=some (d:Int)↔Walk g a d u/\∀j,j<d->¬Walk g a j u:=by
 have hl:=h.len;have e:R[u]?=some R[u]:=zB (by omega)
 have hx:R[u]=(d:Int)↔Walk g a d u/\∀j,j<d->¬Walk g a j u:=by
  by_cases hv:u<v
  ·exact(h.new u _ e hv).eq (by omega)
  ·exact(h.old u _ e (by omega)).eq (by omega)
 rw[e]
 simpa using hx
theorem LayerInv.step{g:Gr}(hg:ybh g){a d v:Nat}{R:List Int}(h:LayerInv g a d v R)(hv:v<g.ports.length):LayerInv g a d (v+1) (yln g ((d:Int)+1) R v):=by
 have hlen:=h.len;have ev:R[v]?=some R[v]:=zB (by omega)
 have eg:R.getD v 0=R[v]:=by simp[zI,ev]
 have ep:g.ports.getD v []=g.ports[v]:=by simp[zI,zB hv]
 have hhas:yhy R ((d:Int)+1-1) g.ports[v]=true↔∃u,adj g u v/\Walk g a d u/\∀j,j<d->¬Walk g a j u:=by
  unfold yhy;rw[List.any_eq_true];constructor
  ·rintro⟨l,hl,h1⟩;have hlk:=hg.link (zB hv) hl;have h1:=of_decide_eq_true h1;rw[show(d:Int)+1-1=d by omega]at h1
   refine⟨l.1.toNat,hg.adj_symm ⟨_,zB hv,l,hl,by omega⟩,?_⟩
   exact(h.at_ (by omega)).1 h1
  ·rintro⟨u,hu,hw⟩;obtain⟨hu1,_⟩:=hg.adj_lt hu;obtain⟨ls,h1,l,hl,e⟩:=hg.adj_symm hu;rw[zB hv]at h1;cases h1
   refine⟨l,hl,decide_eq_true ?_⟩;rw[e,zF,show(d:Int)+1-1=d by omega]
   exact(h.at_ hu1).2 hw
 have hov:=h.old v _ ev (zC _);unfold yln;rw[eg,ep]
 by_cases c1:R[v]<0
 ·have hx:R[v] = -1/\∀k,k<=d->¬Walk g a k v:=by
   rcases hov with h1|⟨k,_,e,_⟩
   ·exact h1
   ·omega
  by_cases c2:yhy R ((d:Int)+1-1) g.ports[v]=true
  ·rw[if_pos (by rw[zM];exact⟨decide_eq_true c1,c2⟩)]
   obtain⟨p,hp,hw,_⟩:=hhas.1 c2;have hset:∀t,t≠v->(R.set v ((d:Int)+1))[t]?=R[t]?:=fun t ht=>by rw[zH,if_neg (by omega)]
   refine⟨by simp[hlen],fun u x hu huv=>?_,fun u x hu huv=>?_⟩
   ·by_cases e:u=v
    ·subst e;rw[zH,if_pos rfl,if_pos (by omega)]at hu
     cases hu
     exact .inr ⟨d+1,zC _,by omega,⟨p,hw,hp⟩,fun j hj=>hx.2 j (by omega)⟩
    ·rw[hset u e]at hu;exact h.new u x hu (by omega)
   ·rw[hset u (by omega)]at hu
    exact h.old u x hu (by omega)
  ·rw[if_neg (fun e=>c2 (zM _ _▸e).2)];refine⟨hlen,fun u x hu huv=>?_,fun u x hu huv=>h.old u x hu (by omega)⟩
   by_cases e:u=v
   ·subst e;rw[ev]at hu;cases hu
    refine .inl ⟨hx.1,fun k hk hw=>?_⟩;rcases zAO d k with hlt|hge
    ·obtain rfl:k=d+1:=by omega
     obtain⟨p,hp,hpv⟩:=hw;refine c2 (hhas.2 ⟨p,hpv,hp,fun j hj hw'=>hx.2 (j+1) (by omega) ⟨p,hw',hpv⟩⟩)
    ·exact hx.2 k hge hw
   ·exact h.new u x hu (by omega)
 ·rw[if_neg (by simp[c1])]
  refine⟨hlen,fun u x hu huv=>?_,fun u x hu huv=>h.old u x hu (by omega)⟩
  by_cases e:u=v
  ·subst e;exact(h.old u x hu (zC _)).more (by rw[ev]at hu;cases hu;omega)
  ·exact h.new u x hu (by omega)
theorem yqa{g:Gr}(hg:ybh g){a d:Nat}{R:List Int}(h:LayerInv g a d 0 R):∀v,v<=g.ports.length->LayerInv g a d v ((zL v).foldl (yln g ((d:Int)+1)) R)
 |0,_=>h
 | v+1,hv=>by
   rw[zAI,zQ];exact(yqa hg h v (by omega)).step hg (by omega)
def yrj(g:Gr)(a d:Nat)(R:List Int):Prop:=R.length=g.ports.length/\∀(u:Nat) (x:Int),R[u]?=some x->Upto g a d u x
theorem ybbb{g:Gr}{a:Nat}(ha:a<g.ports.length):yrj g a 0 (start g a):=by
 refine⟨by simp[start],fun u x hu=>?_⟩
 unfold start at hu;rw[zH]at hu;split at hu
 ·rename_i e
  subst e;simp[ha]at hu;subst hu;exact .inr ⟨0,zC _,rfl,rfl,fun j hj=>absurd hj (by omega)⟩
 ·rename_i e
  rw[zO]at hu;split at hu
  ·cases hu
   refine .inl ⟨rfl,fun k hk hw=>?_⟩;obtain rfl:k=0:=by omega
   exact e hw.symm
  ·cases hu
theorem ybax{g:Gr}(hg:ybh g){a d:Nat}{R:List Int}(h:yrj g a d R):yrj g a (d+1) (stepD g R (d+1)):=by
 have h0:LayerInv g a d 0 R:=⟨h.1,fun _ _ _ hu=>absurd hu (by omega),fun u x hu _=>h.2 u x hu⟩
 have h1:=yqa hg h0 g.ports.length (zC _);unfold stepD;rw[show((d+1:Nat):Int)=(d:Int)+1 by omega]
 exact⟨h1.len,fun u x hu=>h1.new u x hu (by rw[<-h1.len];exact(List.getElem?_eq_some_iff.1 hu).1)⟩
theorem ymq{g:Gr}(hg:ybh g){a:Nat}(ha:a<g.ports.length):∀d,yrj g a d ((zL d).foldl (fun R d=>stepD g R (d+1)) (start g a))
 |0=>ybbb ha
 |d+1=>by rw[zAI,zQ];exact ybax hg (ymq hg ha d)
theorem chain{g:Gr}{a:Nat}:∀k v,Walk g a k v->(∀j,j<k->¬Walk g a j v)->∃f:Nat->Nat,∀j,j<=k->Walk g a j (f j)/\∀i,i<j->¬Walk g a i (f j)
 | 0,v,h,_=>⟨fun _=>v,fun j hj=>by obtain rfl:j=0:=by omega
                                   exact⟨h,fun i hi=>absurd hi (by omega)⟩⟩
 | k + 1,v,h,hm=>by
   obtain⟨p,hp,hpv⟩:=h;obtain⟨f,hf⟩:=chain k p hp (fun j hj hw=>hm (j+1) (by omega) ⟨p,hw,hpv⟩)
   refine⟨fun j=>if j<=k then f j else v,fun j hj=>?_⟩
   by_cases hjk:j<=k
   ·simp only[if_pos hjk];exact hf j hjk
   ·obtain rfl:j=k+1:=by omega
    simp only[if_neg hjk];exact⟨⟨p,hp,hpv⟩,hm⟩
theorem walk_lt{g:Gr}(hg:ybh g){a:Nat}(ha:a<g.ports.length):∀k v,Walk g a k v->v<g.ports.length
 |0,v,h=>by obtain rfl:v=a:=h;exact ha
 |k+1,v,h=>by obtain⟨u,_,hu⟩:=h;exact(hg.adj_lt hu).2
theorem least_walk{g:Gr}{a v:Nat}:∀k,Walk g a k v->∃j,j<=k/\Walk g a j v/\∀i,i<j->¬Walk g a i v:=by
 intro k
 induction k using Nat.strongRecOn with
 | _ k ih =>
   intro hw
   by_cases h:∃j,j<k/\Walk g a j v
   ·obtain⟨j,hj,hwj⟩:=h;obtain⟨i,hi,r⟩:=ih j hj hwj;exact⟨i,by omega,r⟩
   ·exact⟨k,zC _,hw,fun i hi hwi=>h ⟨i,hi,hwi⟩⟩
theorem yoh{g:Gr}(hg:ybh g){a v k:Nat}(ha:a<g.ports.length)(h:Walk g a k v)(hm:∀j,j<k->¬Walk g a j v):k<g.ports.length:=by
 obtain⟨f,hf⟩:=chain k v h hm;have hinj:∀i j,i<j->j<=k->f i≠f j:=fun i j hij hj e=>(hf j hj).2 i hij (by rw[<-e];exact(hf i (by omega)).1)
 have h1:((zL (k+1)).map f).Nodup:=by
  rw[List.Nodup,List.pairwise_map];refine(List.Pairwise.and_mem.1 List.pairwise_lt_range).imp ?_;rintro i j ⟨_,hj,hij⟩;exact hinj i j hij (by simp at hj;omega)
 have h2:(zL (k+1)).map f ⊆ zL g.ports.length:=by
  intro x hx;obtain⟨j,hj,rfl⟩:=List.mem_map.1 hx;simp only[List.mem_range]at hj ⊢;exact walk_lt hg ha j _ (hf j (by omega)).1
 have:=List.Nodup.length_le_of_subset h1 h2;simp at this;omega
theorem ycs{g:Gr}(hg:ybh g){a:Nat}(ha:a<g.ports.length):ynb g a (ybj g a):=by
 obtain⟨h1,h2⟩:=ymq hg ha (g.ports.length-1);refine⟨h1,fun v x hx=>?_⟩;rcases h2 v x hx with⟨rfl,h3⟩|⟨k,_,r⟩
 ·refine .inl ⟨rfl,fun k hk=>?_⟩;obtain⟨j,_,hj,hm⟩:=least_walk k hk;have:=yoh hg ha hj hm;exact h3 j (by omega) hj
 ·exact .inr ⟨k,r⟩
theorem ynb.bound{g:Gr}(hg:ybh g){a:Nat}(ha:a<g.ports.length){D:List Int}(h:ynb g a D):∀x∈D,-1<=x/\x<=24:=by
 intro x hx;obtain⟨v,hv,rfl⟩:=List.mem_iff_getElem.1 hx;rcases h.2 v _ (zB hv)with⟨e,_⟩|⟨k,e,h1,h2⟩
 ·omega
 ·have:=yoh hg ha h1 h2;have:=hg.2.1;omega
end
section
def ycu(g:Gr):Bool:=ybt g&&(ybj g 0).all (fun x=>decide (0<=x))
def ybk(D:List Int):Int:=D.foldl max (-1)
def ykz(g:Gr)(v:Int):List Int:=if ybt g=true/\0<=v/\v<g.ports.length then ybj g v.toNat else[]
def eccP(g:Gr)(v:Int):Int:=if ycu g=true/\0<=v/\v<g.ports.length then ybk (ybj g v.toNat)else -1
def ycm(D:List Int):Int:=if D.all (fun x=>decide (0<=x))=true then ybk D else -1
theorem ykw(D:List Int):∀m:Int,m<=D.foldl max m:=by
 induction D with
 |nil=>intro m;exact Int.le_refl _
 |cons x D ih=>intro m;exact zAC (Int.le_max_left m x) (ih _)
theorem yib(D:List Int)(k:Nat)(hk:k<D.length):ybk (D.take (k+1))=max (ybk (D.take k)) D[k]:=by
 unfold ybk;rw[take_snoc D k hk,zQ];rfl
theorem yse(D:List Int)(m:Int)(hm:-1<=m)(h:∀x∈D,x<=m):ybk D<=m:=by
 unfold ybk
 suffices ∀a:Int,a<=m->D.foldl max a<=m from this _ hm
 induction D with
 |nil=>intro a ha;exact ha
 |cons x D ih=>intro a ha;exact ih (fun y hy=>h y (by simp[hy])) _ (Int.max_le.2 ⟨ha,h x (by simp)⟩)
theorem yto(D:List Int):∀x∈D,x<=ybk D:=by
 unfold ybk
 suffices ∀a:Int,∀x∈D,x<=D.foldl max a from this _
 induction D with
 |nil=>intro a x hx;simp at hx
 | cons y D ih =>
   intro a x hx;rcases List.mem_cons.1 hx with rfl|hx
   ·exact zAC (Int.le_max_right a x) (ykw D _)
   ·exact ih _ x hx
theorem yfk{g:Gr}(hg:ybh g){a:Nat}(ha:a<g.ports.length):(ybj g a).length=g.ports.length:=(ycs hg ha).1
theorem Walk.trans{g:Gr}{a b:Nat}:∀{j:Nat}{c:Nat}{k:Nat},Walk g a k b->Walk g b j c->Walk g a (k+j) c
 |0,c,k,h1,h2=>by obtain rfl:c=b:=h2;exact h1
 | j+1,c,k,h1,h2=>by
   obtain⟨u,hu,huc⟩:=h2;exact⟨u,Walk.trans h1 hu,huc⟩
theorem Walk.one{g:Gr}{a b:Nat}(h:adj g a b):Walk g a 1 b:=⟨a,rfl,h⟩
theorem Walk.symm{g:Gr}(hg:ybh g){a:Nat}:∀{k:Nat}{b:Nat},Walk g a k b->Walk g b k a
 |0,b,h=>by obtain rfl:b=a:=h;exact rfl
 | k+1,b,h=>by
   obtain⟨u,hu,hub⟩:=h;have:=Walk.trans (Walk.one (hg.adj_symm hub)) (Walk.symm hg hu)
   rwa [Nat.add_comm]at this
theorem yym{g:Gr}(hg:ybh g){a:Nat}(ha:a<g.ports.length):(ybj g a).all (fun x=>decide (0<=x))=true↔∀v,v<g.ports.length->∃k,Walk g a k v:=by
 have hd:=ycs hg ha;rw[zW];constructor
 ·intro h v hv;have hv':v<(ybj g a).length:=by rw[hd.1];exact hv
  rcases hd.2 v _ (zB hv')with⟨e,_⟩|⟨k,_,hk,_⟩
  ·have:=of_decide_eq_true (h _ (zK hv'));omega
  ·exact⟨k,hk⟩
 ·intro h x hx;obtain⟨v,hv,rfl⟩:=List.mem_iff_getElem.1 hx;obtain⟨k,hk⟩:=h v (by rw[<-hd.1];exact hv)
  rcases hd.2 v _ (zB hv)with⟨e,h1⟩|⟨k,e,_⟩
  ·exact absurd hk (h1 k)
  ·rw[e];simp
theorem yrs{g:Gr}(hg:ybh g){a b:Nat}(ha:a<g.ports.length)(hb:b<g.ports.length)(h:(ybj g a).all (fun x=>decide (0<=x))=true):(ybj g b).all (fun x=>decide (0<=x))=true:=by
 rw[yym hg ha]at h;rw[yym hg hb];intro v hv;obtain⟨k,hk⟩:=h v hv;obtain⟨j,hj⟩:=h b hb;exact⟨_,Walk.trans (Walk.symm hg hj) hk⟩
theorem ynl{g:Gr}(hv:ybt g=true){v:Int}(h1:0<=v)(h2:v<g.ports.length):ykz g v=ybj g v.toNat:=if_pos ⟨hv,h1,h2⟩
theorem yhm{g:Gr}{v:Int}(h:¬(ybt g=true/\0<=v/\v<g.ports.length)):ykz g v=[]:=if_neg h
theorem yhe:ycm [] = -1:=rfl
theorem ybby(g:Gr):decide (0<=ycm (ykz g 0))=ycu g:=by
 unfold ycu;cases hv:ybt g with
 | false =>
   rw[yhm (by simp[hv]),yhe]
   rfl
 | true =>
   have hg:=(ybn g).1 hv;have hn:=hg.1;rw[ynl hv (by omega) (by omega)]
   unfold ycm;simp only[Int.toNat_zero];cases ha:(ybj g 0).all (fun x=>decide (0<=x))with
   |false=>simp
   | true =>
     have hl:=yfk hg (a:=0) (by omega)
     have h0:(0:Int)<=ybk (ybj g 0):=by
      have hm:(ybj g 0)[0]'(by omega)∈ybj g 0:=zK _
      exact zAC (of_decide_eq_true (List.all_eq_true.1 ha _ hm)) (yto _ _ hm)
     simp[h0]
theorem ybgb(g:Gr)(v:Int):ycm (ykz g v)=eccP g v:=by
 unfold eccP ycu
 by_cases hr:ybt g=true/\0<=v/\v<g.ports.length
 ·obtain⟨hv,h1,h2⟩:=hr;have hg:=(ybn g).1 hv;rw[ynl hv h1 h2,hv];unfold ycm;cases ha:(ybj g v.toNat).all (fun x=>decide (0<=x))with
  | true =>
    have:=yrs hg (a:=v.toNat) (b:=0) (by omega) (by omega) ha
    simp[this,h1,h2]
  | false =>
    have:(ybj g 0).all (fun x=>decide (0<=x))=false:=by
     cases h0:(ybj g 0).all (fun x=>decide (0<=x))with
     |false=>rfl
     | true =>
       have:=yrs hg (a:=0) (b:=v.toNat) (by omega) (by omega) h0
       rw[ha]at this;cases this
    simp[this]
 ·rw[yhm hr,yhe,if_neg];intro h;exact hr ⟨(zM _ _▸h.1).1,h.2⟩
end
section
abbrev Conf:=List (List Int)
abbrev Bounds:=List (Int×Int)
def ybhs(bs:Bounds)(s:List Int):Bool:=decide (s.length=bs.length)&&(bs.zip s).all (fun p=>decide (p.1.1<=p.2)&&decide (p.2<=p.1.2))
def ylp(n:Nat)(bs:Nat->Bounds)(c:Conf):Bool:=decide (c.length=n)&&c.zipIdx.all (fun p=>ybhs (bs p.2) p.1)
def yih(bs:Bounds)(s:List Int):Prop:=s.length=bs.length/\∀(i:Nat) b x,bs[i]?=some b->s[i]?=some x->b.1<=x/\x<=b.2
def ybaa(n:Nat)(bs:Nat->Bounds)(c:Conf):Prop:=c.length=n/\∀(v:Nat) s,c[v]?=some s->yih (bs v) s
theorem ypn(bs:Bounds)(s:List Int):ybhs bs s=true↔yih bs s:=by
 unfold ybhs yih;rw[zM,decide_eq_true_iff,zW];refine and_congr_right fun _=>⟨fun h i b x hb hx=>?_,fun h p hp=>?_⟩
 ·have:=h (b,x) (zD (i:=i) (by simp[zU,hb,hx]))
  simpa using this
 ·obtain⟨i,hi⟩:=List.mem_iff_getElem?.1 hp;obtain⟨b,x⟩:=p;rw[zU]at hi
  simpa using h i b x hi.1 hi.2
theorem ymr(n:Nat)(bs:Nat->Bounds)(c:Conf):ylp n bs c=true↔ybaa n bs c:=by
 unfold ylp ybaa;rw[zM,decide_eq_true_iff,zW];refine and_congr_right fun _=>⟨fun h v s hs=>?_,fun h p hp=>?_⟩
 ·refine(ypn _ _).1 (h (s,v) ?_);rw[zS];exact hs
 ·rw[zS]at hp;exact(ypn _ _).2 (h p.2 p.1 hp)
theorem yge{n:Nat}{bs:Nat->Bounds}{c:Conf}(h:¬ybaa n bs c):ylp n bs c=false:=by
 cases hb:ylp n bs c with
 |false=>rfl
 |true=>exact absurd ((ymr n bs c).1 hb) h
theorem yqc{n:Nat}{bs:Nat->Bounds}{c:Conf}(h:ybaa n bs c):ylp n bs c=true:=(ymr n bs c).2 h
def ybcl(g:Gr)(v:Nat):Nat:=(g.ports.getD v []).length
def ydb(g:Gr)(G:List Int)(v:Nat):Bounds:=G.map (fun h=>if h = -1 then(-1,(ybcl g v:Int)-1)else(0,h))
def yhh(g:Gr):Int:=g.ids.foldl max 0
end
section
open Go.RowKit
theorem In_t(v lo hi:Int)(w:World)(h1:lo<=v)(h2:v<=hi) :
 Calls Try.prog 39 #[.int .i64 v,.int .i64 lo,.int .i64 hi] w fun e w'=>e = .returned (.bool true)/\w=w':=by
 go_enter Try.func39,Try.ntmps39
 go_wp2
 go_ret
 exact⟨rfl,rfl⟩
theorem In_f(v lo hi:Int)(w:World)(h:v<lo\/hi<v) :
 Calls Try.prog 39 #[.int .i64 v,.int .i64 lo,.int .i64 hi] w fun e w'=>e = .returned (.bool false)/\w=w':=by
 by_cases h1:lo<=v
 ·have h2:hi<v:=by omega
  go_enter Try.func39,Try.ntmps39
  go_wp2
  go_ret
  exact⟨yw (by simp;omega),rfl⟩
 ·go_enter Try.func39,Try.ntmps39
  go_wp2
  go_ret
  exact⟨rfl,rfl⟩
theorem yrd(gv:Value)(g:Gr)(v:Nat)(ls:List (Int×Int))(u:Int)(w:World)(hg:GrAt w gv g)(hv:g.ports[v]?=some ls) :
 Calls Try.prog 53 #[gv,.int .i64 v,.int .i64 u] w fun e w'=>e = .returned (.int .i64 (yfu ls u))/\Below w.heap.size w w':=by
 obtain⟨i,p,rfl,_,A,c,rfl,hc1,hc2,hp⟩:=hg;have hvlt:v<g.ports.length:=(List.getElem?_eq_some_iff.1 hv).1;obtain⟨b,off,rfl,hb,hP⟩:=hp (by omega)
 obtain⟨lv,hcell,A2,c2,rfl,hl1,hl2,hL⟩:=hP v ls hv;simp only[zAP]at hcell;have HL:=zA hL;have HP:=zA hP;have Hv:=zA hv
 clear hL hP hv hp
 go_enter Try.func53,Try.ntmps53
 go_wp2
 go_loop [7] (fun t=>∃k:Nat,k<=ls.length/\t = .int .i64 k/\Hid ((ls.take k).findIdx? (fun l=>l.1==u)=none)) (fun t=>ls.length-(intOf t).toNat)
 case atStart=>exact⟨0,by omega,rfl,zA (by simp)⟩
 case round =>
  obtain⟨k,hk,rfl,hnone⟩:=hrel
  by_cases hlt:k<ls.length
  ·obtain⟨b2,off2,rfl,hb2,hE⟩:=HL.out (by omega)
   obtain⟨e1,e2,hw1,hw2⟩:=hE k ls[k] (zB hlt);have HE:=zA hE
   clear hE
   by_cases heq:ls[k].1=u
   ·have heq':(ls[k].1==u)=true:=by simp[heq]
    have Hr:=zA (ypu ls u k hlt heq hnone.out)
    clear heq
    go_wp2
    go_ret
    exact⟨yjz Hr.out.symm,(Below.refl _ _).alloc (zC _) _⟩
   ·have heq':(ls[k].1==u)=false:=by simp[heq]
    have Hr:=zA (yvk ls u k hlt heq hnone.out)
    clear heq
    go_wp2
    go_round
    case rel=>exact⟨k+1,by omega,by go_num,Hr⟩
    case measure=>simp[intOf];omega
  ·have hkl:k=ls.length:=by omega
   subst hkl;have Hr:=zA (yxp ls u hnone.out)
   go_wp2
   go_ret
   exact⟨yjz Hr.out.symm,(Below.refl _ _).alloc (zC _) _⟩
theorem yfp(lv:Value)(ls:List (Int×Int))(v n:Int)(w:World)(hl:ywa w lv ls)(hn:0<=n/\n<=1000) :
 Calls Try.prog 52 #[lv,.int .i64 v,.int .i64 n] w fun e w'=>e = .returned (.bool (yiz ls v n))/\∃m,w'=w.drewN m:=by
 obtain⟨hn1,hn2⟩:=hn;obtain⟨A,c,rfl,hc1,hc2,hL⟩:=hl;have HL:=zA hL
 clear hL
 go_enter Try.func52,Try.ntmps52
 go_wp2
 go_loopw [7] (fun t wr=>∃k m:Nat,k<=ls.length/\t = .int .i64 k/\wr=w.drewN m/\Hid (yca (ls.take k) v n)) (fun t _=>ls.length-(intOf t).toNat)
 case atStart=>exact⟨0,0,by omega,rfl,rfl,zA ⟨by simp,by simp⟩⟩
 case round =>
  obtain⟨k,m,hk,rfl,rfl,hok⟩:=hrel
  by_cases hlt:k<ls.length
  ·obtain⟨b2,off2,rfl,hb2,hE⟩:=HL.out (by omega)
   obtain⟨e1,e2,⟨hw1,hw1'⟩,⟨hw2,hw2'⟩⟩:=hE k ls[k] (zB hlt);have HE:=zA hE
   clear hE
   have Hsn:=zA (ylf ls v n k hlt);have Hbad:=zA (fun h=>ymw ls v n (k+1) h)
   by_cases c1:0<=ls[k].1/\ls[k].1<=n-1
   ·obtain⟨c1a,c1b⟩:=c1
    by_cases c2:ls[k].1=v
    ·have c2':(ls[k].1==v)=true:=by simp[c2]
     have Hf:=zA (Hbad.out (fun h=>((Hsn.out.1 h).2.1).2.2.1 c2))
     clear c2
     go_wp2_with (first|(go_at_call 39;refine(In_t _ _ _ _ (by omega) (by omega)).mono ?_;rintro e w' ⟨rfl,rfl⟩))
     go_ret
     exact⟨yw Hf.out.symm,m,rfl⟩
    ·have c2':(ls[k].1==v)=false:=by simp[c2]
     by_cases c3:1<=ls[k].2/\ls[k].2<=15
     ·obtain⟨c3a,c3b⟩:=c3;have Hlk:=zA (show ygx v n ls[k]from⟨c1a,c1b,c2,c3a,c3b⟩)
      clear c2
      go_wp2_with (first|(go_at_call 39;refine(In_t _ _ _ _ (by omega) (by omega)).mono ?_;rintro e w' ⟨rfl,rfl⟩))
      go_loopw [8] (fun t wr=>∃j m2:Nat,j<=k/\t = .int .i64 j/\wr=w.drewN m2/\Hid (∀i (hi:i<j) (hj:j<=k),ls[i].1≠ls[k].1)) (fun t _=>k-(intOf t).toNat)
      case atStart=>exact⟨0,m,by omega,rfl,rfl,zA (fun i hi=>absurd hi (by omega))⟩
      case round =>
       obtain⟨j,m2,hj,rfl,rfl,hne⟩:=hrel
       by_cases hjk:j<k
       ·obtain⟨f1,f2,_,_⟩:=HE.out j ls[j] (zB (by omega))
        by_cases c4:ls[j].1=ls[k].1
        ·have c4':(ls[j].1==ls[k].1)=true:=by simp[c4]
         have Hf:=zA (Hbad.out (fun h=>(Hsn.out.1 h).2.2 j hjk c4))
         clear c4
         go_wp2
         go_quiet (fail)
         go_wp2
         go_ret
         exact⟨yw Hf.out.symm,_,World.drewN_drewN _ _ _⟩
        ·have c4':(ls[j].1==ls[k].1)=false:=by simp[c4]
         have Hc4:=zA c4
         clear c4
         go_wp2
         go_quiet (fail)
         go_wp2
         go_roundw
         case rel =>
          refine⟨j+1,_,by omega,by go_num,rfl,zA (fun i hi hj'=>?_)⟩
          by_cases hij:i<j
          ·exact hne.out i hij hj
          ·obtain rfl:i=j:=by omega
           exact Hc4.out
         case measure=>simp[intOf];omega
       ·obtain rfl:j=k:=by omega
        go_wp2
        go_roundw
        case rel=>exact⟨j+1,_,by omega,by go_num,rfl,zA (Hsn.out.2 ⟨hok.out,Hlk.out,fun i hi=>hne.out i hi (zC _)⟩)⟩
        case measure=>simp[intOf];omega
     ·have Hf:=zA (Hbad.out (fun h=>c3 ⟨((Hsn.out.1 h).2.1).2.2.2.1,((Hsn.out.1 h).2.1).2.2.2.2⟩))
      clear c2
      have c3':ls[k].2<1\/15<ls[k].2:=by omega
      clear c3
      go_wp2_with (first|(go_at_call 39;refine(In_t _ _ _ _ (by omega) (by omega)).mono ?_;rintro e w' ⟨rfl,rfl⟩)|(go_at_call 39;refine(In_f _ _ _ _ (by omega)).mono ?_;rintro e w' ⟨rfl,rfl⟩))
      go_ret
      exact⟨yw Hf.out.symm,m,rfl⟩
   ·have Hf:=zA (Hbad.out (fun h=>c1 ⟨((Hsn.out.1 h).2.1).1,((Hsn.out.1 h).2.1).2.1⟩));have c1':ls[k].1<0\/n-1<ls[k].1:=by omega
    clear c1
    go_wp2_with (first|(go_at_call 39;refine(In_f _ _ _ _ (by omega)).mono ?_;rintro e w' ⟨rfl,rfl⟩))
    go_ret
    exact⟨yw Hf.out.symm,m,rfl⟩
  ·obtain rfl:k=ls.length:=by omega
   have Ht:=zA (yot ls v n hok.out)
   go_wp2
   go_ret
   exact⟨yw Ht.out.symm,m,rfl⟩
end
section
open Go.RowKit
set_option maxHeartbeats 2000000 in
theorem ycx(gv:Value)(g:Gr)(w:World)(hg:GrAt w gv g) :
 Calls Try.prog 37 #[gv] w fun e w'=>e = .returned (.bool (ybt g))/\Below w.heap.size w w':=by
 have hg0:=zA hg;obtain⟨i,p,rfl,hi,hp⟩:=hg;obtain⟨A,c,rfl,hA1,hA2⟩:=ybb hi;obtain⟨A2,c2,rfl,hB1,hB2⟩:=ybb hp;have Hi:=zA hi;have Hp:=zA hp
 clear hi hp
 by_cases n1:1<=g.ports.length/\g.ports.length<=24
 ·obtain⟨n1a,n1b⟩ := n1
  by_cases n2:g.ids.length=g.ports.length
  ·have n2':((g.ids.length:Int)!=(g.ports.length:Int))=false:=by simp[n2]
   have Hn2:=zA n2;have n2a:g.ids.length<=g.ports.length:=by omega
   have n2b:g.ports.length<=g.ids.length:=by omega
   clear n2
   go_enter Try.func37,Try.ntmps37
   go_wp2_with (first|(go_at_call 39;refine(In_t _ _ _ _ (by omega) (by omega)).mono ?_;rintro e w' ⟨rfl,rfl⟩))
   go_loopw [4] (fun t wr=>∃k:Nat,k<=g.ports.length/\t = .int .i64 k/\Hid (Below (w.heap.size+1) (w.alloc (.cells #[.slice A g.ids.length c,.slice A2 g.ports.length c2] 25)) wr)/\Hid (∀v,v<k->V2 g v)) (fun t _=>g.ports.length-(intOf t).toNat)
   case atStart=>exact⟨0,by omega,rfl,zA (Below.refl _ _),zA (fun v hv=>absurd hv (by omega))⟩
   case round =>
    obtain⟨k,hk,rfl,hbel,hv2⟩:=hrel;obtain⟨q0,q1,hbw,hsz⟩:=box2 hbel.out;have Hbw:=zA hbw
    clear hbw
    by_cases hlt:k<g.ports.length
    ·obtain⟨b,off,rfl,hb,hcid,hr⟩:=ydd (Hi.out.below Stable.int Hbw.out) (show k<g.ids.length by omega)
     obtain⟨b2,off2,lv,rfl,hb2,hcl,hls⟩:=ydf (Hp.out.below (Stable.sl Stable.link) Hbw.out) (zB hlt);obtain⟨A3,c3,rfl,hl1,hl2⟩:=ybb hls;have Hls:=zA hls
     clear hls
     obtain⟨x,hx⟩:∃x,g.ids[k]?=some x:=⟨_,zB (by omega)⟩
     have hxe:g.ids[k]=x:=by have:=zB (l:=g.ids) (i:=k) (by omega);rw[hx]at this;exact(Option.some.inj this).symm
     simp only[hxe]at hcid hr;obtain⟨ls,hle⟩:∃ls,g.ports[k]=ls:=⟨_,rfl⟩;have hlp:g.ports[k]?=some ls:=by rw[zB hlt,hle]
     simp only[hle]at hcl hl1 Hls;have Hx:=zA hx;have Hlp:=zA hlp
     clear hx hxe hle hlp
     obtain⟨hr1,hr2⟩:=hr;have Hbad:=zA (fun h=>yml (g:=g) (v:=k) hlt h)
     by_cases c1:0<=x/\x<=255
     ·obtain⟨c1a,c1b⟩:=c1
      by_cases c2:ls.length<g.ports.length
      ·have c2d:decide (g.ports.length<=ls.length)=false:=by simp;omega
       by_cases c3:yiz ls (k:Int) (g.ports.length:Int)=true
       ·go_wp2_with (first|(go_at_call 39;refine(In_t _ _ _ _ (by omega) (by omega)).mono ?_;rintro e w' ⟨rfl,rfl⟩)|(go_at_call 52;refine(yfp _ ls _ _ _ Hls.out ⟨by omega,by omega⟩).mono ?_;rintro e w' ⟨rfl,m,rfl⟩))
        obtain⟨w2,hw2⟩:∃w2,w2=wr.drewN m:=⟨_,rfl⟩;rw[<-hw2];have Hb2:=zA (yon hbel.out hw2)
        clear hw2
        go_loopw [5] (fun t wq=>∃j m2:Nat,j<=k/\t = .int .i64 j/\wq=w2.drewN m2/\Hid (∀u y,u<j->g.ids[u]?=some y->y≠x)) (fun t _=>k-(intOf t).toNat)
        case atStart=>exact⟨0,0,by omega,rfl,rfl,zA (fun u y hu=>absurd hu (by omega))⟩
        case round =>
         obtain⟨j,m2,hj,rfl,rfl,hne⟩:=hrel;obtain⟨q0,q1,hbw,hsz⟩:=box2 Hb2.out;have Hbw2:=zA hbw;obtain⟨b',off',e',hb',hcid,_⟩:=ydd (Hi.out.below Stable.int Hbw2.out) (show k<g.ids.length by omega)
         cases e'
         clear hbw
         have hkx:g.ids[k]=x:=by have:=zB (l:=g.ids) (i:=k) (by omega);rw[Hx.out]at this;exact(Option.some.inj this).symm
         rw[hkx]at hcid
         clear hkx
         by_cases hjk:j<k
         ·obtain⟨b',off',e',hb',hcj,_⟩:=ydd (Hi.out.below Stable.int Hbw2.out) (show j<g.ids.length by omega)
          cases e'
          by_cases c4:g.ids[j]=x
          ·have c4':(g.ids[j]==x)=true:=by simp[c4]
           have Hf:=zA (Hbad.out (fun h=>(h x ls Hx.out Hlp.out).2.2.2 j _ hjk (zB (by omega)) c4))
           clear c4
           go_wp2
           go_quiet (fail)
           go_wp2
           go_ret
           exact⟨yw Hf.out.symm,below_drewN (below_drewN (box2 Hb2.out).2.2.1 _) _⟩
          ·have c4':(g.ids[j]==x)=false:=by simp[c4]
           have Hc4:=zA c4
           clear c4
           go_wp2
           go_quiet (fail)
           go_wp2
           go_roundw
           case rel =>
            refine⟨j+1,_,by omega,by go_num,rfl,zA (fun u y hu hy=>?_)⟩
            by_cases huj:u<j
            ·exact hne.out u y huj hy
            ·obtain rfl:u=j:=by omega
             rw[zB (by omega)]at hy
             cases hy
             exact Hc4.out
           case measure=>simp[intOf];omega
         ·obtain rfl:j=k:=by omega
          go_wp2
          go_roundw
          case rel =>
           refine⟨j+1,by omega,by go_num,zA (below_drewN Hb2.out _),zA (fun v hv=>?_)⟩
           by_cases hvj:v<j
           ·exact hv2.out v hvj
           ·obtain rfl:v=j:=by omega
            intro x' ls' hx' hls';rw[Hx.out]at hx';rw[Hlp.out]at hls';cases hx'
            cases hls'
            exact⟨⟨c1a,c1b⟩,c2,c3,hne.out⟩
          case measure=>simp[intOf];omega
       ·have c3':yiz ls (k:Int) (g.ports.length:Int)=false:=by simpa using c3
        have Hf:=zA (Hbad.out (fun h=>c3 (h x ls Hx.out Hlp.out).2.2.1))
        clear c3
        go_wp2_with (first|(go_at_call 39;refine(In_t _ _ _ _ (by omega) (by omega)).mono ?_;rintro e w' ⟨rfl,rfl⟩)|(go_at_call 52;refine(yfp _ ls _ _ _ Hls.out ⟨by omega,by omega⟩).mono ?_;rintro e w' ⟨rfl,m,rfl⟩))
        go_ret
        exact⟨yw Hf.out.symm,below_drewN Hbw.out _⟩
      ·have c2d:decide (g.ports.length<=ls.length)=true:=by simp;omega
       have Hf:=zA (Hbad.out (fun h=>c2 (h x ls Hx.out Hlp.out).2.1))
       go_wp2_with (first|(go_at_call 39;refine(In_t _ _ _ _ (by omega) (by omega)).mono ?_;rintro e w' ⟨rfl,rfl⟩)|(go_at_call 52;refine(yfp _ ls _ _ _ Hls.out ⟨by omega,by omega⟩).mono ?_;rintro e w' ⟨rfl,m,rfl⟩))
       go_ret
       exact⟨yw Hf.out.symm,Hbw.out⟩
     ·have Hf:=zA (Hbad.out (fun h=>c1 (h x ls Hx.out Hlp.out).1));have c1':x<0\/255<x:=by omega
      clear c1
      go_wp2_with (first|(go_at_call 39;refine(In_f _ _ _ _ (by omega)).mono ?_;rintro e w' ⟨rfl,rfl⟩))
      go_ret
      exact⟨yw Hf.out.symm,Hbw.out⟩
    ·obtain rfl:k=g.ports.length:=by omega
     go_wp2
     go_loopw [6] (fun t wr=>∃k:Nat,k<=g.ports.length/\t = .int .i64 k/\Hid (Below (w.heap.size+1) (w.alloc (.cells #[.slice A g.ids.length c,.slice A2 g.ports.length c2] 25)) wr)/\Hid (∀v i,v<k->V3 g v i)) (fun t _=>g.ports.length-(intOf t).toNat)
     case atStart=>exact⟨0,by omega,rfl,hbel,zA (fun v i hv=>absurd hv (by omega))⟩
     case round =>
      clear hbel Hbw q0 q1 hsz
      obtain⟨k,hk,rfl,hbel,hv3⟩:=hrel;obtain⟨q0,q1,hbw,hsz⟩:=box2 hbel.out;have Hbw:=zA hbw
      clear hbw
      by_cases hlt:k<g.ports.length
      ·obtain⟨ls,hle⟩:∃ls,g.ports[k]=ls:=⟨_,rfl⟩;have hlp:g.ports[k]?=some ls:=by rw[zB hlt,hle]
       have Hlp:=zA hlp
       clear hle hlp
       have Hlk:=zA (show ∀l∈ls,ygx k g.ports.length l by
        have:=(hv2.out k hlt _ ls (zB (by omega)) Hlp.out).2.2.1
        exact fun l hl=>(of_decide_eq_true this).1 l hl)
       have Hbad:=zA (fun i h=>ynv (g:=g) (v:=k) (i:=i) hlt h)
       go_wp2
       go_loopw [7] (fun t wr=>∃i:Nat,i<=ls.length/\t = .int .i64 i/\Hid (Below (w.heap.size+1) (w.alloc (.cells #[.slice A g.ids.length c,.slice A2 g.ports.length c2] 25)) wr)/\Hid (∀j,j<i->V3 g k j)) (fun t _=>ls.length-(intOf t).toNat)
       case atStart=>exact⟨0,by omega,rfl,hbel,zA (fun j hj=>absurd hj (by omega))⟩
       case round =>
        clear hbel Hbw q0 q1 hsz
        obtain⟨i,hi,rfl,hbel,hv3'⟩:=hrel;obtain⟨q0,q1,hbw,hsz⟩:=box2 hbel.out;have Hbw:=zA hbw;obtain⟨b2,off2,lv,rfl,hb2,hcl,hls⟩:=ydf (Hp.out.below (Stable.sl Stable.link) Hbw.out) Hlp.out;obtain⟨A3,c3,rfl,hl1,hl2⟩:=ybb hls
        by_cases hil:i<ls.length
        ·obtain⟨A4,c4,e4,_,_,hE⟩:=hls;cases e4
         obtain⟨b3,off3,rfl,hb3,hE⟩:=hE (by omega)
         obtain⟨⟨l1,wt⟩,hle⟩:∃l,ls[i]=l:=⟨_,rfl⟩;have hl?:ls[i]?=some (l1,wt):=by rw[zB hil,hle]
         obtain⟨hx1,hx2,⟨hr1,hr2⟩,⟨hr3,hr4⟩⟩:=hE i _ hl?;have hlk:=Hlk.out (l1,wt) (zD hl?);unfold ygx at hlk;obtain⟨k1,k2,k3,k4,k5⟩:=hlk;simp only at k1 k2 k3 k4 k5 hx1 hx2 hr1 hr2 hr3 hr4;obtain⟨t,rfl⟩:=zJ k1;have htl:t<g.ports.length:=by omega
         obtain⟨b',off',lv',e',hb',hcl',hls'⟩:=ydf (Hp.out.below (Stable.sl Stable.link) Hbw.out) (zB htl);cases e'
         obtain⟨A5,c5,rfl,hm1,hm2⟩:=ybb hls';obtain⟨ls',hle'⟩:∃ls',g.ports[t]=ls':=⟨_,rfl⟩;have Hlp':=zA (show g.ports[t]?=some ls' by rw[zB htl,hle'])
         rw[hle']at hls' hcl' hm1;have Hl?:=zA hl?;have HE:=zA hE;have Hls':=zA hls';have Hbb:=zA (Hbad.out i)
         clear hle hle' hl? hE hls' k1 k3 hbw
         have Hgr:=zA (hg0.out.below Hbw.out);rcases yqg (ls:=ls') (u:=(k:Int))with hpt|⟨q,hpt,hq⟩
         ·have Hpt:=zA hpt
          clear hpt
          have Hf:=zA (Hbb.out (fun h=>by
           obtain⟨ls2,q2,l2,f1,f2,_⟩:=h ls _ Hlp.out Hl?.out;rw[zF,Hlp'.out]at f1;cases f1
           rw[Hpt.out]at f2;omega))
          go_wp2_with fail
          refine(yrd _ g t ls' k _ (Hgr.out.below ((Below.refl _ _).alloc (zC _) _)) Hlp'.out).mono ?_;rintro e w3 ⟨rfl,hb3w⟩;rw[Hpt.out];have d0:=keepA hb3w _ _ q0;have d1:=keepA hb3w _ _ q1;have d2:=keepA hb3w _ _ hcl';obtain⟨d3,d4⟩:=ysl hb3w;have Hb3:=zA (yfv hb3w);have hz3:wr.heap.size<w3.heap.size:=by have:=hb3w.size;simp at this;omega
          clear hb3w
          go_wp2
          go_quiet (fail)
          go_wp2
          go_ret
          exact⟨yw Hf.out.symm,below_drewN (Hbw.out.trans (Hb3.out.mono Hbw.out.size)) _⟩
         ·have Hpt:=zA hpt
          clear hpt
          obtain⟨A6,c6,e6,_,_,hE6⟩:=Hls'.out;cases e6
          obtain⟨b6,off6,rfl,hb6,hE6⟩:=hE6 (by omega)
          obtain⟨⟨y1,y2⟩,hqe⟩:∃l,ls'[q]=l:=⟨_,rfl⟩;have hq?:ls'[q]?=some (y1,y2):=by rw[zB hq,hqe]
          obtain⟨_,hx4,_,_⟩:=hE6 q _ hq?;simp only at hx4;have Hq?:=zA hq?
          clear hqe hq? hE6
          by_cases c7:y2=wt
          ·have c7':(y2 != wt)=false:=by simp[c7]
           have Hv:=zA (show V3 g k i from fun ls2 l2 f1 f2=>by
            rw[Hlp.out]at f1;cases f1
            rw[Hl?.out]at f2;cases f2
            exact⟨ls',q,(y1,y2),by rw[zF];exact Hlp'.out,Hpt.out,Hq?.out,c7⟩)
           clear c7
           go_wp2_with fail
           refine(yrd _ g t ls' k _ (Hgr.out.below ((Below.refl _ _).alloc (zC _) _)) Hlp'.out).mono ?_;rintro e w3 ⟨rfl,hb3w⟩;rw[Hpt.out];have d0:=keepA hb3w _ _ q0;have d1:=keepA hb3w _ _ q1;have d2:=keepA hb3w _ _ hcl';obtain⟨d3,d4⟩:=ysl hb3w;have Hb3:=zA (yfv hb3w);have hz3:wr.heap.size<w3.heap.size:=by have:=hb3w.size;simp at this;omega
           clear hb3w
           have d5:=(Hb3.out.cell hb6).trans hx4
           go_wp2
           go_quiet (fail)
           go_wp2
           go_roundw
           case rel =>
            refine⟨i+1,by omega,by go_num,zA (below_drewN (hbel.out.trans (Hb3.out.mono (by have:=hbel.out.size;simp at this;omega))) _),zA (fun j hj=>?_)⟩
            by_cases hji:j<i
            ·exact hv3'.out j hji
            ·obtain rfl:j=i:=by omega
             exact Hv.out
           case measure=>simp[intOf];omega
          ·have c7':(y2 != wt)=true:=by simp[c7]
           have Hf:=zA (Hbb.out (fun h=>by
            obtain⟨ls2,q2,l2,f1,f2,f3,f4⟩:=h ls _ Hlp.out Hl?.out;rw[zF,Hlp'.out]at f1;cases f1
            rw[Hpt.out]at f2;obtain rfl:q=q2:=by omega
            rw[Hq?.out]at f3;cases f3
            exact c7 f4))
           clear c7
           go_wp2_with fail
           refine(yrd _ g t ls' k _ (Hgr.out.below ((Below.refl _ _).alloc (zC _) _)) Hlp'.out).mono ?_;rintro e w3 ⟨rfl,hb3w⟩;rw[Hpt.out];have d0:=keepA hb3w _ _ q0;have d1:=keepA hb3w _ _ q1;have d2:=keepA hb3w _ _ hcl';obtain⟨d3,d4⟩:=ysl hb3w;have Hb3:=zA (yfv hb3w);have hz3:wr.heap.size<w3.heap.size:=by have:=hb3w.size;simp at this;omega
           clear hb3w
           have d5:=(Hb3.out.cell hb6).trans hx4
           go_wp2
           go_quiet (fail)
           go_wp2
           go_ret
           exact⟨yw Hf.out.symm,below_drewN (Hbw.out.trans (Hb3.out.mono Hbw.out.size)) _⟩
        ·obtain rfl:i=ls.length:=by omega
         have HE:=zA hls
         clear hls hbw
         go_wp2
         go_roundw
         case rel =>
          refine⟨k+1,by omega,by go_num,hbel,zA (fun v j hv=>?_)⟩
          by_cases hvk:v<k
          ·exact hv3.out v j hvk
          ·obtain rfl:v=k:=by omega
           by_cases hj:j<ls.length
           ·exact hv3'.out j hj
           ·intro ls2 l2 f1 f2;rw[Hlp.out]at f1;cases f1
            rw[zY (by omega)]at f2
            cases f2
         case measure=>simp[intOf];omega
      ·obtain rfl:k=g.ports.length:=by omega
       have Ht:=zA (show ybt g=true from decide_eq_true (ybh.of n1a n1b Hn2.out hv2.out (fun v i hv=>hv3.out v i hv)))
       go_wp2
       go_ret
       exact⟨yw Ht.out.symm,Hbw.out⟩
  ·have n2':((g.ids.length:Int)!=(g.ports.length:Int))=true:=by simp;omega
   have Hf:=zA (ydc (g:=g) (fun h=>n2 h.2.2))
   clear n2
   go_enter Try.func37,Try.ntmps37
   go_wp2_with (first|(go_at_call 39;refine(In_t _ _ _ _ (by omega) (by omega)).mono ?_;rintro e w' ⟨rfl,rfl⟩))
   go_ret
   exact⟨yw Hf.out.symm,(Below.refl _ _).alloc (zC _) _⟩
 ·have Hf:=zA (ydc (g:=g) (fun h=>n1 ⟨h.1,h.2.1⟩));have n1':g.ports.length<1\/24<g.ports.length:=by omega
  clear n1
  go_enter Try.func37,Try.ntmps37
  go_wp2_with (first|(go_at_call 39;refine(In_f _ _ _ _ (by omega)).mono ?_;rintro e w' ⟨rfl,rfl⟩))
  go_ret
  exact⟨yw Hf.out.symm,(Below.refl _ _).alloc (zC _) _⟩
end
section
open Go.RowKit
def ybum(acc:Int×Int->Bool)(ls:List (Int×Int)):Int:=match ls.findIdx? acc with|some i=>i|none=>-1
end
section
def ybpd(D:List Int)(v:Nat)(l:Int×Int):Bool:=D.getD l.1.toNat 0==D.getD v 0-1
def wayP(g:Gr)(D:List Int)(v:Nat):Int:=ybum (ybpd D v) (g.ports.getD v [])
end
section
def ycbi(ids:List Int)(k:Nat):Int:=(ids.take k).tail.foldl max (ids.headD 0)
abbrev maxI(ids:List Int):Int:=ycbi ids ids.length
end
section
namespace Sh
open Go Ev
def ybf(l:List Int):SV:=.sl 1 l.length (fun k=>[.i .i64 (l.getD k 0)])
def ybc(ls:List (Int×Int)):SV:=.sl 2 ls.length (fun j=>[.i .i64 (ls.getD j (0,0)).1,.i .i64 (ls.getD j (0,0)).2])
def yu(ps:List (List (Int×Int))):SV:=.sl 1 ps.length (fun v=>[ybc (ps.getD v [])])
def ycb(c:List (List Int)):SV:=.sl 1 c.length (fun v=>[ybf (c.getD v [])])
def grV(g:Gr):SV:=.ag [ybf g.ids,yu g.ports]
theorem ik{n:Int}(h1:-1000000000000<=n)(h2:n<=1000000000000):inK .i64 n:=by
 unfold inK;simp[IntKind.min,IntKind.max,IntKind.bits,IntKind.signed];omega
theorem ikw{n:Int}(h1:-4611686018427387904<=n)(h2:n<=4611686018427387904):inK .i64 n:=by
 unfold inK;simp[IntKind.min,IntKind.max,IntKind.bits,IntKind.signed];omega
theorem getD_at{α:Type}{l:List α}{k:Nat}{d:α}(h:k<l.length):l.getD k d=l[k]:=by simp[zI,h]
theorem ybao{l:List Int}{i k:Nat}{x:Int}(h:i<l.length):(l.set i x).getD k 0=if k=i then x else l.getD k 0:=by
 simp only[zI,zH]
 by_cases q:i=k
 ·subst q;simp[h]
 ·rw[if_neg q,if_neg (Ne.symm q)]
theorem ytx(l:List Int)(hl:l.length<=100000):Returns Try.prog 42 [ybf l] (.i .i64 (ybk l)):=by
 refine Returns.of (ybtg _ _ ?_);simp only[c42,ybxo,ybvl,ybzx,ybf,go_sem,zAM,↓reduceIte,reduceCtorEq];refine ycp (σ:=Nat) (fun k=>⟨[(8,.i .i64 k),(3,.i .i64 (ybk (l.take k))),(6,ybf l),(7,.i .i64 l.length)],[]⟩) (fun k=>k<=l.length) (fun k=>l.length-k) 0 (zAQ _) ?_ ?_
 ·refine yba [] [] [] ?_;simp only[ybf,allQ,live,yh,ydt,Int.natCast_zero,go_sem,zX,↓reduceIte,reduceCtorEq];simp[ybk]
 ·intro k hk;simp only[ybwk,ybwo,ybur,ybyt,ybuz,ybf,ydt,go_sem,zX,zAM,↓reduceIte,reduceCtorEq];refine⟨fun h=>⟨by omega,ik (by omega) (by omega),?_⟩,fun h=>?_⟩
  ·refine ybd (k+1) (by omega) (by omega) ?_
   refine yba [] [] [] ?_;have hlt:k<l.length:=by omega
   simp only[yib l k hlt,getD_at hlt,allQ,live,yh,ydt,go_sem,zX,↓reduceIte,reduceCtorEq];simp
  ·obtain rfl:k=l.length:=by omega
   simp
end Sh
end
section
namespace Sh
open Go Ev Go.RowKit
def GrI(g:Gr):Prop:=(∀x∈g.ids,I64 x)/\∀ls∈g.ports,∀l∈ls,I64 l.1/\I64 l.2
def yox(c:List (List Int)):Prop:=∀s∈c,∀x∈s,I64 x
section
variable {G:AM}{m:Mem}{φ:Phi}{M:AM}{w:World}{u u':Value}
theorem ybid {α:Type}{z n:Nat}{gg:Nat->List SV}{xs:List α}{E:Elem α}(hG:Le G m.b.get) (hr:RV G om0 (.sl z n gg) u) (hv:VR φ u u') (hR:Rel φ M w) (hs:Sub m M) (hn:xs.length=n)
 (hE:∀k x b o L L',xs[k]?=some x->RVL G om0 (gg k) L->VRL φ L L'->(∀j v,L'[j]?=some v->w.cell? ⟨b,o+j,none⟩=some v)->E w b o x):SlAt z E w u' xs:=by
 rcases hr.sl_inv with⟨rfl,h0⟩|⟨bk,p,cp,T,N,e,zz,L,rfl,g1,g2,g3,g4,g5,g6,g7⟩
 ·have:xs=[]:=List.eq_nil_of_length_eq_zero hn;subst this;rcases h0 with rfl|⟨b,o,c,rfl⟩
  ·have e:=hv.eq_simple rfl;subst e;exact SlAt.nil w
  ·obtain⟨lc,A,c',k1,k2,k3,k4,k5,k6,k7⟩:=hv.slice_inv;subst k3;exact⟨some A,c',rfl,zAQ _,k6,fun q=>absurd q (by simp)⟩
 ·obtain⟨lc,A,c',k1,k2,k3,k4,k5,k6,k7⟩:=hv.slice_inv;subst k3;subst hn;refine⟨some A,c',rfl,k4,k6,fun hpos=>?_⟩;rcases k7 with⟨rfl,_⟩|k7
  ·obtain⟨lc',h1,h2⟩:=hR.blk _ _ (hs _ _ (hG _ _ g1));have k1':φ bk=some lc:=k1;rw[k1']at h1;cases h1
   obtain⟨h3,h4,cs,e2,fz2,h0,h5,h6,h7⟩:=h2;refine⟨lc.blk,lc.base+p,rfl,(Array.getElem?_eq_some_iff.1 h5).1,fun k x hx=>?_⟩;have hk:k<xs.length:=(List.getElem?_eq_some_iff.1 hx).1;have hin:=ygw (z:=z) hk;have hcells:∀j v,j<z->(L k)[j]?=some v->∃v',cs[lc.base+(p+k*z+j)]?=some v'/\VR φ v v':=fun j v hj hv=>h7 _ v (by omega) (by rw[g5 k hk j hj];exact hv)
   have hex:∀(l:List Value) (q:Nat),(∀j v,l[j]?=some v->∃v',cs[q+j]?=some v'/\VR φ v v')->∃l',VRL φ l l'/\∀j v,l'[j]?=some v->cs[q+j]?=some v:=by
    intro l
    induction l with
    |nil=>intro q _;exact⟨[],.nil,fun j v h=>by simp at h⟩
    | cons a l ih =>
      intro q h;obtain⟨v',e1,e2⟩:=h 0 a rfl;obtain⟨l',e3,e4⟩:=ih (q+1) (fun j v hv=>by have:=h (j+1) v (by simpa using hv);rw[show q+1+j=q+(j+1)by omega];exact this)
      refine⟨v'::l',.cons e2 e3,fun j v hv=>?_⟩;cases j with
      |zero=>simp at hv;subst hv;exact e1
      |succ j=>have:=e4 j v (by simpa using hv);rw[show q+(j+1)=q+1+j by omega];exact this
   obtain⟨L',r1,r2⟩:=hex (L k) (lc.base+p+k*z) (fun j v hv=>by
    have hj:j<z:=by rw[<-g4 k hk];exact(List.getElem?_eq_some_iff.1 hv).1
    have:=hcells j v hj hv;rw[show lc.base+p+k*z+j=lc.base+(p+k*z+j)by omega]
    exact this)
   exact hE k x _ _ (L k) L' hx (g6 k hk) r1 fun j v hv=>cell_of h5 (by have:=r2 j v hv;exact this)
  ·omega
theorem ints_at{l:List Int}(hG:Le G m.b.get)(hr:RV G om0 (ybf l) u)(hv:VR φ u u')(hR:Rel φ M w)(hs:Sub m M)(hI:∀x∈l,I64 x):yhb w u' l:=by
 refine ybid hG hr hv hR hs rfl fun k x b o L L' hx hL hL' hc=>?_;have hk:k<l.length:=(List.getElem?_eq_some_iff.1 hx).1;have hxe:l.getD k 0=x:=by simp[zI,hx]
 rw[hxe]at hL;cases hL with
 | cons a b =>
   cases b
   cases a.int_inv
   obtain⟨v',rfl,hvv⟩:=yed hL';have:=hvv.eq_simple rfl;subst this;exact⟨hc 0 _ rfl,hI x (zD hx)⟩
theorem ybkb{ls:List (Int×Int)}(hG:Le G m.b.get)(hr:RV G om0 (ybc ls) u)(hv:VR φ u u')(hR:Rel φ M w)(hs:Sub m M)(hI:∀l∈ls,I64 l.1/\I64 l.2):ywa w u' ls:=by
 refine ybid hG hr hv hR hs rfl fun k x b o L L' hx hL hL' hc=>?_;have hxe:ls.getD k (0,0)=x:=by simp[zI,hx]
 rw[hxe]at hL;cases hL with
 | cons a b =>
   cases b with
   | cons a2 b2 =>
     cases b2
     cases a.int_inv
     cases a2.int_inv
     obtain⟨v1,v2,rfl,h1,h2⟩:=ykf hL';have:=h1.eq_simple rfl;subst this;have:=h2.eq_simple rfl;subst this;exact⟨hc 0 _ rfl,hc 1 _ rfl,hI x (zD hx)⟩
theorem ybmk{ps:List (List (Int×Int))}(hG:Le G m.b.get)(hr:RV G om0 (yu ps) u)(hv:VR φ u u')(hR:Rel φ M w)(hs:Sub m M)(hI:∀ls∈ps,∀l∈ls,I64 l.1/\I64 l.2):yqz w u' ps:=by
 refine ybid hG hr hv hR hs rfl fun k x b o L L' hx hL hL' hc=>?_;have hxe:ps.getD k []=x:=by simp[zI,hx]
 rw[hxe]at hL;cases hL with
 | cons a b =>
   cases b
   obtain⟨v',rfl,hvv⟩:=yed hL';exact⟨v',hc 0 _ rfl,ybkb hG a hvv hR hs (hI x (zD hx))⟩
theorem ybil{c:List (List Int)}(hG:Le G m.b.get)(hr:RV G om0 (ycb c) u)(hv:VR φ u u')(hR:Rel φ M w)(hs:Sub m M)(hI:yox c):yben w u' c:=by
 refine ybid hG hr hv hR hs rfl fun k x b o L L' hx hL hL' hc=>?_;have hxe:c.getD k []=x:=by simp[zI,hx]
 rw[hxe]at hL;cases hL with
 | cons a b =>
   cases b
   obtain⟨v',rfl,hvv⟩:=yed hL';exact⟨v',hc 0 _ rfl,ints_at hG a hvv hR hs (hI x (zD hx))⟩
theorem yvq{g:Gr}(hG:Le G m.b.get)(hr:RV G om0 (grV g) u)(hv:VR φ u u')(hR:Rel φ M w)(hs:Sub m M)(hI:GrI g):GrAt w u' g:=by
 obtain⟨L,rfl,hL⟩:=hr.ag_inv;cases hL with
 | cons a b =>
   cases b with
   | cons a2 b2 =>
     cases b2
     obtain⟨L',rfl,hL'⟩:=hv.agg_inv;obtain⟨v1,v2,rfl,h1,h2⟩:=ykf hL';exact⟨v1,v2,rfl,ints_at hG a h1 hR hs hI.1,ybmk hG a2 h2 hR hs hI.2⟩
end
theorem yla {g:FuncId}{args:List SV}{r:SV}{v:Value}(hg:∃fn c,Try.prog.funcs[g]?=some fn/\fn.body=some c) (hrv:∀F,RV F om0 r v) (hvr:∀φ,VR φ v v)
 (h:∀(G:AM) (m:Mem) (us:List Value),Le G m.b.get->RVL G om0 args us->∀φ M w us',Rel φ M w->Sub m M->VRL φ us us'->Calls Try.prog g us'.toArray w fun e w'=>e = .returned v/\Below w.heap.size w w'):Returns Try.prog g args r:=by
 intro G m us hw hle hr;refine⟨v,enterM m,r,yia ybcb hg fun φ M w us' hR hs hv=>(h G m us hle hr φ M w us' hR hs hv).mono ?_,zC _,Le.refl _,rfl,hrv _⟩;rintro e w' ⟨rfl,hb⟩;exact⟨v,rfl,hvr φ,hb⟩
theorem rvl1{F:AM}{ω:Om}{a:SV}{us:List Value}(h:RVL F ω [a] us):∃u,us=[u]/\RV F ω a u:=by
 cases h with|cons x y=>cases y;exact⟨_,rfl,x⟩
theorem rvl2{F:AM}{ω:Om}{a b:SV}{us:List Value}(h:RVL F ω [a,b] us):∃u v,us=[u,v]/\RV F ω a u/\RV F ω b v:=by
 cases h with|cons x y=>obtain⟨v,rfl,q⟩:=rvl1 y;exact⟨_,v,rfl,x,q⟩
end Sh
end
section
open Go.RowKit
theorem ybib(n k:Nat)(hk:k<n):(zG k (-1:Int)++zG (n-k) 0).set k (-1)=zG (k+1) (-1)++zG (n-(k+1)) 0:=by
 apply zAF
 ·simp;omega
 ·intro i h1 h2;rw[List.getElem_set];split
  ·subst_vars
   rw[zN (by simp)]
   simp
  ·by_cases hi:i<k
   ·rw[zN (by simpa using hi),zN (by simp;omega)];simp
   ·rw[zV (by simp;omega),zV (by simp;omega)];simp
theorem yji(g:Gr)(a:Nat)(h:g.ports.length<=24):1+ybw (start g a)<=30:=by
 have h1:=List.countP_le_length (p:=fun x:Int=>decide (x<0)) (l:=start g a);have h2:(start g a).length=g.ports.length:=by simp[start]
 unfold ybw;omega
set_option maxHeartbeats 2000000 in
theorem ybca(gv:Value)(g:Gr)(a:Nat)(w:World)(hg:GrAt w gv g)(hgood:ybh g)(ha:a<g.ports.length) :
 Calls Try.prog 43 #[gv,.int .i64 a] w (ybhz (ybj g a) w):=by
 have hn24:=hgood.2.1;have Hgood:=zA hgood
 clear hgood
 obtain⟨i,p,rfl,hi,hp⟩:=hg;obtain⟨A2,c2,rfl,hB1,hB2⟩:=ybb hp;have Hp:=zA hp
 clear hi hp
 have hmk:=yuz g.ports.length (by omega)
 go_enter Try.func43,Try.ntmps43
 go_wp2
 go_loopg [17] g.ports.length (fun q t wr=>∃k:Nat,q+k=g.ports.length/\t = .int .i64 k/\Hid (Below (w.heap.size+1) (w.alloc (.cells #[i,.slice A2 g.ports.length c2] 25)) wr)/\Hid (IBlk wr (w.heap.size+1) (zG k (-1)++zG (g.ports.length-k) 0)))
 case atStart =>
  refine⟨0,by omega,rfl,zA ((Below.refl _ _).alloc (by simp) _),zA ?_⟩
  have:=IBlk.new (w.alloc (.cells #[i,.slice A2 g.ports.length c2] 25)) (zG g.ports.length (0:Int))
  simpa using this
 case round =>
  obtain⟨k,hq,rfl,hbel,hblk⟩:=hrel
  by_cases hlt:k<g.ports.length
  ·obtain⟨x,hx⟩:∃x,wr.cell? ⟨w.heap.size+1,k,none⟩=some (.int .i64 x):=⟨_,hblk.out.cell (by simp;omega)⟩
   have hf:=hblk.out.frozen k
   go_wp2
   go_roundg (gk-1)
   case measure=>omega
   case rel =>
    refine⟨k+1,by omega,by go_num,zA (hbel.out.setCell (by simp) _),zA ?_⟩
    have:=hblk.out.set_ k (-1)
    rwa [ybib _ _ hlt]at this
  ·obtain rfl:k=g.ports.length:=by omega
   have hblk0:IBlk wr (w.heap.size+1) (zG g.ports.length (-1)):=by simpa using hblk.out
   obtain⟨x,hx⟩:∃x,wr.cell? ⟨w.heap.size+1,a,none⟩=some (.int .i64 x):=⟨_,hblk0.cell (by simpa using ha)⟩
   have hf:=hblk0.frozen a;have Hb0:=zA hblk0
   clear hblk0 hblk hmk
   go_wp2
   go_loopg [7] (1+ybw (start g a)) (fun q t wr=>∃R Q,q=Q.length+ybw R/\q<=30/\Hid (Below (w.heap.size+1) (w.alloc (.cells #[i,.slice A2 g.ports.length c2] 25)) wr)/\Hid (IBlk wr (w.heap.size+1) R)/\Hid (BfsInv g a R Q)/\Hid (Owns wr (w.heap.size+2) 3 1 t Q.length (Q.map (fun q:Nat=>Value.int .i64 (q:Int)))))
   case atStart =>
    refine⟨start g a,[a],rfl,yji g a hn24,zA ((hbel.out.setCell (by simp) _).alloc (by have:=hbel.out.size;simp at this ⊢;omega) _),zA ((Hb0.out.set_ a 0).alloc _),zA (BfsInv.start ha),zA ?_⟩
    refine⟨rfl,.inr ⟨_,0,1,#[.int .i64 (a:Int)],rfl,?_,?_,zC _,by simp[maxLen],by simp,?_⟩⟩
    ·have:=Hb0.out.lt;simp;omega
    ·have:=heap_alloc_new (wr.setCell ⟨w.heap.size+1,a,none⟩ (.int .i64 0)) (.cells #[.int .i64 (a:Int)] 3);simpa using this
    ·intro j u hu
     simpa using hu
   case round =>
    clear hbel Hb0 hx hf
    obtain⟨R,Q,hq,hq30,hbel,hblk,hinv,hown⟩:=hrel;obtain⟨AQ,cQ,rfl⟩:=hown.out.val;cases Q with
    | nil =>
      have Hd:=zA (hinv.out.isDist.unique (ycs Hgood.out ha))
      go_wp2
      go_ret
      have h:=hblk.out.ints (fun x hx=>by have:=hinv.out.isDist.bound Hgood.out ha x hx;unfold I64;omega) (by rw[hinv.out.len];omega)
      rw[hinv.out.len,Hd.out]at h;exact⟨_,rfl,h,(box2 hbel.out).2.2.1⟩
    | cons v Q =>
      obtain⟨gQ,oQ,cap,hv,hg1,hg2,hg3,hg4,hcell⟩:=hown.out.form (by simp)
      cases hv
      have hc0:=hcell 0 (.int .i64 (v:Int)) rfl;simp only[zAN]at hc0;have Hcell:=zA hcell;obtain⟨d,hd⟩:=hinv.out.qin v (by simp)
      have hvl:v<g.ports.length:=by rw[<-hinv.out.len];exact(List.getElem?_eq_some_iff.1 hd).1
      obtain⟨q0,q1,hbw,hsz⟩:=box2 hbel.out;obtain⟨b2,off2,lv,rfl,hb2,hclw,hls⟩:=ydf Hp.out (zB hvl);have hcl:=ybi hbw _ _ hclw
      clear hclw
      obtain⟨A3,c3,rfl,hl1,hl2⟩:=ybb hls;obtain⟨ls,hle⟩:∃ls,g.ports[v]=ls:=⟨_,rfl⟩;have Hlp:=zA (show g.ports[v]?=some ls by rw[zB hvl,hle])
      rw[hle]at hls hcl hl1;have Hls:=zA hls;have Hin:=zA (hinv.out.pop hd ls);have Hbw:=zA hbw
      clear hle hls hbw hcell hinv hd
      simp only[zAE]at hq hg3 hown hc0;obtain⟨i0,hi0,hz0,hz1,hz2⟩:=info_parts yrb;obtain⟨vQ,hsl,hoQ,hobQ⟩:=ybir (P:=Try.prog) Try.underlying22 hi0 hz1 hown.out (k:=1) (by simp) (by simp)
      simp only[Nat.add_sub_cancel,zAP,zAL,zAA,zAK]at hoQ;have hsl':∀W,(Instr.slice 22 (.slice (some ⟨gQ,oQ,none⟩) (Q.length+1) cQ) (some (.int .i64 1)) none none).run Try.prog W = .ok vQ W:=fun W=>by simpa using hsl W
      have HoQ:=zA hoQ;have Hi0:=zA (show _/\_/\_/\_ from⟨hi0,hz0,hz1,hz2⟩)
      clear hoQ hown hsl hobQ hi0 hz0 hz1 hz2
      unfold maxLen at hg4
      go_wp2
      clear hsl'
      obtain⟨go,rfl⟩:∃go,go=gk:=⟨_,rfl⟩
      go_loopg [43,7] ls.length (fun q t tq wr=>∃(k:Nat) (R:List Int) (Q:List Nat),q+k=ls.length/\t = .int .i64 k/\Hid (go=Q.length+1+ybw R)/\Hid (Below (w.heap.size+1) (w.alloc (.cells #[i,.slice (some ⟨b2,off2,none⟩) g.ports.length c2] 25)) wr)/\Hid (IBlk wr (w.heap.size+1) R)/\Hid (BfsIn g a v d ls k R Q)/\Hid (Owns wr (w.heap.size+2) 3 1 tq Q.length (Q.map (fun q:Nat=>Value.int .i64 (q:Int)))))
      case atStart=>exact⟨0,R,Q,by omega,rfl,zA (by omega),hbel,hblk,Hin,HoQ⟩
      case round =>
       clear hbel hblk Hin HoQ hq hcl q0 q1 Hbw hsz
       obtain⟨k,R,Q,hq,rfl,Hgk,hbel,hblk,Hin,HoQ⟩:=hrel
       by_cases hlt:k<ls.length
       ·obtain⟨q0,q1,hbw,hsz⟩:=box2 hbel.out;have Hbw:=zA hbw;obtain⟨A4,c4,e4,_,_,hE⟩:=Hls.out.below Stable.link hbw;cases e4
        obtain⟨b3,off3,rfl,hb3,hE⟩:=hE (by omega)
        obtain⟨⟨l1,wt⟩,hle⟩:∃l,ls[k]=l:=⟨_,rfl⟩;have hl?:ls[k]?=some (l1,wt):=by rw[zB hlt,hle]
        obtain⟨hx1,hx2,⟨hr1,hr2⟩,⟨hr3,hr4⟩⟩:=hE k _ hl?;obtain⟨k1,k2,k3,k4,k5⟩:=Hgood.out.link Hlp.out (zD hl?);simp only at k1 k2 k3 k4 k5 hx1 hx2 hr1 hr2 hr3 hr4;obtain⟨u,rfl⟩:=zJ k1;have hul:u<R.length:=by rw[Hin.out.len];omega
        have hvR:v<R.length:=by rw[Hin.out.len];omega
        have hRv:R[v]?=some (d:Int):=Hin.out.rv;have hcv:=hblk.out.cell hvR;rw[show R[v]=(d:Int)by have:=zB hvR;rw[hRv]at this;exact(Option.some.inj this).symm]at hcv
        have hcu:=hblk.out.cell hul;have hfu:=hblk.out.frozen u
        have hd24:d<g.ports.length:=by
         rcases Hin.out.val v _ hRv with e|⟨k',e,h1,h2⟩
         ·omega
         ·obtain rfl:d=k':=by omega
          exact yoh Hgood.out ha h1 h2
        have hle1:ls[k].1=(u:Int):=by rw[hle]
        have hRu:R[u]?=some R[u]:=zB hul;have hB:w.heap.size+1<wr.heap.size:=hblk.out.lt
        clear hE hl? hle hbw k1 k3 hRv
        by_cases hneg:R[u]<0
        ·have hRm:R[u]?=some (-1):=by
          rcases Hin.out.val u _ hRu with e|⟨k',e,_⟩
          ·exact hRu.trans (congrArg some e)
          ·exact absurd e (by omega)
         have Hd:=zA (Hin.out.discover Hlp.out hlt hle1 hRm);have Hun:=zA (yoa (R:=R) (u:=u) (x:=(d:Int)+1) hRm (by omega))
         clear hRu hRm hle1
         go_wp2
         go_region
         go_wp2_with (at_builtin;refine yfh _ rfl _ _ 22 rfl (w.heap.size+2) 3 i0 (.int .i64 0) 1 8 Try.underlying22 Hi0.out.1 Hi0.out.2.1 Hi0.out.2.2.1 Hi0.out.2.2.2 rfl (by decide) u7 Q.length (Q.map (fun q:Nat=>Value.int .i64 (q:Int))) (by rfl) ?hown _ 1 1 [.int .i64 (u:Int)] (by rfl) rfl ?c1 ?c2 ?c3 ?c4 ?c5 ?_)
         case hown=>exact(((HoQ.out.low (p:=⟨w.heap.size+1,u,none⟩) (by simp) _).alloc _).alloc _).drew
         case c1=>exact yzl (by simp)
         case c2=>simp[Value.oneCell']
         case c3=>have:=Hgk.out;simp only[maxLen];omega
         case c4=>have:=Hgk.out;omega
         case c5=>simp;omega
         intro vQ' w' hown' hgr hob;have hgo:=Hgk.out;have Hown:=zA hown';have Hgr:=zA hgr
         clear hown' hgr hob
         go_wp2
         go_roundg (gk-1)
         case measure=>omega
         case rel =>
          have hb1:=(((hbel.out.setCell (p:=⟨w.heap.size+1,u,none⟩) (by simp) (.int .i64 ((d:Int)+1))).alloc (by simp;omega) (.cells #[.int .i64 (u:Int),.int .i64 wt] 55)).alloc (by simp;omega) (.cells #[.int .i64 (u:Int)] 3)).drew
          have hk1:=((((hblk.out.set_ u ((d:Int)+1)).alloc (.cells #[.int .i64 (u:Int),.int .i64 wt] 55)).alloc (.cells #[.int .i64 (u:Int)] 3)).drew);refine⟨k+1,R.set u ((d:Int)+1),Q++[u],by omega,by go_num,zA ?_,zA (hb1.grown Hgr.out (by simp;omega) (fun x hx=>?_)),zA (hk1.grown Hgr.out (fun e=>?_)),Hd,zA ?_⟩
          ·have:=Hun.out;simp;omega
          ·have:=(HoQ.out.lt hx).1;omega
          ·have:=(HoQ.out.lt e.symm).1;omega
          ·have:=Hown.out
           simpa using this
        ·have hpos:0<=R[u]:=by omega
         obtain⟨j,hj⟩:=zJ hpos;have Hsk:=zA (Hin.out.skip hlt (j:=j) (by rw[hle1,zF,hRu,hj]))
         clear hRu hle1 hj
         go_wp2
         have hgo:=Hgk.out
         go_roundg (gk-1)
         case measure=>omega
         case rel=>exact⟨k+1,R,Q,by omega,by go_num,Hgk,zA (hbel.out.alloc (by omega) _),zA (hblk.out.alloc _),Hsk,zA (HoQ.out.alloc _)⟩
       ·obtain rfl:k=ls.length:=by omega
        go_wp2
        have hgo:=Hgk.out
        go_roundg (Q.length+ybw R)
        case measure=>omega
        case rel=>exact⟨R,Q,rfl,by omega,hbel,hblk,zA (Hin.out.finish Hlp.out),HoQ⟩
end
section
open Go.RowKit
@[irreducible] def zc256:Array Value:=zAJ 256 (.bool false)
theorem yjj:zc256=zAJ 256 (.bool false):=by unfold zc256;rfl
theorem ybbp:zc256.size=256:=by rw[yjj];simp
theorem ybag:zc256 ≠ #[]:=fun h=>by have:=ybbp;rw[h]at this;cases this
theorem ybyl(w:World):(zeroValue 75:Sem Value).run Try.prog w = .ok (.agg zc256) w:=by rw[yjj];kernel_rfl
attribute [simp] ybag ybyl
attribute [go_sem] ybag ybyl
def Seen(w:World)(g:Nat)(S:List Int):Prop:=∃cur,w.heap[g]?=some (.cells cur 75 (0,0))/\cur.size=256/\∀i:Nat,i<256->cur[i]?=some (.bool (decide ((i:Int)∈S)))
theorem Seen.cell{w:World}{g:Nat}{S:List Int}(h:Seen w g S){i:Nat}(hi:i<256):w.cell? ⟨g,i,none⟩=some (.bool (decide ((i:Int)∈S))):=by
 obtain⟨cur,h1,h2,h3⟩:=h;simp[World.cell?,h1,h3 i hi]
theorem Seen.frozen{w:World}{g:Nat}{S:List Int}(h:Seen w g S)(i:Nat):w.frozen? ⟨g,i,none⟩=false:=by
 obtain⟨cur,h1,h2,h3⟩:=h;simp[World.frozen?,h1]
theorem Seen.set_{w:World}{g:Nat}{S:List Int}(h:Seen w g S){i:Nat}:Seen (w.setCell ⟨g,i,none⟩ (.bool true)) g (S++[(i:Int)]):=by
 obtain⟨cur,h1,h2,h3⟩:=h;refine⟨cur.setIfInBounds i (.bool true),by simp[World.setCell,Array.getElem?_modify,h1],by simp[h2],fun j hj=>?_⟩
 rw[Array.getElem?_setIfInBounds];split
 ·subst_vars
  rw[if_pos (by omega)]
  simp
 ·rw[h3 j hj];congr 3;simp;omega
theorem Seen.start(w:World):Seen (w.alloc (.cells zc256 75)) w.heap.size []:=by
 refine⟨_,heap_alloc_new w _,by rw[yjj];simp,fun i hi=>?_⟩
 rw[yjj];simp[hi]
def yyn(ids:List Int):Bool:=decide ((∀x∈ids,0<=x/\x<=255)/\ids.Nodup)
def ynk(ids:List Int)(k:Nat):Prop:=(∀x∈ids.take k,0<=x/\x<=255)/\(ids.take k).Nodup
theorem ybgh{ids:List Int}{k:Nat}(hk:k<ids.length):ynk ids (k+1)↔ynk ids k/\(0<=ids[k]/\ids[k]<=255)/\ids[k]∉ids.take k:=by
 unfold ynk;rw[take_snoc ids k hk,List.nodup_append];constructor
 ·rintro⟨h1,h2,_,h3⟩;exact⟨⟨fun x hx=>h1 x (zZ _ hx),h2⟩,h1 _ (List.mem_append_right _ (by simp)),fun hm=>h3 _ hm _ (by simp) rfl⟩
 ·rintro⟨⟨h1,h2⟩,h3,h4⟩;refine⟨fun x hx=>?_,h2,by simp,fun a ha b hb e=>?_⟩
  ·rcases List.mem_append.1 hx with hx|hx
   ·exact h1 x hx
   ·simp at hx;subst hx;exact h3
  ·simp at hb;subst hb e;exact h4 ha
theorem yxl{ids:List Int}{k:Nat}(h:¬ynk ids k):yyn ids=false:=by
 unfold yyn;rw[decide_eq_false_iff_not];exact fun hd=>h ⟨fun x hx=>hd.1 x (List.mem_of_mem_take hx),hd.2.sublist (List.take_sublist _ _)⟩
theorem ybbx{ids:List Int}(h:ynk ids ids.length):yyn ids=true:=by
 unfold ynk at h;rw[zAG]at h;exact decide_eq_true h
set_option maxRecDepth 100000 in
set_option maxHeartbeats 1000000 in
theorem ylm(iv:Value)(ids:List Int)(w:World)(hi:yhb w iv ids) :
 Calls Try.prog 56 #[iv] w fun e w'=>e = .returned (.bool (yyn ids))/\Below w.heap.size w w':=by
 obtain⟨A,c,rfl,hA1,hA2⟩:=ybb hi;have Hi:=zA hi
 clear hi
 go_enter Try.func56,Try.ntmps56
 go_wp2
 go_loopg [8] ids.length (fun q t wr=>∃k:Nat,q+k=ids.length/\t = .int .i64 k/\Hid (Below w.heap.size w wr)/\Hid (Seen wr w.heap.size (ids.take k))/\Hid (ynk ids k))
 case atStart=>exact⟨0,by omega,rfl,zA ((Below.refl _ _).alloc (zC _) _),zA (Seen.start w),zA ⟨by simp,by simp⟩⟩
 case round =>
  obtain⟨k,hq,rfl,hbel,hseen,hok⟩:=hrel
  by_cases hlt:k<ids.length
  ·obtain⟨b,off,rfl,hb,hcid,hr⟩:=ydd (Hi.out.below Stable.int hbel.out) hlt;obtain⟨x,hx⟩:∃x,ids[k]=x:=⟨_,rfl⟩;have Hsn:=zA (ybgh hlt);rw[hx]at hcid hr Hsn;obtain⟨hr1,hr2⟩:=hr;have Hbad:=zA (fun h=>yxl (ids:=ids) (k:=k+1) h);have Hts:=zA (take_snoc ids k hlt);rw[hx]at Hts
   clear hx
   by_cases c1:0<=x/\x<=255
   ·obtain⟨c1a,c1b⟩:=c1;obtain⟨n,rfl⟩:=zJ c1a;have hcs:=hseen.out.cell (i:=n) (by omega)
    have hfs:=hseen.out.frozen n
    by_cases c2:(n:Int)∈ids.take k
    ·rw[decide_eq_true c2]at hcs;have Hf:=zA (Hbad.out (fun h=>(Hsn.out.1 h).2.2 c2))
     clear c2
     go_wp2
     go_ret
     exact⟨yw Hf.out.symm,hbel.out⟩
    ·rw[decide_eq_false c2]at hcs;have Hn:=zA (Hsn.out.2 ⟨hok.out,⟨by omega,by omega⟩,c2⟩)
     clear c2
     go_wp2
     go_roundg (gk-1)
     case measure=>omega
     case rel =>
      refine⟨k+1,by omega,by go_num,zA (hbel.out.setCell (zC _) _),zA ?_,Hn⟩
      rw[Hts.out];exact hseen.out.set_
   ·have Hf:=zA (Hbad.out (fun h=>c1 (Hsn.out.1 h).2.1))
    by_cases c3:x<0
    ·clear c1
     go_wp2
     go_ret
     exact⟨yw Hf.out.symm,hbel.out⟩
    ·have c4:255<x:=by omega
     clear c1
     go_wp2
     go_ret
     exact⟨yw Hf.out.symm,hbel.out⟩
  ·obtain rfl:k=ids.length:=by omega
   have Ht:=zA (ybbx hok.out)
   go_wp2
   go_ret
   exact⟨yw Ht.out.symm,hbel.out⟩
theorem ybhh(g:Gr)(h1:1<=g.ids.length)(h2:g.ids.length<=24)(h3:g.ports.length=g.ids.length):ybt g=(yyn g.ids&&symB g.ports):=by
 unfold ybt yyn symB;rw[<-Bool.decide_and];congr 1;apply propext;unfold ybh ybkk;constructor
 ·rintro⟨_,_,_,h4,h5,h6,h7⟩;exact⟨⟨h4,h5⟩,h6,h7⟩
 ·rintro⟨⟨h4,h5⟩,h6,h7⟩;exact⟨by omega,by omega,by omega,h4,h5,h6,h7⟩
set_option maxHeartbeats 1000000 in
theorem ynt(gv:Value)(g:Gr)(w:World)(hg:GrAt w gv g) :
 Calls Try.prog 49 #[gv] w fun e w'=>e = .returned (.bool (ybt g))/\Below w.heap.size w w':=by
 obtain⟨i,p,rfl,hi,hp⟩:=hg;obtain⟨A,c,rfl,hA1,hA2⟩:=ybb hi;obtain⟨A2,c2,rfl,hB1,hB2⟩:=ybb hp;have Hi:=zA hi;have Hp:=zA hp
 clear hi hp
 by_cases n1:1<=g.ids.length
 ·by_cases n2:g.ids.length<=24
  ·by_cases n3:g.ports.length=g.ids.length
   ·have n3':((g.ports.length:Int)!=(g.ids.length:Int))=false:=by simp[n3]
    have He:=zA (ybhh g n1 n2 n3);have n3a:g.ports.length<=24:=by omega
    clear n3
    go_enter Try.func49,Try.ntmps49
    go_wp2_with fail
    refine(ylm _ g.ids _ (Hi.out.below Stable.int ((Below.refl _ _).alloc (zC _) _))).mono ?_;rintro e w1 ⟨rfl,hb1⟩;have Hb1:=zA (yfv hb1);obtain⟨q0,q1⟩:=ysl hb1
    clear hb1
    cases hd:yyn g.ids with
    | false =>
      have Hv:=zA (show ybt g=false by rw[He.out,hd];rfl)
      go_wp2_with fail
      go_ret
      exact⟨yw Hv.out.symm,Hb1.out⟩
    | true =>
      have Hv:=zA (show ybt g=symB g.ports by rw[He.out,hd];rfl)
      go_wp2_with fail
      refine(yjc _ g.ports _ (Hp.out.below (Stable.sl Stable.link) Hb1.out) (by omega)).mono ?_
      rintro e w2 ⟨rfl,hb2⟩
      go_wp2_with fail
      go_ret
      exact⟨yw Hv.out.symm,Hb1.out.trans (hb2.mono Hb1.out.size)⟩
   ·have n3':((g.ports.length:Int)!=(g.ids.length:Int))=true:=by simp;omega
    have Hf:=zA (ydc (g:=g) (fun h=>n3 h.2.2.symm))
    clear n3
    go_enter Try.func49,Try.ntmps49
    go_wp2
    go_ret
    exact⟨yw Hf.out.symm,(Below.refl _ _).alloc (zC _) _⟩
  ·have Hf:=zA (ydc (g:=g) (fun h=>n2 (by omega)))
   go_enter Try.func49,Try.ntmps49
   go_wp2
   go_ret
   exact⟨yw Hf.out.symm,(Below.refl _ _).alloc (zC _) _⟩
 ·have Hf:=zA (ydc (g:=g) (fun h=>n1 (by omega)))
  go_enter Try.func49,Try.ntmps49
  go_wp2
  go_ret
  exact⟨yw Hf.out.symm,(Below.refl _ _).alloc (zC _) _⟩
end
section
namespace Sh
open Go Ev Go.RowKit
theorem yen{x:Int}(h:-4611686018427387904<=x/\x<=4611686018427387904):I64 x:=by
 unfold I64;omega
theorem ybzf{g:Gr}(hg:ybh g):GrI g:=by
 obtain⟨h1,h2,h3,h4,h5,h6,h7⟩:=hg;refine⟨fun x hx=>yen (by have:=h4 x hx;omega),fun ls hls l hl=>?_⟩
 obtain⟨v,hv,rfl⟩:=List.getElem_of_mem hls;obtain⟨a1,a2,a3,a4,a5⟩:=(h6 ⟨v,hv⟩).1 l hl;exact⟨yen (by omega),yen (by omega)⟩
theorem ypi{g:Gr}(hI:GrI g):Returns Try.prog 49 [grV g] (.b (ybt g)):=by
 refine yla ⟨_,_,Try.func49,rfl⟩ (fun _=>.b) (fun _=>.simple rfl) fun G m us hG hr φ M w us' hR hs hv=>?_;obtain⟨u,rfl,h1⟩:=rvl1 hr;obtain⟨u',rfl,h2⟩:=yed hv;exact ynt u' g w (yvq hG h1 h2 hR hs hI)
end Sh
end
section
namespace Sh
open Go Ev
def ybti:LO:=[o3 (.alloc 58 1 [.a (.string (ByteArray.mk #[])),.i .i64 0,.i .i64 0,.i .i64 0,.i .i64 0,.i .i64 0]) 8 0]
def ybsm:LO:=[mv' 0 9 0,mv' 1 10 0,mv' 2 11 0,mv' 3 12 0,o3 (.build [.a (.string (ByteArray.mk #[])),.i .i64 0,.i .i64 0,.i .i64 0,.i .i64 0,.i .i64 0] [(0,1,(.tmp 9)),(1,1,(ci' 1)),(3,1,(.tmp 10)),(4,1,(.tmp 11)),(5,1,(.tmp 12))]) 13 15,o0 (.store 6 (.tmp 8) (.tmp 13)) 31]
def c40:SC:=(.seq (.reg false ybti) (.seq (.reg false ybsm) .ret))
theorem ybwq:Fn 40 c40 [.c 8 true 6]:=fn_0 Try.func40 (by kernel_rfl) (by kernel_rfl)
end Sh
end
section
structure VarR where
 name:ByteArray
 kind:Int
 lo:Int
 hi:Int
 perNode:Int
 perID:Int
def varE:Elem VarR:=fun w b o x=>w.cell? ⟨b,o,none⟩=some (.string x.name)/\w.cell? ⟨b,o+1,none⟩=some (.int .i64 x.kind)/\w.cell? ⟨b,o+2,none⟩=some (.int .i64 x.lo)/\w.cell? ⟨b,o+3,none⟩=some (.int .i64 x.hi) /\
 w.cell? ⟨b,o+4,none⟩=some (.int .i64 x.perNode)/\w.cell? ⟨b,o+5,none⟩=some (.int .i64 x.perID)
theorem Stable.var:Stable varE:=fun _ _ _ _ _ h _ hx=>⟨h _ _ hx.1,h _ _ hx.2.1,h _ _ hx.2.2.1,h _ _ hx.2.2.2.1,h _ _ hx.2.2.2.2.1,h _ _ hx.2.2.2.2.2⟩
abbrev ybmu:=SlAt 6 varE
def ybgc(x:VarR):Prop:=(0<=x.lo/\x.lo<=100000)/\(-100000<=x.hi/\x.hi<=100000)/\(0<=x.perNode/\x.perNode<=1000)/\(0<=x.perID/\x.perID<=1000)
def yup(g:Gr)(v:Nat)(x:VarR):Int×Int :=
 if x.kind=2 then(0,1)else if x.kind=3 then(-1,(ybcl g v:Int)-1)else(x.lo,x.hi+x.perNode*(g.ports.length:Int)+x.perID*yhh g)
def yfa(g:Gr)(vars:List VarR)(v:Nat):Bounds:=vars.map (yup g v)
def yds(g:Gr)(c:Conf)(vars:List VarR):Bool:=ybt g&&ylp g.ports.length (yfa g vars) c
theorem ybbv(ids:List Int)(k:Nat)(hk:k<ids.length):(ids.take (k+1)).foldl max 0=max ((ids.take k).foldl max 0) ids[k]:=by
 rw[take_snoc ids k hk,zQ];rfl
theorem ysp(D:List Int)(m:Int)(h:∀x∈D,x<=m):∀a:Int,a<=m->D.foldl max a<=m:=by
 induction D with
 |nil=>intro a ha;exact ha
 |cons x D ih=>intro a ha;exact ih (fun y hy=>h y (by simp[hy])) _ (Int.max_le.2 ⟨ha,h x (by simp)⟩)
theorem yvv{g:Gr}(hg:ybh g):0<=yhh g/\yhh g<=255:=⟨ykw _ _,ysp _ _ (fun x hx=>(hg.2.2.2.1 x hx).2) _ (by omega)⟩
end
section
abbrev Tm:=Int×Int
structure SetR where
 var:Int
 val:List Tm
structure RuleR where
 name:ByteArray
 guard:List Tm
 sets:List SetR
structure ProgR where
 name:ByteArray
 vars:List VarR
 rules:List RuleR
instance:Inhabited VarR:=⟨⟨.empty,0,0,0,0,0⟩⟩
instance:Inhabited SetR:=⟨⟨0,[]⟩⟩
instance:Inhabited RuleR:=⟨⟨.empty,[],[]⟩⟩
inductive Ex where
 |leaf (op arg:Int)
 |un (op:Int) (a:Ex)
 |agg (op:Int) (a:Ex)
 |bin (op:Int) (a b:Ex)
 |ite (c a b:Ex)
def Ex.ser:Ex->List Tm
 |.leaf op arg=>[(op,arg)]
 |.un op a=>(op,0)::a.ser
 |.agg op a=>(op,0)::a.ser
 |.bin op a b=>(op,0)::(a.ser++b.ser)
 |.ite c a b=>(43,0)::(c.ser++(a.ser++b.ser))
def satP(a:Int):Int:=max (-1073741824) (min a 1073741824)
def ylb(b:Bool):Int:=if b then 1 else 0
def ybtz(a b:Int):Int:=if b=0 then 0 else if a.tmod b≠0/\(decide (a<0)≠decide (b<0))then a.tdiv b-1 else a.tdiv b
def unP(op a:Int):Int:=if op=18 then -a else ylb (a==0)
def cmpP(op a b:Int):Bool:=if op=35 then a==b else if op=36 then a != b else if op=37 then decide (a<b)else if op=38 then decide (a<=b)else if op=39 then decide (a>b)else decide (a>=b)
def binP(op a b:Int):Int :=
 if op=30 then satP (a*b)else if op=31 then satP (ybtz a b)else if op=32 then(if b=0 then 0 else satP (a-b*ybtz a b))else if op=33 then satP (a+b)else if op=34 then satP (a-b)
 else if op=41 then ylb (a != 0&&b != 0)else if op=42 then ylb (a != 0||b != 0)else ylb (cmpP op a b)
def countP(l:List Int):Int:=((l.filter (· != 0)).length:Int)
def ybvh(l:List Int):Int:=l.foldl min 1073741824
def ybfv(l:List Int):Int×Int:=l.foldl (fun p a=>if a>p.1 then(a,p.1)else(p.1,max p.2 a)) (-1073741824,-1073741824)
def ybzk(l:List Int):Nat->Int->Int
 |0,r=>r
 |n+1,r=>if l.elem r then ybzk l n (r+1)else r
def mexP(l:List Int):Int:=ybzk l (l.length+1) 0
def ybgn(l:List Int):Int:=match l.findIdx? (· != 0)with|some i=>i|none=>-1
def ycby(op:Int)(l:List Int):Int :=
 if op=20 then ylb (countP l==l.length)else if op=21 then ylb (decide (countP l>0))else if op=22 then countP l else if op=23 then ybgn l else if op=24 then ybvh l else if op=25 then(ybfv l).1
 else if op=26 then satP l.sum else if op=27 then mexP l else if op=28 then(ybfv l).2 else l.headD 0
structure Sc where
 g:Gr
 c:Conf
def ydy(g:Gr)(v port:Nat):Int×Int:=(g.ports.getD v []).getD port (0,0)
def ybms(g:Gr)(v:Nat):List Int:=(g.ports.getD v []).map fun l=>yfu (g.ports.getD l.1.toNat []) v
def ycar(g:Gr)(op:Int)(v:Nat)(port:Int):Int :=
 if op=6 then g.ids.length else if op=7 then yhh g else if op=8 then g.ids.getD v 0 else if op=9 then((g.ports.getD v []).length:Int)else if op=10 then ylb ((v:Int)==0)else if op=11 then port
 else(let l:=ydy g v port.toNat
  if op=13 then g.ids.getD l.1.toNat 0 else if op=14 then((g.ports.getD l.1.toNat []).length:Int)else if op=15 then ylb (l.1==0)else if op=16 then l.2 else(ybms g v).getD port.toNat 0)
def ycau(g:Gr)(c:Conf)(op arg:Int)(v:Nat)(port:Int):Int :=
 if op=1 then arg else if op=2 then 1 else if op=3 then 0 else if op=4 then -1 else if op=5 then(c.getD v []).getD arg.toNat 0 else if op=12 then(c.getD (ydy g v port.toNat).1.toNat []).getD arg.toNat 0
 else ycar g op v port
def yrm(g:Gr)(c:Conf)(v:Nat):Ex->Int->Int
 |.leaf op arg,p=>ycau g c op arg v p
 |.un op a,p=>unP op (yrm g c v a p)
 |.agg op a,_=>ycby op ((zL (g.ports.getD v []).length).map fun(q:Nat)=>yrm g c v a (q:Int))
 |.bin op a b,p=>binP op (yrm g c v a p) (yrm g c v b p)
 |.ite x a b,p=>if yrm g c v x p≠0 then yrm g c v a p else yrm g c v b p
def Ex.ok(nv:Int)(bnd:Bool):Ex->Bool
 |.leaf op arg=>decide (1<=op/\op<=17)&&(if op=1 then decide (0<=arg/\arg<=1073741824)else if op=5\/op=12 then decide (0<=arg/\arg<nv)else true)&&(if 11<=op then bnd else true)
 |.un op a=>decide (op=18\/op=19)&&a.ok nv bnd
 |.agg op a=>decide (20<=op/\op<=29)&&a.ok nv true
 |.bin op a b=>decide (30<=op/\op<=42)&&a.ok nv bnd&&b.ok nv bnd
 |.ite x a b=>x.ok nv bnd&&a.ok nv bnd&&b.ok nv bnd
def InB(x:Int):Prop:=-1073741824<=x/\x<=1073741824
structure ConfIn(n nv:Nat)(c:Conf):Prop where
 len:c.length=n
 row:∀s∈c,s.length=nv/\∀x∈s,InB x
theorem ConfIn.at_{n nv:Nat}{c:Conf}(h:ConfIn n nv c){v:Nat}(hv:v<n):(c.getD v []).length=nv/\∀k,InB ((c.getD v []).getD k 0):=by
 have hlt:v<c.length:=by rw[h.len];exact hv
 have e:c.getD v []=c[v]:=by simp[zI,hlt]
 obtain⟨h1,h2⟩:=h.row c[v] (zK hlt);rw[e];refine⟨h1,fun k=>?_⟩;rw[zT];cases hk:c[v][k]? with
 |none=>simp;unfold InB;omega
 |some x=>simp;exact h2 x (zD hk)
theorem ybh.ydy{g:Gr}(hg:ybh g){v p:Nat}(hv:v<g.ports.length)(hp:p<(g.ports.getD v []).length):0<=(ydy g v p).1/\(ydy g v p).1<g.ports.length/\1<=(ydy g v p).2/\(ydy g v p).2<=15:=by
 have e:g.ports.getD v []=g.ports[v]:=by simp[zI,hv]
 have h1:=hg.2.2.2.2.2.1 ⟨v,hv⟩;rw[e]at hp;have hm:(g.ports[v])[p]∈g.ports[v]:=zK hp;have h2:=h1.1 _ hm;unfold ygx at h2;have e2:Go.Proofs.Ytiejahgklcjhkaa.ydy g v p=(g.ports[v])[p]:=by unfold Go.Proofs.Ytiejahgklcjhkaa.ydy;rw[e];simp[zI,hp]
 rw[e2];omega
theorem ybh.deg_lt{g:Gr}(hg:ybh g){v:Nat}:(g.ports.getD v []).length<24:=by
 by_cases hv:v<g.ports.length
 ·have h1:=hg.2.2.2.2.2.1 ⟨v,hv⟩;have:=ymj hv h1;have e:g.ports.getD v []=g.ports[v]:=by simp[zI,hv]
  rw[e];have:=hg.2.1;have h3:g.ports[(⟨v,hv⟩:Fin g.ports.length)].length=g.ports[v].length:=rfl;omega
 ·rw[zT,zY (by omega)]
  simp
end
end Go.Proofs.Ytiejahgklcjhkaa
