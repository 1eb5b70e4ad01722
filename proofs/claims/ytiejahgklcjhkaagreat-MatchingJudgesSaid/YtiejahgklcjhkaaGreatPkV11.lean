/- Joined. -/
import Derived.Test.YtiejahgklcjhkaaGreatPkV7
import Derived.Test.YtiejahgklcjhkaaGreatPkV8
set_option linter.unusedSimpArgs false
set_option linter.unusedVariables false
set_option maxRecDepth 8000
open Go.Lib renaming hid→zA
open List renaming getElem?_eq_getElem→zB,mem_of_getElem?→zF,getD→zH,getElem?_set→zI,range→zJ,getElem?_cons_zero→zK,getElem?_replicate→zL,mem_zipIdx_iff_getElem?→zN,getD_eq_getElem?_getD→zQ,foldl_append→zS,getElem?_zip_eq_some→zT,all_eq_true→zU,getElem_mem→zV,getElem?_eq_none→zY,length_cons→zAE,take_length→zAF,range_succ→zAG,replicate→zAI
open Nat renaming le_refl→zC,testBit_and→zAH,lt_or_ge→zAJ
open Go.Proofs.Tryz renaming prog→zD,func64→zO,ntmps64→zW,ntmps84→zZ,ntmps65→zAA,zeroCells159→zAB,func84→zAC,func65→zAD
open Int renaming toNat_natCast→zG,eq_ofNat_of_zero_le→zX
open Bool renaming and_eq_true→zM
open Go
namespace Go.Proofs.YtiejahgklcjhkaaGreat
section
namespace Sh
open Go Ev
theorem ybxp {g:FuncId}{fn:Func}{sc:SC}{rs:List SR}(hg:Tryz.prog.funcs[g]?=some fn) (hcmp:fn.body.bind (cmp zD fn.ntmps)=some sc) (hrs:cmpR zD fn.results.toList=some rs)
 {mu:List FuncId}{args:List SV}{Q:SV->Prop}(h:vc ⟨Ct zD,Cm zD,ItC zD,[],mu⟩ sc (retK rs Q) ⟨slots args 0,[]⟩):Ct zD g args Q:=by
 obtain⟨c,h1,h2⟩:=bind_some hcmp;exact yblh mix yng hg h1 h2 hrs h
def Fn(g:FuncId)(c:SC)(rs:List SR):Prop:=∀(args:List SV) (Q:SV->Prop),vc ⟨Ct zD,Cm zD,ItC zD,[],[]⟩ c (retK rs Q) ⟨slots args 0,[]⟩->Ct zD g args Q
section
variable {g:FuncId}{fn:Func}{sc:SC}{rs:List SR}(hg:Tryz.prog.funcs[g]?=some fn) (hcmp:fn.body.bind (cmp zD fn.ntmps)=some sc) (hrs:cmpR zD fn.results.toList=some rs)
include hg hcmp hrs
theorem fn_0:Fn g sc rs:=fun _ _ h=>ybxp hg hcmp hrs h
end
def o3(x:SOp)(d a:Nat):SOper:=⟨x,some d,none,a⟩
def o0(x:SOp)(a:Nat):SOper:=⟨x,none,none,a⟩
abbrev LO:=List SOper
def mv'(x d a:Nat):SOper:=⟨.mv (.tmp x),some d,none,a⟩
def bn'(op:BinOp)(x y d a:Nat):SOper:=⟨.bin op (.tmp x) (.tmp y),some d,none,a⟩
def ld'(ag:Bool)(n x d a:Nat):SOper:=⟨.load ag n (.tmp x),some d,none,a⟩
def fa'(o n x d a:Nat):SOper:=⟨.faddr o n (.tmp x),some d,none,a⟩
def ix'(z x k d a:Nat):SOper:=⟨.idx z (.tmp x) (.tmp k),some d,none,a⟩
def ln'(x d a:Nat):SOper:=⟨.len (.tmp x),some d,none,a⟩
def xt'(x k d a:Nat):SOper:=⟨.extract (.tmp x) k,some d,none,a⟩
def cl'(g:FuncId)(xs:List Nat)(d a:Nat):SOper:=⟨.call (.func g) (xs.map .tmp),some d,none,a⟩
def ci'(n:Int):Operand:=.const (.int .i64 n)
attribute [go_sem] o3 o0 mv' bn' ld' fa' ix' ln' xt' cl' ci'
attribute [go_sem] ybxo ybqh ybjy ybec ybyz ybnw ybsr ybpq ybil ybpz ybio yra yqn yyw yws puts ybrd
attribute [go_sem] ybth ybzp ybta yrc yzt ybfg ypg yui ybat yzy ybfl yvy ybkm ywf ybka
attribute [go_sem] ykf Fam.at Prod.mk.injEq ybou ybqd ybpj ybrb ybnx ybpx yzx oldX oldV ygp yih yber ybre gb_x ybzr resX ygo slots yblg
attribute [go_sem] ybjl ybct runO opO yber xOp SS.get SS.pget SS.gets SS.lit look lookO SS.put SS.own ybni ybol ybnf ybkr ybit ybht yblj
attribute [go_sem] ybkd ybhe ybgz ybjc yyp simple yip ynj yrv part idxX natX ykn ybbf xbin xun eqL splice fill OB.set ofV fits ybuh yxr
attribute [go_sem] allP SRec.no SRec.pure clash nmem List.isEmpty_nil List.isEmpty_cons List.drop List.take List.all List.any List.map List.length List.head? List.append
attribute [go_sem] List.nil_append List.append_nil List.cons_append List.all_cons List.all_nil List.drop_succ_cons List.drop_zero List.take_succ_cons List.take_zero List.drop_nil
attribute [go_sem] List.take_nil zAE List.length_nil List.map_cons List.map_nil zK List.getElem?_cons_succ List.elem zG Nat.zero_add
attribute [go_sem] Nat.add_zero if_true if_false ite_true ite_false Option.isNone Option.isNone_none Option.map_some Option.map_none Bool.not_true Bool.not_false Bool.true_or
attribute [go_sem] Bool.or_true Bool.false_or Bool.or_false Bool.and_true Bool.true_and Bool.and_false Bool.false_and Bool.and_self Bool.or_self true_and and_true and_self
attribute [go_sem] true_implies false_implies implies_true forall_const Nat.lt_add_one Nat.one_pos Nat.zero_lt_one Nat.lt_irrefl zC decide_true decide_false Bool.false_eq_true
attribute [go_sem] Bool.true_eq_false forall_eq BEq.rfl beq_self_eq_true decide_eq_true_eq decide_eq_false_iff_not beq_iff_eq beq_eq_false_iff_ne bne_iff_ne bne_eq_false_iff_eq
attribute [go_sem] Bool.not_eq_true Bool.not_eq_false Bool.not_eq_true' Bool.not_eq_false' ybqi ybra yboi ybgw ybij ybbv ybgv ybli ybjo
attribute [go_sem] ybkj ybev ybnh ybtf ybnu ybkc ybkn ybjr ybim yblf ybdm ybex ybbm ybda ybgq ybdy ybcd
attribute [go_sem] ybde ybvh ybsi ybry ybmt ybrf yble ybpl ybqe ybmv ybqz yboc ybyi ybxw ycaa ybtx ybvi ybnl ybtj ybuo ybse
attribute [go_sem] ybwl ybtn ybwv ybvg ybwg ybqa ybqu ybkv ybqq ybog ybqk yboj yboz
attribute [go_sem] yql yzp idxF ybwe yoq yjz own1 yxq Tel telL ysy ybcw ybqj ybox ybpu yblk ybku yblo ybkf ybig ybkz
attribute [go_sem] ybjn ybhd ybyd ybzc ybxm ybsu ybus ybxe ybvz ybvl ybvs ybuw ybsx lv nmem rid yqj ycac ybyp ybtc ybvc ybnq ybsy
attribute [go_sem] ybrv ybwn ybvr ybtv ybso ybww ybxy ybyg ybxt ybxb ybub ybql ybxj ybwu ybtm ybrz ybvd List.any_cons List.any_nil Option.isSome
attribute [go_sem] ybqx or_false false_or or_true true_or false_and exists_const exists_false List.not_mem_nil and_false
attribute [go_sem ↓] gb_t gb_f ybxl ybzf
end Sh
end
section
namespace Sh
open Go Ev
end Sh
end
section
namespace Sh
open Go Ev
end Sh
end
section
def adj(g:Gr)(u v:Nat):Prop:=∃ls,g.ports[u]?=some ls/\∃l∈ls,l.1=(v:Int)
def Walk(g:Gr)(a:Nat):Nat->Nat->Prop
 |0,v=>v=a
 |k+1,v=>∃u,Walk g a k u/\adj g u v
def ybqv(g:Gr)(a v:Nat)(x:Int):Prop:=(x = -1/\∀k,¬Walk g a k v)\/∃k:Nat,x=k/\Walk g a k v/\∀j,j<k->¬Walk g a j v
def ybum(g:Gr)(a:Nat)(D:List Int):Prop:=D.length=g.ports.length/\∀v x,D[v]?=some x->ybqv g a v x
theorem ybf.link{g:Gr}(h:ybf g){v:Nat}{ls:List (Int×Int)}(hv:g.ports[v]?=some ls){l:Int×Int}(hl:l∈ls):0<=l.1/\l.1<g.ports.length/\l.1≠v/\1<=l.2/\l.2<=15:=by
 obtain⟨hlt,e⟩:=List.getElem?_eq_some_iff.1 hv;have:=(h.2.2.2.2.2.1 ⟨v,hlt⟩).1 l (by simp only[Fin.getElem_fin,e];exact hl)
 unfold ygn at this;simp only at this;omega
theorem ybf.adj_lt{g:Gr}(h:ybf g){u v:Nat}(ha:adj g u v):u<g.ports.length/\v<g.ports.length:=by
 obtain⟨ls,h1,l,hl,e⟩:=ha;have:=h.link h1 hl;exact⟨(List.getElem?_eq_some_iff.1 h1).1,by omega⟩
theorem ybf.adj_symm{g:Gr}(h:ybf g){u v:Nat}(ha:adj g u v):adj g v u:=by
 obtain⟨hu,hv⟩:=h.adj_lt ha;obtain⟨ls,h1,l,hl,e⟩:=ha;obtain⟨hlt,e1⟩:=List.getElem?_eq_some_iff.1 h1;have:=h.2.2.2.2.2.2 ⟨u,hlt⟩ l (by simp only[Fin.getElem_fin,e1];exact hl)
 rw[e,zG]at this;simp only[zH,zB hv,Option.getD_some]at this;exact⟨_,zB hv,_,this,rfl⟩
structure BfsInv(g:Gr)(a:Nat)(R:List Int)(Q:List Nat):Prop where
 len:R.length=g.ports.length
 src:R[a]?=some 0
 val:∀(v:Nat) (x:Int),R[v]?=some x->x = -1\/∃k:Nat,x=k/\Walk g a k v/\∀j,j<k->¬Walk g a j v
 qin:∀q∈Q,∃k:Nat,R[q]?=some (k:Int)
 sorted:Q.Pairwise (fun p q=>∀x y,R[p]?=some x->R[q]?=some y->x<=y/\y<=x+1)
 done:∀(v k:Nat),R[v]?=some (k:Int)->v∉Q->∀u,adj g v u->∃j:Nat,R[u]?=some (j:Int)
structure BfsIn(g:Gr)(a v d:Nat)(ls:List (Int×Int))(i:Nat)(R:List Int)(Q:List Nat):Prop where
 len:R.length=g.ports.length
 src:R[a]?=some 0
 val:∀(v:Nat) (x:Int),R[v]?=some x->x = -1\/∃k:Nat,x=k/\Walk g a k v/\∀j,j<k->¬Walk g a j v
 qin:∀q∈Q,∃k:Nat,R[q]?=some (k:Int)
 sorted:Q.Pairwise (fun p q=>∀x y,R[p]?=some x->R[q]?=some y->x<=y/\y<=x+1)
 rv:R[v]?=some (d:Int)
 low:∀q∈Q,∀y,R[q]?=some y->(d:Int)<=y/\y<=d+1
 done:∀(u k:Nat),R[u]?=some (k:Int)->u∉Q->u≠v->∀t,adj g u t->∃j:Nat,R[t]?=some (j:Int)
 part:∀l∈ls.take i,∃j:Nat,R[l.1.toNat]?=some (j:Int)
theorem BfsInv.start{g:Gr}{a:Nat}(ha:a<g.ports.length):BfsInv g a ((zAI g.ports.length (-1)).set a 0) [a] where
 len:=by simp
 src:=by simp[ha]
 val := by
  intro v x h;rw[zI]at h;split at h
  ·rename_i e
   subst e;simp[ha]at h;subst h;exact .inr ⟨0,rfl,rfl,fun j hj=>absurd hj (by omega)⟩
  ·rw[zL]at h;split at h
   ·cases h;exact .inl rfl
   ·cases h
 qin:=by
  intro q hq;obtain rfl:q=a:=by simpa using hq
  exact⟨0,by simp[ha]⟩
 sorted:=by simp
 done:=by
  intro v k h hv u _;rw[zI]at h;split at h
  ·rename_i e
   exact absurd (by simp[e]) hv
  ·rw[zL]at h;split at h
   ·cases h
   ·cases h
theorem BfsIn.finish{g:Gr}{a v d:Nat}{ls:List (Int×Int)}{R:List Int}{Q:List Nat}(h:BfsIn g a v d ls ls.length R Q)(hls:g.ports[v]?=some ls):BfsInv g a R Q where
 len:=h.len
 src:=h.src
 val:=h.val
 qin:=h.qin
 sorted:=h.sorted
 done:=by
  intro u k hu hq t ht
  by_cases e:u=v
  ·subst e;obtain⟨ls',h1,l,hl,e2⟩:=ht;rw[hls]at h1;cases h1
   have:=h.part l (by rw[zAF];exact hl)
   rwa [e2,zG]at this
  ·exact h.done u k hu hq e t ht
theorem BfsIn.skip{g:Gr}{a v d:Nat}{ls:List (Int×Int)}{i:Nat}{R:List Int}{Q:List Nat}(h:BfsIn g a v d ls i R Q)(hi:i<ls.length){j:Nat}(hj:R[ls[i].1.toNat]?=some (j:Int)):BfsIn g a v d ls (i+1) R Q :=
 ⟨h.len,h.src,h.val,h.qin,h.sorted,h.rv,h.low,h.done,by
   intro l hl;rw[take_snoc ls i hi]at hl;rcases List.mem_append.1 hl with hl|hl
   ·exact h.part l hl
   ·obtain rfl:l=ls[i]:=by simpa using hl
    exact⟨j,hj⟩⟩
theorem BfsIn.found{g:Gr}{a v d:Nat}{ls:List (Int×Int)}{i:Nat}{R:List Int}{Q:List Nat}(h:BfsIn g a v d ls i R Q) :
 ∀k,k<=d->∀t,Walk g a k t->∃j:Nat,R[t]?=some (j:Int):=by
 intro k
 induction k with
 |zero=>intro _ t ht;obtain rfl:t=a:=ht;exact⟨0,h.src⟩
 | succ k ih =>
   intro hk t ⟨p,hp,hpt⟩;obtain⟨j,hj⟩:=ih (by omega) p hp
   have hjk:j<=k:=by
    rcases h.val p _ hj with e|⟨k',e,_,hmin⟩
    ·omega
    ·have:j=k':=by omega
     subst this;rcases zAJ k j with hlt|hge
     ·exact absurd hp (hmin k hlt)
     ·exact hge
   refine h.done p j hj ?_ ?_ t hpt
   ·intro hq;have:=(h.low p hq _ hj).1;omega
   ·rintro rfl;have e1:=h.rv;rw[hj]at e1;have e2:=Option.some.inj e1;omega
end
section
def ybln(R:List Int)(x:Int)(ls:List (Int×Int)):Bool:=ls.any (fun l=>decide (R[l.1.toNat]?=some x))
def ybjm(g:Gr)(d:Int)(R:List Int)(v:Nat):List Int :=
 if decide (R.getD v 0<0)&&ybln R (d-1) (g.ports.getD v [])then R.set v d else R
def stepD(g:Gr)(R:List Int)(d:Nat):List Int:=(zJ g.ports.length).foldl (ybjm g d) R
def start(g:Gr)(a:Nat):List Int:=(zAI g.ports.length (-1)).set a 0
def ydd(g:Gr)(a:Nat):List Int:=(zJ (g.ports.length-1)).foldl (fun R d=>stepD g R (d+1)) (start g a)
def Upto(g:Gr)(a d v:Nat)(x:Int):Prop:=(x = -1/\∀k,k<=d->¬Walk g a k v)\/∃k:Nat,k<=d/\x=k/\Walk g a k v/\∀j,j<k->¬Walk g a j v
theorem Upto.eq{g:Gr}{a d v:Nat}{x:Int}(h:Upto g a d v x){k:Nat}(hk:k<=d):x=k↔Walk g a k v/\∀j,j<k->¬Walk g a j v:=by
 rcases h with⟨rfl,h1⟩|⟨i,hi,rfl,h1,h2⟩
 ·exact⟨fun e=>by omega,fun e=>absurd e.1 (h1 k hk)⟩
 ·constructor
  ·intro e;obtain rfl:i=k:=by omega
   exact⟨h1,h2⟩
  ·rintro⟨h3,h4⟩;rcases Nat.lt_trichotomy i k with h|h|h
   ·exact absurd h1 (h4 i h)
   ·omega
   ·exact absurd h3 (h2 k h)
theorem Upto.more{g:Gr}{a d v:Nat}{x:Int}(h:Upto g a d v x)(hx:0<=x):Upto g a (d+1) v x:=by
 rcases h with⟨rfl,h1⟩|⟨i,hi,rfl,h1,h2⟩
 ·omega
 ·exact .inr ⟨i,by omega,rfl,h1,h2⟩
structure LayerInv(g:Gr)(a d v:Nat)(R:List Int):Prop where
 len:R.length=g.ports.length
 new:∀(u:Nat) (x:Int),R[u]?=some x->u<v->Upto g a (d+1) u x
 old:∀(u:Nat) (x:Int),R[u]?=some x->v<=u->Upto g a d u x
theorem LayerInv.at_{g:Gr}{a d v:Nat}{R:List Int}(h:LayerInv g a d v R){u:Nat}(hu:u<g.ports.length):R[u]?=some (d:Int)↔Walk g a d u/\∀j,j<d->¬Walk g a j u:=by
 have hl:=h.len;have e:R[u]?=some R[u]:=zB (by omega)
 have hx:R[u]=(d:Int)↔Walk g a d u/\∀j,j<d->¬Walk g a j u:=by
  by_cases hv:u<v
  ·exact(h.new u _ e hv).eq (by omega)
  ·exact(h.old u _ e (by omega)).eq (by omega)
 rw[e]
 simpa using hx
theorem LayerInv.step{g:Gr}(hg:ybf g){a d v:Nat}{R:List Int}(h:LayerInv g a d v R)(hv:v<g.ports.length):LayerInv g a d (v+1) (ybjm g ((d:Int)+1) R v):=by
 have hlen:=h.len;have ev:R[v]?=some R[v]:=zB (by omega)
 have eg:R.getD v 0=R[v]:=by simp[zH,ev]
 have ep:g.ports.getD v []=g.ports[v]:=by simp[zH,zB hv]
 have hhas:ybln R ((d:Int)+1-1) g.ports[v]=true↔∃u,adj g u v/\Walk g a d u/\∀j,j<d->¬Walk g a j u:=by
  unfold ybln;rw[List.any_eq_true];constructor
  ·rintro⟨l,hl,h1⟩;have hlk:=hg.link (zB hv) hl;have h1:=of_decide_eq_true h1;rw[show(d:Int)+1-1=d by omega]at h1
   refine⟨l.1.toNat,hg.adj_symm ⟨_,zB hv,l,hl,by omega⟩,?_⟩
   exact(h.at_ (by omega)).1 h1
  ·rintro⟨u,hu,hw⟩;obtain⟨hu1,_⟩:=hg.adj_lt hu;obtain⟨ls,h1,l,hl,e⟩:=hg.adj_symm hu;rw[zB hv]at h1;cases h1
   refine⟨l,hl,decide_eq_true ?_⟩;rw[e,zG,show(d:Int)+1-1=d by omega]
   exact(h.at_ hu1).2 hw
 have hov:=h.old v _ ev (zC _);unfold ybjm;rw[eg,ep]
 by_cases c1:R[v]<0
 ·have hx:R[v] = -1/\∀k,k<=d->¬Walk g a k v:=by
   rcases hov with h1|⟨k,_,e,_⟩
   ·exact h1
   ·omega
  by_cases c2:ybln R ((d:Int)+1-1) g.ports[v]=true
  ·rw[if_pos (by rw[zM];exact⟨decide_eq_true c1,c2⟩)]
   obtain⟨p,hp,hw,_⟩:=hhas.1 c2;have hset:∀t,t≠v->(R.set v ((d:Int)+1))[t]?=R[t]?:=fun t ht=>by rw[zI,if_neg (by omega)]
   refine⟨by simp[hlen],fun u x hu huv=>?_,fun u x hu huv=>?_⟩
   ·by_cases e:u=v
    ·subst e;rw[zI,if_pos rfl,if_pos (by omega)]at hu
     cases hu
     exact .inr ⟨d+1,zC _,by omega,⟨p,hw,hp⟩,fun j hj=>hx.2 j (by omega)⟩
    ·rw[hset u e]at hu;exact h.new u x hu (by omega)
   ·rw[hset u (by omega)]at hu
    exact h.old u x hu (by omega)
  ·rw[if_neg (fun e=>c2 (zM _ _▸e).2)];refine⟨hlen,fun u x hu huv=>?_,fun u x hu huv=>h.old u x hu (by omega)⟩
   by_cases e:u=v
   ·subst e;rw[ev]at hu;cases hu
    refine .inl ⟨hx.1,fun k hk hw=>?_⟩;rcases zAJ d k with hlt|hge
    ·obtain rfl:k=d+1:=by omega
     obtain⟨p,hp,hpv⟩:=hw;refine c2 (hhas.2 ⟨p,hpv,hp,fun j hj hw'=>hx.2 (j+1) (by omega) ⟨p,hw',hpv⟩⟩)
    ·exact hx.2 k hge hw
   ·exact h.new u x hu (by omega)
 ·rw[if_neg (by simp[c1])]
  refine⟨hlen,fun u x hu huv=>?_,fun u x hu huv=>h.old u x hu (by omega)⟩
  by_cases e:u=v
  ·subst e;exact(h.old u x hu (zC _)).more (by rw[ev]at hu;cases hu;omega)
  ·exact h.new u x hu (by omega)
theorem yon{g:Gr}(hg:ybf g){a d:Nat}{R:List Int}(h:LayerInv g a d 0 R):∀v,v<=g.ports.length->LayerInv g a d v ((zJ v).foldl (ybjm g ((d:Int)+1)) R)
 |0,_=>h
 | v+1,hv=>by
   rw[zAG,zS];exact(yon hg h v (by omega)).step hg (by omega)
def yqe(g:Gr)(a d:Nat)(R:List Int):Prop:=R.length=g.ports.length/\∀(u:Nat) (x:Int),R[u]?=some x->Upto g a d u x
theorem ybad{g:Gr}{a:Nat}(ha:a<g.ports.length):yqe g a 0 (start g a):=by
 refine⟨by simp[start],fun u x hu=>?_⟩
 unfold start at hu;rw[zI]at hu;split at hu
 ·rename_i e
  subst e;simp[ha]at hu;subst hu;exact .inr ⟨0,zC _,rfl,rfl,fun j hj=>absurd hj (by omega)⟩
 ·rename_i e
  rw[zL]at hu;split at hu
  ·cases hu
   refine .inl ⟨rfl,fun k hk hw=>?_⟩;obtain rfl:k=0:=by omega
   exact e hw.symm
  ·cases hu
theorem ybai{g:Gr}(hg:ybf g){a d:Nat}{R:List Int}(h:yqe g a d R):yqe g a (d+1) (stepD g R (d+1)):=by
 have h0:LayerInv g a d 0 R:=⟨h.1,fun _ _ _ hu=>absurd hu (by omega),fun u x hu _=>h.2 u x hu⟩
 have h1:=yon hg h0 g.ports.length (zC _);unfold stepD;rw[show((d+1:Nat):Int)=(d:Int)+1 by omega]
 exact⟨h1.len,fun u x hu=>h1.new u x hu (by rw[<-h1.len];exact(List.getElem?_eq_some_iff.1 hu).1)⟩
theorem ymr{g:Gr}(hg:ybf g){a:Nat}(ha:a<g.ports.length):∀d,yqe g a d ((zJ d).foldl (fun R d=>stepD g R (d+1)) (start g a))
 |0=>ybad ha
 |d+1=>by rw[zAG,zS];exact ybai hg (ymr hg ha d)
theorem chain{g:Gr}{a:Nat}:∀k v,Walk g a k v->(∀j,j<k->¬Walk g a j v)->∃f:Nat->Nat,∀j,j<=k->Walk g a j (f j)/\∀i,i<j->¬Walk g a i (f j)
 | 0,v,h,_=>⟨fun _=>v,fun j hj=>by obtain rfl:j=0:=by omega
                                   exact⟨h,fun i hi=>absurd hi (by omega)⟩⟩
 | k + 1,v,h,hm=>by
   obtain⟨p,hp,hpv⟩:=h;obtain⟨f,hf⟩:=chain k p hp (fun j hj hw=>hm (j+1) (by omega) ⟨p,hw,hpv⟩)
   refine⟨fun j=>if j<=k then f j else v,fun j hj=>?_⟩
   by_cases hjk:j<=k
   ·simp only[if_pos hjk];exact hf j hjk
   ·obtain rfl:j=k+1:=by omega
    simp only[if_neg hjk];exact⟨⟨p,hp,hpv⟩,hm⟩
theorem walk_lt{g:Gr}(hg:ybf g){a:Nat}(ha:a<g.ports.length):∀k v,Walk g a k v->v<g.ports.length
 |0,v,h=>by obtain rfl:v=a:=h;exact ha
 |k+1,v,h=>by obtain⟨u,_,hu⟩:=h;exact(hg.adj_lt hu).2
theorem least_walk{g:Gr}{a v:Nat}:∀k,Walk g a k v->∃j,j<=k/\Walk g a j v/\∀i,i<j->¬Walk g a i v:=by
 intro k
 induction k using Nat.strongRecOn with
 | _ k ih =>
   intro hw
   by_cases h:∃j,j<k/\Walk g a j v
   ·obtain⟨j,hj,hwj⟩:=h;obtain⟨i,hi,r⟩:=ih j hj hwj;exact⟨i,by omega,r⟩
   ·exact⟨k,zC _,hw,fun i hi hwi=>h ⟨i,hi,hwi⟩⟩
theorem ybbu{g:Gr}(hg:ybf g){a v k:Nat}(ha:a<g.ports.length)(h:Walk g a k v)(hm:∀j,j<k->¬Walk g a j v):k<g.ports.length:=by
 obtain⟨f,hf⟩:=chain k v h hm;have hinj:∀i j,i<j->j<=k->f i≠f j:=fun i j hij hj e=>(hf j hj).2 i hij (by rw[<-e];exact(hf i (by omega)).1)
 have h1:((zJ (k+1)).map f).Nodup:=by
  rw[List.Nodup,List.pairwise_map];refine(List.Pairwise.and_mem.1 List.pairwise_lt_range).imp ?_;rintro i j ⟨_,hj,hij⟩;exact hinj i j hij (by simp at hj;omega)
 have h2:(zJ (k+1)).map f ⊆ zJ g.ports.length:=by
  intro x hx;obtain⟨j,hj,rfl⟩:=List.mem_map.1 hx;simp only[List.mem_range]at hj ⊢;exact walk_lt hg ha j _ (hf j (by omega)).1
 have:=List.Nodup.length_le_of_subset h1 h2;simp at this;omega
theorem ygv{g:Gr}(hg:ybf g){a:Nat}(ha:a<g.ports.length):ybum g a (ydd g a):=by
 obtain⟨h1,h2⟩:=ymr hg ha (g.ports.length-1);refine⟨h1,fun v x hx=>?_⟩;rcases h2 v x hx with⟨rfl,h3⟩|⟨k,_,r⟩
 ·refine .inl ⟨rfl,fun k hk=>?_⟩;obtain⟨j,_,hj,hm⟩:=least_walk k hk;have:=ybbu hg ha hj hm;exact h3 j (by omega) hj
 ·exact .inr ⟨k,r⟩
end
section
def ynn(g:Gr):Bool:=ybq g&&(ydd g 0).all (fun x=>decide (0<=x))
theorem ytv(D:List Int):∀m:Int,m<=D.foldl max m:=by
 induction D with
 |nil=>intro m;exact Int.le_refl _
 |cons x D ih=>intro m;exact Int.le_trans (Int.le_max_left m x) (ih _)
theorem ysw{g:Gr}(hg:ybf g){a:Nat}(ha:a<g.ports.length):(ydd g a).length=g.ports.length:=(ygv hg ha).1
theorem Walk.trans{g:Gr}{a b:Nat}:∀{j:Nat}{c:Nat}{k:Nat},Walk g a k b->Walk g b j c->Walk g a (k+j) c
 |0,c,k,h1,h2=>by obtain rfl:c=b:=h2;exact h1
 | j+1,c,k,h1,h2=>by
   obtain⟨u,hu,huc⟩:=h2;exact⟨u,Walk.trans h1 hu,huc⟩
theorem Walk.one{g:Gr}{a b:Nat}(h:adj g a b):Walk g a 1 b:=⟨a,rfl,h⟩
theorem Walk.symm{g:Gr}(hg:ybf g){a:Nat}:∀{k:Nat}{b:Nat},Walk g a k b->Walk g b k a
 |0,b,h=>by obtain rfl:b=a:=h;exact rfl
 | k+1,b,h=>by
   obtain⟨u,hu,hub⟩:=h;have:=Walk.trans (Walk.one (hg.adj_symm hub)) (Walk.symm hg hu)
   rwa [Nat.add_comm]at this
theorem ywb{g:Gr}(hg:ybf g){a:Nat}(ha:a<g.ports.length):(ydd g a).all (fun x=>decide (0<=x))=true↔∀v,v<g.ports.length->∃k,Walk g a k v:=by
 have hd:=ygv hg ha;rw[zU];constructor
 ·intro h v hv;have hv':v<(ydd g a).length:=by rw[hd.1];exact hv
  rcases hd.2 v _ (zB hv')with⟨e,_⟩|⟨k,_,hk,_⟩
  ·have:=of_decide_eq_true (h _ (zV hv'));omega
  ·exact⟨k,hk⟩
 ·intro h x hx;obtain⟨v,hv,rfl⟩:=List.mem_iff_getElem.1 hx;obtain⟨k,hk⟩:=h v (by rw[<-hd.1];exact hv)
  rcases hd.2 v _ (zB hv)with⟨e,h1⟩|⟨k,e,_⟩
  ·exact absurd hk (h1 k)
  ·rw[e];simp
theorem yblq{g:Gr}(hg:ybf g){a b:Nat}(ha:a<g.ports.length)(hb:b<g.ports.length)(h:(ydd g a).all (fun x=>decide (0<=x))=true):(ydd g b).all (fun x=>decide (0<=x))=true:=by
 rw[ywb hg ha]at h;rw[ywb hg hb];intro v hv;obtain⟨k,hk⟩:=h v hv;obtain⟨j,hj⟩:=h b hb;exact⟨_,Walk.trans (Walk.symm hg hj) hk⟩
end
section
abbrev Conf:=List (List Int)
abbrev Bounds:=List (Int×Int)
def ybcy(bs:Bounds)(s:List Int):Bool:=decide (s.length=bs.length)&&(bs.zip s).all (fun p=>decide (p.1.1<=p.2)&&decide (p.2<=p.1.2))
def yku(n:Nat)(bs:Nat->Bounds)(c:Conf):Bool:=decide (c.length=n)&&c.zipIdx.all (fun p=>ybcy (bs p.2) p.1)
def yhy(bs:Bounds)(s:List Int):Prop:=s.length=bs.length/\∀(i:Nat) b x,bs[i]?=some b->s[i]?=some x->b.1<=x/\x<=b.2
def yxh(n:Nat)(bs:Nat->Bounds)(c:Conf):Prop:=c.length=n/\∀(v:Nat) s,c[v]?=some s->yhy (bs v) s
theorem ynv(bs:Bounds)(s:List Int):ybcy bs s=true↔yhy bs s:=by
 unfold ybcy yhy;rw[zM,decide_eq_true_iff,zU];refine and_congr_right fun _=>⟨fun h i b x hb hx=>?_,fun h p hp=>?_⟩
 ·have:=h (b,x) (zF (i:=i) (by simp[zT,hb,hx]))
  simpa using this
 ·obtain⟨i,hi⟩:=List.mem_iff_getElem?.1 hp;obtain⟨b,x⟩:=p;rw[zT]at hi
  simpa using h i b x hi.1 hi.2
theorem ymm(n:Nat)(bs:Nat->Bounds)(c:Conf):yku n bs c=true↔yxh n bs c:=by
 unfold yku yxh;rw[zM,decide_eq_true_iff,zU];refine and_congr_right fun _=>⟨fun h v s hs=>?_,fun h p hp=>?_⟩
 ·refine(ynv _ _).1 (h (s,v) ?_);rw[zN];exact hs
 ·rw[zN]at hp;exact(ynv _ _).2 (h p.2 p.1 hp)
theorem ygd{n:Nat}{bs:Nat->Bounds}{c:Conf}(h:¬yxh n bs c):yku n bs c=false:=by
 cases hb:yku n bs c with
 |false=>rfl
 |true=>exact absurd ((ymm n bs c).1 hb) h
theorem ynz{n:Nat}{bs:Nat->Bounds}{c:Conf}(h:yxh n bs c):yku n bs c=true:=(ymm n bs c).2 h
def yrz(g:Gr)(v:Nat):Nat:=(g.ports.getD v []).length
def yct(g:Gr)(G:List Int)(v:Nat):Bounds:=G.map (fun h=>if h = -1 then(-1,(yrz g v:Int)-1)else(0,h))
def ygr(g:Gr):Int:=g.ids.foldl max 0
end
section
open Go.RowKit
theorem In_t(v lo hi:Int)(w:World)(h1:lo<=v)(h2:v<=hi) :
 Calls zD 84 #[.int .i64 v,.int .i64 lo,.int .i64 hi] w fun e w'=>e = .returned (.bool true)/\w=w':=by
 go_enter zAC,zZ
 go_wp2
 go_ret
 exact⟨rfl,rfl⟩
theorem In_f(v lo hi:Int)(w:World)(h:v<lo\/hi<v) :
 Calls zD 84 #[.int .i64 v,.int .i64 lo,.int .i64 hi] w fun e w'=>e = .returned (.bool false)/\w=w':=by
 by_cases h1:lo<=v
 ·have h2:hi<v:=by omega
  go_enter zAC,zZ
  go_wp2
  go_ret
  exact⟨yu (by simp;omega),rfl⟩
 ·go_enter zAC,zZ
  go_wp2
  go_ret
  exact⟨rfl,rfl⟩
theorem ylg(gv:Value)(g:Gr)(v:Nat)(ls:List (Int×Int))(u:Int)(w:World)(hg:GrAt w gv g)(hv:g.ports[v]?=some ls) :
 Calls zD 106 #[gv,.int .i64 v,.int .i64 u] w fun e w'=>e = .returned (.int .i64 (ydo ls u))/\Below w.heap.size w w':=by
 obtain⟨i,p,rfl,_,A,c,rfl,hc1,hc2,hp⟩:=hg;have hvlt:v<g.ports.length:=(List.getElem?_eq_some_iff.1 hv).1;obtain⟨b,off,rfl,hb,hP⟩:=hp (by omega)
 obtain⟨lv,hcell,A2,c2,rfl,hl1,hl2,hL⟩:=hP v ls hv;simp only[Nat.mul_one]at hcell;have HL:=zA hL;have HP:=zA hP;have Hv:=zA hv
 clear hL hP hv hp
 go_enter Tryz.func106,Tryz.ntmps106
 go_wp2
 go_loop [7] (fun t=>∃k:Nat,k<=ls.length/\t = .int .i64 k/\Hid ((ls.take k).findIdx? (fun l=>l.1==u)=none)) (fun t=>ls.length-(intOf t).toNat)
 case atStart=>exact⟨0,by omega,rfl,zA (by simp)⟩
 case round =>
  obtain⟨k,hk,rfl,hnone⟩:=hrel
  by_cases hlt:k<ls.length
  ·obtain⟨b2,off2,rfl,hb2,hE⟩:=HL.out (by omega)
   obtain⟨e1,e2,hw1,hw2⟩:=hE k ls[k] (zB hlt);have HE:=zA hE
   clear hE
   by_cases heq:ls[k].1=u
   ·have heq':(ls[k].1==u)=true:=by simp[heq]
    have Hr:=zA (yoi ls u k hlt heq hnone.out)
    clear heq
    go_wp2
    go_ret
    exact⟨yub Hr.out.symm,(Below.refl _ _).alloc (zC _) _⟩
   ·have heq':(ls[k].1==u)=false:=by simp[heq]
    have Hr:=zA (ytu ls u k hlt heq hnone.out)
    clear heq
    go_wp2
    go_round
    case rel=>exact⟨k+1,by omega,by go_num,Hr⟩
    case measure=>simp[intOf];omega
  ·have hkl:k=ls.length:=by omega
   subst hkl;have Hr:=zA (yvr ls u hnone.out)
   go_wp2
   go_ret
   exact⟨yub Hr.out.symm,(Below.refl _ _).alloc (zC _) _⟩
theorem yfl(lv:Value)(ls:List (Int×Int))(v n:Int)(w:World)(hl:yxe w lv ls)(hn:0<=n/\n<=1000) :
 Calls zD 105 #[lv,.int .i64 v,.int .i64 n] w fun e w'=>e = .returned (.bool (yik ls v n))/\∃m,w'=w.drewN m:=by
 obtain⟨hn1,hn2⟩:=hn;obtain⟨A,c,rfl,hc1,hc2,hL⟩:=hl;have HL:=zA hL
 clear hL
 go_enter Tryz.func105,Tryz.ntmps105
 go_wp2
 go_loopw [7] (fun t wr=>∃k m:Nat,k<=ls.length/\t = .int .i64 k/\wr=w.drewN m/\Hid (ycb (ls.take k) v n)) (fun t _=>ls.length-(intOf t).toNat)
 case atStart=>exact⟨0,0,by omega,rfl,rfl,zA ⟨by simp,by simp⟩⟩
 case round =>
  obtain⟨k,m,hk,rfl,rfl,hok⟩:=hrel
  by_cases hlt:k<ls.length
  ·obtain⟨b2,off2,rfl,hb2,hE⟩:=HL.out (by omega)
   obtain⟨e1,e2,⟨hw1,hw1'⟩,⟨hw2,hw2'⟩⟩:=hE k ls[k] (zB hlt);have HE:=zA hE
   clear hE
   have Hsn:=zA (ykd ls v n k hlt);have Hbad:=zA (fun h=>ymt ls v n (k+1) h)
   by_cases c1:0<=ls[k].1/\ls[k].1<=n-1
   ·obtain⟨c1a,c1b⟩:=c1
    by_cases c2:ls[k].1=v
    ·have c2':(ls[k].1==v)=true:=by simp[c2]
     have Hf:=zA (Hbad.out (fun h=>((Hsn.out.1 h).2.1).2.2.1 c2))
     clear c2
     go_wp2_with (first|(go_at_call 84;refine(In_t _ _ _ _ (by omega) (by omega)).mono ?_;rintro e w' ⟨rfl,rfl⟩))
     go_ret
     exact⟨yu Hf.out.symm,m,rfl⟩
    ·have c2':(ls[k].1==v)=false:=by simp[c2]
     by_cases c3:1<=ls[k].2/\ls[k].2<=15
     ·obtain⟨c3a,c3b⟩:=c3;have Hlk:=zA (show ygn v n ls[k]from⟨c1a,c1b,c2,c3a,c3b⟩)
      clear c2
      go_wp2_with (first|(go_at_call 84;refine(In_t _ _ _ _ (by omega) (by omega)).mono ?_;rintro e w' ⟨rfl,rfl⟩))
      go_loopw [8] (fun t wr=>∃j m2:Nat,j<=k/\t = .int .i64 j/\wr=w.drewN m2/\Hid (∀i (hi:i<j) (hj:j<=k),ls[i].1≠ls[k].1)) (fun t _=>k-(intOf t).toNat)
      case atStart=>exact⟨0,m,by omega,rfl,rfl,zA (fun i hi=>absurd hi (by omega))⟩
      case round =>
       obtain⟨j,m2,hj,rfl,rfl,hne⟩:=hrel
       by_cases hjk:j<k
       ·obtain⟨f1,f2,_,_⟩:=HE.out j ls[j] (zB (by omega))
        by_cases c4:ls[j].1=ls[k].1
        ·have c4':(ls[j].1==ls[k].1)=true:=by simp[c4]
         have Hf:=zA (Hbad.out (fun h=>(Hsn.out.1 h).2.2 j hjk c4))
         clear c4
         go_wp2
         go_quiet (fail)
         go_wp2
         go_ret
         exact⟨yu Hf.out.symm,_,World.drewN_drewN _ _ _⟩
        ·have c4':(ls[j].1==ls[k].1)=false:=by simp[c4]
         have Hc4:=zA c4
         clear c4
         go_wp2
         go_quiet (fail)
         go_wp2
         go_roundw
         case rel =>
          refine⟨j+1,_,by omega,by go_num,rfl,zA (fun i hi hj'=>?_)⟩
          by_cases hij:i<j
          ·exact hne.out i hij hj
          ·obtain rfl:i=j:=by omega
           exact Hc4.out
         case measure=>simp[intOf];omega
       ·obtain rfl:j=k:=by omega
        go_wp2
        go_roundw
        case rel=>exact⟨j+1,_,by omega,by go_num,rfl,zA (Hsn.out.2 ⟨hok.out,Hlk.out,fun i hi=>hne.out i hi (zC _)⟩)⟩
        case measure=>simp[intOf];omega
     ·have Hf:=zA (Hbad.out (fun h=>c3 ⟨((Hsn.out.1 h).2.1).2.2.2.1,((Hsn.out.1 h).2.1).2.2.2.2⟩))
      clear c2
      have c3':ls[k].2<1\/15<ls[k].2:=by omega
      clear c3
      go_wp2_with (first|(go_at_call 84;refine(In_t _ _ _ _ (by omega) (by omega)).mono ?_;rintro e w' ⟨rfl,rfl⟩)|(go_at_call 84;refine(In_f _ _ _ _ (by omega)).mono ?_;rintro e w' ⟨rfl,rfl⟩))
      go_ret
      exact⟨yu Hf.out.symm,m,rfl⟩
   ·have Hf:=zA (Hbad.out (fun h=>c1 ⟨((Hsn.out.1 h).2.1).1,((Hsn.out.1 h).2.1).2.1⟩));have c1':ls[k].1<0\/n-1<ls[k].1:=by omega
    clear c1
    go_wp2_with (first|(go_at_call 84;refine(In_f _ _ _ _ (by omega)).mono ?_;rintro e w' ⟨rfl,rfl⟩))
    go_ret
    exact⟨yu Hf.out.symm,m,rfl⟩
  ·obtain rfl:k=ls.length:=by omega
   have Ht:=zA (yns ls v n hok.out)
   go_wp2
   go_ret
   exact⟨yu Ht.out.symm,m,rfl⟩
end
section
open Go.RowKit
set_option maxHeartbeats 2000000 in
theorem yfg(gv:Value)(g:Gr)(w:World)(hg:GrAt w gv g) :
 Calls zD 65 #[gv] w fun e w'=>e = .returned (.bool (ybq g))/\Below w.heap.size w w':=by
 have hg0:=zA hg;obtain⟨i,p,rfl,hi,hp⟩:=hg;obtain⟨A,c,rfl,hA1,hA2⟩:=ybh hi;obtain⟨A2,c2,rfl,hB1,hB2⟩:=ybh hp;have Hi:=zA hi;have Hp:=zA hp
 clear hi hp
 by_cases n1:1<=g.ports.length/\g.ports.length<=24
 ·obtain⟨n1a,n1b⟩ := n1
  by_cases n2:g.ids.length=g.ports.length
  ·have n2':((g.ids.length:Int)!=(g.ports.length:Int))=false:=by simp[n2]
   have Hn2:=zA n2;have n2a:g.ids.length<=g.ports.length:=by omega
   have n2b:g.ports.length<=g.ids.length:=by omega
   clear n2
   go_enter zAD,zAA
   go_wp2_with (first|(go_at_call 84;refine(In_t _ _ _ _ (by omega) (by omega)).mono ?_;rintro e w' ⟨rfl,rfl⟩))
   go_loopw [4] (fun t wr=>∃k:Nat,k<=g.ports.length/\t = .int .i64 k/\Hid (Below (w.heap.size+1) (w.alloc (.cells #[.slice A g.ids.length c,.slice A2 g.ports.length c2] 25)) wr)/\Hid (∀v,v<k->V2 g v)) (fun t _=>g.ports.length-(intOf t).toNat)
   case atStart=>exact⟨0,by omega,rfl,zA (Below.refl _ _),zA (fun v hv=>absurd hv (by omega))⟩
   case round =>
    obtain⟨k,hk,rfl,hbel,hv2⟩:=hrel;obtain⟨q0,q1,hbw,hsz⟩:=box2 hbel.out;have Hbw:=zA hbw
    clear hbw
    by_cases hlt:k<g.ports.length
    ·obtain⟨b,off,rfl,hb,hcid,hr⟩:=ydz (Hi.out.below Stable.int Hbw.out) (show k<g.ids.length by omega)
     obtain⟨b2,off2,lv,rfl,hb2,hcl,hls⟩:=ydy (Hp.out.below (Stable.sl Stable.link) Hbw.out) (zB hlt);obtain⟨A3,c3,rfl,hl1,hl2⟩:=ybh hls;have Hls:=zA hls
     clear hls
     obtain⟨x,hx⟩:∃x,g.ids[k]?=some x:=⟨_,zB (by omega)⟩
     have hxe:g.ids[k]=x:=by have:=zB (l:=g.ids) (i:=k) (by omega);rw[hx]at this;exact(Option.some.inj this).symm
     simp only[hxe]at hcid hr;obtain⟨ls,hle⟩:∃ls,g.ports[k]=ls:=⟨_,rfl⟩;have hlp:g.ports[k]?=some ls:=by rw[zB hlt,hle]
     simp only[hle]at hcl hl1 Hls;have Hx:=zA hx;have Hlp:=zA hlp
     clear hx hxe hle hlp
     obtain⟨hr1,hr2⟩:=hr;have Hbad:=zA (fun h=>ylz (g:=g) (v:=k) hlt h)
     by_cases c1:0<=x/\x<=255
     ·obtain⟨c1a,c1b⟩:=c1
      by_cases c2:ls.length<g.ports.length
      ·have c2d:decide (g.ports.length<=ls.length)=false:=by simp;omega
       by_cases c3:yik ls (k:Int) (g.ports.length:Int)=true
       ·go_wp2_with (first|(go_at_call 84;refine(In_t _ _ _ _ (by omega) (by omega)).mono ?_;rintro e w' ⟨rfl,rfl⟩)|(go_at_call 105;refine(yfl _ ls _ _ _ Hls.out ⟨by omega,by omega⟩).mono ?_;rintro e w' ⟨rfl,m,rfl⟩))
        obtain⟨w2,hw2⟩:∃w2,w2=wr.drewN m:=⟨_,rfl⟩;rw[<-hw2];have Hb2:=zA (ynp hbel.out hw2)
        clear hw2
        go_loopw [5] (fun t wq=>∃j m2:Nat,j<=k/\t = .int .i64 j/\wq=w2.drewN m2/\Hid (∀u y,u<j->g.ids[u]?=some y->y≠x)) (fun t _=>k-(intOf t).toNat)
        case atStart=>exact⟨0,0,by omega,rfl,rfl,zA (fun u y hu=>absurd hu (by omega))⟩
        case round =>
         obtain⟨j,m2,hj,rfl,rfl,hne⟩:=hrel;obtain⟨q0,q1,hbw,hsz⟩:=box2 Hb2.out;have Hbw2:=zA hbw;obtain⟨b',off',e',hb',hcid,_⟩:=ydz (Hi.out.below Stable.int Hbw2.out) (show k<g.ids.length by omega)
         cases e'
         clear hbw
         have hkx:g.ids[k]=x:=by have:=zB (l:=g.ids) (i:=k) (by omega);rw[Hx.out]at this;exact(Option.some.inj this).symm
         rw[hkx]at hcid
         clear hkx
         by_cases hjk:j<k
         ·obtain⟨b',off',e',hb',hcj,_⟩:=ydz (Hi.out.below Stable.int Hbw2.out) (show j<g.ids.length by omega)
          cases e'
          by_cases c4:g.ids[j]=x
          ·have c4':(g.ids[j]==x)=true:=by simp[c4]
           have Hf:=zA (Hbad.out (fun h=>(h x ls Hx.out Hlp.out).2.2.2 j _ hjk (zB (by omega)) c4))
           clear c4
           go_wp2
           go_quiet (fail)
           go_wp2
           go_ret
           exact⟨yu Hf.out.symm,below_drewN (below_drewN (box2 Hb2.out).2.2.1 _) _⟩
          ·have c4':(g.ids[j]==x)=false:=by simp[c4]
           have Hc4:=zA c4
           clear c4
           go_wp2
           go_quiet (fail)
           go_wp2
           go_roundw
           case rel =>
            refine⟨j+1,_,by omega,by go_num,rfl,zA (fun u y hu hy=>?_)⟩
            by_cases huj:u<j
            ·exact hne.out u y huj hy
            ·obtain rfl:u=j:=by omega
             rw[zB (by omega)]at hy
             cases hy
             exact Hc4.out
           case measure=>simp[intOf];omega
         ·obtain rfl:j=k:=by omega
          go_wp2
          go_roundw
          case rel =>
           refine⟨j+1,by omega,by go_num,zA (below_drewN Hb2.out _),zA (fun v hv=>?_)⟩
           by_cases hvj:v<j
           ·exact hv2.out v hvj
           ·obtain rfl:v=j:=by omega
            intro x' ls' hx' hls';rw[Hx.out]at hx';rw[Hlp.out]at hls';cases hx'
            cases hls'
            exact⟨⟨c1a,c1b⟩,c2,c3,hne.out⟩
          case measure=>simp[intOf];omega
       ·have c3':yik ls (k:Int) (g.ports.length:Int)=false:=by simpa using c3
        have Hf:=zA (Hbad.out (fun h=>c3 (h x ls Hx.out Hlp.out).2.2.1))
        clear c3
        go_wp2_with (first|(go_at_call 84;refine(In_t _ _ _ _ (by omega) (by omega)).mono ?_;rintro e w' ⟨rfl,rfl⟩)|(go_at_call 105;refine(yfl _ ls _ _ _ Hls.out ⟨by omega,by omega⟩).mono ?_;rintro e w' ⟨rfl,m,rfl⟩))
        go_ret
        exact⟨yu Hf.out.symm,below_drewN Hbw.out _⟩
      ·have c2d:decide (g.ports.length<=ls.length)=true:=by simp;omega
       have Hf:=zA (Hbad.out (fun h=>c2 (h x ls Hx.out Hlp.out).2.1))
       go_wp2_with (first|(go_at_call 84;refine(In_t _ _ _ _ (by omega) (by omega)).mono ?_;rintro e w' ⟨rfl,rfl⟩)|(go_at_call 105;refine(yfl _ ls _ _ _ Hls.out ⟨by omega,by omega⟩).mono ?_;rintro e w' ⟨rfl,m,rfl⟩))
       go_ret
       exact⟨yu Hf.out.symm,Hbw.out⟩
     ·have Hf:=zA (Hbad.out (fun h=>c1 (h x ls Hx.out Hlp.out).1));have c1':x<0\/255<x:=by omega
      clear c1
      go_wp2_with (first|(go_at_call 84;refine(In_f _ _ _ _ (by omega)).mono ?_;rintro e w' ⟨rfl,rfl⟩))
      go_ret
      exact⟨yu Hf.out.symm,Hbw.out⟩
    ·obtain rfl:k=g.ports.length:=by omega
     go_wp2
     go_loopw [6] (fun t wr=>∃k:Nat,k<=g.ports.length/\t = .int .i64 k/\Hid (Below (w.heap.size+1) (w.alloc (.cells #[.slice A g.ids.length c,.slice A2 g.ports.length c2] 25)) wr)/\Hid (∀v i,v<k->V3 g v i)) (fun t _=>g.ports.length-(intOf t).toNat)
     case atStart=>exact⟨0,by omega,rfl,hbel,zA (fun v i hv=>absurd hv (by omega))⟩
     case round =>
      clear hbel Hbw q0 q1 hsz
      obtain⟨k,hk,rfl,hbel,hv3⟩:=hrel;obtain⟨q0,q1,hbw,hsz⟩:=box2 hbel.out;have Hbw:=zA hbw
      clear hbw
      by_cases hlt:k<g.ports.length
      ·obtain⟨ls,hle⟩:∃ls,g.ports[k]=ls:=⟨_,rfl⟩;have hlp:g.ports[k]?=some ls:=by rw[zB hlt,hle]
       have Hlp:=zA hlp
       clear hle hlp
       have Hlk:=zA (show ∀l∈ls,ygn k g.ports.length l by
        have:=(hv2.out k hlt _ ls (zB (by omega)) Hlp.out).2.2.1
        exact fun l hl=>(of_decide_eq_true this).1 l hl)
       have Hbad:=zA (fun i h=>ymf (g:=g) (v:=k) (i:=i) hlt h)
       go_wp2
       go_loopw [7] (fun t wr=>∃i:Nat,i<=ls.length/\t = .int .i64 i/\Hid (Below (w.heap.size+1) (w.alloc (.cells #[.slice A g.ids.length c,.slice A2 g.ports.length c2] 25)) wr)/\Hid (∀j,j<i->V3 g k j)) (fun t _=>ls.length-(intOf t).toNat)
       case atStart=>exact⟨0,by omega,rfl,hbel,zA (fun j hj=>absurd hj (by omega))⟩
       case round =>
        clear hbel Hbw q0 q1 hsz
        obtain⟨i,hi,rfl,hbel,hv3'⟩:=hrel;obtain⟨q0,q1,hbw,hsz⟩:=box2 hbel.out;have Hbw:=zA hbw;obtain⟨b2,off2,lv,rfl,hb2,hcl,hls⟩:=ydy (Hp.out.below (Stable.sl Stable.link) Hbw.out) Hlp.out;obtain⟨A3,c3,rfl,hl1,hl2⟩:=ybh hls
        by_cases hil:i<ls.length
        ·obtain⟨A4,c4,e4,_,_,hE⟩:=hls;cases e4
         obtain⟨b3,off3,rfl,hb3,hE⟩:=hE (by omega)
         obtain⟨⟨l1,wt⟩,hle⟩:∃l,ls[i]=l:=⟨_,rfl⟩;have hl?:ls[i]?=some (l1,wt):=by rw[zB hil,hle]
         obtain⟨hx1,hx2,⟨hr1,hr2⟩,⟨hr3,hr4⟩⟩:=hE i _ hl?;have hlk:=Hlk.out (l1,wt) (zF hl?);unfold ygn at hlk;obtain⟨k1,k2,k3,k4,k5⟩:=hlk;simp only at k1 k2 k3 k4 k5 hx1 hx2 hr1 hr2 hr3 hr4;obtain⟨t,rfl⟩:=zX k1;have htl:t<g.ports.length:=by omega
         obtain⟨b',off',lv',e',hb',hcl',hls'⟩:=ydy (Hp.out.below (Stable.sl Stable.link) Hbw.out) (zB htl);cases e'
         obtain⟨A5,c5,rfl,hm1,hm2⟩:=ybh hls';obtain⟨ls',hle'⟩:∃ls',g.ports[t]=ls':=⟨_,rfl⟩;have Hlp':=zA (show g.ports[t]?=some ls' by rw[zB htl,hle'])
         rw[hle']at hls' hcl' hm1;have Hl?:=zA hl?;have HE:=zA hE;have Hls':=zA hls';have Hbb:=zA (Hbad.out i)
         clear hle hle' hl? hE hls' k1 k3 hbw
         have Hgr:=zA (hg0.out.below Hbw.out);rcases yqt (ls:=ls') (u:=(k:Int))with hpt|⟨q,hpt,hq⟩
         ·have Hpt:=zA hpt
          clear hpt
          have Hf:=zA (Hbb.out (fun h=>by
           obtain⟨ls2,q2,l2,f1,f2,_⟩:=h ls _ Hlp.out Hl?.out;rw[zG,Hlp'.out]at f1;cases f1
           rw[Hpt.out]at f2;omega))
          go_wp2_with fail
          refine(ylg _ g t ls' k _ (Hgr.out.below ((Below.refl _ _).alloc (zC _) _)) Hlp'.out).mono ?_;rintro e w3 ⟨rfl,hb3w⟩;rw[Hpt.out];have d0:=keepA hb3w _ _ q0;have d1:=keepA hb3w _ _ q1;have d2:=keepA hb3w _ _ hcl';obtain⟨d3,d4⟩:=ybcf hb3w;have Hb3:=zA (ymc hb3w);have hz3:wr.heap.size<w3.heap.size:=by have:=hb3w.size;simp at this;omega
          clear hb3w
          go_wp2
          go_quiet (fail)
          go_wp2
          go_ret
          exact⟨yu Hf.out.symm,below_drewN (Hbw.out.trans (Hb3.out.mono Hbw.out.size)) _⟩
         ·have Hpt:=zA hpt
          clear hpt
          obtain⟨A6,c6,e6,_,_,hE6⟩:=Hls'.out;cases e6
          obtain⟨b6,off6,rfl,hb6,hE6⟩:=hE6 (by omega)
          obtain⟨⟨y1,y2⟩,hqe⟩:∃l,ls'[q]=l:=⟨_,rfl⟩;have hq?:ls'[q]?=some (y1,y2):=by rw[zB hq,hqe]
          obtain⟨_,hx4,_,_⟩:=hE6 q _ hq?;simp only at hx4;have Hq?:=zA hq?
          clear hqe hq? hE6
          by_cases c7:y2=wt
          ·have c7':(y2 != wt)=false:=by simp[c7]
           have Hv:=zA (show V3 g k i from fun ls2 l2 f1 f2=>by
            rw[Hlp.out]at f1;cases f1
            rw[Hl?.out]at f2;cases f2
            exact⟨ls',q,(y1,y2),by rw[zG];exact Hlp'.out,Hpt.out,Hq?.out,c7⟩)
           clear c7
           go_wp2_with fail
           refine(ylg _ g t ls' k _ (Hgr.out.below ((Below.refl _ _).alloc (zC _) _)) Hlp'.out).mono ?_;rintro e w3 ⟨rfl,hb3w⟩;rw[Hpt.out];have d0:=keepA hb3w _ _ q0;have d1:=keepA hb3w _ _ q1;have d2:=keepA hb3w _ _ hcl';obtain⟨d3,d4⟩:=ybcf hb3w;have Hb3:=zA (ymc hb3w);have hz3:wr.heap.size<w3.heap.size:=by have:=hb3w.size;simp at this;omega
           clear hb3w
           have d5:=(Hb3.out.cell hb6).trans hx4
           go_wp2
           go_quiet (fail)
           go_wp2
           go_roundw
           case rel =>
            refine⟨i+1,by omega,by go_num,zA (below_drewN (hbel.out.trans (Hb3.out.mono (by have:=hbel.out.size;simp at this;omega))) _),zA (fun j hj=>?_)⟩
            by_cases hji:j<i
            ·exact hv3'.out j hji
            ·obtain rfl:j=i:=by omega
             exact Hv.out
           case measure=>simp[intOf];omega
          ·have c7':(y2 != wt)=true:=by simp[c7]
           have Hf:=zA (Hbb.out (fun h=>by
            obtain⟨ls2,q2,l2,f1,f2,f3,f4⟩:=h ls _ Hlp.out Hl?.out;rw[zG,Hlp'.out]at f1;cases f1
            rw[Hpt.out]at f2;obtain rfl:q=q2:=by omega
            rw[Hq?.out]at f3;cases f3
            exact c7 f4))
           clear c7
           go_wp2_with fail
           refine(ylg _ g t ls' k _ (Hgr.out.below ((Below.refl _ _).alloc (zC _) _)) Hlp'.out).mono ?_;rintro e w3 ⟨rfl,hb3w⟩;rw[Hpt.out];have d0:=keepA hb3w _ _ q0;have d1:=keepA hb3w _ _ q1;have d2:=keepA hb3w _ _ hcl';obtain⟨d3,d4⟩:=ybcf hb3w;have Hb3:=zA (ymc hb3w);have hz3:wr.heap.size<w3.heap.size:=by have:=hb3w.size;simp at this;omega
           clear hb3w
           have d5:=(Hb3.out.cell hb6).trans hx4
           go_wp2
           go_quiet (fail)
           go_wp2
           go_ret
           exact⟨yu Hf.out.symm,below_drewN (Hbw.out.trans (Hb3.out.mono Hbw.out.size)) _⟩
        ·obtain rfl:i=ls.length:=by omega
         have HE:=zA hls
         clear hls hbw
         go_wp2
         go_roundw
         case rel =>
          refine⟨k+1,by omega,by go_num,hbel,zA (fun v j hv=>?_)⟩
          by_cases hvk:v<k
          ·exact hv3.out v j hvk
          ·obtain rfl:v=k:=by omega
           by_cases hj:j<ls.length
           ·exact hv3'.out j hj
           ·intro ls2 l2 f1 f2;rw[Hlp.out]at f1;cases f1
            rw[zY (by omega)]at f2
            cases f2
         case measure=>simp[intOf];omega
      ·obtain rfl:k=g.ports.length:=by omega
       have Ht:=zA (show ybq g=true from decide_eq_true (ybf.of n1a n1b Hn2.out hv2.out (fun v i hv=>hv3.out v i hv)))
       go_wp2
       go_ret
       exact⟨yu Ht.out.symm,Hbw.out⟩
  ·have n2':((g.ids.length:Int)!=(g.ports.length:Int))=true:=by simp;omega
   have Hf:=zA (ycz (g:=g) (fun h=>n2 h.2.2))
   clear n2
   go_enter zAD,zAA
   go_wp2_with (first|(go_at_call 84;refine(In_t _ _ _ _ (by omega) (by omega)).mono ?_;rintro e w' ⟨rfl,rfl⟩))
   go_ret
   exact⟨yu Hf.out.symm,(Below.refl _ _).alloc (zC _) _⟩
 ·have Hf:=zA (ycz (g:=g) (fun h=>n1 ⟨h.1,h.2.1⟩));have n1':g.ports.length<1\/24<g.ports.length:=by omega
  clear n1
  go_enter zAD,zAA
  go_wp2_with (first|(go_at_call 84;refine(In_f _ _ _ _ (by omega)).mono ?_;rintro e w' ⟨rfl,rfl⟩))
  go_ret
  exact⟨yu Hf.out.symm,(Below.refl _ _).alloc (zC _) _⟩
end
section
open Go.RowKit
def ybtu(acc:Int×Int->Bool)(ls:List (Int×Int)):Int:=match ls.findIdx? acc with|some i=>i|none=>-1
end
section
def portOf(g:Gr)(v:Nat)(y:Int):Int:=if 0<=y then((g.ports.getD v []).getD y.toNat (0,0)).1 else -1
def ypn(g:Gr)(c:Conf)(x:Nat):List Int:=c.zipIdx.map (fun p=>portOf g p.2 (p.1.getD x 0))
def ybrh(D:List Int)(v:Nat)(l:Int×Int):Bool:=D.getD l.1.toNat 0==D.getD v 0-1
def wayP(g:Gr)(D:List Int)(v:Nat):Int:=ybtu (ybrh D v) (g.ports.getD v [])
theorem ysk(g:Gr)(c:Conf)(x v:Nat)(s:List Int)(hs:c[v]?=some s):(ypn g c x)[v]?=some (portOf g v (s.getD x 0)):=by
 simp[ypn,List.getElem?_zipIdx,hs]
end
section
def ybye(ids:List Int)(k:Nat):Int:=(ids.take k).tail.foldl max (ids.headD 0)
abbrev maxI(ids:List Int):Int:=ybye ids ids.length
end
section
namespace Sh
open Go Ev
def ybi(l:List Int):SV:=.sl 1 l.length (fun k=>[.i .i64 (l.getD k 0)])
def ybc(ls:List (Int×Int)):SV:=.sl 2 ls.length (fun j=>[.i .i64 (ls.getD j (0,0)).1,.i .i64 (ls.getD j (0,0)).2])
def yba(ps:List (List (Int×Int))):SV:=.sl 1 ps.length (fun v=>[ybc (ps.getD v [])])
def ybu(c:List (List Int)):SV:=.sl 1 c.length (fun v=>[ybi (c.getD v [])])
def grV(g:Gr):SV:=.ag [ybi g.ids,yba g.ports]
theorem ik{n:Int}(h1:-1000000000000<=n)(h2:n<=1000000000000):inK .i64 n:=by
 unfold inK;simp[IntKind.min,IntKind.max,IntKind.bits,IntKind.signed];omega
theorem ikw{n:Int}(h1:-4611686018427387904<=n)(h2:n<=4611686018427387904):inK .i64 n:=by
 unfold inK;simp[IntKind.min,IntKind.max,IntKind.bits,IntKind.signed];omega
theorem getD_at{α:Type}{l:List α}{k:Nat}{d:α}(h:k<l.length):l.getD k d=l[k]:=by simp[zH,h]
end Sh
end
section
structure VarR where
 name:ByteArray
 kind:Int
 lo:Int
 hi:Int
 perNode:Int
 perID:Int
def varE:Elem VarR:=fun w b o x=>w.cell? ⟨b,o,none⟩=some (.string x.name)/\w.cell? ⟨b,o+1,none⟩=some (.int .i64 x.kind)/\w.cell? ⟨b,o+2,none⟩=some (.int .i64 x.lo)/\w.cell? ⟨b,o+3,none⟩=some (.int .i64 x.hi) /\
 w.cell? ⟨b,o+4,none⟩=some (.int .i64 x.perNode)/\w.cell? ⟨b,o+5,none⟩=some (.int .i64 x.perID)
theorem Stable.var:Stable varE:=fun _ _ _ _ _ h _ hx=>⟨h _ _ hx.1,h _ _ hx.2.1,h _ _ hx.2.2.1,h _ _ hx.2.2.2.1,h _ _ hx.2.2.2.2.1,h _ _ hx.2.2.2.2.2⟩
abbrev yblz:=SlAt 6 varE
def ybfq(x:VarR):Prop:=(0<=x.lo/\x.lo<=100000)/\(-100000<=x.hi/\x.hi<=100000)/\(0<=x.perNode/\x.perNode<=1000)/\(0<=x.perID/\x.perID<=1000)
def yqx(g:Gr)(v:Nat)(x:VarR):Int×Int :=
 if x.kind=2 then(0,1)else if x.kind=3 then(-1,(yrz g v:Int)-1)else(x.lo,x.hi+x.perNode*(g.ports.length:Int)+x.perID*ygr g)
def yew(g:Gr)(vars:List VarR)(v:Nat):Bounds:=vars.map (yqx g v)
def ydj(g:Gr)(c:Conf)(vars:List VarR):Bool:=ybq g&&yku g.ports.length (yew g vars) c
theorem yzf(ids:List Int)(k:Nat)(hk:k<ids.length):(ids.take (k+1)).foldl max 0=max ((ids.take k).foldl max 0) ids[k]:=by
 rw[take_snoc ids k hk,zS];rfl
theorem yro(D:List Int)(m:Int)(h:∀x∈D,x<=m):∀a:Int,a<=m->D.foldl max a<=m:=by
 induction D with
 |nil=>intro a ha;exact ha
 |cons x D ih=>intro a ha;exact ih (fun y hy=>h y (by simp[hy])) _ (Int.max_le.2 ⟨ha,h x (by simp)⟩)
theorem yuo{g:Gr}(hg:ybf g):0<=ygr g/\ygr g<=255:=⟨ytv _ _,yro _ _ (fun x hx=>(hg.2.2.2.1 x hx).2) _ (by omega)⟩
end
section
abbrev Tm:=Int×Int
structure SetR where
 var:Int
 val:List Tm
structure RuleR where
 name:ByteArray
 guard:List Tm
 sets:List SetR
structure ProgR where
 name:ByteArray
 vars:List VarR
 rules:List RuleR
instance:Inhabited VarR:=⟨⟨.empty,0,0,0,0,0⟩⟩
instance:Inhabited SetR:=⟨⟨0,[]⟩⟩
instance:Inhabited RuleR:=⟨⟨.empty,[],[]⟩⟩
inductive Ex where
 |leaf (op arg:Int)
 |un (op:Int) (a:Ex)
 |agg (op:Int) (a:Ex)
 |bin (op:Int) (a b:Ex)
 |ite (c a b:Ex)
def Ex.ser:Ex->List Tm
 |.leaf op arg=>[(op,arg)]
 |.un op a=>(op,0)::a.ser
 |.agg op a=>(op,0)::a.ser
 |.bin op a b=>(op,0)::(a.ser++b.ser)
 |.ite c a b=>(43,0)::(c.ser++(a.ser++b.ser))
def satP(a:Int):Int:=max (-1073741824) (min a 1073741824)
def ykg(b:Bool):Int:=if b then 1 else 0
def ybul(a b:Int):Int:=if b=0 then 0 else if a.tmod b≠0/\(decide (a<0)≠decide (b<0))then a.tdiv b-1 else a.tdiv b
def unP(op a:Int):Int:=if op=18 then -a else ykg (a==0)
def cmpP(op a b:Int):Bool:=if op=35 then a==b else if op=36 then a != b else if op=37 then decide (a<b)else if op=38 then decide (a<=b)else if op=39 then decide (a>b)else decide (a>=b)
def binP(op a b:Int):Int :=
 if op=30 then satP (a*b)else if op=31 then satP (ybul a b)else if op=32 then(if b=0 then 0 else satP (a-b*ybul a b))else if op=33 then satP (a+b)else if op=34 then satP (a-b)
 else if op=41 then ykg (a != 0&&b != 0)else if op=42 then ykg (a != 0||b != 0)else ykg (cmpP op a b)
def countP(l:List Int):Int:=((l.filter (· != 0)).length:Int)
def ybru(l:List Int):Int:=l.foldl min 1073741824
def ybck(l:List Int):Int×Int:=l.foldl (fun p a=>if a>p.1 then(a,p.1)else(p.1,max p.2 a)) (-1073741824,-1073741824)
def ybsf(l:List Int):Nat->Int->Int
 |0,r=>r
 |n+1,r=>if l.elem r then ybsf l n (r+1)else r
def mexP(l:List Int):Int:=ybsf l (l.length+1) 0
def ybfh(l:List Int):Int:=match l.findIdx? (· != 0)with|some i=>i|none=>-1
def ybzv(op:Int)(l:List Int):Int :=
 if op=20 then ykg (countP l==l.length)else if op=21 then ykg (decide (countP l>0))else if op=22 then countP l else if op=23 then ybfh l else if op=24 then ybru l else if op=25 then(ybck l).1
 else if op=26 then satP l.sum else if op=27 then mexP l else if op=28 then(ybck l).2 else l.headD 0
structure Sc where
 g:Gr
 c:Conf
def ybg(g:Gr)(v port:Nat):Int×Int:=(g.ports.getD v []).getD port (0,0)
def ybmh(g:Gr)(v:Nat):List Int:=(g.ports.getD v []).map fun l=>ydo (g.ports.getD l.1.toNat []) v
def ybyl(g:Gr)(op:Int)(v:Nat)(port:Int):Int :=
 if op=6 then g.ids.length else if op=7 then ygr g else if op=8 then g.ids.getD v 0 else if op=9 then((g.ports.getD v []).length:Int)else if op=10 then ykg ((v:Int)==0)else if op=11 then port
 else(let l:=ybg g v port.toNat
  if op=13 then g.ids.getD l.1.toNat 0 else if op=14 then((g.ports.getD l.1.toNat []).length:Int)else if op=15 then ykg (l.1==0)else if op=16 then l.2 else(ybmh g v).getD port.toNat 0)
def ybzt(g:Gr)(c:Conf)(op arg:Int)(v:Nat)(port:Int):Int :=
 if op=1 then arg else if op=2 then 1 else if op=3 then 0 else if op=4 then -1 else if op=5 then(c.getD v []).getD arg.toNat 0 else if op=12 then(c.getD (ybg g v port.toNat).1.toNat []).getD arg.toNat 0
 else ybyl g op v port
def ypf(g:Gr)(c:Conf)(v:Nat):Ex->Int->Int
 |.leaf op arg,p=>ybzt g c op arg v p
 |.un op a,p=>unP op (ypf g c v a p)
 |.agg op a,_=>ybzv op ((zJ (g.ports.getD v []).length).map fun(q:Nat)=>ypf g c v a (q:Int))
 |.bin op a b,p=>binP op (ypf g c v a p) (ypf g c v b p)
 |.ite x a b,p=>if ypf g c v x p≠0 then ypf g c v a p else ypf g c v b p
def Ex.ok(nv:Int)(bnd:Bool):Ex->Bool
 |.leaf op arg=>decide (1<=op/\op<=17)&&(if op=1 then decide (0<=arg/\arg<=1073741824)else if op=5\/op=12 then decide (0<=arg/\arg<nv)else true)&&(if 11<=op then bnd else true)
 |.un op a=>decide (op=18\/op=19)&&a.ok nv bnd
 |.agg op a=>decide (20<=op/\op<=29)&&a.ok nv true
 |.bin op a b=>decide (30<=op/\op<=42)&&a.ok nv bnd&&b.ok nv bnd
 |.ite x a b=>x.ok nv bnd&&a.ok nv bnd&&b.ok nv bnd
def InB(x:Int):Prop:=-1073741824<=x/\x<=1073741824
structure ConfIn(n nv:Nat)(c:Conf):Prop where
 len:c.length=n
 row:∀s∈c,s.length=nv/\∀x∈s,InB x
theorem ConfIn.at_{n nv:Nat}{c:Conf}(h:ConfIn n nv c){v:Nat}(hv:v<n):(c.getD v []).length=nv/\∀k,InB ((c.getD v []).getD k 0):=by
 have hlt:v<c.length:=by rw[h.len];exact hv
 have e:c.getD v []=c[v]:=by simp[zH,hlt]
 obtain⟨h1,h2⟩:=h.row c[v] (zV hlt);rw[e];refine⟨h1,fun k=>?_⟩;rw[zQ];cases hk:c[v][k]? with
 |none=>simp;unfold InB;omega
 |some x=>simp;exact h2 x (zF hk)
theorem ybf.ybg{g:Gr}(hg:ybf g){v p:Nat}(hv:v<g.ports.length)(hp:p<(g.ports.getD v []).length):0<=(ybg g v p).1/\(ybg g v p).1<g.ports.length/\1<=(ybg g v p).2/\(ybg g v p).2<=15:=by
 have e:g.ports.getD v []=g.ports[v]:=by simp[zH,hv]
 have h1:=hg.2.2.2.2.2.1 ⟨v,hv⟩;rw[e]at hp;have hm:(g.ports[v])[p]∈g.ports[v]:=zV hp;have h2:=h1.1 _ hm;unfold ygn at h2;have e2:Go.Proofs.YtiejahgklcjhkaaGreat.ybg g v p=(g.ports[v])[p]:=by unfold Go.Proofs.YtiejahgklcjhkaaGreat.ybg;rw[e];simp[zH,hp]
 rw[e2];omega
theorem ybf.deg_lt{g:Gr}(hg:ybf g){v:Nat}:(g.ports.getD v []).length<24:=by
 by_cases hv:v<g.ports.length
 ·have h1:=hg.2.2.2.2.2.1 ⟨v,hv⟩;have:=yna hv h1;have e:g.ports.getD v []=g.ports[v]:=by simp[zH,hv]
  rw[e];have:=hg.2.1;have h3:g.ports[(⟨v,hv⟩:Fin g.ports.length)].length=g.ports[v].length:=rfl;omega
 ·rw[zQ,zY (by omega)]
  simp
end
section
namespace Sh
open Go Ev
end Sh
end
section
namespace Sh
open Go Ev
end Sh
end
section
namespace Sh
open Go Ev
end Sh
end
section
def Ex.head:Ex->Tm
 |.leaf op arg=>(op,arg)
 |.un op _=>(op,0)
 |.agg op _=>(op,0)
 |.bin op _ _=>(op,0)
 |.ite _ _ _=>(43,0)
namespace Sh
open Go Ev
end Sh
end
section
namespace Sh
open Go Ev
def varC(x:VarR):List SV:=[.a (.string x.name),.i .i64 x.kind,.i .i64 x.lo,.i .i64 x.hi,.i .i64 x.perNode,.i .i64 x.perID]
def yfa(l:List VarR):SV:=.sl 6 l.length (fun k=>varC (l.getD k default))
def yid(l:List SetR):SV:=.sl 2 l.length (fun k=>[.i .i64 (l.getD k default).var,ybc (l.getD k default).val])
def yek(l:List RuleR):SV:=.sl 3 l.length (fun k=>[.a (.string (l.getD k default).name),ybc (l.getD k default).guard,yid (l.getD k default).sets])
def yfe(g:Gr):SV:=.sl 1 g.ports.length (fun v=>[ybi (ybmh g v)])
theorem yyy(l:List Int):one1 (ybi l)=true:=rfl
theorem yvv{n:Nat}(l:List Int):owned (n+1) (ybi l)=false:=rfl
theorem ytn{n:Nat}(l:List Int):scalar (n+1) (ybi l)=false:=rfl
theorem ybay{n:Nat}(o:Own)(l:List Int):view o (n+1) (ybi l)=ybi l:=rfl
theorem ybcv{n:Nat}(o:Own)(l:List Int):vok o (n+1) (ybi l)=True:=rfl
theorem ybdb{n:Nat}(h:Nm->Nm)(l:List Int):ren h (n+1) (ybi l)=ybi l:=rfl
theorem ybcn{n:Nat}(L:Nm->Bool)(l:List Int):cln L (n+1) (ybi l)=true:=rfl
theorem yuf(l:List (Int×Int)):one1 (ybc l)=true:=rfl
theorem yrq{n:Nat}(l:List (Int×Int)):owned (n+1) (ybc l)=false:=rfl
theorem yoz{n:Nat}(l:List (Int×Int)):scalar (n+1) (ybc l)=false:=rfl
theorem yvt{n:Nat}(o:Own)(l:List (Int×Int)):view o (n+1) (ybc l)=ybc l:=rfl
theorem yyx{n:Nat}(o:Own)(l:List (Int×Int)):vok o (n+1) (ybc l)=True:=rfl
theorem yzz{n:Nat}(h:Nm->Nm)(l:List (Int×Int)):ren h (n+1) (ybc l)=ybc l:=rfl
theorem ybau{n:Nat}(L:Nm->Bool)(l:List (Int×Int)):cln L (n+1) (ybc l)=true:=rfl
theorem yux(l:List (List (Int×Int))):one1 (yba l)=true:=rfl
theorem yqz{n:Nat}(l:List (List (Int×Int))):owned (n+1) (yba l)=false:=rfl
theorem yph{n:Nat}(l:List (List (Int×Int))):scalar (n+1) (yba l)=false:=rfl
theorem yuh{n:Nat}(o:Own)(l:List (List (Int×Int))):view o (n+1) (yba l)=yba l:=rfl
theorem yzq{n:Nat}(o:Own)(l:List (List (Int×Int))):vok o (n+1) (yba l)=True:=rfl
theorem ybag{n:Nat}(h:Nm->Nm)(l:List (List (Int×Int))):ren h (n+1) (yba l)=yba l:=rfl
theorem ybbg{n:Nat}(L:Nm->Bool)(l:List (List (Int×Int))):cln L (n+1) (yba l)=true:=rfl
theorem ybaz(l:List (List Int)):one1 (ybu l)=true:=rfl
theorem ywr{n:Nat}(l:List (List Int)):owned (n+1) (ybu l)=false:=rfl
theorem ysm{n:Nat}(l:List (List Int)):scalar (n+1) (ybu l)=false:=rfl
theorem ybax{n:Nat}(o:Own)(l:List (List Int)):view o (n+1) (ybu l)=ybu l:=rfl
theorem ybgg{n:Nat}(o:Own)(l:List (List Int)):vok o (n+1) (ybu l)=True:=rfl
theorem ybee{n:Nat}(h:Nm->Nm)(l:List (List Int)):ren h (n+1) (ybu l)=ybu l:=rfl
theorem ybcx{n:Nat}(L:Nm->Bool)(l:List (List Int)):cln L (n+1) (ybu l)=true:=rfl
theorem ybbh(l:List VarR):one1 (yfa l)=true:=rfl
theorem ywz{n:Nat}(l:List VarR):owned (n+1) (yfa l)=false:=rfl
theorem yrn{n:Nat}(l:List VarR):scalar (n+1) (yfa l)=false:=rfl
theorem yzd{n:Nat}(o:Own)(l:List VarR):view o (n+1) (yfa l)=yfa l:=rfl
theorem ybge{n:Nat}(o:Own)(l:List VarR):vok o (n+1) (yfa l)=True:=rfl
theorem ybfs{n:Nat}(h:Nm->Nm)(l:List VarR):ren h (n+1) (yfa l)=yfa l:=rfl
theorem ybcb{n:Nat}(L:Nm->Bool)(l:List VarR):cln L (n+1) (yfa l)=true:=rfl
theorem yzv(l:List SetR):one1 (yid l)=true:=rfl
theorem yua{n:Nat}(l:List SetR):owned (n+1) (yid l)=false:=rfl
theorem ytp{n:Nat}(l:List SetR):scalar (n+1) (yid l)=false:=rfl
theorem ybae{n:Nat}(o:Own)(l:List SetR):view o (n+1) (yid l)=yid l:=rfl
theorem ybbt{n:Nat}(o:Own)(l:List SetR):vok o (n+1) (yid l)=True:=rfl
theorem ybco{n:Nat}(h:Nm->Nm)(l:List SetR):ren h (n+1) (yid l)=yid l:=rfl
theorem ybdr{n:Nat}(L:Nm->Bool)(l:List SetR):cln L (n+1) (yid l)=true:=rfl
theorem yup(l:List RuleR):one1 (yek l)=true:=rfl
theorem yse{n:Nat}(l:List RuleR):owned (n+1) (yek l)=false:=rfl
theorem ypw{n:Nat}(l:List RuleR):scalar (n+1) (yek l)=false:=rfl
theorem yvs{n:Nat}(o:Own)(l:List RuleR):view o (n+1) (yek l)=yek l:=rfl
theorem ybbi{n:Nat}(o:Own)(l:List RuleR):vok o (n+1) (yek l)=True:=rfl
theorem ybah{n:Nat}(h:Nm->Nm)(l:List RuleR):ren h (n+1) (yek l)=yek l:=rfl
theorem ybap{n:Nat}(L:Nm->Bool)(l:List RuleR):cln L (n+1) (yek l)=true:=rfl
theorem yvg(l:Gr):one1 (yfe l)=true:=rfl
theorem ytm{n:Nat}(l:Gr):owned (n+1) (yfe l)=false:=rfl
theorem ype{n:Nat}(l:Gr):scalar (n+1) (yfe l)=false:=rfl
theorem ywu{n:Nat}(o:Own)(l:Gr):view o (n+1) (yfe l)=yfe l:=rfl
theorem ybbb{n:Nat}(o:Own)(l:Gr):vok o (n+1) (yfe l)=True:=rfl
theorem yyu{n:Nat}(h:Nm->Nm)(l:Gr):ren h (n+1) (yfe l)=yfe l:=rfl
theorem ybbj{n:Nat}(L:Nm->Bool)(l:Gr):cln L (n+1) (yfe l)=true:=rfl
theorem ywa{n:Nat}(fr:List Nm)(o:Own)(l:List Int):ycn fr o (n+1) (ybi l)=ybi l:=rfl
theorem ybfm{n:Nat}(fr:List Nm)(o:Own)(l:List Int):pok fr o (n+1) (ybi l)=True:=rfl
theorem yry{n:Nat}(fr:List Nm)(o:Own)(l:List (Int×Int)):ycn fr o (n+1) (ybc l)=ybc l:=rfl
theorem yzk{n:Nat}(fr:List Nm)(o:Own)(l:List (Int×Int)):pok fr o (n+1) (ybc l)=True:=rfl
theorem yqw{n:Nat}(fr:List Nm)(o:Own)(l:List (List (Int×Int))):ycn fr o (n+1) (yba l)=yba l:=rfl
theorem ybac{n:Nat}(fr:List Nm)(o:Own)(l:List (List (Int×Int))):pok fr o (n+1) (yba l)=True:=rfl
theorem ywj{n:Nat}(fr:List Nm)(o:Own)(l:List (List Int)):ycn fr o (n+1) (ybu l)=ybu l:=rfl
theorem ybdc{n:Nat}(fr:List Nm)(o:Own)(l:List (List Int)):pok fr o (n+1) (ybu l)=True:=rfl
theorem ywd{n:Nat}(fr:List Nm)(o:Own)(l:List VarR):ycn fr o (n+1) (yfa l)=yfa l:=rfl
theorem ybdo{n:Nat}(fr:List Nm)(o:Own)(l:List VarR):pok fr o (n+1) (yfa l)=True:=rfl
theorem yvh{n:Nat}(fr:List Nm)(o:Own)(l:List SetR):ycn fr o (n+1) (yid l)=yid l:=rfl
theorem ybdz{n:Nat}(fr:List Nm)(o:Own)(l:List SetR):pok fr o (n+1) (yid l)=True:=rfl
theorem ytf{n:Nat}(fr:List Nm)(o:Own)(l:List RuleR):ycn fr o (n+1) (yek l)=yek l:=rfl
theorem ybaf{n:Nat}(fr:List Nm)(o:Own)(l:List RuleR):pok fr o (n+1) (yek l)=True:=rfl
theorem yrr{n:Nat}(fr:List Nm)(o:Own)(l:Gr):ycn fr o (n+1) (yfe l)=yfe l:=rfl
theorem yzu{n:Nat}(fr:List Nm)(o:Own)(l:Gr):pok fr o (n+1) (yfe l)=True:=rfl
theorem yud(l:List Int):SV.cells (ybi l)=[ybi l]:=rfl
theorem ytz(l:List (Int×Int)):SV.cells (ybc l)=[ybc l]:=rfl
theorem ytr(l:List (List (Int×Int))):SV.cells (yba l)=[yba l]:=rfl
theorem yww(l:List (List Int)):SV.cells (ybu l)=[ybu l]:=rfl
theorem yul(l:List VarR):SV.cells (yfa l)=[yfa l]:=rfl
theorem yut(l:List SetR):SV.cells (yid l)=[yid l]:=rfl
theorem yrg(l:List RuleR):SV.cells (yek l)=[yek l]:=rfl
theorem yrl(l:Gr):SV.cells (yfe l)=[yfe l]:=rfl
attribute [go_sem] yyy yvv ytn ybay ybcv ybdb ybcn yuf yrq yoz yvt yyx yzz ybau
attribute [go_sem] yux yqz yph yuh yzq ybag ybbg ybaz ywr ysm ybax ybgg ybee
attribute [go_sem] ybcx ybbh ywz yrn yzd ybge ybfs ybcb yzv yua ytp ybae ybbt ybco
attribute [go_sem] ybdr yup yse ypw yvs ybbi ybah ybap yvg ytm ype ywu ybbb
attribute [go_sem] yyu ybbj ywa ybfm yry yzk yqw ybac ywj ybdc ywd ybdo yvh ybdz
attribute [go_sem] ytf ybaf yrr yzu yud ytz ytr yww yul yut yrg yrl
end Sh
end
section
namespace Sh
open Go Ev
end Sh
end
section
namespace Sh
open Go Ev
end Sh
end
section
def ybpv(f:Nat->Bool):Nat->Nat
 |0=>0
 |n+1=>if f n then ybpv f n|||2^n else ybpv f n
def difB(a b:Nat):Nat:=a ^^^ (a&&&b)
theorem yxs(a b i:Nat):(difB a b).testBit i=(a.testBit i && !(b.testBit i)):=by
 unfold difB;rw[Nat.testBit_xor,zAH];cases a.testBit i<;>cases b.testBit i<;>rfl
structure Cnt where
 steps:Nat
 moves:Nat
 rounds:Nat
 begun:Nat
 pend:Nat
def ybva(s:Nat):Nat->Nat
 |0=>0
 |n+1=>ybva s n+(s.testBit n).toNat
def popP(s:Nat):Nat:=ybva s 32
def yfc(e:Nat):Cnt:=⟨0,0,0,0,e⟩
def addP(k:Cnt)(chosen after:Nat):Cnt :=
 let p:=difB k.pend chosen&&&after
 ⟨k.steps+1,k.moves+popP chosen,if p=0 then k.rounds+1 else k.rounds,k.rounds+1,if p=0 then after else p⟩
def Cnt.ok(k:Cnt):Prop:=k.rounds<=k.begun/\k.begun<=k.rounds+1/\k.begun<=k.steps/\k.steps<=k.moves/\k.moves<=24*k.steps/\k.pend<2^24
structure Sys where
 n:Nat
 en:Conf->Nat
 mv:Conf->Nat->Conf
def Sys.run(S:Sys)(res:Nat->Nat->Nat):List Nat->Conf->Cnt->List (Conf×Cnt)
 |[],_,_=>[]
 | w::ws,c,k=>if S.en c=0 then[]else(let s:=res (S.en c) w
   let d:=S.mv c s
   (d,addP k s (S.en d))::S.run res ws d (addP k s (S.en d)))
def Sys.runs(S:Sys)(res:Nat->Nat->Nat)(ws:List Nat)(c:Conf):List (Conf×Cnt):=(c,yfc (S.en c))::S.run res ws c (yfc (S.en c))
def subB(a b:Nat):Prop:=∀i,a.testBit i=true->b.testBit i=true
def ybjf(res:Nat->Nat->Nat):Prop:=∀e w,e≠0->res e w≠0/\subB (res e w) e
theorem Sys.run_all{S:Sys}{res:Nat->Nat->Nat}(hr:ybjf res){J:Conf->Cnt->Prop}(hstep:∀c k s,J c k->s≠0->subB s (S.en c)->J (S.mv c s) (addP k s (S.en (S.mv c s)))) :
 ∀(ws:List Nat) (c:Conf) (k:Cnt),J c k->∀p∈S.run res ws c k,J p.1 p.2
 |[],_,_,_,p,hp=>by cases hp
 | w :: ws,c,k,hJ,p,hp=>by
   unfold Sys.run at hp;split at hp
   ·cases hp
   ·rename_i h0
    obtain⟨r1,r2⟩:=hr _ w h0;have hJ':=hstep c k _ hJ r1 r2;rcases List.mem_cons.1 hp with e|e
    ·rw[e];exact hJ'
    ·exact Sys.run_all hr hstep ws _ _ hJ' p e
theorem Sys.runs_all{S:Sys}{res:Nat->Nat->Nat}(hr:ybjf res){J:Conf->Cnt->Prop}(hstep:∀c k s,J c k->s≠0->subB s (S.en c)->J (S.mv c s) (addP k s (S.en (S.mv c s)))){ws:List Nat}{c:Conf}(h:J c (yfc (S.en c))):∀p∈S.runs res ws c,J p.1 p.2:=fun p hp=>by
 rcases List.mem_cons.1 hp with e|e
 ·rw[e];exact h
 ·exact Sys.run_all hr hstep ws _ _ h p e
structure ByRounds(S:Sys)(V:Conf->Prop)(P:Nat->Nat->List Int->Prop):Prop where
 valid:∀c s,V c->s≠0->subB s (S.en c)->V (S.mv c s)
 stay:∀c s v,V c->v<S.n->s.testBit v=false->(S.mv c s).getD v []=c.getD v []
 move:∀c s v r,V c->v<S.n->s.testBit v=true->subB s (S.en c)->(∀u,u<S.n->P r u (c.getD u []))->P (r+1) v ((S.mv c s).getD v [])
 rest:∀c v r,V c->v<S.n->(S.en c).testBit v=false->(∀u,u<S.n->P r u (c.getD u []))->P (r+1) v (c.getD v [])
 less:∀r v s,P (r+1) v s->P r v s
structure RInv(S:Sys)(V:Conf->Prop)(P:Nat->Nat->List Int->Prop)(c:Conf)(k:Cnt):Prop where
 valid:V c
 all:∀v,v<S.n->P k.rounds v (c.getD v [])
 done:∀v,v<S.n->k.pend.testBit v=false->P (k.rounds+1) v (c.getD v [])
 begun:k.begun<=k.rounds+1
theorem ByRounds.start{S:Sys}{V:Conf->Prop}{P:Nat->Nat->List Int->Prop}(h:ByRounds S V P){c:Conf}(hv:V c)(h0:∀v,v<S.n->P 0 v (c.getD v [])):RInv S V P c (yfc (S.en c)) :=
 ⟨hv,h0,fun v hn hb=>h.rest c v 0 hv hn hb h0,by simp[yfc]⟩
theorem ByRounds.step{S:Sys}{V:Conf->Prop}{P:Nat->Nat->List Int->Prop}(h:ByRounds S V P)(c:Conf)(k:Cnt)(s:Nat)(hi:RInv S V P c k)(h0:s≠0)(hs:subB s (S.en c)):RInv S V P (S.mv c s) (addP k s (S.en (S.mv c s))):=by
 obtain⟨i1,i2,i3,i4⟩:=hi;have hv:=h.valid c s i1 h0 hs
 have hall:∀v,v<S.n->P k.rounds v ((S.mv c s).getD v []):=fun v hn=>by
  cases hb:s.testBit v with
  |true=>exact h.less _ _ _ (h.move c s v _ i1 hn hb hs i2)
  |false=>rw[h.stay c s v i1 hn hb];exact i2 v hn
 have hnext:∀v,v<S.n->(difB k.pend s&&&S.en (S.mv c s)).testBit v=false->P (k.rounds+1) v ((S.mv c s).getD v []):=fun v hn hb=>by
  rw[zAH,yxs]at hb;cases hb1:s.testBit v with
  |true=>exact h.move c s v _ i1 hn hb1 hs i2
  | false =>
    cases hb2:k.pend.testBit v with
    |false=>rw[h.stay c s v i1 hn hb1];exact i3 v hn hb2
    | true =>
      rw[hb1,hb2]at hb;exact h.rest _ v _ hv hn (by simpa using hb) hall
 unfold addP;simp only
 by_cases hp:difB k.pend s&&&S.en (S.mv c s)=0
 ·simp only[if_pos hp];have hall':∀v,v<S.n->P (k.rounds+1) v ((S.mv c s).getD v []):=fun v hn=>hnext v hn (by rw[hp];simp)
  exact⟨hv,hall',fun v hn hb=>h.rest _ v _ hv hn hb hall',by show k.rounds+1<=_;simp⟩
 ·simp only[if_neg hp];exact⟨hv,hall,hnext,zC _⟩
theorem ByRounds.runs{S:Sys}{V:Conf->Prop}{P:Nat->Nat->List Int->Prop}(h:ByRounds S V P){res:Nat->Nat->Nat}(hr:ybjf res){ws:List Nat}{c:Conf}(hv:V c)(h0:∀v,v<S.n->P 0 v (c.getD v [])):∀p∈S.runs res ws c,RInv S V P p.1 p.2 :=
 Sys.runs_all hr h.step (h.start hv h0)
end
section
structure RuleT where
 name:ByteArray
 guard:Ex
 sets:List (Int×Ex)
structure ProgT where
 name:ByteArray
 vars:List VarR
 rules:List RuleT
instance:Inhabited Ex:=⟨.leaf 0 0⟩
instance:Inhabited RuleT:=⟨⟨.empty,default,[]⟩⟩
def RuleT.raw(r:RuleT):RuleR:=⟨r.name,r.guard.ser,r.sets.map fun s=>⟨s.1,s.2.ser⟩⟩
def ProgT.raw(p:ProgT):ProgR:=⟨p.name,p.vars,p.rules.map RuleT.raw⟩
def RuleT.ok(nv:Nat)(r:RuleT):Bool:=r.guard.ok nv false&&decide (r.guard.ser.length<=1000)&&decide (r.sets.length<=100)&&r.sets.all fun s=>decide (0<=s.1/\s.1<nv)&&s.2.ok nv false&&decide (s.2.ser.length<=1000)
def VarR.ok(x:VarR):Bool:=decide (x.kind=1\/x.kind=2\/x.kind=3)&&decide (0<=x.lo/\x.lo<=4096)&&decide (-4096<=x.hi/\x.hi<=4096)&&decide (0<=x.perNode/\x.perNode<=255)&&decide (0<=x.perID/\x.perID<=255)
def ProgT.ok(p:ProgT):Bool:=decide (1<=p.vars.length/\p.vars.length<=6)&&p.vars.all VarR.ok&&decide (p.rules.length<=12)&&p.rules.all (RuleT.ok p.vars.length)
def ybxg(g:Gr)(c:Conf)(v:Nat)(r:RuleT):Bool:=ypf g c v r.guard (-1)!=0
def ybsb(p:ProgT)(g:Gr)(c:Conf)(v:Nat):Int:=match p.rules.findIdx? (ybxg g c v)with|some i=>i|none=>-1
def ynu(g:Gr)(v:Nat)(x:VarR):Int×Int :=
 if x.kind=1 then(x.lo,x.hi+x.perNode*(g.ids.length:Int)+x.perID*maxI g.ids)else if x.kind=2 then(0,1)else if x.kind=3 then(-1,((g.ports.getD v []).length:Int)-1)else(0,-1)
def ybvb(kind:Int)(b:Int×Int)(x:Int):Int:=if x>=b.1/\x<=b.2 then x else if kind=3 then -1 else if x<b.1 then b.1 else b.2
def ybxv(p:ProgT)(g:Gr)(c:Conf)(v:Nat)(s0:List Int)(sets:List (Int×Ex)):List Int :=
 sets.foldl (fun s a=>s.set a.1.toNat (ybvb (p.vars.getD a.1.toNat default).kind (ynu g v (p.vars.getD a.1.toNat default)) (ypf g c v a.2 (-1)))) s0
def ybzl(p:ProgT)(g:Gr)(c:Conf)(v:Nat)(r:Nat):List Int:=ybxv p g c v (c.getD v []) (p.rules.getD r default).sets
def yyd(p:ProgT)(g:Gr)(c:Conf):Nat:=ybpv (fun v=>decide (ybsb p g c v>=0)) g.ids.length
def ybxz(p:ProgT)(g:Gr)(c:Conf)(s:Nat):Conf:=c.zipIdx.map fun q=>if s.testBit q.2 then ybzl p g c q.2 (ybsb p g c q.2).toNat else q.1
def ybnc(p:ProgT)(g:Gr):Sys:=⟨g.ids.length,yyd p g,ybxz p g⟩
def ybsh(p:ProgT)(g:Gr)(c:Conf):Bool:=yku g.ids.length (fun v=>p.vars.map (ynu g v)) c
end
section
namespace Sh
open Go Ev
end Sh
end
section
namespace Sh
open Go Ev
end Sh
end
section
namespace Sh
open Go Ev
end Sh
end
section
end
section
namespace Sh
open Go Ev
end Sh
end
section
namespace Sh
open Go Ev
def ybzw(p:ProgT)(g:Gr):Bool:=p.vars.all fun x=>decide (x.kind=1)==false||(decide ((ynu g 0 x).1<=(ynu g 0 x).2)&&decide ((ynu g 0 x).2-(ynu g 0 x).1+1<=4096))
def ybyx(Q1 Q2:(Nat->Option ABlk)->Value->Prop)(p:ProgR):List SV:=[.a (.string p.name),.ex Q1 (yfa p.vars),.ex Q2 (yek p.rules)]
end Sh
end
section
namespace Sh
open Go Ev Go.RowKit
def GrI(g:Gr):Prop:=(∀x∈g.ids,I64 x)/\∀ls∈g.ports,∀l∈ls,I64 l.1/\I64 l.2
def yml(c:List (List Int)):Prop:=∀s∈c,∀x∈s,I64 x
section
variable {G:AM}{m:Mem}{φ:Phi}{M:AM}{w:World}{u u':Value}
theorem ybdf {α:Type}{z n:Nat}{gg:Nat->List SV}{xs:List α}{E:Elem α}(hG:Le G m.b.get) (hr:RV G om0 (.sl z n gg) u) (hv:VR φ u u') (hR:Rel φ M w) (hs:Sub m M) (hn:xs.length=n)
 (hE:∀k x b o L L',xs[k]?=some x->RVL G om0 (gg k) L->VRL φ L L'->(∀j v,L'[j]?=some v->w.cell? ⟨b,o+j,none⟩=some v)->E w b o x):SlAt z E w u' xs:=by
 rcases hr.sl_inv with⟨rfl,h0⟩|⟨bk,p,cp,T,N,e,zz,L,rfl,g1,g2,g3,g4,g5,g6,g7⟩
 ·have:xs=[]:=List.eq_nil_of_length_eq_zero hn;subst this;rcases h0 with rfl|⟨b,o,c,rfl⟩
  ·have e:=hv.eq_simple rfl;subst e;exact SlAt.nil w
  ·obtain⟨lc,A,c',k1,k2,k3,k4,k5,k6,k7⟩:=hv.slice_inv;subst k3;exact⟨some A,c',rfl,Nat.zero_le _,k6,fun q=>absurd q (by simp)⟩
 ·obtain⟨lc,A,c',k1,k2,k3,k4,k5,k6,k7⟩:=hv.slice_inv;subst k3;subst hn;refine⟨some A,c',rfl,k4,k6,fun hpos=>?_⟩;rcases k7 with⟨rfl,_⟩|k7
  ·obtain⟨lc',h1,h2⟩:=hR.blk _ _ (hs _ _ (hG _ _ g1));have k1':φ bk=some lc:=k1;rw[k1']at h1;cases h1
   obtain⟨h3,h4,cs,e2,fz2,h0,h5,h6,h7⟩:=h2;refine⟨lc.blk,lc.base+p,rfl,(Array.getElem?_eq_some_iff.1 h5).1,fun k x hx=>?_⟩;have hk:k<xs.length:=(List.getElem?_eq_some_iff.1 hx).1;have hin:=ygl (z:=z) hk;have hcells:∀j v,j<z->(L k)[j]?=some v->∃v',cs[lc.base+(p+k*z+j)]?=some v'/\VR φ v v':=fun j v hj hv=>h7 _ v (by omega) (by rw[g5 k hk j hj];exact hv)
   have hex:∀(l:List Value) (q:Nat),(∀j v,l[j]?=some v->∃v',cs[q+j]?=some v'/\VR φ v v')->∃l',VRL φ l l'/\∀j v,l'[j]?=some v->cs[q+j]?=some v:=by
    intro l
    induction l with
    |nil=>intro q _;exact⟨[],.nil,fun j v h=>by simp at h⟩
    | cons a l ih =>
      intro q h;obtain⟨v',e1,e2⟩:=h 0 a rfl;obtain⟨l',e3,e4⟩:=ih (q+1) (fun j v hv=>by have:=h (j+1) v (by simpa using hv);rw[show q+1+j=q+(j+1)by omega];exact this)
      refine⟨v'::l',.cons e2 e3,fun j v hv=>?_⟩;cases j with
      |zero=>simp at hv;subst hv;exact e1
      |succ j=>have:=e4 j v (by simpa using hv);rw[show q+(j+1)=q+1+j by omega];exact this
   obtain⟨L',r1,r2⟩:=hex (L k) (lc.base+p+k*z) (fun j v hv=>by
    have hj:j<z:=by rw[<-g4 k hk];exact(List.getElem?_eq_some_iff.1 hv).1
    have:=hcells j v hj hv;rw[show lc.base+p+k*z+j=lc.base+(p+k*z+j)by omega]
    exact this)
   exact hE k x _ _ (L k) L' hx (g6 k hk) r1 fun j v hv=>cell_of h5 (by have:=r2 j v hv;exact this)
  ·omega
theorem ints_at{l:List Int}(hG:Le G m.b.get)(hr:RV G om0 (ybi l) u)(hv:VR φ u u')(hR:Rel φ M w)(hs:Sub m M)(hI:∀x∈l,I64 x):yjd w u' l:=by
 refine ybdf hG hr hv hR hs rfl fun k x b o L L' hx hL hL' hc=>?_;have hk:k<l.length:=(List.getElem?_eq_some_iff.1 hx).1;have hxe:l.getD k 0=x:=by simp[zH,hx]
 rw[hxe]at hL;cases hL with
 | cons a b =>
   cases b
   cases a.int_inv
   obtain⟨v',rfl,hvv⟩:=yeo hL';have:=hvv.eq_simple rfl;subst this;exact⟨hc 0 _ rfl,hI x (zF hx)⟩
theorem ybkt{ls:List (Int×Int)}(hG:Le G m.b.get)(hr:RV G om0 (ybc ls) u)(hv:VR φ u u')(hR:Rel φ M w)(hs:Sub m M)(hI:∀l∈ls,I64 l.1/\I64 l.2):yxe w u' ls:=by
 refine ybdf hG hr hv hR hs rfl fun k x b o L L' hx hL hL' hc=>?_;have hxe:ls.getD k (0,0)=x:=by simp[zH,hx]
 rw[hxe]at hL;cases hL with
 | cons a b =>
   cases b with
   | cons a2 b2 =>
     cases b2
     cases a.int_inv
     cases a2.int_inv
     obtain⟨v1,v2,rfl,h1,h2⟩:=yjh hL';have:=h1.eq_simple rfl;subst this;have:=h2.eq_simple rfl;subst this;exact⟨hc 0 _ rfl,hc 1 _ rfl,hI x (zF hx)⟩
theorem ybgt{ps:List (List (Int×Int))}(hG:Le G m.b.get)(hr:RV G om0 (yba ps) u)(hv:VR φ u u')(hR:Rel φ M w)(hs:Sub m M)(hI:∀ls∈ps,∀l∈ls,I64 l.1/\I64 l.2):ypi w u' ps:=by
 refine ybdf hG hr hv hR hs rfl fun k x b o L L' hx hL hL' hc=>?_;have hxe:ps.getD k []=x:=by simp[zH,hx]
 rw[hxe]at hL;cases hL with
 | cons a b =>
   cases b
   obtain⟨v',rfl,hvv⟩:=yeo hL';exact⟨v',hc 0 _ rfl,ybkt hG a hvv hR hs (hI x (zF hx))⟩
theorem ybfe{c:List (List Int)}(hG:Le G m.b.get)(hr:RV G om0 (ybu c) u)(hv:VR φ u u')(hR:Rel φ M w)(hs:Sub m M)(hI:yml c):ybgo w u' c:=by
 refine ybdf hG hr hv hR hs rfl fun k x b o L L' hx hL hL' hc=>?_;have hxe:c.getD k []=x:=by simp[zH,hx]
 rw[hxe]at hL;cases hL with
 | cons a b =>
   cases b
   obtain⟨v',rfl,hvv⟩:=yeo hL';exact⟨v',hc 0 _ rfl,ints_at hG a hvv hR hs (hI x (zF hx))⟩
theorem ybgf{g:Gr}(hG:Le G m.b.get)(hr:RV G om0 (grV g) u)(hv:VR φ u u')(hR:Rel φ M w)(hs:Sub m M)(hI:GrI g):GrAt w u' g:=by
 obtain⟨L,rfl,hL⟩:=hr.ag_inv;cases hL with
 | cons a b =>
   cases b with
   | cons a2 b2 =>
     cases b2
     obtain⟨L',rfl,hL'⟩:=hv.agg_inv;obtain⟨v1,v2,rfl,h1,h2⟩:=yjh hL';exact⟨v1,v2,rfl,ints_at hG a h1 hR hs hI.1,ybgt hG a2 h2 hR hs hI.2⟩
end
theorem yod {g:FuncId}{args:List SV}{r:SV}{v:Value}(hg:∃fn c,Tryz.prog.funcs[g]?=some fn/\fn.body=some c) (hrv:∀F,RV F om0 r v) (hvr:∀φ,VR φ v v)
 (h:∀(G:AM) (m:Mem) (us:List Value),Le G m.b.get->RVL G om0 args us->∀φ M w us',Rel φ M w->Sub m M->VRL φ us us'->Calls zD g us'.toArray w fun e w'=>e = .returned v/\Below w.heap.size w w'):Returns zD g args r:=by
 intro G m us hw hle hr;refine⟨v,enterM m,r,yhp yng hg fun φ M w us' hR hs hv=>(h G m us hle hr φ M w us' hR hs hv).mono ?_,zC _,Le.refl _,rfl,hrv _⟩;rintro e w' ⟨rfl,hb⟩;exact⟨v,rfl,hvr φ,hb⟩
theorem rvl1{F:AM}{ω:Om}{a:SV}{us:List Value}(h:RVL F ω [a] us):∃u,us=[u]/\RV F ω a u:=by
 cases h with|cons x y=>cases y;exact⟨_,rfl,x⟩
theorem rvl2{F:AM}{ω:Om}{a b:SV}{us:List Value}(h:RVL F ω [a,b] us):∃u v,us=[u,v]/\RV F ω a u/\RV F ω b v:=by
 cases h with|cons x y=>obtain⟨v,rfl,q⟩:=rvl1 y;exact⟨_,v,rfl,x,q⟩
end Sh
end
section
open Go.RowKit
end
section
open Go.RowKit
theorem ysg:zAB=Array.replicate 256 (.bool false):=by kernel_rfl
def Seen(w:World)(g:Nat)(S:List Int):Prop:=∃cur,w.heap[g]?=some (.cells cur 159 (0,0))/\cur.size=256/\∀i:Nat,i<256->cur[i]?=some (.bool (decide ((i:Int)∈S)))
theorem Seen.cell{w:World}{g:Nat}{S:List Int}(h:Seen w g S){i:Nat}(hi:i<256):w.cell? ⟨g,i,none⟩=some (.bool (decide ((i:Int)∈S))):=by
 obtain⟨cur,h1,h2,h3⟩:=h;simp[World.cell?,h1,h3 i hi]
theorem Seen.frozen{w:World}{g:Nat}{S:List Int}(h:Seen w g S)(i:Nat):w.frozen? ⟨g,i,none⟩=false:=by
 obtain⟨cur,h1,h2,h3⟩:=h;simp[World.frozen?,h1]
theorem Seen.set_{w:World}{g:Nat}{S:List Int}(h:Seen w g S){i:Nat}:Seen (w.setCell ⟨g,i,none⟩ (.bool true)) g (S++[(i:Int)]):=by
 obtain⟨cur,h1,h2,h3⟩:=h;refine⟨cur.setIfInBounds i (.bool true),by simp[World.setCell,Array.getElem?_modify,h1],by simp[h2],fun j hj=>?_⟩
 rw[Array.getElem?_setIfInBounds];split
 ·subst_vars
  rw[if_pos (by omega)]
  simp
 ·rw[h3 j hj];congr 3;simp;omega
theorem Seen.start(w:World):Seen (w.alloc (.cells zAB 159)) w.heap.size []:=by
 refine⟨_,heap_alloc_new w _,by rw[ysg];simp,fun i hi=>?_⟩
 rw[ysg];simp[hi]
def yve(ids:List Int):Bool:=decide ((∀x∈ids,0<=x/\x<=255)/\ids.Nodup)
def ymv(ids:List Int)(k:Nat):Prop:=(∀x∈ids.take k,0<=x/\x<=255)/\(ids.take k).Nodup
theorem ybdw{ids:List Int}{k:Nat}(hk:k<ids.length):ymv ids (k+1)↔ymv ids k/\(0<=ids[k]/\ids[k]<=255)/\ids[k]∉ids.take k:=by
 unfold ymv;rw[take_snoc ids k hk,List.nodup_append];constructor
 ·rintro⟨h1,h2,_,h3⟩;exact⟨⟨fun x hx=>h1 x (List.mem_append_left _ hx),h2⟩,h1 _ (List.mem_append_right _ (by simp)),fun hm=>h3 _ hm _ (by simp) rfl⟩
 ·rintro⟨⟨h1,h2⟩,h3,h4⟩;refine⟨fun x hx=>?_,h2,by simp,fun a ha b hb e=>?_⟩
  ·rcases List.mem_append.1 hx with hx|hx
   ·exact h1 x hx
   ·simp at hx;subst hx;exact h3
  ·simp at hb;subst hb e;exact h4 ha
theorem yuu{ids:List Int}{k:Nat}(h:¬ymv ids k):yve ids=false:=by
 unfold yve;rw[decide_eq_false_iff_not];exact fun hd=>h ⟨fun x hx=>hd.1 x (List.mem_of_mem_take hx),hd.2.sublist (List.take_sublist _ _)⟩
theorem ybbl{ids:List Int}(h:ymv ids ids.length):yve ids=true:=by
 unfold ymv at h;rw[zAF]at h;exact decide_eq_true h
set_option maxRecDepth 100000 in
set_option maxHeartbeats 1000000 in
theorem ykv(iv:Value)(ids:List Int)(w:World)(hi:yjd w iv ids) :
 Calls zD 103 #[iv] w fun e w'=>e = .returned (.bool (yve ids))/\Below w.heap.size w w':=by
 obtain⟨A,c,rfl,hA1,hA2⟩:=ybh hi;have Hi:=zA hi
 clear hi
 go_enter Tryz.func103,Tryz.ntmps103
 go_wp2
 go_loopg [8] ids.length (fun q t wr=>∃k:Nat,q+k=ids.length/\t = .int .i64 k/\Hid (Below w.heap.size w wr)/\Hid (Seen wr w.heap.size (ids.take k))/\Hid (ymv ids k))
 case atStart=>exact⟨0,by omega,rfl,zA ((Below.refl _ _).alloc (zC _) _),zA (Seen.start w),zA ⟨by simp,by simp⟩⟩
 case round =>
  obtain⟨k,hq,rfl,hbel,hseen,hok⟩:=hrel
  by_cases hlt:k<ids.length
  ·obtain⟨b,off,rfl,hb,hcid,hr⟩:=ydz (Hi.out.below Stable.int hbel.out) hlt;obtain⟨x,hx⟩:∃x,ids[k]=x:=⟨_,rfl⟩;have Hsn:=zA (ybdw hlt);rw[hx]at hcid hr Hsn;obtain⟨hr1,hr2⟩:=hr;have Hbad:=zA (fun h=>yuu (ids:=ids) (k:=k+1) h);have Hts:=zA (take_snoc ids k hlt);rw[hx]at Hts
   clear hx
   by_cases c1:0<=x/\x<=255
   ·obtain⟨c1a,c1b⟩:=c1;obtain⟨n,rfl⟩:=zX c1a;have hcs:=hseen.out.cell (i:=n) (by omega)
    have hfs:=hseen.out.frozen n
    by_cases c2:(n:Int)∈ids.take k
    ·rw[decide_eq_true c2]at hcs;have Hf:=zA (Hbad.out (fun h=>(Hsn.out.1 h).2.2 c2))
     clear c2
     go_wp2
     go_ret
     exact⟨yu Hf.out.symm,hbel.out⟩
    ·rw[decide_eq_false c2]at hcs;have Hn:=zA (Hsn.out.2 ⟨hok.out,⟨by omega,by omega⟩,c2⟩)
     clear c2
     go_wp2
     go_roundg (gk-1)
     case measure=>omega
     case rel =>
      refine⟨k+1,by omega,by go_num,zA (hbel.out.setCell (zC _) _),zA ?_,Hn⟩
      rw[Hts.out];exact hseen.out.set_
   ·have Hf:=zA (Hbad.out (fun h=>c1 (Hsn.out.1 h).2.1))
    by_cases c3:x<0
    ·clear c1
     go_wp2
     go_ret
     exact⟨yu Hf.out.symm,hbel.out⟩
    ·have c4:255<x:=by omega
     clear c1
     go_wp2
     go_ret
     exact⟨yu Hf.out.symm,hbel.out⟩
  ·obtain rfl:k=ids.length:=by omega
   have Ht:=zA (ybbl hok.out)
   go_wp2
   go_ret
   exact⟨yu Ht.out.symm,hbel.out⟩
theorem ybdg(g:Gr)(h1:1<=g.ids.length)(h2:g.ids.length<=24)(h3:g.ports.length=g.ids.length):ybq g=(yve g.ids&&symB g.ports):=by
 unfold ybq yve symB;rw[<-Bool.decide_and];congr 1;apply propext;unfold ybf ybhf;constructor
 ·rintro⟨_,_,_,h4,h5,h6,h7⟩;exact⟨⟨h4,h5⟩,h6,h7⟩
 ·rintro⟨⟨h4,h5⟩,h6,h7⟩;exact⟨by omega,by omega,by omega,h4,h5,h6,h7⟩
set_option maxHeartbeats 1000000 in
theorem ybfu(gv:Value)(g:Gr)(w:World)(hg:GrAt w gv g) :
 Calls zD 64 #[gv] w fun e w'=>e = .returned (.bool (ybq g))/\Below w.heap.size w w':=by
 obtain⟨i,p,rfl,hi,hp⟩:=hg;obtain⟨A,c,rfl,hA1,hA2⟩:=ybh hi;obtain⟨A2,c2,rfl,hB1,hB2⟩:=ybh hp;have Hi:=zA hi;have Hp:=zA hp
 clear hi hp
 by_cases n1:1<=g.ids.length
 ·by_cases n2:g.ids.length<=24
  ·by_cases n3:g.ports.length=g.ids.length
   ·have n3':((g.ports.length:Int)!=(g.ids.length:Int))=false:=by simp[n3]
    have He:=zA (ybdg g n1 n2 n3);have n3a:g.ports.length<=24:=by omega
    clear n3
    go_enter zO,zW
    go_wp2_with fail
    refine(ykv _ g.ids _ (Hi.out.below Stable.int ((Below.refl _ _).alloc (zC _) _))).mono ?_;rintro e w1 ⟨rfl,hb1⟩;have Hb1:=zA (ymc hb1);obtain⟨q0,q1⟩:=ybcf hb1
    clear hb1
    cases hd:yve g.ids with
    | false =>
      have Hv:=zA (show ybq g=false by rw[He.out,hd];rfl)
      go_wp2_with fail
      go_ret
      exact⟨yu Hv.out.symm,Hb1.out⟩
    | true =>
      have Hv:=zA (show ybq g=symB g.ports by rw[He.out,hd];rfl)
      go_wp2_with fail
      refine(yit _ g.ports _ (Hp.out.below (Stable.sl Stable.link) Hb1.out) (by omega)).mono ?_
      rintro e w2 ⟨rfl,hb2⟩
      go_wp2_with fail
      go_ret
      exact⟨yu Hv.out.symm,Hb1.out.trans (hb2.mono Hb1.out.size)⟩
   ·have n3':((g.ports.length:Int)!=(g.ids.length:Int))=true:=by simp;omega
    have Hf:=zA (ycz (g:=g) (fun h=>n3 h.2.2.symm))
    clear n3
    go_enter zO,zW
    go_wp2
    go_ret
    exact⟨yu Hf.out.symm,(Below.refl _ _).alloc (zC _) _⟩
  ·have Hf:=zA (ycz (g:=g) (fun h=>n2 (by omega)))
   go_enter zO,zW
   go_wp2
   go_ret
   exact⟨yu Hf.out.symm,(Below.refl _ _).alloc (zC _) _⟩
 ·have Hf:=zA (ycz (g:=g) (fun h=>n1 (by omega)))
  go_enter zO,zW
  go_wp2
  go_ret
  exact⟨yu Hf.out.symm,(Below.refl _ _).alloc (zC _) _⟩
end
section
namespace Sh
open Go Ev Go.RowKit
theorem ygu{x:Int}(h:-4611686018427387904<=x/\x<=4611686018427387904):I64 x:=by
 unfold I64;omega
theorem ybla{g:Gr}(hg:ybf g):GrI g:=by
 obtain⟨h1,h2,h3,h4,h5,h6,h7⟩:=hg;refine⟨fun x hx=>ygu (by have:=h4 x hx;omega),fun ls hls l hl=>?_⟩
 obtain⟨v,hv,rfl⟩:=List.getElem_of_mem hls;obtain⟨a1,a2,a3,a4,a5⟩:=(h6 ⟨v,hv⟩).1 l hl;exact⟨ygu (by omega),ygu (by omega)⟩
theorem yji{g:Gr}(hI:GrI g):Returns zD 64 [grV g] (.b (ybq g)):=by
 refine yod ⟨_,_,zO,rfl⟩ (fun _=>.b) (fun _=>.simple rfl) fun G m us hG hr φ M w us' hR hs hv=>?_;obtain⟨u,rfl,h1⟩:=rvl1 hr;obtain⟨u',rfl,h2⟩:=yeo hv;exact ybfu u' g w (ybgf hG h1 h2 hR hs hI)
end Sh
end
section
namespace Sh
open Go Ev Go.RowKit
structure Checked(Q1 Q2:(Nat->Option ABlk)->Value->Prop)(p:ProgT)(g:Gr):Prop where
 hg:ybf g
 hp:p.ok=true
 hf:ybzw p g=true
 hV:Returns zD 130 [.ag (ybyx Q1 Q2 p.raw)] (.b true)
theorem Checked.gv{Q1 Q2:(Nat->Option ABlk)->Value->Prop}{p:ProgT}{g:Gr}(h:Checked Q1 Q2 p g):Returns zD 64 [grV g] (.b true):=by
 have e:=yji (ybla h.hg);rw[(ycp g).2 h.hg]at e;exact e
section
variable {Q1 Q2:(Nat->Option ABlk)->Value->Prop}{p:ProgT}{g:Gr}
end
end Sh
end
section
namespace Sh
open Ev Go.RowKit
def cntV(k:Cnt):List SV:=[.i .i64 k.steps,.i .i64 k.moves,.i .i64 k.rounds,.i .i64 k.begun,.i .u32 k.pend]
def usV(l:List Nat):SV:=.sl 1 l.length (fun k=>[.i .u32 ((l.getD k 0:Nat):Int)])
end Sh
end
section
namespace Sh
open Ev Go.RowKit
end Sh
end
section
namespace Sh
open Go Ev
end Sh
end
section
namespace Sh
open Ev Go.RowKit
instance:Inhabited Cnt:=⟨⟨0,0,0,0,0⟩⟩
structure DaemonOk(kind:Int)(net:List Nat)(res:Nat->Nat->Nat):Prop where
 resolve:∀(e w:Nat),e<2^24->e<2^net.length->e≠0->w<2^32->Returns zD 0 [usV net,.i .i64 kind,.i .u32 e,.i .u32 w] (.i .u32 (res e w))
 permits:∀(e w:Nat),e<2^24->e<2^net.length->e≠0->w<2^32->Returns zD 0 [usV net,.i .i64 kind,.i .u32 e,.i .u32 (res e w)] (.b true)
 zero:∀(w:Nat),w<2^32->∃x:Nat,Returns zD 0 [usV net,.i .i64 kind,.i .u32 0,.i .u32 w] (.i .u32 x)
 sub:∀(e w:Nat),e≠0->e<2^24->res e w≠0/\subB (res e w) e
end Sh
end
section
namespace Sh
end Sh
end
section
structure Tgt(S:Sys)(V:Conf->Prop)(T:Conf->Nat->List Int):Prop where
 valid:∀c s,V c->s≠0->subB s (S.en c)->V (S.mv c s)
 stay:∀c s v,V c->v<S.n->s.testBit v=false->(S.mv c s).getD v []=c.getD v []
 move:∀c s v,V c->v<S.n->s.testBit v=true->subB s (S.en c)->(S.mv c s).getD v []=T c v
 en:∀c v,V c->v<S.n->((S.en c).testBit v=false↔c.getD v []=T c v)
theorem Tgt.rounds{S:Sys}{V:Conf->Prop}{T:Conf->Nat->List Int}(h:Tgt S V T){P:Nat->Nat->List Int->Prop}(hT:∀c v r,V c->v<S.n->(∀u,u<S.n->P r u (c.getD u []))->P (r+1) v (T c v))(hl:∀r v s,P (r+1) v s->P r v s):ByRounds S V P where
 valid:=h.valid
 stay:=h.stay
 move:=fun c s v r hv hn hb hs hall=>by rw[h.move c s v hv hn hb hs];exact hT c v r hv hn hall
 rest:=fun c v r hv hn hb hall=>by rw[(h.en c v hv hn).1 hb];exact hT c v r hv hn hall
 less:=hl
theorem Tgt.silent{S:Sys}{V:Conf->Prop}{T:Conf->Nat->List Int}(h:Tgt S V T){P:Nat->Nat->List Int->Prop}(hT:∀c v r,V c->v<S.n->(∀u,u<S.n->P r u (c.getD u []))->P (r+1) v (T c v)){c:Conf}(hv:V c)(h0:∀v,v<S.n->P 0 v (c.getD v []))(he:S.en c=0):∀r v,v<S.n->P r v (c.getD v [])
 |0,v,hn=>h0 v hn
 | r+1,v,hn=>by
   rw[(h.en c v hv hn).1 (by rw[he];simp)]
   exact hT c v r hv hn (Tgt.silent h hT hv h0 he r)
theorem Sys.run_last{S:Sys}{res:Nat->Nat->Nat}:∀(ws:List Nat) (c:Conf) (k:Cnt) (i:Nat),i+1<(S.run res ws c k).length->∀p,(S.run res ws c k)[i]?=some p->S.en p.1≠0
 |[],c,k,i,h,p,hp=>by simp[Sys.run]at h
 | w :: ws,c,k,i,h,p,hp=>by
   unfold Sys.run at h hp;split at h
   ·simp at h
   ·rename_i h0
    rw[if_neg h0]at hp;cases i with
    | zero =>
      simp only[zK]at hp;cases hp
      simp only[zAE]at h;cases ws with
      |nil=>simp[Sys.run]at h
      | cons w' ws =>
        unfold Sys.run at h;split at h
        ·simp at h
        ·assumption
    |succ i=>exact Sys.run_last ws _ _ i (by simpa using h) p (by simpa using hp)
theorem Sys.runs_last{S:Sys}{res:Nat->Nat->Nat}{ws:List Nat}{c:Conf}{i:Nat}(h:i+1<(S.runs res ws c).length){p:Conf×Cnt}(hp:(S.runs res ws c)[i]?=some p):S.en p.1≠0:=by
 unfold Sys.runs at h hp;cases i with
 | zero =>
   simp only[zK]at hp;cases hp
   cases ws with
   |nil=>simp[Sys.run]at h
   | cons w ws =>
     unfold Sys.run at h;split at h
     ·simp at h
     ·assumption
 |succ i=>exact Sys.run_last ws _ _ i (by simpa using h) p (by simpa using hp)
end
section
open Go.RowKit
end
end Go.Proofs.YtiejahgklcjhkaaGreat
