/- Joined. -/
import Derived.Test.YtiejahgklcjhkaaGreatDoorPkU15
import Derived.Test.YtiejahgklcjhkaaGreatDoorPkU9
import Derived.Test.YtiejahgklcjhkaaGreatDoorPkU10
set_option linter.unusedSimpArgs false
set_option linter.unusedVariables false
set_option maxRecDepth 1000000
open Nat renaming reduceEqDiff→zA,reduceAdd→zB,reduceLT→zC,reduceLeDiff→zG,ble_eq_true_of_le→zJ,reduceBEq→zN,reduceBNe→zO,reduceMul→zQ,eq_zero_or_pos→zW,not_lt_zero→zAC,zero_le→zAF,le_refl→zAG,lt_succ_self→zAI,mul_comm→zAL,beq→zAN
open Go.Proofs.Tryz renaming prog→zD
open List renaming getElem_mem→zF,eq_nil_of_length_eq_zero→zH,range→zL,all_eq_true→zS,getD→zT,getD_cons_zero→zU,getElem_of_mem→zV,any_eq_true→zZ,not_mem_nil→zAA,getElem?_eq_getElem→zAB,all_eq_false→zAE
open Bool renaming and_eq_true→zI,true_and→zM,not_eq_true'→zY,and_eq_false_iff→zAD
open Int renaming reduceToNat→zK,toNat_natCast→zX,natCast_zero→zAH,lt_or_le→zAK
open Classical renaming byContradiction→zAJ
open Iff renaming rfl→zAM
open Go
namespace Go.Proofs.YtiejahgklcjhkaaGreatDoor
section
def ydch(na:ByteArray):RuleT:=⟨na,.bin 41 (.bin 35 (eVar 0) yxl) (.agg 21 yqs),[(0,.agg 23 yqs)]⟩
def ydcz(nb:ByteArray):RuleT:=⟨nb,.bin 41 (.bin 35 (eVar 0) yxl) (.agg 21 ylh),[(0,.agg 23 ylh)]⟩
def yddd(nw:ByteArray):RuleT:=⟨nw,.agg 21 yzl,[(0,yxl)]⟩
def gAcc(g:Gr)(c:Conf)(v:Nat):Prop:=toP g c v=none/\∃u,adj g v u/\toP g c u=some v
def gPro(g:Gr)(c:Conf)(v:Nat):Prop:=toP g c v=none/\∃u,adj g v u/\toP g c u=none
def gWit(g:Gr)(c:Conf)(v:Nat):Prop:=∃u w,toP g c v=some u/\toP g c u=some w/\w≠v
section
variable {nm np na nb nw:ByteArray}{g:Gr}{c:Conf}{u v s:Nat}
theorem ykx(hg:ybb g)(h:MtC g c)(hv:v<g.ids.length):toP g c v=none↔pAt c v = -1:=by
 have:=(h.row v hv).2;have hvp:v<g.ports.length:=by have:=hg.2.2.1;omega
 unfold toP;constructor
 ·intro q
  by_cases q0:0<=pAt c v
  ·rw[if_pos ⟨hvp,q0⟩]at q;cases q
  ·omega
 ·intro q;rw[if_neg (by omega)]
theorem ybbw(hg:ybb g)(h:MtC g c)(e:toP g c v=some u):adj g v u:=by
 have hpl:=hg.2.2.1;unfold toP at e
 by_cases q0:v<g.ports.length/\0<=pAt c v
 ·have hrow:=(h.row v (by omega)).2
  rw[if_pos q0]at e;have e:=Option.some.inj e;have hk:(pAt c v).toNat<(g.ports.getD v []).length:=by omega
  rw[Sh.getD_at hk]at e;have:=(ycz hg (by omega) (zF hk)).2.2.1
  rwa [e]at this
 ·rw[if_neg q0]at e;cases e
theorem ybnb(f:Int×Int->Bool)(x:Ex)(hx:∀q:Nat,q<(g.ports.getD v []).length->ycu g c v x q=ybp (f (ybn g v q))):ycu g c v (.agg 21 x) (-1)=ybp ((g.ports.getD v []).any f):=by
 rw[<-ytj];show ygc 21 _=_;congr 1;exact yxa g v _ _ fun q hq=>hx q hq
theorem ybve(f:Int×Int->Bool)(x:Ex)(hx:∀q:Nat,q<(g.ports.getD v []).length->ycu g c v x q=ybp (f (ybn g v q))):ycu g c v (.agg 23 x) (-1)=ybaa f (g.ports.getD v []):=by
 rw[<-yvb];show ygc 23 _=_;unfold ygc;rw[if_neg (by decide),if_neg (by decide),if_neg (by decide),if_pos rfl]
 congr 1;exact yxa g v _ _ fun q hq=>hx q hq
theorem yxc{q:Nat}:ycu g c v ylh q=ybp (ylv c (ybn g v q)):=rfl
theorem ybyk(hg:ybb g)(h:MtC g c)(hv:v<g.ports.length):(g.ports.getD v []).any (ytg g c v)=true↔∃u,adj g v u/\toP g c u=some v:=by
 rw[zZ];constructor
 ·rintro⟨l,hl,hb⟩;exact⟨_,(ycz hg hv hl).2.2.1,(yvu hg h hv hl).1 hb⟩
 ·rintro⟨u,hu,e⟩;obtain⟨l,hl,el⟩:=yqb hu;exact⟨l,hl,(yvu hg h hv hl).2 (by rw[el];exact e)⟩
theorem ybwh(hg:ybb g)(h:MtC g c)(hv:v<g.ports.length):(g.ports.getD v []).any (ylv c)=true↔∃u,adj g v u/\toP g c u=none:=by
 rw[zZ];constructor
 ·rintro⟨l,hl,hb⟩;exact⟨_,(ycz hg hv hl).2.2.1,(yov hg h hv hl).1 hb⟩
 ·rintro⟨u,hu,e⟩;obtain⟨l,hl,el⟩:=yqb hu;exact⟨l,hl,(yov hg h hv hl).2 (by rw[el];exact e)⟩
def yxd(g:Gr)(c:Conf)(v q:Nat):Bool:=(((q:Int)==pAt c v)&&(endP c 0 (ybn g v q) != -1))&&(endP c 0 (ybn g v q)!=yer (g.ports.getD (ybn g v q).1.toNat []) v)
theorem ycvq(hv:v<g.ports.length){q:Nat}(hq:q<(g.ports.getD v []).length):ycu g c v yzl q=ybp (yxd g c v q):=by
 have b41:∀a b:Bool,binP 41 (ybp a) (ybp b)=ybp (a&&b):=fun a b=>by cases a<;>cases b<;>rfl
 have b36:∀a b:Int,binP 36 a b=ybp (a != b):=fun a b=>rfl;have b35:∀a b:Int,binP 35 a b=ybp (a==b):=fun a b=>rfl;show binP 41 (binP 41 (binP 35 (q:Int) (pAt c v)) (binP 36 (endP c 0 (ybn g v q)) (-1))) (binP 36 (endP c 0 (ybn g v q)) (ycu g c v (.leaf 17 0) q))=_;rw[ybos hv hq,b35,b36,b36,b41,b41];rfl
theorem ycuv(hg:ybb g)(h:MtC g c)(hv:v<g.ids.length):ycu g c v (.agg 21 yzl) (-1)=ybp ((zL (g.ports.getD v []).length).any (yxd g c v)):=by
 have hpl:=hg.2.2.1;rw[<-ytj];show ygc 21 _=_;congr 1;refine List.map_congr_left fun q hq=>?_;exact ycvq (by omega) (List.mem_range.1 hq)
theorem ybxb(hg:ybb g)(h:MtC g c)(hv:v<g.ids.length):(zL (g.ports.getD v []).length).any (yxd g c v)=true↔gWit g c v:=by
 have hpl:=hg.2.2.1;have hrow:=(h.row v hv).2
 have key:∀q:Nat,q<(g.ports.getD v []).length->(yxd g c v q=true↔(q:Int)=pAt c v/\toP g c (ybn g v q).1.toNat≠none/\toP g c (ybn g v q).1.toNat≠some v):=fun q hq=>by
  have hm:ybn g v q∈g.ports.getD v []:=by
   unfold ybn;rw[Sh.getD_at hq];exact zF hq
  have i1:=yvu hg h (by omega) hm
  have i2:=yov hg h (by omega) hm
  unfold yxd;rw[zI,zI,beq_iff_eq,bne_iff_ne,bne_iff_ne];unfold ytg at i1;unfold ylv at i2;rw[beq_iff_eq]at i1 i2;constructor
  ·rintro⟨⟨a,b⟩,d⟩;exact⟨a,fun e=>b (i2.2 e),fun e=>d (i1.2 e)⟩
  ·rintro⟨a,b,d⟩;exact⟨⟨a,fun e=>b (i2.1 e)⟩,fun e=>d (i1.1 e)⟩
 have at_:∀q:Nat,(q:Int)=pAt c v->toP g c v=some (ybn g v q).1.toNat:=fun q e=>by
  unfold toP ybn;rw[if_pos ⟨by omega,by omega⟩,<-e,zX]
 rw[zZ];constructor
 ·rintro⟨q,hq,hl⟩;obtain⟨a,b,d⟩:=(key q (List.mem_range.1 hq)).1 hl;cases e:toP g c (ybn g v q).1.toNat with
  |none=>exact absurd e b
  |some w=>exact⟨(ybn g v q).1.toNat,w,at_ q a,e,fun r=>d (by rw[e,r])⟩
 ·rintro⟨u,w,h1,h2,h3⟩
  have q0:0<=pAt c v:=by
   refine zAJ fun r=>?_;unfold toP at h1;rw[if_neg (fun t=>r t.2)]at h1;cases h1
  obtain⟨q,hq⟩:=Int.eq_ofNat_of_zero_le q0;have hl:q<(g.ports.getD v []).length:=by omega
  have e:=at_ q hq.symm;rw[h1]at e;have e:=Option.some.inj e;exact⟨q,List.mem_range.2 hl,(key q hl).2 ⟨hq.symm,(fun r=>by rw[<-e,h2]at r;cases r),fun r=>by rw[<-e,h2]at r;exact h3 (Option.some.inj r)⟩⟩
theorem yblu(hg:ybb g)(h:MtC g c)(hv:v<g.ids.length):(yhy g c v (ydch na)=true↔gAcc g c v)/\(yhy g c v (ydcz nb)=true↔gPro g c v)/\(yhy g c v (yddd nw)=true↔gWit g c v):=by
 have hvp:v<g.ports.length:=by have:=hg.2.2.1;omega
 have b35:∀a b:Int,binP 35 a b=ybp (a==b):=fun a b=>rfl;have b41:∀a b:Bool,binP 41 (ybp a) (ybp b)=ybp (a&&b):=fun a b=>by cases a<;>cases b<;>rfl
 refine⟨?_,?_,?_⟩
 ·show(binP 41 (binP 35 (pAt c v) (-1)) (ycu g c v (.agg 21 yqs) (-1))!=0)=true↔_;rw[ybnb (ytg g c v) yqs (fun q hq=>ybrh hvp hq),b35,b41,yqg,zI,beq_iff_eq,ybyk hg h hvp,<-ykx hg h hv];exact zAM
 ·show(binP 41 (binP 35 (pAt c v) (-1)) (ycu g c v (.agg 21 ylh) (-1))!=0)=true↔_;rw[ybnb (ylv c) ylh (fun q hq=>yxc),b35,b41,yqg,zI,beq_iff_eq,ybwh hg h hvp,<-ykx hg h hv];exact zAM
 ·show(ycu g c v (.agg 21 yzl) (-1)!=0)=true↔_;rw[ycuv hg h hv,yqg];exact ybxb hg h hv
def ybzg(g:Gr)(c:Conf)(v:Nat):Prop:=gAcc g c v\/gPro g c v\/gWit g c v
theorem ybaz(hg:ybb g)(h:MtC g c)(hv:v<g.ids.length) :
 (gAcc g c v->yfg (ycn nm np na nb nw) g c v=0)/\(¬gAcc g c v->gPro g c v->yfg (ycn nm np na nb nw) g c v=1) /\
 (¬gAcc g c v->¬gPro g c v->gWit g c v->yfg (ycn nm np na nb nw) g c v=2)/\(¬ybzg g c v->yfg (ycn nm np na nb nw) g c v = -1):=by
 obtain⟨h1,h2,h3⟩:=yblu (na:=na) (nb:=nb) (nw:=nw) hg h hv;have e:yfg (ycn nm np na nb nw) g c v=(match [ydch na,ydcz nb,yddd nw].findIdx? (yhy g c v)with|some k=>(k:Int)|none=>-1):=rfl
 rw[e];simp only[List.findIdx?_cons,List.findIdx?_nil];refine⟨fun q=>?_,fun q r=>?_,fun q r t=>?_,fun q=>?_⟩
 ·rw[h1.2 q];rfl
 ·rw[Bool.eq_false_iff.2 fun e=>q (h1.1 e),h2.2 r];rfl
 ·rw[Bool.eq_false_iff.2 fun e=>q (h1.1 e),Bool.eq_false_iff.2 fun e=>r (h2.1 e),h3.2 t];rfl
 ·rw[Bool.eq_false_iff.2 fun e=>q (.inl (h1.1 e)),Bool.eq_false_iff.2 fun e=>q (.inr (.inl (h2.1 e))),Bool.eq_false_iff.2 fun e=>q (.inr (.inr (h3.1 e)))];rfl
theorem ycyf(hg:ybb g)(h:MtC g c)(hv:v<g.ids.length):(ybs (ycn nm np na nb nw) g c).testBit v=true↔ybzg g c v:=by
 obtain⟨r1,r2,r3,r4⟩:=ybaz (nm:=nm) (np:=np) (na:=na) (nb:=nb) (nw:=nw) hg h hv;unfold ybs;rw[ykr,decide_eq_true hv,zM,decide_eq_true_iff]
 by_cases q1:gAcc g c v
 ·rw[r1 q1];exact⟨fun _=>.inl q1,fun _=>by omega⟩
 ·by_cases q2:gPro g c v
  ·rw[r2 q1 q2];exact⟨fun _=>.inr (.inl q2),fun _=>by omega⟩
  ·by_cases q3:gWit g c v
   ·rw[r3 q1 q2 q3];exact⟨fun _=>.inr (.inr q3),fun _=>by omega⟩
   ·have:¬ybzg g c v:=fun h=>by rcases h with h|h|h<;>contradiction
    rw[r4 this];exact⟨fun h=>by omega,fun h=>absurd h this⟩
end
end
section
section
variable {nm np na nb nw:ByteArray}{g:Gr}{c:Conf}{u v s:Nat}
theorem ycve(hg:ybb g):Sh.yvt (ycn nm np na nb nw) g=true:=by
 have h1:=hg.1;have h2:=hg.2.1;have h3:=hg.2.2.1;simp[Sh.yvt,ycn,ybh]
 try omega
def ydhl(g:Gr)(s:Nat):List Nat:=(zL g.ids.length).filter s.testBit
theorem ycsz(hg:ybb g)(hv:¬v<g.ids.length):toP g c v=none:=by
 have:=hg.2.2.1;unfold toP;rw[if_neg (fun r=>hv (by omega))]
structure MtJ(nm np na nb nw:ByteArray)(g:Gr)(c:Conf)(k:Cnt):Prop where
 valid:yhb (ycn nm np na nb nw) g c=true
 moves:∃I,PtI g (toP g c) I/\2*k.moves+potN g (toP g c) I<=2*g.ports.length+2*yqo g
def ypx(g:Gr)(c:Conf):Prop:=(∀v u,toP g c v=some u->toP g c u=some v)/\∀v u,adj g v u->toP g c v=none->toP g c u≠none
theorem ynw(hg:ybb g)(h:MtC g c):(∀v,v<g.ids.length->¬ybzg g c v)↔ypx g c:=by
 have hpl:=hg.2.2.1;constructor
 ·intro ha;refine⟨fun v u e=>?_,fun v u hu e1 e2=>?_⟩
  ·have had:=ybbw hg h e;obtain⟨hv,hu⟩:=hg.adj_lt had;cases q:toP g c u with
   |none=>exact absurd (.inl ⟨q,v,hg.adj_symm had,e⟩) (ha u (by omega))
   | some w =>
     by_cases r:w=v
     ·rw[r]
     ·exact absurd (.inr (.inr ⟨u,w,e,q,r⟩)) (ha v (by omega))
  ·obtain⟨hv,_⟩:=hg.adj_lt hu;exact ha v (by omega) (.inr (.inl ⟨e1,u,hu,e2⟩))
 ·rintro⟨h1,h2⟩ v hv (⟨q,u,hu,e⟩|⟨q,u,hu,e⟩|⟨u,w,e1,e2,e3⟩)
  ·have:=h1 u v e;rw[q]at this;cases this
  ·exact h2 v u hu q e
  ·have:=h1 v u e1;rw[e2]at this;exact e3 (Option.some.inj this)
end
end
section
def mtT(g:Gr)(c:Conf)(v:Nat):Int:=(ywh g c 0).getD v (-1)
section
variable {g:Gr}{c:Conf}{u v:Nat}
theorem ybnv(hg:ybb g)(h:MtC g c)(hv:v<g.ids.length):(∀u,toP g c v=some u->mtT g c v=(u:Int))/\(toP g c v=none->mtT g c v = -1):=by
 have hpl:=hg.2.2.1;have hlt:v<c.length:=by rw[h.len];exact hv
 have hs:c[v]?=some (c.getD v []):=by simp[zT,hlt]
 have hrow:=(h.row v hv).2
 have e:mtT g c v=portOf g v (pAt c v):=by
  unfold mtT;rw[List.getD_eq_getElem?_getD,yym g c 0 v _ hs];rfl
 rw[e];constructor
 ·intro u hu;unfold toP at hu
  by_cases q:v<g.ports.length/\0<=pAt c v
  ·rw[if_pos q]at hu;have hu:=Option.some.inj hu;have hk:(pAt c v).toNat<(g.ports.getD v []).length:=by omega
   have hm:=ycz hg q.1 (zF hk);rw[Sh.getD_at hk]at hu;unfold portOf
   first
    |(rw[if_pos (by omega),Sh.getD_at hk];omega)
    |(rw[if_neg (by omega),Sh.getD_at hk];omega)
    |(simp only[Sh.getD_at hk];split<;>omega)
  ·rw[if_neg q]at hu;cases hu
 ·intro hn;rw[(ykx hg h hv).1 hn];rfl
theorem yqf(hg:ybb g)(h:MtC g c)(hv:v<g.ids.length):mtT g c v<0↔toP g c v=none:=by
 obtain⟨h1,h2⟩:=ybnv hg h hv;cases e:toP g c v with
 |none=>rw[h2 e];exact⟨fun _=>rfl,fun _=>by decide⟩
 |some u=>rw[h1 u e];exact⟨fun q=>by omega,fun q=>nomatch q⟩
theorem yrk(hg:ybb g)(h:MtC g c)(hv:v<g.ids.length):mtT g c v=(u:Int)↔toP g c v=some u:=by
 obtain⟨h1,h2⟩:=ybnv hg h hv;cases e:toP g c v with
 |none=>rw[h2 e];exact⟨fun q=>by omega,fun q=>nomatch q⟩
 |some w=>rw[h1 w e];exact⟨fun q=>by rw[show w=u by omega],fun q=>by rw[Option.some.inj q]⟩
theorem ybwn(hg:ybb g)(h:MtC g c):((∀v,v<g.ids.length->0<=mtT g c v->mtT g c (mtT g c v).toNat=(v:Int))/\∀v l,v<g.ids.length->l∈g.ports.getD v []->¬(mtT g c v<0/\mtT g c l.1.toNat<0))↔ypx g c:=by
 have hpl:=hg.2.2.1
 have inside:∀{v u},toP g c v=some u->v<g.ids.length/\u<g.ids.length:=fun {v u} e=>by
  obtain⟨a,b⟩:=hg.adj_lt (ybbw hg h e);omega
 constructor
 ·rintro⟨h1,h2⟩;refine⟨fun v u e=>?_,fun v u hu e1 e2=>?_⟩
  ·obtain⟨hv,hu⟩:=inside e;have ev:=(yrk hg h hv).2 e;have:=h1 v hv (by omega)
   rw[ev,zX]at this;exact(yrk hg h hu).1 this
  ·obtain⟨hv,hul⟩:=hg.adj_lt hu;obtain⟨l,hl,el⟩:=yqb hu;refine h2 v l (by omega) hl ⟨(yqf hg h (by omega)).2 e1,?_⟩
   rw[el];exact(yqf hg h (by omega)).2 e2
 ·rintro⟨h1,h2⟩;refine⟨fun v hv h0=>?_,fun v l hv hl ⟨q1,q2⟩=>?_⟩
  ·cases e:toP g c v with
   |none=>have:=(yqf hg h hv).2 e;omega
   | some u =>
     rw[(yrk hg h hv).2 e,zX];exact(yrk hg h (inside e).2).2 (h1 v u e)
  ·obtain⟨_,a2,a3,_⟩:=ycz hg (by omega) hl
   exact h2 v _ a3 ((yqf hg h hv).1 q1) ((yqf hg h (by omega)).1 q2)
end
end
section
section
variable {g:Gr}{t u v:Nat}
end
end
section
section
variable {g:Gr}{a b u v w x:Nat}
def ybnp(g:Gr)(v:Nat)(e:Int):Prop:=(∀w,w<g.ports.length->dP g w v<=e)/\∃w,w<g.ports.length/\dP g w v=e
theorem Tr.side(h:Tr g)(hu:adj g v u)(hw:w<g.ports.length):(dP g w u<dP g w v/\dP g w v=dP g w u+1)\/(dP g w v<dP g w u/\dP g w u=dP g w v+1):=by
 rcases h.up hw hu with q|q<;>omega
theorem Tr.link(h:Tr g)(hu:adj g v u){ev eu:Int}(he:ybnp g v ev)(he':ybnp g u eu) :
 ev=max (rchP g u v-1) (rchP g v u)/\eu=max (rchP g v u-1) (rchP g u v):=by
 have key:∀{v u:Nat}{ev:Int},adj g v u->ybnp g v ev->ev=max (rchP g u v-1) (rchP g v u):=fun {v u ev} hu he=>by
  obtain⟨hv,hu'⟩:=h.good.adj_lt hu;obtain⟨e1,w,hw,e2⟩:=he
  have hle:ev<=max (rchP g u v-1) (rchP g v u):=by
   rcases h.side hu hw with⟨q,q2⟩|⟨q,q2⟩
   ·have:=ybaf hw q;omega
   ·have:=ybaf (u:=v) (v:=u) hw q;omega
  obtain⟨x,hx,x1,x2⟩:=h.rch_ex hu;obtain⟨y,hy,y1,y2⟩:=h.rch_ex (h.good.adj_symm hu);have a1:=e1 x hx;have a2:=e1 y hy;rcases h.side hu hy with⟨q,q2⟩|⟨q,q2⟩<;>omega
 exact⟨key hu he,key (h.good.adj_symm hu) he'⟩
theorem Tr.ht_link(h:Tr g)(hu:adj g v u):(rchP g u v-1<=rchP g v u->htP g v=rchP g u v-1)/\(rchP g v u<=rchP g u v-1->rchP g v u<=htP g v):=by
 obtain⟨hv,hu'⟩:=h.good.adj_lt hu;have p1:=h.rch_pos hu;have p2:=h.rch_pos (h.good.adj_symm hu);have from_:2<=rchP g u v->∃x,adj g v x/\x≠u/\rchP g u v=1+rchP g v x:=fun q=>h.rch_from (h.good.adj_symm hu) q;constructor
 ·intro hq;refine Int.le_antisymm ?_ ?_
  ·rcases zAK (htP g v) 1 with q|q
   ·omega
   ·obtain⟨a,b,ha,hb,hne,r1,r2⟩:=(ybpc h.good hv q).1 (Int.le_refl _)
    by_cases e:a=u
    ·have:=h.rch_step (h.good.adj_symm hu) hb (fun e2=>hne (by rw[e,e2]))
     omega
    ·have:=h.rch_step (h.good.adj_symm hu) ha e;omega
  ·rcases zAK (rchP g u v) 2 with q|q
   ·have:=ybor g v;omega
   ·obtain⟨x,hx,hne,e⟩:=from_ q;exact(ybpc h.good hv (by omega)).2 ⟨x,u,hx,hu,hne,by omega,by omega⟩
 ·intro hq;obtain⟨x,hx,hne,e⟩:=from_ (by omega)
  exact(ybpc h.good hv p1).2 ⟨x,u,hx,hu,hne,by omega,by omega⟩
theorem Tr.higher(h:Tr g)(hu:adj g v u){ev eu:Int}(he:ybnp g v ev)(he':ybnp g u eu):(htP g v<htP g u↔eu<ev)/\(htP g v=htP g u↔eu=ev):=by
 obtain⟨l1,l2⟩:=h.link hu he he';obtain⟨a1,a2⟩:=h.ht_link hu;obtain⟨b1,b2⟩:=h.ht_link (h.good.adj_symm hu);rcases Int.lt_trichotomy (rchP g v u) (rchP g u v)with q|q|q
 ·have:=b1 (by omega)
  have:=a2 (by omega)
  omega
 ·have:=a1 (by omega)
  have:=b1 (by omega)
  omega
 ·have:=a1 (by omega)
  have:=b2 (by omega)
  omega
def Peak(g:Gr)(v:Nat):Prop:=∀u,adj g v u->htP g u<=htP g v
end
end
section
section
variable {g:Gr}{t u v a:Nat}
end
end
section
section
variable {g:Gr}{t:Nat}
end
end
section
end
section
namespace Sh
open Go Ev
def ycqf:LO:=[o3 (.box 27 (.tmp 0)) 3 0,o3 (.mv (.const (.slice none 0 0))) 6 0]
def yckg:LO:=[mv' 1 10 0,ln' 10 11 1,o3 (.mk 3 1 8 [.i .i64 0] (.tmp 11) (.tmp 11)) 12 3,mv' 12 7 7]
def ycmp:LO:=[mv' 1 13 0,ln' 13 14 1,o3 (.mv (ci' 0)) 15 0]
def ybfg:LO:=[bn' .lss 15 14 16 0]
def ybsi:LO:=[mv' 15 17 0,ix' 1 13 15 18 0,ld' false 1 18 19 2,mv' 17 8 7,mv' 19 9 15]
def ybng:LO:=[mv' 7 20 0,mv' 8 21 0,ix' 1 20 21 22 3,o0 (.store 1 (.tmp 22) (.const (.int .i64 (-1)))) 7]
def ybrm:LO:=[mv' 9 23 0,mv' 2 24 0,ix' 1 23 24 25 3,ld' false 1 25 26 7,o3 (.bin .geq (.tmp 26) (ci' 0)) 27 15]
def ycep:LO:=[mv' 7 28 0,mv' 8 29 0,fa' 1 1 3 30 0,ld' false 1 30 31 4,mv' 8 32 0,ix' 1 31 32 33 28,ld' false 1 33 34 60,mv' 9 35 0,mv' 2 36 0,ix' 1 35 36 37 384,ld' false 1 37 38 896,ix' 2 34 38 39 2044,fa' 0 1 39 40 4092,ld' false 1 40 41 8188,ix' 1 28 29 42 16383,o0 (.store 1 (.tmp 42) (.tmp 41)) 32767]
def ybnk:LO:=[o3 (.bin .add (.tmp 15) (ci' 1)) 43 0,mv' 43 15 1]
def ycch:LO:=[mv' 7 44 0,mv' 44 6 1]
def c118:SC:=(.seq (.reg false ycqf) (.seq (.reg false yckg) (.seq (.seq (.reg false ycmp) (.block 0 (.loop (.seq (.reg false ybfg) (.seq (.cond (.tmp 16) .skip (.exit 0)) (.seq (.block 1 (.seq (.reg false ybsi) (.seq (.reg false ybng) (.seq (.reg false ybrm) (.cond (.tmp 27) (.reg true ycep) .skip))))) (.reg false ybnk))))))) (.seq (.reg false ycch) .ret))))
theorem ycql:Fn 118 c118 [.t 6]:=fn_0 Tryz.func118 (by kernel_rfl) (by kernel_rfl)
end Sh
end
section
namespace Sh
open Ev Go.RowKit
def towP(g:Gr)(c:Conf)(x:Nat):List Int:=mapR c.length fun v=>if (c.getD v []).getD x 0>=0 then((g.ports.getD v []).getD ((c.getD v []).getD x 0).toNat (0,0)).1 else -1
theorem ybfa(g:Gr)(c:Conf)(x:Nat):(towP g c x).length=c.length:=yuq _ _
theorem ybbm{g:Gr}{c:Conf}{x v:Nat}(hv:v<c.length):(towP g c x).getD v 0=if (c.getD v []).getD x 0>=0 then((g.ports.getD v []).getD ((c.getD v []).getD x 0).toNat (0,0)).1 else -1:=gmR _ _ _ _ hv
set_option maxHeartbeats 1000000 in
theorem ybcc{g:Gr}{c:Conf}{x:Nat}(hl:c.length<=g.ports.length)(h1:g.ports.length<=1000)(hx:x<=1000)(hc:∀v,v<c.length->x<(c.getD v []).length/\(c.getD v []).getD x 0<(g.ports.getD v []).length) :
 Returns zD 118 [grV g,ybj c,.i .i64 x] (yw (towP g c x)):=by
 refine Returns.of (ycql _ _ ?_);obtain⟨n,hn⟩:∃n,c.length=n:=⟨_,rfl⟩;obtain⟨T,hT⟩:∃T,towP g c x=T:=⟨_,rfl⟩;have hTl:T.length=n:=by rw[<-hT,ybfa,hn]
 rw[hn]at hl hc;simp only[c118,ycqf,yckg,ycmp,grV,ybj,hn,clash,go_sem,zK,zA,zB,zG,zC,zN,zO,zQ,↓reduceIte,reduceCtorEq];refine⟨⟨by omega,by omega⟩,?_⟩
 refine ybl (σ:=Nat) (fun k=>⟨[(15,.i .i64 k),(14,.i .i64 n),(13,.sl 1 n fun v=>[yw (c.getD v [])]),(2,.i .i64 x),(3,.pt (3,0) 0 0),(7,.os (12,0) 0 n true)],[(12,.one (some ⟨3,false,1,n,fun i=>[.i .i64 (if i<k then T.getD i 0 else 0)]⟩)),(3,.one (some ⟨27,true,2,1,fun _=>[yw g.ids,ybe g.ports]⟩))]⟩) (fun k=>k<=n) (fun k=>n-k) 0 (zAF _) ?_ ?_
 ·refine yh [] [] [] ?_;simp only[zAC,allQ,live,yc,zAH,go_sem,zA,↓reduceIte,reduceCtorEq]
 intro k hk
 by_cases hlt:k<n
 ·have t1:decide ((k:Int)<(n:Int))=true:=decide_eq_true (by omega)
  obtain⟨hcx,hcp⟩:=hc k hlt;have hat:=ybbm (g:=g) (x:=x) (show k<c.length by omega)
  rw[hT]at hat
  by_cases hp:(c.getD k []).getD x 0>=0
  ·have t2:decide ((c.getD k []).getD x 0>=0)=true:=decide_eq_true hp;rw[if_pos hp]at hat;simp only[ybfg,ybsi,ybng,ybrm,ycep,ybnk,t1,t2,yw,ybe,ybc,splice,clash,go_sem,zK,zA,zB,zG,zC,zN,zO,zQ,↓reduceIte,reduceCtorEq]
   repeat (refine⟨by omega,?_⟩)
   refine⟨ikw (by omega) (by omega),?_⟩
   refine yj (k+1) (by omega) (by omega) ?_
   refine yh [] [] [] ?_;simp only[go_sem,allQ,live,yc,yu,go_sem,zA,↓reduceIte,reduceCtorEq];refine⟨by omega,fun i hi=>?_⟩
   by_cases q:i=k
   ·subst q;simp only[if_pos (zAI i),hat];simp only[go_sem,live,yc,go_sem,↓reduceIte,reduceCtorEq]
   ·have e:(if i<k+1 then T.getD i 0 else 0)=if i<k then T.getD i 0 else 0:=by
     by_cases q1:i<k
     ·rw[if_pos q1,if_pos (by omega)]
     ·rw[if_neg q1,if_neg (by omega)]
    simp only[if_neg q,e];simp only[go_sem,live,yc,go_sem,reduceCtorEq]
  ·have t2:decide ((c.getD k []).getD x 0>=0)=false:=decide_eq_false hp;rw[if_neg hp]at hat;simp only[ybfg,ybsi,ybng,ybrm,ybnk,t1,t2,yw,splice,clash,go_sem,zK,zA,zB,zG,zC,zN,zO,zQ,↓reduceIte,reduceCtorEq]
   repeat (refine⟨by omega,?_⟩)
   refine⟨ikw (by omega) (by omega),?_⟩
   refine yj (k+1) (by omega) (by omega) ?_
   refine yh [] [] [] ?_;simp only[go_sem,allQ,live,yc,yu,go_sem,zA,↓reduceIte,reduceCtorEq];refine⟨by omega,fun i hi=>?_⟩
   by_cases q:i=k
   ·subst q;simp only[if_pos (zAI i),hat];simp only[go_sem,live,yc,go_sem,↓reduceIte,reduceCtorEq]
   ·have e:(if i<k+1 then T.getD i 0 else 0)=if i<k then T.getD i 0 else 0:=by
     by_cases q1:i<k
     ·rw[if_pos q1,if_pos (by omega)]
     ·rw[if_neg q1,if_neg (by omega)]
    simp only[if_neg q,e];simp only[go_sem,live,yc,go_sem,reduceCtorEq]
 ·obtain rfl:k=n:=by omega
  have t1:decide ((k:Int)<(k:Int))=false:=decide_eq_false (by omega)
  simp only[ybfg,ycch,t1,clash,go_sem,zK,zA,zB,zG,zC,zN,zO,zQ,↓reduceIte,reduceCtorEq];rw[hT];unfold yw;rw[hTl];exact yid fun i hi=>by rw[if_pos hi]
end Sh
end
section
namespace Sh
open Go Ev
def ycce:LO:=[o3 (.alloc 87 1 [.a (.string (ByteArray.mk #[])),.i .i64 0,.i .i64 0,.i .i64 0,.i .i64 0,.i .i64 0]) 2 0]
def ycim:LO:=[mv' 0 3 0,o3 (.build [.a (.string (ByteArray.mk #[])),.i .i64 0,.i .i64 0,.i .i64 0,.i .i64 0,.i .i64 0] [(0,1,(.tmp 3)),(1,1,(ci' 3))]) 4 1,o0 (.store 6 (.tmp 2) (.tmp 4)) 3]
def c116:SC:=(.seq (.reg false ycce) (.seq (.reg false ycim) .ret))
theorem ycxk:Fn 116 c116 [.c 2 true 6]:=fn_0 Tryz.func116 (by kernel_rfl) (by kernel_rfl)
end Sh
end
section
namespace Sh
open Ev Go.RowKit
end Sh
end
section
namespace Sh
open Ev Go.RowKit
theorem ybyf{g:Gr}(hg:ybb g){c:Conf}(hR:ybra c){G:List Int}(hG:∀x∈G,I64 x):Returns zD 102 [grV g,ybj c,yw G] (.b (yoo g.ports.length (ydj g G) c)):=by
 refine yblf ⟨_,_,Tryz.func102,rfl⟩ (fun _=>.b) (fun _=>.simple rfl) fun H m us hH hr φ M w us' hRl hs hv=>?_
 obtain⟨u,us2,rfl,h1,h2⟩:∃u us2,us=u::us2/\RV H om0 (grV g) u/\RVL H om0 [ybj c,yw G] us2:=by
  cases hr with|cons x y=>exact⟨_,_,rfl,x,y⟩
 obtain⟨u2,u3,rfl,h3,h4⟩:=rvl2 h2
 obtain⟨u',us3,rfl,h5,h6⟩:∃u' us3,us'=u'::us3/\VR φ u u'/\VRL φ [u2,u3] us3:=by
  cases hv with|cons x y=>exact⟨_,_,rfl,x,y⟩
 obtain⟨u2',u3',rfl,h7,h8⟩:=yvj h6;exact ymd u' u2' u3' g c G w (ydeb hH h1 h5 hRl hs (ycre hg)) (ycsv hH h3 h7 hRl hs hR) (ints_at hH h4 h8 hRl hs hG) hg
end Sh
end
section
namespace Sh
open Ev Go.RowKit
theorem ybdx(nm:ByteArray):Returns zD 116 [.a (.string nm)] (.ag (varC ⟨nm,3,0,0,0,0⟩)):=by
 refine Returns.of (ycxk _ _ ?_);simp only[c116,ycce,ycim,varC,go_sem,zA,zB,zG,zC,↓reduceIte,reduceCtorEq];exact Sim.refl _
end Sh
end
section
namespace Sh
open Ev Go.RowKit
end Sh
end
section
namespace Sh
open Go Ev Go.RowKit
section
variable {m:Mem}{F:AM}
theorem row_of{z bk p n cp N e zz:Nat}{Tb:Ev.T Value}{L:Nat->List Value}(h1:m.b.get bk=some (.cells Tb N e zz))(h2:0<n)(h3:p+n*z<=N)(h4:∀a,a<n->(L a).length=z)(h5:∀a,a<n->∀j,j<z->Tb.get (p+a*z+j)=(L a)[j]?) :
 rowOf m z (.slice (some ⟨bk,p,none⟩) n cp)=some (yby L n,[bk]):=by
 have hl:=ycr h4;show(bif zAN n 0 then _ else _)=_;rw[show zAN n 0=false by cases n with|zero=>omega|succ n=>rfl]
 simp only[cond_false];rw[h1];simp only;rw[zJ h3];simp only[cond_true]
 have hg:=yfn (T:=Tb) (L:=yby L n) (o:=p) (fun j hj=>by
  rw[hl]at hj;rcases zW z with hz|hz
  ·subst hz;omega
  ·have hd:=Nat.div_add_mod j z;have hm:=Nat.mod_lt j hz;have hk:j/z<n:=Nat.div_lt_of_lt_mul (by rwa [zAL]at hj)
   have e1:j=j/z*z+j%z:=by rw[zAL];exact hd.symm
   rw[e1,yev h4 _ _ hk hm,<-Nat.add_assoc];exact h5 _ hk _ hm)
 rw[hl]at hg;rw[hg]
theorem row_zero{u:Value}(h:Z0 u)(z:Nat):rowOf m z u=some ([],[]):=by
 rcases h with rfl|⟨b,o,c,rfl⟩
 ·rfl
 ·rfl
theorem in64{n:Int}(h:I64 n):inI64 n=true:=by
 unfold I64 at h;unfold inI64;split
 ·rename_i k;exact zJ (by simp only[Int.ofNat_eq_natCast]at h;omega)
 ·rename_i k;exact zJ (by omega)
theorem yoi{a b:Int}(ha:I64 a)(hb:I64 b):∀{l:List Value}{r:List (Int×Int)},pairsOf l=some r->pairsOf (l++[.int .i64 a,.int .i64 b])=some (r++[(a,b)])
 | [],r,h=>by
   cases h
   show(bif inI64 a&&inI64 b then _ else _)=_;rw[in64 ha,in64 hb];rfl
 | .int .i64 x :: .int .i64 y::l,r,h=>by
   unfold pairsOf at h;split at h
   ·rename_i r' hr
    rw[Bool.cond_eq_ite]at h;split at h
    ·rename_i hc
     cases h
     show(match pairsOf (l++[.int .i64 a,.int .i64 b])with|some r=>bif inI64 x&&inI64 y then some ((x,y)::r)else none|none=>none)=_
     rw[yoi ha hb hr];simp only[hc,cond_true];rfl
    ·cases h
   ·cases h
theorem ybie(hF:Le F m.b.get){ls:List (Int×Int)}{u:Value}(h:RV F om0 (ybc ls) u)(hI:∀l∈ls,I64 l.1/\I64 l.2):linksOf m u=some ls:=by
 unfold linksOf;rcases h.sl_inv with⟨h0,hz⟩|⟨bk,p,cp,T,N,e,zz,L,rfl,g1,g2,g3,g4,g5,g6,g7⟩
 ·rw[row_zero hz];have:ls=[]:=zH h0;subst this;rfl
 ·rcases zW ls.length with h0|h0
  ·have:ls=[]:=zH h0;subst this;rfl
  ·rw[row_of (hF _ _ g1) h0 g3 g4 g5]
   have:∀n,n<=ls.length->pairsOf (yby L n)=some (ls.take n):=by
    intro n
    induction n with
    |zero=>intro _;rfl
    | succ n ih =>
      intro hn;have hn':n<ls.length:=by omega
      have hl:=g6 n hn'
      have e1:L n=[.int .i64 ls[n].1,.int .i64 ls[n].2]:=by
       have e0:ls.getD n (0,0)=ls[n]:=by simp[zT,hn']
       rw[e0]at hl;obtain⟨x,y,e2,hx,hy⟩:=rvl2 hl;rw[e2,hx.int_inv,hy.int_inv]
      show pairsOf (yby L n++L n)=_;rw[e1,List.take_succ_eq_append_getElem hn'];have:=hI ls[n] (zF hn');exact yoi this.1 this.2 (ih (by omega))
   simp only;rw[this _ (zAG _),List.take_length]
theorem ybuk{α β:Type}{f:α->Option β}:∀{l:List α}{r:List β},l.length=r.length->(∀(k:Nat) x y,l[k]?=some x->r[k]?=some y->f x=some y)->mapO f l=some r
 |[],[],_,_=>rfl
 | x::l,y::r,hl,h=>by
   unfold mapO;rw[h 0 x y rfl rfl];simp only;rw[ybuk (by simpa using hl) fun k a b h1 h2=>h (k+1) a b (by simpa using h1) (by simpa using h2)]
 |[],_::_,hl,_=>by simp at hl
 |_::_,[],hl,_=>by simp at hl
theorem ybnj{L:Nat->List Value}{n:Nat}(h:∀a,a<n->(L a).length=1){k:Nat}(hk:k<n):(yby L n)[k]?=(L k)[0]?:=by
 have:=yev h k 0 hk (by omega)
 simpa using this
theorem ybhv{ids:SV}{P:List (List (Int×Int))}{u:Value}(h:RV F om0 (.rf [ids,ybe P]) u)(hI:∀ls∈P,∀l∈ls,I64 l.1/\I64 l.2) :
 ∃A v us,u = .pointer (some A)/\∀m:Mem,Le F m.b.get->graphOf m A=some ⟨v,us,P⟩:=by
 obtain⟨bk,p,T,N,e,zz,L,rfl,h1,h2,h3,h4,_⟩:=h.rf_inv;cases h4 with
 | cons a0 b0 =>
   cases b0 with
   | cons a1 b1 =>
     rename_i u0 _ u1 _
     cases b1
     have hbox:∀m:Mem,Le F m.b.get->boxPorts m ⟨bk,p,none⟩=some u1:=fun m hF=>by
      unfold boxPorts;simp only;rw[hF _ _ h1];simp only;rw[show Nat.blt (p+1) N=true from zJ (show p+1+1<=N by simp at h2;omega)]
      simp only[cond_true];exact h3 1 (by simp)
     have fin:∀(us:List Value) (ft:List Nat),(∀m:Mem,Le F m.b.get->rowOf m 1 u1=some (us,ft))->us.length=P.length->(∀(k:Nat) x y,us[k]?=some x->P[k]?=some y->RV F om0 (ybc y) x) ->
      ∃A v us,Value.pointer (some ⟨bk,p,none⟩) = .pointer (some A)/\∀m:Mem,Le F m.b.get->graphOf m A=some ⟨v,us,P⟩:=fun us ft hr hl hx=>by
      refine⟨_,u1,us,rfl,fun m hF=>?_⟩;unfold graphOf;rw[hbox m hF];show ob (rowOf m 1 u1) _=_;rw[hr m hF];show ob (mapO (linksOf m) us) _=_;rw[ybuk hl fun k x y q1 q2=>ybie hF (hx k x y q1 q2) (hI y (List.mem_of_getElem? q2))];rfl
     rcases a1.sl_inv with⟨k0,hz⟩|⟨bk',p',cp,T',N',e',zz',L',rfl,g1,g2,g3,g4,g5,g6,g7⟩
     ·have:P=[]:=zH k0;subst this;exact fin [] [] (fun m _=>row_zero hz 1) rfl (fun k x y q _=>by simp at q)
     ·rcases zW P.length with h0|h0
      ·have:P=[]:=zH h0;subst this;exact fin [] [] (fun m _=>rfl) rfl (fun k x y q _=>by simp at q)
      ·refine fin (yby L' P.length) [bk'] (fun m hF=>row_of (hF _ _ g1) h0 g3 g4 g5) (by rw[ycr g4,Nat.mul_one]) fun k x y q1 q2=>?_
       have hk:k<P.length:=(List.getElem?_eq_some_iff.1 q2).1;rw[ybnj g4 hk]at q1;have hl:=g6 k hk;have e0:P.getD k []=y:=by simp[zT,q2]
       rw[e0]at hl;obtain⟨v,e1,hv⟩:=rvl1 hl;rw[e1]at q1;cases q1
       exact hv
end
def ycq(P:List (List (Int×Int)))(k:Nat):El:=(flatAt 0 P).getD k ⟨0,0,0⟩
def ycqg(P:List (List (Int×Int))):ItS:=⟨(flatAt 0 P).length,fun k=>[.i .i64 (ycq P k).v,.ag [.i .i64 (ycq P k).a,.i .i64 (ycq P k).b]],[],fun _ _=>True,fun _ o=>o⟩
theorem ycaf{ids:SV}{P:List (List (Int×Int))}(hI:∀ls∈P,∀l∈ls,I64 l.1/\I64 l.2):ItC zD 158 [.rf [ids,ybe P]] (ycqg P):=by
 intro lo F ω s f m us hc hr _;obtain⟨u,rfl,hu⟩:=rvl1 hr
 have hu0:RV F om0 (.rf [ids,ybe P]) u:=by
  obtain⟨bk,p,T,N,e,zz,L,rfl,h1,h2,h3,h4,h5⟩:=hu.rf_inv;exact .rf h1 h2 h3 h4 h5
 obtain⟨A,v,vs,rfl,hg⟩:=ybhv hu0 hI;have el0:∀k,k<(flatAt 0 P).length->(flatAt 0 P)[k]?=some (ycq P k):=fun k hk=>by simp[ycq,zT,hk]
 refine⟨⟨(flatAt 0 P).length,fun k=>[(ycq P k).v0,(ycq P k).v1],fun _ m=>graphOf m A=some ⟨v,vs,P⟩,fun _ m=>m,fun _ _ M w M' w'=>M'=M/\w'=w⟩,⟨yvr.1,fun k m hk hw _=>Grow.refl hw,?_,?_⟩,rfl,fun F' ω' s' f' m' k hF _ hc' hk _=>⟨hg m' (hF.trans hc'.sub),fun hk=>⟨.cons .i (.cons (.ag (.cons .i (.cons .i .nil))) .nil),hc'⟩⟩⟩
 ·rintro k φ M w m M' w' hk hw hR hs hp ⟨rfl,rfl⟩;exact Good.refl hR hs
 ·intro l St Stop φ M w cap' hread hgrow hyield h0 hcap;obtain⟨box,rfl,hbox⟩:=ygm hcap;refine CallsIn.mono (yvr.2 l A ⟨v,vs,P⟩ (fun pre φ' M' w'=>φ.le φ'/\(∃post,flatAt 0 P=pre++post)/\St pre.length φ' M' w') Stop φ M w box ?_ ?_ ?_ ⟨φ.le_refl,⟨_,rfl⟩,h0⟩ hbox) ?_
  ·rintro pre φ' M' w' ⟨_,_,hst⟩;exact(hread _ _ _ _ hst).2
  ·rintro pre φ' M' w' w'' ⟨h1,h2,hst⟩ hb;exact⟨h1,h2,hgrow _ _ _ _ _ hst hb⟩
  ·rintro pre x post φ' M' w' ⟨h1,_,hst⟩ hfl;have hfl:flatAt 0 P=pre++x::post:=hfl;have hk:pre.length<(flatAt 0 P).length:=by rw[hfl];simp
   have ex:ycq P pre.length=x:=by
    have:=el0 _ hk;rw[hfl,List.getElem?_append_right (zAG _)]at this
    simpa using this.symm
   obtain⟨fn,tmps,asg,bd,hy1,hy2⟩:=hyield pre.length φ' M' w' [x.v0,x.v1] hk hst (by
    show VRL φ' [(ycq P pre.length).v0,(ycq P pre.length).v1] _;rw[ex];exact .cons (.simple rfl) (.cons (VR.atomA (v:=x.v1) rfl) .nil))
   refine⟨fn,tmps,asg,bd,hy1,hy2.mono ?_⟩
   ·rintro e w'' (⟨he,φ'',M'',h3,_,h4⟩|h)
    ·refine .inl ⟨he,φ'',M'',h3,Phi.le_trans h1 h3,⟨post,by rw[hfl];simp⟩,?_⟩
     rw[List.length_append];exact h4 M'' w'' ⟨rfl,rfl⟩
    ·exact .inr h
  ·rintro e w' ⟨h1,(⟨φ',M',_,_,hst⟩|h)⟩
   ·exact⟨h1,.inl ⟨φ',M',hst⟩⟩
   ·exact⟨h1,.inr h⟩
end Sh
end
section
namespace Sh
open Go Ev
def ycji:LO:=[o3 (.box 27 (.tmp 0)) 1 0,o3 (.mv (.const (.nilFunc))) 2 0]
def ycdn:LO:=[o3 (.mkfn 158 [] [(.tmp 1)]) 3 0,mv' 3 2 1]
def c120:SC:=(.seq (.reg false ycji) (.seq (.reg false ycdn) .ret))
theorem ycws:Fn 120 c120 [.t 2]:=fn_0 Tryz.func120 (by kernel_rfl) (by kernel_rfl)
end Sh
end
section
open Ev
theorem yxi:∀(ps:List (List (Int×Int))) (v:Nat) (x:El),x∈flatAt v ps->v<=x.v/\x.v<v+ps.length/\(x.a,x.b)∈ps.getD (x.v-v) []
 |[],_,_,h=>absurd h zAA
 | ls::l,v,x,h=>by
   rcases List.mem_append.1 h with h|h
   ·obtain⟨y,hy,rfl⟩:=List.mem_map.1 h;refine⟨zAG _,by simp,?_⟩
    simp only[Nat.sub_self,zU];exact hy
   ·obtain⟨h1,h2,h3⟩:=yxi l (v+1) x h;refine⟨by omega,by simp only[List.length_cons];omega,?_⟩
    have e:x.v-v=(x.v-(v+1))+1:=by omega
    rw[e,List.getD_cons_succ];exact h3
theorem ybas{g:Gr}(hg:ybb g){k:Nat}(hk:k<(flatAt 0 g.ports).length):(Sh.ycq g.ports k).v<g.ports.length/\((Sh.ycq g.ports k).a,(Sh.ycq g.ports k).b)∈g.ports.getD (Sh.ycq g.ports k).v []:=by
 have hm:Sh.ycq g.ports k∈flatAt 0 g.ports:=by unfold Sh.ycq;rw[Sh.getD_at hk];exact zF hk
 obtain⟨_,h2,h3⟩:=yxi _ _ _ hm;exact⟨by omega,by simpa using h3⟩
theorem ybot{g:Gr}(hg:ybb g):∀ls∈g.ports,∀l∈ls,I64 l.1/\I64 l.2:=fun ls hls l hl=>by
 obtain⟨v,hv,e⟩:=zV hls;have h24:=hg.2.1;have:g.ports.getD v []=ls:=by simp[zT,hv,e]
 obtain⟨h1,h2,_,h4,h5⟩:=ycz hg hv (by rw[this];exact hl)
 exact⟨Sh.ygv (by omega),Sh.ygv (by omega)⟩
end
section
namespace Sh
open Ev Go.RowKit
theorem ybsk{g:Gr}:Returns zD 120 [grV g] (.fn 158 [] [.rf [yw g.ids,ybe g.ports]]):=by
 refine Returns.of (ycws _ _ ?_);simp only[c120,ycji,ycdn,grV,clash,go_sem,zK,zA,zB,zG,zC,zN,zO,zQ,↓reduceIte,reduceCtorEq];exact Sim.refl _
end Sh
end
section
section
variable {nm nc nr:ByteArray}{g:Gr}{c:Conf}{u v s:Nat}
end
end
section
namespace Sh
open Go Ev
end Sh
end
section
theorem ybvb{ps:List (List (Int×Int))}{v:Nat}{l:Int×Int}(hv:v<ps.length)(hl:l∈ps.getD v []):(⟨v,l.1,l.2⟩:Ev.El)∈Ev.flatAt 0 ps:=by
 have key:∀(ps:List (List (Int×Int))) (b v:Nat),v<ps.length->l∈ps.getD v []->(⟨b+v,l.1,l.2⟩:Ev.El)∈Ev.flatAt b ps:=by
  intro ps
  induction ps with
  |nil=>intro b v h;simp at h
  | cons x ps ih =>
    intro b v h hl;show _∈(x.map fun y=>(⟨b,y.1,y.2⟩:Ev.El))++Ev.flatAt (b+1) ps;rw[List.mem_append];cases v with
    |zero=>exact .inl (List.mem_map.2 ⟨l,hl,rfl⟩)
    | succ v =>
      right
      have:=ih (b+1) v (by simpa using h) hl
      rwa [show b+1+v=b+(v+1)by omega]at this
 have:=key ps 0 v hv hl
 rwa [Nat.zero_add]at this
namespace Sh
open Ev Go.RowKit
end Sh
end
section
section
variable {nm nh nr:ByteArray}{g:Gr}{c:Conf}{v:Nat}
structure CnC(g:Gr)(c:Conf):Prop where
 len:c.length=g.ids.length
 row:∀v,v<g.ids.length->(c.getD v []).length=1/\(0<=(c.getD v []).getD 0 0/\(c.getD v []).getD 0 0<=g.ids.length)
end
end
section
def hAt(c:Conf)(v:Nat):Int:=(c.getD v []).getD 0 0
def lAt(c:Conf)(v:Nat):Int:=(c.getD v []).getD 1 0
section
variable {nm nh nl nf nd nt ni:ByteArray}{g:Gr}{c:Conf}{u v w:Nat}
structure ElC(g:Gr)(c:Conf):Prop where
 len:c.length=g.ids.length
 row:∀v,v<g.ids.length->(c.getD v []).length=2/\(0<=hAt c v/\hAt c v<=g.ids.length)/\(lAt c v=0\/lAt c v=1)
open Classical in
end
end
section
structure Stab(g:Gr)(c:Conf)(v:Nat):Prop where
 low:¬Peak g v->lAt c v=0
 one:Peak g v->(∀u,adj g v u->htP g u<htP g v)->lAt c v=1
 two:Peak g v->∀u,adj g v u->htP g u=htP g v->lAt c u≠lAt c v
section
variable {nm nh nl nf nd nt ni:ByteArray}{g:Gr}{c:Conf}{u v w s:Nat}
end
end
section
section
variable {g:Gr}{u v:Nat}
end
end
section
section
variable {g:Gr}{a b v:Nat}
end
end
section
namespace Sh
open Go Ev
def c5_0:LO:=[o3 (.box 24 (.tmp 0)) 3 0,o3 (.mv (.const (.bool false))) 6 0]
def c5_1:LO:=[ld' true 6 3 15 0,o3 (.call (.func 21) [(.tmp 15),(ci' 10)]) 16 1,o3 (.alloc 27 1 [.a (.slice none 0 0),.a (.slice none 0 0)]) 7 0,o0 (.store 2 (.tmp 7) (.tmp 16)) 7]
def c5_2:LO:=[ld' true 2 7 17 0,cl' 25 [] 18 0,mv' 1 19 0,cl' 24 [17,18,19] 20 7,mv' 20 8 15]
def c5_3:LO:=[cl' 23 [] 22 0,ld' true 2 7 23 0,ld' true 2 7 24 0,cl' 33 [24] 25 5,o3 (.field false 0 1 (.tmp 25)) 26 13,mv' 8 27 0,mv' 2 28 0,o3 (.call (.func 26) [(.tmp 28),(ci' 120)]) 29 77,cl' 22 [22,23,26,27,29] 30 255,mv' 30 21 511,xt' 21 0 31 1023,xt' 21 1 32 1023,xt' 21 2 33 1023,mv' 31 9 2047,mv' 32 10 12287,mv' 33 11 32767]
def c5_4:LO:=[mv' 11 34 0,o3 (.un .not (.tmp 34)) 35 1,mv' 35 36 3,⟨.load true 2 (.tmp 7),some 37,some (36,false),7⟩,⟨.call (.func 33) [(.tmp 37)],some 38,some (36,false),15⟩,⟨.load true 2 (.tmp 7),some 39,some (36,false),7⟩,⟨.call (.func 34) [(.tmp 39)],some 40,some (36,false),63⟩,⟨.seq true [false,true,true,false,false] (.tmp 38) (.tmp 40),some 41,some (36,false),127⟩,o3 (.pick (.tmp 36) (.const (.bool true)) (.tmp 41)) 42 255]
def c5_5:LO:=[o3 (.mv (.const (.bool false))) 6 0]
def c5_6:LO:=[o3 (.mv (.const (.slice none 0 0))) 12 0]
def c5_7:LO:=[o3 (.mv (ci' 0)) 13 0]
def c5_8:LO:=[mv' 13 43 0,mv' 9 44 0,ln' 44 45 2,bn' .lss 43 45 46 7]
def ydfx:LO:=[mv' 12 49 0,ld' true 2 7 50 0,mv' 9 51 0,mv' 13 52 0,ix' 1 51 52 53 12,ld' false 1 53 54 28,cl' 35 [50,54] 55 62,o3 (.bslice 4 1 1 [.b false] [(0,1,(.tmp 55))]) 56 126,o3 (.app 4 1 1 (.tmp 49) (.tmp 56)) 57 255,mv' 57 12 511]
def c5_9:LO:=[mv' 13 47 0,o3 (.bin .add (.tmp 47) (ci' 1)) 48 1,mv' 48 13 3]
def ydfv:LO:=[cl' 23 [] 58 0,cl' 37 [58] 59 1,ld' true 2 7 60 0,mv' 9 61 0,mv' 9 62 0,ln' 62 63 16,o3 (.bin .sub (.tmp 63) (ci' 1)) 64 48,ix' 1 61 64 65 120,ld' false 1 65 66 248,cl' 36 [59,60,66] 67 511,o3 (.bin .eql (.tmp 67) (.const (.int .u32 0))) 68 1023,mv' 68 14 2047]
def ydey:LO:=[cl' 30 [] 69 0,mv' 69 70 1,⟨.mv (.tmp 12),some 71,some (70,true),3⟩,⟨.mv (.tmp 10),some 72,some (70,true),3⟩,⟨.load true 2 (.tmp 7),some 73,some (70,true),3⟩,⟨.call (.func 33) [(.tmp 73)],some 74,some (70,true),19⟩,⟨.mv (.tmp 14),some 75,some (70,true),3⟩,⟨.call (.func 38) [(.tmp 71),(.tmp 72),(.tmp 74),(.tmp 75)],some 76,some (70,true),127⟩,o3 (.pick (.tmp 70) (.tmp 76) (.const (.bool false))) 77 255,mv' 77 6 511]
def c5:SC:=(.seq (.reg false c5_0) (.seq (.reg false c5_1) (.seq (.reg true c5_2) (.seq (.reg true c5_3) (.seq (.seq (.reg true c5_4) (.cond (.tmp 42) (.seq (.reg false c5_5) .ret) .skip)) (.seq (.reg false c5_6) (.seq (.seq (.reg false c5_7) (.block 0 (.loop (.seq (.seq (.reg false c5_8) (.cond (.tmp 46) .skip (.exit 0))) (.seq (.block 1 (.reg true ydfx)) (.reg false c5_9)))))) (.seq (.reg true ydfv) (.seq (.reg false ydey) .ret)))))))))
def c6_0:LO:=[o3 (.box 24 (.tmp 0)) 3 0,o3 (.mv (.const (.bool false))) 6 0]
def c6_1:LO:=[ld' true 6 3 13 0,o3 (.call (.func 21) [(.tmp 13),(ci' 10)]) 14 1,o3 (.alloc 27 1 [.a (.slice none 0 0),.a (.slice none 0 0)]) 7 0,o0 (.store 2 (.tmp 7) (.tmp 14)) 7]
def c6_2:LO:=[cl' 23 [] 15 0,cl' 37 [15] 16 1,o3 (.alloc 58 1 [.a (.string (ByteArray.mk #[])),.a (.slice none 0 0),.a (.slice none 0 0)]) 8 0,o0 (.store 3 (.tmp 8) (.tmp 16)) 7]
def c6_3:LO:=[cl' 23 [] 18 0,ld' true 2 7 19 0,ld' true 2 7 20 0,cl' 33 [20] 21 5,o3 (.field false 0 1 (.tmp 21)) 22 13,ld' true 2 7 23 0,cl' 25 [] 24 13,mv' 1 25 0,cl' 24 [23,24,25] 26 237,mv' 2 27 0,o3 (.call (.func 26) [(.tmp 27),(ci' 60)]) 28 1005,cl' 22 [18,19,22,26,28] 29 2047,mv' 29 17 4095,xt' 17 0 30 8191,xt' 17 1 31 8191,xt' 17 2 32 8191,mv' 30 9 16383,mv' 31 10 98303,mv' 32 11 262143]
def c6_4:LO:=[o3 (.mv (ci' 0)) 12 0]
def c6_5:LO:=[mv' 12 33 0,mv' 9 34 0,ln' 34 35 2,bn' .lss 33 35 36 7]
def c6_7:LO:=[ld' true 3 8 39 0,ld' true 2 7 40 0,mv' 9 41 0,mv' 12 42 0,ix' 1 41 42 43 12,ld' false 1 43 44 28,cl' 36 [39,40,44] 45 63,o3 (.bin .eql (.tmp 45) (.const (.int .u32 0))) 46 127,ld' true 2 7 47 0,mv' 9 48 0,mv' 12 49 0,ix' 1 48 49 50 1536,ld' false 1 50 51 3584,cl' 35 [47,51] 52 8063,o3 (.beq true (.tmp 46) (.tmp 52)) 53 16383]
def c6_8:LO:=[o3 (.mv (.const (.bool false))) 6 0]
def c6_6:LO:=[mv' 12 37 0,o3 (.bin .add (.tmp 37) (ci' 1)) 38 1,mv' 38 12 3]
def c6_9:LO:=[cl' 30 [] 54 0,mv' 54 55 1,⟨.mv (.tmp 11),some 56,some (55,true),3⟩,o3 (.pick (.tmp 55) (.tmp 56) (.const (.bool false))) 57 7,mv' 57 6 15]
def c6:SC:=(.seq (.reg false c6_0) (.seq (.reg false c6_1) (.seq (.reg false c6_2) (.seq (.reg true c6_3) (.seq (.seq (.reg false c6_4) (.block 0 (.loop (.seq (.seq (.reg false c6_5) (.cond (.tmp 36) .skip (.exit 0))) (.seq (.block 1 (.seq (.reg true c6_7) (.cond (.tmp 53) (.seq (.reg false c6_8) .ret) .skip))) (.reg false c6_6)))))) (.seq (.reg false c6_9) .ret))))))
def c4_0:LO:=[o3 (.box 24 (.tmp 0)) 3 0,o3 (.mv (.const (.bool false))) 6 0]
def c4_1:LO:=[ld' true 6 3 16 0,o3 (.call (.func 21) [(.tmp 16),(ci' 10)]) 17 1,o3 (.alloc 27 1 [.a (.slice none 0 0),.a (.slice none 0 0)]) 7 0,o0 (.store 2 (.tmp 7) (.tmp 17)) 7]
def c4_2:LO:=[cl' 23 [] 19 0,ld' true 2 7 20 0,ld' true 2 7 21 0,cl' 25 [] 22 1,mv' 1 23 0,cl' 24 [21,22,23] 24 29,mv' 2 25 0,o3 (.call (.func 26) [(.tmp 25),(ci' 80)]) 26 125,o3 (.call (.func 22) [(.tmp 19),(.tmp 20),(ci' 3),(.tmp 24),(.tmp 26)]) 27 255,mv' 27 18 511,xt' 18 0 28 1023,xt' 18 1 29 1023,xt' 18 2 30 1023,mv' 28 8 2047,mv' 29 9 12287,mv' 30 10 32767]
def c4_3:LO:=[o3 (.mv (ci' 0)) 11 0]
def c4_4:LO:=[mv' 11 31 0,mv' 8 32 0,ln' 32 33 2,bn' .lss 31 33 34 7]
def c4_6:LO:=[mv' 9 37 0,mv' 11 38 0,ix' 5 37 38 39 3,fa' 2 1 39 40 7,ld' false 1 40 41 15,o3 (.bin .sub (.tmp 41) (ci' 1)) 42 31,mv' 42 12 63]
def c4_7:LO:=[o3 (.mv (ci' 0)) 13 0]
def c4_8:LO:=[mv' 13 43 0,fa' 1 1 7 44 0,ld' false 1 44 45 2,ln' 45 46 6,bn' .lss 43 46 47 15,mv' 47 48 31,⟨.mv (.tmp 12),some 49,some (48,true),63⟩,⟨.bin .geq (.tmp 49) (ci' 0),some 50,some (48,true),127⟩,o3 (.pick (.tmp 48) (.tmp 50) (.const (.bool false))) 51 255]
def ydfj:LO:=[mv' 8 54 0,mv' 11 55 0,ix' 1 54 55 56 3,ld' false 1 56 57 7,ln' 57 58 15,fa' 1 1 7 59 0,ld' false 1 59 60 32,ln' 60 61 96,bn' .neq 58 61 62 255,mv' 62 63 511,⟨.mv (.tmp 8),some 64,some (63,false),1023⟩,⟨.mv (.tmp 11),some 65,some (63,false),1023⟩,⟨.idx 1 (.tmp 64) (.tmp 65),some 66,some (63,false),4095⟩,⟨.load false 1 (.tmp 66),some 67,some (63,false),8191⟩,⟨.mv (.tmp 13),some 68,some (63,false),1023⟩,⟨.idx 1 (.tmp 67) (.tmp 68),some 69,some (63,false),32767⟩,⟨.load false 1 (.tmp 69),some 70,some (63,false),65535⟩,⟨.len (.tmp 70),some 71,some (63,false),131071⟩,⟨.bin .neq (.tmp 71) (ci' 1),some 72,some (63,false),262143⟩,o3 (.pick (.tmp 63) (.const (.bool true)) (.tmp 72)) 73 524287]
def ydfd:LO:=[o3 (.mv (.const (.bool false))) 6 0]
def ydgl:LO:=[mv' 8 74 0,mv' 11 75 0,ix' 1 74 75 76 3,ld' false 1 76 77 7,mv' 13 78 0,ix' 1 77 78 79 31,ld' false 1 79 80 63,o3 (.idx 1 (.tmp 80) (ci' 0)) 81 127,ld' false 1 81 82 255,ld' true 2 7 83 0,mv' 13 84 0,cl' 32 [83,84] 85 1536,mv' 82 14 4095,mv' 85 15 8191]
def ydfe:LO:=[mv' 15 86 0,mv' 12 87 0,bn' .leq 86 87 88 3,mv' 88 89 7,⟨.mv (.tmp 14),some 90,some (89,true),15⟩,⟨.mv (.tmp 15),some 91,some (89,true),15⟩,⟨.bin .neq (.tmp 90) (.tmp 91),some 92,some (89,true),63⟩,o3 (.pick (.tmp 89) (.tmp 92) (.const (.bool false))) 93 127,mv' 93 94 255,⟨.mv (.tmp 15),some 95,some (94,false),511⟩,⟨.mv (.tmp 12),some 96,some (94,false),511⟩,⟨.bin .gtr (.tmp 95) (.tmp 96),some 97,some (94,false),2047⟩,⟨.mv (.tmp 97),some 98,some (94,false),4095⟩,⟨.mv (.tmp 14),some 99,some (98,true),8191⟩,⟨.mv (.tmp 12),some 100,some (98,true),8191⟩,⟨.bin .add (.tmp 100) (ci' 1),some 101,some (98,true),24575⟩,⟨.bin .lss (.tmp 99) (.tmp 101),some 102,some (98,true),65535⟩,⟨.pick (.tmp 98) (.tmp 102) (.const (.bool false)),some 103,some (94,false),131071⟩,o3 (.pick (.tmp 94) (.const (.bool true)) (.tmp 103)) 104 262143]
def ydgj:LO:=[o3 (.mv (.const (.bool false))) 6 0]
def c4_9:LO:=[mv' 13 52 0,o3 (.bin .add (.tmp 52) (ci' 1)) 53 1,mv' 53 13 3]
def c4_5:LO:=[mv' 11 35 0,o3 (.bin .add (.tmp 35) (ci' 1)) 36 1,mv' 36 11 3]
def ydge:LO:=[cl' 30 [] 105 0,mv' 105 106 1,⟨.mv (.tmp 10),some 107,some (106,true),3⟩,o3 (.pick (.tmp 106) (.tmp 107) (.const (.bool false))) 108 7,mv' 108 6 15]
def c4:SC:=(.seq (.reg false c4_0) (.seq (.reg false c4_1) (.seq (.reg true c4_2) (.seq (.seq (.reg false c4_3) (.block 0 (.loop (.seq (.seq (.reg false c4_4) (.cond (.tmp 34) .skip (.exit 0))) (.seq (.block 1 (.seq (.reg false c4_6) (.seq (.reg false c4_7) (.block 2 (.loop (.seq (.seq (.reg false c4_8) (.cond (.tmp 51) .skip (.exit 2))) (.seq (.block 3 (.seq (.seq (.reg true ydfj) (.cond (.tmp 73) (.seq (.reg false ydfd) .ret) .skip)) (.seq (.reg true ydgl) (.seq (.reg false ydfe) (.cond (.tmp 104) (.seq (.reg false ydgj) .ret) .skip))))) (.reg false c4_9)))))))) (.reg false c4_5)))))) (.seq (.reg false ydge) .ret)))))
def c3_0:LO:=[o3 (.box 24 (.tmp 0)) 2 0,o3 (.mv (.const (.bool false))) 4 0]
def c3_1:LO:=[ld' true 6 2 14 0,o3 (.call (.func 21) [(.tmp 14),(ci' 10)]) 15 1,o3 (.alloc 27 1 [.a (.slice none 0 0),.a (.slice none 0 0)]) 5 0,o0 (.store 2 (.tmp 5) (.tmp 15)) 7]
def c3_2:LO:=[cl' 23 [] 17 0,ld' true 2 5 18 0,ld' true 2 5 19 0,cl' 25 [] 20 1,mv' 1 21 0,cl' 24 [19,20,21] 22 29,o3 (.call (.func 26) [(.const (.slice none 0 0)),(ci' 12)]) 23 61,o3 (.call (.func 22) [(.tmp 17),(.tmp 18),(ci' 4),(.tmp 22),(.tmp 23)]) 24 127,mv' 24 16 255,xt' 16 0 25 511,xt' 16 1 26 511,xt' 16 2 27 511,mv' 25 6 1023,mv' 26 7 6143,mv' 27 8 16383]
def c3_3:LO:=[mv' 8 28 0,o3 (.un .not (.tmp 28)) 29 1]
def c3_4:LO:=[o3 (.mv (.const (.bool false))) 4 0]
def c3_5:LO:=[ld' true 2 5 30 0,mv' 6 31 0,mv' 6 32 0,ln' 32 33 4,o3 (.bin .sub (.tmp 33) (ci' 1)) 34 12,ix' 1 31 34 35 30,ld' false 1 35 36 62,cl' 27 [30,36] 37 127,mv' 37 9 255,o3 (.mv (ci' 24)) 10 511]
def c3_6:LO:=[o3 (.mv (ci' 0)) 11 0]
def c3_7:LO:=[mv' 11 38 0,fa' 1 1 5 39 0,ld' false 1 39 40 2,ln' 40 41 6,bn' .lss 38 41 42 15]
def c3_9:LO:=[mv' 10 45 0,ld' true 2 5 46 0,mv' 11 47 0,cl' 28 [46,47] 48 6,o3 (.mm false (.tmp 45) (.tmp 48)) 49 15,mv' 49 10 31]
def c3_8:LO:=[mv' 11 43 0,o3 (.bin .add (.tmp 43) (ci' 1)) 44 1,mv' 44 11 3]
def ydev:LO:=[o3 (.mv (ci' 0)) 12 0]
def ydgn:LO:=[o3 (.mv (ci' 0)) 13 0]
def ydgq:LO:=[mv' 13 50 0,fa' 1 1 5 51 0,ld' false 1 51 52 2,ln' 52 53 6,bn' .lss 50 53 54 15]
def yder:LO:=[mv' 9 57 0,mv' 13 58 0,cl' 29 [57,58] 59 3,ld' true 2 5 60 0,mv' 13 61 0,cl' 28 [60,61] 62 31,mv' 10 63 0,bn' .eql 62 63 64 127,o3 (.beq true (.tmp 59) (.tmp 64)) 65 255]
def ydgm:LO:=[o3 (.mv (.const (.bool false))) 4 0]
def ydhj:LO:=[mv' 9 66 0,mv' 13 67 0,cl' 29 [66,67] 68 3]
def ydgv:LO:=[mv' 12 69 0,o3 (.bin .add (.tmp 69) (ci' 1)) 70 1,mv' 70 12 3]
def ydhk:LO:=[mv' 13 55 0,o3 (.bin .add (.tmp 55) (ci' 1)) 56 1,mv' 56 13 3]
def ydfu:LO:=[cl' 30 [] 71 0,mv' 71 72 1,⟨.mv (.tmp 12),some 73,some (72,true),3⟩,⟨.bin .eql (.tmp 73) (ci' 1),some 74,some (72,true),7⟩,⟨.mv (.tmp 74),some 75,some (72,true),15⟩,⟨.mv (.tmp 12),some 76,some (75,false),31⟩,⟨.bin .eql (.tmp 76) (ci' 2),some 77,some (75,false),63⟩,⟨.mv (.tmp 77),some 78,some (75,false),127⟩,⟨.load true 2 (.tmp 5),some 79,some (78,true),255⟩,⟨.mv (.tmp 9),some 80,some (78,true),255⟩,⟨.call (.func 31) [(.tmp 79),(.tmp 80)],some 81,some (78,true),1023⟩,⟨.mv (.tmp 9),some 82,some (78,true),255⟩,⟨.bin .and (.tmp 81) (.tmp 82),some 83,some (78,true),4095⟩,⟨.mv (.tmp 9),some 84,some (78,true),255⟩,⟨.bin .eql (.tmp 83) (.tmp 84),some 85,some (78,true),16383⟩,⟨.pick (.tmp 78) (.tmp 85) (.const (.bool false)),some 86,some (75,false),32767⟩,⟨.pick (.tmp 75) (.const (.bool true)) (.tmp 86),some 87,some (72,true),65535⟩,o3 (.pick (.tmp 72) (.tmp 87) (.const (.bool false))) 88 131071,mv' 88 4 262143]
def c3:SC:=(.seq (.reg false c3_0) (.seq (.reg false c3_1) (.seq (.reg true c3_2) (.seq (.seq (.reg false c3_3) (.cond (.tmp 29) (.seq (.reg false c3_4) .ret) .skip)) (.seq (.reg true c3_5) (.seq (.seq (.reg false c3_6) (.block 0 (.loop (.seq (.seq (.reg false c3_7) (.cond (.tmp 42) .skip (.exit 0))) (.seq (.block 1 (.reg false c3_9)) (.reg false c3_8)))))) (.seq (.reg false ydev) (.seq (.seq (.reg false ydgn) (.block 2 (.loop (.seq (.seq (.reg false ydgq) (.cond (.tmp 54) .skip (.exit 2))) (.seq (.block 3 (.seq (.seq (.reg true yder) (.cond (.tmp 65) (.seq (.reg false ydgm) .ret) .skip)) (.seq (.reg false ydhj) (.cond (.tmp 68) (.reg false ydgv) .skip)))) (.reg false ydhk)))))) (.seq (.reg false ydfu) .ret)))))))))
def c7_0:LO:=[o3 (.box 24 (.tmp 0)) 2 0,o3 (.mv (.const (.bool false))) 4 0]
def c7_1:LO:=[ld' true 6 2 20 0,o3 (.call (.func 21) [(.tmp 20),(ci' 10)]) 21 1,o3 (.alloc 27 1 [.a (.slice none 0 0),.a (.slice none 0 0)]) 5 0,o0 (.store 2 (.tmp 5) (.tmp 21)) 7]
def c7_2:LO:=[fa' 1 1 5 22 0,ld' false 1 22 23 1,ln' 23 24 3,mv' 24 6 7]
def c7_3:LO:=[mv' 1 25 0,mv' 6 26 0,cl' 39 [25,26] 27 3,mv' 27 1 7]
def c7_4:LO:=[mv' 6 28 0,o3 (.mk 3 1 8 [.i .i64 0] (.tmp 28) (.tmp 28)) 29 1,mv' 29 7 3]
def c7_5:LO:=[o3 (.mv (ci' 0)) 8 0]
def c7_6:LO:=[mv' 8 30 0,mv' 6 31 0,bn' .lss 30 31 32 3]
def c7_8:LO:=[mv' 7 35 0,mv' 8 36 0,mv' 8 37 0,mv' 1 38 0,bn' .add 37 38 39 12,mv' 6 40 0,bn' .rem 39 40 41 60,ix' 1 35 36 42 127,o0 (.store 1 (.tmp 42) (.tmp 41)) 255]
def c7_7:LO:=[mv' 8 33 0,o3 (.bin .add (.tmp 33) (ci' 1)) 34 1,mv' 34 8 3]
def c7_9:LO:=[ld' true 2 5 44 0,mv' 7 45 0,cl' 40 [44,45] 46 3,mv' 46 43 7,xt' 43 0 47 15,xt' 43 1 48 15,o3 (.alloc 27 1 [.a (.slice none 0 0),.a (.slice none 0 0)]) 9 0,o0 (.store 2 (.tmp 9) (.tmp 47)) 95,mv' 48 10 255]
def ydgi:LO:=[cl' 23 [] 50 0,ld' true 2 5 51 0,ld' true 2 5 52 0,cl' 25 [] 53 1,o3 (.call (.func 24) [(.tmp 52),(.tmp 53),(.const (.slice none 0 0))]) 54 13,o3 (.call (.func 26) [(.const (.slice none 0 0)),(ci' 12)]) 55 29,o3 (.call (.func 22) [(.tmp 50),(.tmp 51),(ci' 4),(.tmp 54),(.tmp 55)]) 56 63,mv' 56 49 127,xt' 49 0 57 255,xt' 49 1 58 255,xt' 49 2 59 255,mv' 57 11 511,mv' 58 12 3071,mv' 59 13 8191]
def ydgz:LO:=[cl' 23 [] 61 0,ld' true 2 9 62 0,ld' true 2 9 63 0,cl' 25 [] 64 1,o3 (.call (.func 24) [(.tmp 63),(.tmp 64),(.const (.slice none 0 0))]) 65 13,o3 (.call (.func 26) [(.const (.slice none 0 0)),(ci' 12)]) 66 29,o3 (.call (.func 22) [(.tmp 61),(.tmp 62),(ci' 4),(.tmp 65),(.tmp 66)]) 67 63,mv' 67 60 127,xt' 60 0 68 255,xt' 60 1 69 255,xt' 60 2 70 255,mv' 68 14 511,mv' 69 15 3071,mv' 70 16 8191]
def ydfi:LO:=[mv' 10 71 0,o3 (.bin .neq (.tmp 71) (ci' 0)) 72 1,mv' 72 73 3,⟨.mv (.tmp 13),some 74,some (73,false),7⟩,⟨.un .not (.tmp 74),some 75,some (73,false),15⟩,o3 (.pick (.tmp 73) (.const (.bool true)) (.tmp 75)) 76 31,mv' 76 77 63,⟨.mv (.tmp 16),some 78,some (77,false),127⟩,⟨.un .not (.tmp 78),some 79,some (77,false),255⟩,o3 (.pick (.tmp 77) (.const (.bool true)) (.tmp 79)) 80 511]
def ydfm:LO:=[o3 (.mv (.const (.bool false))) 4 0]
def ydgu:LO:=[ld' true 2 5 81 0,mv' 11 82 0,mv' 11 83 0,ln' 83 84 4,o3 (.bin .sub (.tmp 84) (ci' 1)) 85 12,ix' 1 82 85 86 30,ld' false 1 86 87 62,cl' 27 [81,87] 88 127,ld' true 2 9 89 0,mv' 14 90 0,mv' 14 91 0,ln' 91 92 1024,o3 (.bin .sub (.tmp 92) (ci' 1)) 93 3072,ix' 1 90 93 94 7680,ld' false 1 94 95 15872,cl' 27 [89,95] 96 32767,mv' 88 17 65535,mv' 96 18 131071]
def ydhb:LO:=[o3 (.mv (ci' 0)) 19 0]
def ydfy:LO:=[mv' 19 97 0,mv' 6 98 0,bn' .lss 97 98 99 3]
def ydeu:LO:=[mv' 17 102 0,mv' 19 103 0,cl' 29 [102,103] 104 3,mv' 18 105 0,mv' 7 106 0,mv' 19 107 0,ix' 1 106 107 108 48,ld' false 1 108 109 112,cl' 29 [105,109] 110 255,o3 (.beq true (.tmp 104) (.tmp 110)) 111 511]
def ydha:LO:=[o3 (.mv (.const (.bool false))) 4 0]
def ydgp:LO:=[mv' 19 100 0,o3 (.bin .add (.tmp 100) (ci' 1)) 101 1,mv' 101 19 3]
def ydfk:LO:=[cl' 30 [] 112 0,mv' 112 113 1,⟨.mv (.tmp 17),some 114,some (113,true),3⟩,⟨.bin .neq (.tmp 114) (.const (.int .u32 0)),some 115,some (113,true),7⟩,o3 (.pick (.tmp 113) (.tmp 115) (.const (.bool false))) 116 15,mv' 116 4 31]
def c7:SC:=(.seq (.reg false c7_0) (.seq (.reg false c7_1) (.seq (.reg false c7_2) (.seq (.reg false c7_3) (.seq (.reg false c7_4) (.seq (.seq (.reg false c7_5) (.block 0 (.loop (.seq (.seq (.reg false c7_6) (.cond (.tmp 32) .skip (.exit 0))) (.seq (.block 1 (.reg false c7_8)) (.reg false c7_7)))))) (.seq (.reg false c7_9) (.seq (.reg true ydgi) (.seq (.reg true ydgz) (.seq (.seq (.reg false ydfi) (.cond (.tmp 80) (.seq (.reg false ydfm) .ret) .skip)) (.seq (.reg true ydgu) (.seq (.seq (.reg false ydhb) (.block 2 (.loop (.seq (.seq (.reg false ydfy) (.cond (.tmp 99) .skip (.exit 2))) (.seq (.block 3 (.seq (.reg true ydeu) (.cond (.tmp 111) (.seq (.reg false ydha) .ret) .skip))) (.reg false ydgp)))))) (.seq (.reg false ydfk) .ret)))))))))))))
end Sh
end
section
namespace Sh
open Ev Go.RowKit
end Sh
end
section
def ygb(g:Gr)(c:Conf):Bool:=ygd g&&yoo g.ports.length (ydj g [-1]) c
def mtW(g:Gr)(c:Conf)(v:Nat):Int:=(Sh.towP g c 0).getD v 0
def ybfy(g:Gr)(c:Conf):Bool:=(zL c.length).all fun v=>!(decide (mtW g c v>=0)&&(mtW g c (mtW g c v).toNat != (v:Int)))
def ybgh(g:Gr)(c:Conf):Bool:=(Ev.flatAt 0 g.ports).all fun e=>!(decide (mtW g c e.v<0)&&decide (mtW g c e.a.toNat<0))
def yfi(g:Gr)(c:Conf):Bool:=ygb g c&&(ybfy g c&&ybgh g c)
theorem yqy{g:Gr}{c:Conf}(h:ygb g c=true):ybb g/\c.length=g.ports.length/\∀v,v<c.length->(c.getD v []).length=1 /\ -1<=(c.getD v []).getD 0 0/\(c.getD v []).getD 0 0<((g.ports.getD v []).length:Int):=by
 unfold ygb at h;rw[zI]at h;have hck:=(ydu _ _ _).1 h.2;refine⟨(yhe g).1 h.1,hck.1,fun v hv=>?_⟩;have h2:=hck.2 v _ (zAB hv);have e:c[v]=c.getD v []:=by rw[Sh.getD_at hv]
 rw[e]at h2;have hl:(c.getD v []).length=1:=by simpa[ydj]using h2.1
 have h3:=h2.2 0 (-1,(yzm g v:Int)-1) ((c.getD v []).getD 0 0) (by simp[ydj]) (by rw[Sh.getD_at (show 0<(c.getD v []).length by omega)];exact zAB _)
 unfold yzm at h3;simp only at h3;omega
theorem ycfs{g:Gr}{c:Conf}(h:ygb g c=true):MtC g c:=by
 obtain⟨hg,h1,h2⟩:=yqy h;have hpl:=hg.2.2.1;refine⟨by omega,fun v hv=>?_⟩
 obtain⟨a,b,d⟩:=h2 v (by omega)
 exact⟨a,b,d⟩
theorem ycyu{g:Gr}(hg:ybb g){c:Conf}(h:MtC g c){v:Nat}(hv:v<g.ids.length):mtW g c v=mtT g c v:=by
 have hpl:=hg.2.2.1;obtain⟨h1,h2⟩:=ybnv hg h hv;have hr:=(h.row v hv).2;have hat:mtW g c v=if pAt c v>=0 then((g.ports.getD v []).getD (pAt c v).toNat (0,0)).1 else -1:=Sh.ybbm (by rw[h.len];exact hv)
 rw[hat]
 by_cases q:0<=pAt c v
 ·have hk:(pAt c v).toNat<(g.ports.getD v []).length:=by omega
  have e:toP g c v=some ((g.ports.getD v []).getD (pAt c v).toNat (0,0)).1.toNat:=by unfold toP;rw[if_pos ⟨by omega,q⟩]
  rw[if_pos q,h1 _ e];have hm:=(ycz hg (show v<g.ports.length by omega) (zF hk)).1
  rw[Sh.getD_at hk];omega
 ·rw[if_neg (by omega),h2 ((ykx hg h hv).2 (by omega))]
section
variable {nm np na nb nw:ByteArray}{g:Gr}
theorem ycyc(hg:ybb g){c:Conf}(hv:yhb (ycn nm np na nb nw) g c=true):ygb g c=true:=by
 have hC:=ycri hv;have hpl:=hg.2.2.1;unfold ygb;rw[(yhe g).2 hg,zM,ydu];refine⟨by rw[hC.len,hpl],fun v s hs=>?_⟩
 obtain⟨hvl,e⟩:=List.getElem?_eq_some_iff.1 hs;have e:c.getD v []=s:=by simp[zT,hs]
 obtain⟨h1,h2,h3⟩:=hC.row v (by rw[<-hC.len];exact hvl)
 unfold pAt at h2 h3;rw[e]at h1 h2 h3;have eb:ydj g [-1] v=[(-1,(yzm g v:Int)-1)]:=by simp[ydj]
 rw[eb];refine⟨h1,fun i b x hb hx=>?_⟩;have hi:=(List.getElem?_eq_some_iff.1 hb).1;have hi:i<1:=by simpa using hi
 obtain rfl:i=0:=by omega
 have hb:some (-1,(yzm g v:Int)-1)=some b:=hb;cases hb
 have e2:s.getD 0 0=x:=by simp[zT,hx]
 rw[e2]at h2 h3;unfold yzm;exact⟨h2,by omega⟩
theorem yvp{c:Conf}(hq:ygb g c=true):yfi g c=true↔ypx g c:=by
 obtain⟨hg,hl,_⟩:=yqy hq;have hC:=ycfs hq;have hpl:=hg.2.2.1;have eW:=fun v hv=>ycyu hg hC (v:=v) hv;unfold yfi ybfy ybgh;rw[hq,zM,zI,zS,zS,<-ybwn hg hC]
 have inn:∀v,v<g.ids.length->0<=mtT g c v->(mtT g c v).toNat<g.ids.length:=fun v hv h0=>by
  have e:mtT g c v=((mtT g c v).toNat:Int):=by omega
  have:=(hg.adj_lt (ybbw hg hC ((yrk hg hC hv).1 e))).2;omega
 refine and_congr ?_ ?_
 ·constructor
  ·intro h v hv h0;have:=h v (List.mem_range.2 (by omega))
   rw[eW v hv,eW _ (inn v hv h0),decide_eq_true h0,zM,zY,bne_eq_false_iff_eq]at this;exact this
  ·intro h v hv;have hv:=List.mem_range.1 hv;rw[eW v (by omega),zY,zAD]
   by_cases h0:0<=mtT g c v
   ·right
    rw[eW _ (inn v (by omega) h0),bne_eq_false_iff_eq]
    exact h v (by omega) h0
   ·exact .inl (decide_eq_false h0)
 ·constructor
  ·intro h v l hv hlm ⟨q1,q2⟩;have hm:=ybvb (ps:=g.ports) (v:=v) (l:=l) (by omega) hlm
   have:=h _ hm;have hu:=(ycz hg (show v<g.ports.length by omega) hlm).2.1
   simp only at this;rw[eW v hv,eW l.1.toNat (by omega),decide_eq_true q1,decide_eq_true q2]at this
   cases this
  ·intro h e he;obtain⟨k,hk,rfl⟩:=zV he;obtain⟨h1,h2⟩:=ybas hg hk;have e0:Sh.ycq g.ports k=(Ev.flatAt 0 g.ports)[k]:=by unfold Sh.ycq;rw[Sh.getD_at hk]
   rw[e0]at h1 h2;have hu:((Ev.flatAt 0 g.ports)[k]).a.toNat<g.ports.length:=(ycz hg h1 h2).2.1;have hn:=h _ _ (show _<g.ids.length by omega) h2
   rw[eW _ (by omega),eW _ (by omega),zY,zAD]
   by_cases q:mtT g c ((Ev.flatAt 0 g.ports)[k]).v<0
   ·exact .inr (decide_eq_false fun q2=>hn ⟨q,q2⟩)
   ·exact .inl (decide_eq_false q)
end
end
section
namespace Sh
open Go Ev
def ydcc:LO:=[o3 (.mv (.const (.string (ByteArray.mk #[])))) 0 0]
def ydeg:LO:=[o3 (.mv (.const (.string (ByteArray.mk #[112,114,111,103,114,97,109,32,109,97,116,99,104,105,110,103,59,10,118,97,114,32,112,32,58,32,112,111,114,116,59,10,114,117,108,101,32,97,99,99,101,112,116,58,32,112,32,61,61,32,110,111,110,101,32,38,38,32,115,111,109,101,40,113,46,112,32,61,61,32,113,46,98,97,99,107,41,32,45,62,32,112,32,58,61,32,102,105,114,115,116,40,113,46,112,32,61,61,32,113,46,98,97,99,107,41,59,10,114,117,108,101,32,112,114,111,112,111,115,101,58,32,112,32,61,61,32,110,111,110,101,32,38,38,32,115,111,109,101,40,113,46,112,32,61,61,32,110,111,110,101,41,32,45,62,32,112,32,58,61,32,102,105,114,115,116,40,113,46,112,32,61,61,32,110,111,110,101,41,59,10,114,117,108,101,32,119,105,116,104,100,114,97,119,58,32,115,111,109,101,40,113,32,61,61,32,112,32,38,38,32,113,46,112,32,33,61,32,110,111,110,101,32,38,38,32,113,46,112,32,33,61,32,113,46,98,97,99,107,41,32,45,62,32,112,32,58,61,32,110,111,110,101,59,10])))) 0 0]
def c59:SC:=(.seq (.reg false ydcc) (.seq (.reg false ydeg) .ret))
theorem yden:Fn 59 c59 [.t 0]:=fn_0 Tryz.func59 (by kernel_rfl) (by kernel_rfl)
def yciv:LO:=[o3 (.box 27 (.tmp 0)) 1 0,o3 (.mv (.const (.bool false))) 2 0]
def ycir:LO:=[ld' true 2 1 3 0,cl' 96 [3] 4 1,mv' 4 2 3]
def c121:SC:=(.seq (.reg false yciv) (.seq (.reg false ycir) .ret))
theorem ycqi:Fn 121 c121 [.t 2]:=fn_0 Tryz.func121 (by kernel_rfl) (by kernel_rfl)
def ybml:LO:=[o3 (.box 27 (.tmp 0)) 2 0,o3 (.mv (.const (.bool false))) 4 0]
def ybua:LO:=[ld' true 2 2 5 0,cl' 121 [5] 6 1,mv' 6 7 3,⟨.load true 2 (.tmp 2),some 8,some (7,true),7⟩,⟨.mv (.tmp 1),some 9,some (7,true),7⟩,⟨.bslice 3 1 1 [.i .i64 0] [(0,1,(.const (.int .i64 (-1))))],some 10,some (7,true),7⟩,⟨.call (.func 102) [(.tmp 8),(.tmp 9),(.tmp 10)],some 11,some (7,true),63⟩,o3 (.pick (.tmp 7) (.tmp 11) (.const (.bool false))) 12 127,mv' 12 4 255]
def c117:SC:=(.seq (.reg false ybml) (.seq (.reg false ybua) .ret))
theorem ycuh:Fn 117 c117 [.t 4]:=fn_0 Tryz.func117 (by kernel_rfl) (by kernel_rfl)
def ycxh:LO:=[o3 (.box 27 (.tmp 0)) 2 0,o3 (.alloc 4 1 [.b false]) 4 0]
def ycqq:LO:=[ld' true 2 2 10 0,mv' 1 11 0,cl' 117 [10,11] 12 3,o3 (.un .not (.tmp 12)) 13 7]
def ydee:LO:=[o0 (.store 1 (.tmp 4) (.const (.bool false))) 0]
def ydcy:LO:=[ld' true 2 2 14 0,mv' 1 15 0,o3 (.call (.func 118) [(.tmp 14),(.tmp 15),(ci' 0)]) 16 3,o3 (.alloc 22 1 [.a (.slice none 0 0)]) 5 0,o0 (.store 1 (.tmp 5) (.tmp 16)) 15]
def yczu:LO:=[ld' false 1 5 17 0,ln' 17 18 1,o3 (.mv (ci' 0)) 19 0]
def ybmb:LO:=[bn' .lss 19 18 20 0]
def ybye:LO:=[mv' 19 21 0,ix' 1 17 19 22 0,ld' false 1 22 23 2,mv' 21 6 7,mv' 23 7 15]
def ycat:LO:=[mv' 7 24 0,o3 (.bin .geq (.tmp 24) (ci' 0)) 25 1,mv' 25 26 3,⟨.load false 1 (.tmp 5),some 27,some (26,true),7⟩,⟨.mv (.tmp 7),some 28,some (26,true),7⟩,⟨.idx 1 (.tmp 27) (.tmp 28),some 29,some (26,true),31⟩,⟨.load false 1 (.tmp 29),some 30,some (26,true),63⟩,⟨.mv (.tmp 6),some 31,some (26,true),7⟩,⟨.bin .neq (.tmp 30) (.tmp 31),some 32,some (26,true),255⟩,o3 (.pick (.tmp 26) (.tmp 32) (.const (.bool false))) 33 511]
def ycyn:LO:=[o0 (.store 1 (.tmp 4) (.const (.bool false))) 0]
def ycqj:LO:=[o3 (.bin .add (.tmp 19) (ci' 1)) 34 0,mv' 34 19 1]
def ycmi:LO:=[ld' true 2 2 35 0,cl' 120 [35] 36 1]
def ybgp:LO:=[mv' 37 8 0]
def ybgd:LO:=[o3 (.alloc 95 1 [.i .i64 0,.i .i64 0]) 9 0,o0 (.store 2 (.tmp 9) (.tmp 38)) 1]
def ybew:LO:=[ld' false 1 5 39 0,mv' 8 40 0,ix' 1 39 40 41 3,ld' false 1 41 42 7,o3 (.bin .lss (.tmp 42) (ci' 0)) 43 15,mv' 43 44 31,⟨.load false 1 (.tmp 5),some 45,some (44,true),63⟩,⟨.faddr 0 1 (.tmp 9),some 46,some (44,true),63⟩,⟨.load false 1 (.tmp 46),some 47,some (44,true),191⟩,⟨.idx 1 (.tmp 45) (.tmp 47),some 48,some (44,true),511⟩,⟨.load false 1 (.tmp 48),some 49,some (44,true),1023⟩,⟨.bin .lss (.tmp 49) (ci' 0),some 50,some (44,true),2047⟩,o3 (.pick (.tmp 44) (.tmp 50) (.const (.bool false))) 51 4095]
def ycel:LO:=[o0 (.store 1 (.tmp 4) (.const (.bool false))) 0]
def ycfi:LO:=[o0 (.store 1 (.tmp 4) (.const (.bool true))) 0]
def c65:SC:=(.seq (.reg false ycxh) (.seq (.seq (.reg false ycqq) (.cond (.tmp 13) (.seq (.reg false ydee) .ret) .skip)) (.seq (.reg false ydcy) (.seq (.seq (.reg false yczu) (.block 0 (.loop (.seq (.reg false ybmb) (.seq (.cond (.tmp 20) .skip (.exit 0)) (.seq (.block 1 (.seq (.reg false ybye) (.seq (.reg false ycat) (.cond (.tmp 33) (.seq (.reg false ycyn) .ret) .skip)))) (.reg false ycqj))))))) (.seq (.seq (.reg false ycmi) (.block 2 (.range (.tmp 36) [37,38] (.seq (.reg false ybgp) (.reg false ybgd)) (.block 3 (.seq (.reg false ybew) (.cond (.tmp 51) (.seq (.reg false ycel) .ret) .skip)))))) (.seq (.reg false ycfi) .ret))))))
theorem ycyd:Fn 65 c65 [.c 4 false 1]:=fn_0 Tryz.func65 (by kernel_rfl) (by kernel_rfl)
def ydds:LO:=[o3 (.mv (.const (.slice none 0 0))) 0 0]
def ydan:LO:=[o3 (.call (.func 116) [(.const (.string (ByteArray.mk #[112])))]) 1 0,o3 (.bslice 87 6 1 [.a (.string (ByteArray.mk #[])),.i .i64 0,.i .i64 0,.i .i64 0,.i .i64 0,.i .i64 0] [(0,6,(.tmp 1))]) 2 1,mv' 2 0 3]
def c60:SC:=(.seq (.reg false ydds) (.seq (.reg false ydan) .ret))
theorem ydeh:Fn 60 c60 [.t 0]:=fn_0 Tryz.func60 (by kernel_rfl) (by kernel_rfl)
def yczl:LO:=[o3 (.mv (.const (.bool false))) 4 0]
def ycyt:LO:=[mv' 0 12 0,o3 (.call (.func 39) [(.tmp 12),(ci' 6)]) 13 1,o3 (.bin .add (ci' 4) (.tmp 13)) 14 3,o3 (.build [.i .i64 0,.a (.slice none 0 0),.a (.slice none 0 0),.a (.slice none 0 0),.b false,.b false] [(0,1,(.tmp 14))]) 15 7,o3 (.call (.func 67) [(.tmp 15),(ci' 9)]) 16 15,o3 (.alloc 27 1 [.a (.slice none 0 0),.a (.slice none 0 0)]) 5 0,o0 (.store 2 (.tmp 5) (.tmp 16)) 63]
def ycya:LO:=[ld' true 2 5 17 0,cl' 60 [] 18 0,o3 (.call (.func 24) [(.tmp 17),(.tmp 18),(.const (.slice none 0 0))]) 19 3,mv' 19 6 7]
def yddi:LO:=[cl' 59 [] 21 0,ld' true 2 5 22 0,mv' 6 23 0,mv' 1 24 0,o3 (.call (.func 39) [(.tmp 24),(ci' 40)]) 25 9,o3 (.call (.func 26) [(.const (.slice none 0 0)),(.tmp 25)]) 26 25,o3 (.call (.func 22) [(.tmp 21),(.tmp 22),(ci' 4),(.tmp 23),(.tmp 26)]) 27 63,mv' 27 20 127,xt' 20 0 28 255,xt' 20 1 29 255,xt' 20 2 30 255,mv' 28 7 511,mv' 29 8 3071,mv' 30 9 8191]
def ydbj:LO:=[o3 (.mv (ci' 0)) 10 0]
def ycsn:LO:=[mv' 10 31 0,mv' 7 32 0,ln' 32 33 2,bn' .lss 31 33 34 7]
def yddo:LO:=[mv' 7 37 0,mv' 10 38 0,ix' 1 37 38 39 3,ld' false 1 39 40 7,ln' 40 41 15,mv' 6 42 0,ln' 42 43 32,bn' .neq 41 43 44 127,mv' 44 45 255,⟨.load true 2 (.tmp 5),some 46,some (45,false),511⟩,⟨.mv (.tmp 7),some 47,some (45,false),511⟩,⟨.mv (.tmp 10),some 48,some (45,false),511⟩,⟨.idx 1 (.tmp 47) (.tmp 48),some 49,some (45,false),3583⟩,⟨.load false 1 (.tmp 49),some 50,some (45,false),7679⟩,⟨.call (.func 65) [(.tmp 46),(.tmp 50)],some 51,some (45,false),16383⟩,o3 (.pick (.tmp 45) (.const (.bool true)) (.tmp 51)) 52 32767]
def ydff:LO:=[o3 (.mv (.const (.bool false))) 4 0]
def yczi:LO:=[o3 (.mv (ci' 0)) 11 0]
def yboa:LO:=[mv' 11 53 0,mv' 6 54 0,ln' 54 55 2,bn' .lss 53 55 56 7]
def ycjq:LO:=[mv' 7 59 0,mv' 10 60 0,ix' 1 59 60 61 3,ld' false 1 61 62 7,mv' 11 63 0,ix' 1 62 63 64 31,ld' false 1 64 65 63,ln' 65 66 127,o3 (.bin .neq (.tmp 66) (ci' 1)) 67 255,mv' 67 68 511,⟨.mv (.tmp 7),some 69,some (68,false),1023⟩,⟨.mv (.tmp 10),some 70,some (68,false),1023⟩,⟨.idx 1 (.tmp 69) (.tmp 70),some 71,some (68,false),4095⟩,⟨.load false 1 (.tmp 71),some 72,some (68,false),8191⟩,⟨.mv (.tmp 11),some 73,some (68,false),1023⟩,⟨.idx 1 (.tmp 72) (.tmp 73),some 74,some (68,false),32767⟩,⟨.load false 1 (.tmp 74),some 75,some (68,false),65535⟩,⟨.idx 1 (.tmp 75) (ci' 0),some 76,some (68,false),131071⟩,⟨.load false 1 (.tmp 76),some 77,some (68,false),262143⟩,⟨.mv (.tmp 10),some 78,some (68,false),1023⟩,⟨.bin .rem (.tmp 78) (ci' 2),some 79,some (68,false),525311⟩,⟨.bin .sub (.tmp 79) (ci' 1),some 80,some (68,false),1573887⟩,⟨.bin .neq (.tmp 77) (.tmp 80),some 81,some (68,false),4194303⟩,o3 (.pick (.tmp 68) (.const (.bool true)) (.tmp 81)) 82 8388607]
def ydau:LO:=[o3 (.mv (.const (.bool false))) 4 0]
def ychl:LO:=[mv' 11 57 0,o3 (.bin .add (.tmp 57) (ci' 1)) 58 1,mv' 58 11 3]
def ycxl:LO:=[mv' 10 35 0,o3 (.bin .add (.tmp 35) (ci' 1)) 36 1,mv' 36 10 3]
def ycgd:LO:=[cl' 64 [] 83 0,mv' 83 84 1,⟨.mv (.tmp 9),some 85,some (84,true),3⟩,o3 (.pick (.tmp 84) (.tmp 85) (.const (.bool false))) 86 7,mv' 86 4 15]
def c17:SC:=(.seq (.reg false yczl) (.seq (.reg false ycyt) (.seq (.reg true ycya) (.seq (.reg true yddi) (.seq (.seq (.reg false ydbj) (.block 0 (.loop (.seq (.seq (.reg false ycsn) (.cond (.tmp 34) .skip (.exit 0))) (.seq (.block 1 (.seq (.seq (.reg true yddo) (.cond (.tmp 52) (.seq (.reg false ydff) .ret) .skip)) (.seq (.reg false yczi) (.block 2 (.loop (.seq (.seq (.reg false yboa) (.cond (.tmp 56) .skip (.exit 2))) (.seq (.block 3 (.seq (.reg false ycjq) (.cond (.tmp 82) (.seq (.reg false ydau) .ret) .skip))) (.reg false ychl)))))))) (.reg false ycxl)))))) (.seq (.reg false ycgd) .ret))))))
theorem ycyq:Fn 17 c17 [.t 4]:=fn_0 Tryz.func17 (by kernel_rfl) (by kernel_rfl)
end Sh
end
section
theorem ydek{g:Gr}(hg:ybb g){c:Conf}(h:MtC g c){v:Nat}(hv:v<g.ids.length):-1<=mtW g c v/\mtW g c v<(g.ports.length:Int):=by
 have hpl:=hg.2.2.1;have hr:=(h.row v hv).2;have hat:mtW g c v=if pAt c v>=0 then((g.ports.getD v []).getD (pAt c v).toNat (0,0)).1 else -1:=Sh.ybbm (by rw[h.len];exact hv)
 rw[hat];have h1:=hg.1;split
 ·have hk:(pAt c v).toNat<(g.ports.getD v []).length:=by omega
  have hm:=ycz hg (show v<g.ports.length by omega) (zF hk)
  rw[Sh.getD_at hk];omega
 ·omega
namespace Sh
open Ev Go.RowKit
theorem ycay{g:Gr}(hI:GrI g):Returns zD 121 [grV g] (.b (ygd g)):=by
 refine Returns.of (ycqi _ _ ?_);have hC:=yss hI;simp only[grV]at hC;simp only[c121,yciv,ycir,grV,go_sem,zA,zB,zC,↓reduceIte];refine hC.use ?_;simp only[ybf,ybi,go_sem,zA,zB,↓reduceIte,reduceCtorEq]
theorem ybly{g:Gr}(hI:GrI g){c:Conf}(hR:ybra c):Returns zD 117 [grV g,ybj c] (.b (ygb g c)):=by
 refine Returns.of (ycuh _ _ ?_);have hF:=ycay hI;unfold ygb;cases ht:ygd g with
 | false =>
   rw[ht]at hF;simp only[grV]at hF;simp only[c117,ybml,ybua,grV,clash,go_sem,zA,zB,zC,↓reduceIte];refine hF.use ?_;simp only[ybf,clash,go_sem,zA,zB,↓reduceIte,reduceCtorEq];exact Sim.refl _
 | true =>
   have hg:=(yhe g).1 ht
   have hC:=ybyf hg hR (G:=[-1]) (fun x hx=>by
    simp at hx;subst hx;exact ikw (by omega) (by omega))
   rw[ht]at hF;simp only[grV]at hF;simp only[c117,ybml,ybua,grV,clash,go_sem,zA,zB,zC,↓reduceIte];refine hF.use ?_;simp only[ybf,yw,splice,clash,go_sem,zA,zB,zC,↓reduceIte,reduceCtorEq];have one:∀{q:Nat},q<1->q=0:=fun {q} h=>by omega
   refine .inl ⟨fun q hq=>by obtain rfl:=one hq;simp only[go_sem],hC.useS ?_ ?_⟩
   ·refine⟨Sim.refl (grV g),Sim.refl _,?_,trivial⟩;refine yke fun q hq=>?_;obtain rfl:=one hq;simp only[zU,go_sem];exact⟨Sim.refl _,trivial⟩
   simp only[go_sem];exact Sim.refl _
set_option maxHeartbeats 2000000 in
theorem ybjm{g:Gr}(hI:GrI g){c:Conf}(hR:ybra c):Returns zD 65 [grV g,ybj c] (.b (yfi g c)):=by
 refine Returns.of (ycyd _ _ ?_);have hC:=ybly hI hR;cases hcf:ygb g c with
 | false =>
   have e:yfi g c=false:=by unfold yfi;rw[hcf];rfl
   rw[hcf]at hC;rw[e];simp only[grV]at hC;simp only[c65,ycxh,ycqq,ydee,grV,clash,go_sem,zA,zB,zC,↓reduceIte,reduceCtorEq];refine hC.use ?_;simp only[ybf,clash,go_sem,zA,zB,↓reduceIte];exact Sim.refl _
 | true =>
   obtain⟨hg,hcl,hc1⟩:=yqy hcf;have hM:=ycfs hcf;have h24:=hg.2.1;have hpl:=hg.2.2.1;have hT:=ybcc (g:=g) (c:=c) (x:=0) (by omega) (by omega) (by omega) (fun v hv=>by obtain⟨a,b,d⟩:=hc1 v hv;exact⟨by omega,d⟩)
   have hLk:=ybsk (g:=g);have hTl:=ybfa g c 0;have hWi:=fun v (hv:v<g.ids.length)=>ydek hg hM hv;have hLe:yfi g c=(ybfy g c&&ybgh g c):=by unfold yfi;rw[hcf];rfl
   have hPe:ybfy g c=(zL c.length).all fun v=>!(decide (mtW g c v>=0)&&(mtW g c (mtW g c v).toNat != (v:Int))):=rfl;have hQe:ybgh g c=(flatAt 0 g.ports).all fun e=>!(decide (mtW g c e.v<0)&&decide (mtW g c e.a.toNat<0)):=rfl;obtain⟨W,hW⟩:∃W:Nat->Int,(fun v=>mtW g c v)=W:=⟨_,rfl⟩;have hW':∀v,mtW g c v=W v:=fun v=>by rw[<-hW]
   have hTW:∀v,(towP g c 0).getD v 0=W v:=fun v=>hW' v;obtain⟨T,hTe⟩:∃T,towP g c 0=T:=⟨_,rfl⟩;obtain⟨n,hn⟩:∃n,c.length=n:=⟨_,rfl⟩;simp only[hW']at hPe hQe hWi;rw[hTe]at hT hTl hTW;rw[hn]at hTl hPe hcl;rw[hcf]at hC;rw[hLe];simp only[grV]at hC hT hLk;simp only[yw,hTl]at hT;simp only[c65,ycxh,ycqq,ydcy,grV,clash,go_sem,zA,zB,zC,↓reduceIte,reduceCtorEq];refine hC.use ?_;simp only[ybf,clash,go_sem,zA,zB,zC,↓reduceIte,reduceCtorEq]
   refine hT.use ?_;simp only[yczu,clash,go_sem,zB,↓reduceIte]
   refine ybl (σ:=Nat) (fun k=>⟨[(19,.i .i64 k),(18,.i .i64 n),(17,.sl 1 n fun v=>[.i .i64 (T.getD v 0)]),(2,.pt (2,0) 0 0),(4,.pt (4,0) 0 0),(5,.pt (5,0) 0 0)],
    [(2,.one (some ⟨27,true,2,1,fun _=>[yw g.ids,ybe g.ports]⟩)),(4,.one (some ⟨4,true,1,1,fun _=>[.b false]⟩)),(5,.one (some ⟨22,true,1,1,fun _=>[.sl 1 n fun v=>[.i .i64 (T.getD v 0)]]⟩))]⟩)
      (fun k=>k<=n/\∀j,j<k->(decide (W j>=0)&&(W (W j).toNat != (j:Int)))=false) (fun k=>n-k) 0 ⟨zAF _,fun j hj=>absurd hj (zAC j)⟩ ?_ ?_
   ·refine yh [] [] [] ?_;simp only[go_sem,allQ,live,yc,zAH,go_sem,zA,↓reduceIte,reduceCtorEq]
   rintro k ⟨hk,hall⟩
   by_cases hlt:k<n
   ·have t1:decide ((k:Int)<(n:Int))=true:=decide_eq_true (by omega)
    obtain⟨w1,w2⟩:=hWi k (by omega)
    have hTk:=hTW k;obtain⟨x,hx⟩:∃x,W k=x:=⟨_,rfl⟩;rw[hx]at w1 w2 hTk;have hTx:=hTW x.toNat;obtain⟨y,hy⟩:∃y,W x.toNat=y:=⟨_,rfl⟩;rw[hy]at hTx
    by_cases q:x>=0
    ·have t2:decide (x>=0)=true:=decide_eq_true q
     by_cases r:y=(k:Int)
     ·have t3:(y != (k:Int))=false:=by rw[r];simp
      simp only[ybmb,ybye,ycat,ycqj,hTk,hTx,t1,t2,t3,clash,go_sem,zA,zB,↓reduceIte,reduceCtorEq]
      repeat (refine⟨by omega,?_⟩)
      refine⟨ikw (by omega) (by omega),?_⟩
      refine yj (k+1) ⟨by omega,fun j hj=>?_⟩ (by omega) ?_
      ·by_cases q2:j=k
       ·rw[q2,hx,hy,t2,t3];rfl
       ·exact hall j (by omega)
      ·refine yh [] [] [] ?_;simp only[go_sem,allQ,live,yc,yu,go_sem,zA,↓reduceIte,reduceCtorEq];omega
     ·have t3:(y != (k:Int))=true:=by rw[bne_iff_ne];exact r
      have e:(zL n).all (fun v=>!(decide (W v>=0)&&(W (W v).toNat != (v:Int))))=false:=by
       rw[zAE];exact⟨k,List.mem_range.2 hlt,by rw[hx,hy,t2,t3];decide⟩
      rw[hPe,e,Bool.false_and];simp only[ybmb,ybye,ycat,ycyn,hTk,hTx,t1,t2,t3,clash,go_sem,zA,zB,↓reduceIte,reduceCtorEq]
      repeat (refine⟨by omega,?_⟩)
      exact Sim.refl _
    ·have t2:decide (x>=0)=false:=decide_eq_false q;simp only[ybmb,ybye,ycat,ycqj,hTk,t1,t2,clash,go_sem,zA,zB,↓reduceIte,reduceCtorEq]
     repeat (refine⟨by omega,?_⟩)
     refine⟨ikw (by omega) (by omega),?_⟩
     refine yj (k+1) ⟨by omega,fun j hj=>?_⟩ (by omega) ?_
     ·by_cases q2:j=k
      ·rw[q2,hx,t2];rfl
      ·exact hall j (by omega)
     ·refine yh [] [] [] ?_;simp only[go_sem,allQ,live,yc,yu,go_sem,zA,↓reduceIte,reduceCtorEq];omega
   ·obtain rfl:k=n:=by omega
    have t1:decide ((k:Int)<(k:Int))=false:=decide_eq_false (by omega)
    have e:(zL k).all (fun v=>!(decide (W v>=0)&&(W (W v).toNat != (v:Int))))=true:=by
     rw[zS];exact fun v hv=>by rw[hall v (List.mem_range.1 hv)];rfl
    rw[hPe,e,zM];simp only[ybmb,ycmi,t1,go_sem,zA,zB,↓reduceIte];refine hLk.use ?_;simp only[ybf,clash,go_sem]
    refine ybxn (ycaf (ybot hg)) [(2,0),(4,0),(5,0)] (fun i (_:Unit)=>⟨[(36,.fn 158 [] [.rf [yw g.ids,ybe g.ports]]),(2,.pt (2,0) 0 0),(4,.pt (4,0) 0 0),(5,.pt (5,0) 0 0)],
     [(2,.one (some ⟨27,true,2,1,fun _=>[yw g.ids,ybe g.ports]⟩)),(4,.one (some ⟨4,true,1,1,fun _=>[.b false]⟩)),(5,.one (some ⟨22,true,1,1,fun _=>[.sl 1 k fun v=>[.i .i64 (T.getD v 0)]]⟩))]⟩)
       (fun i _=>i<=(flatAt 0 g.ports).length/\∀j,j<i->(decide (W (ycq g.ports j).v<0)&&decide (W (ycq g.ports j).a.toNat<0))=false) () ⟨zAF _,fun j hj=>absurd hj (zAC j)⟩ ⟨fun _ h=>absurd h zAA,fun _ h=>absurd h zAA⟩ ?_ (fun _=>rfl) ?_ ?_ ?_
    ·refine yh [] [] [] ?_;simp only[go_sem,allQ,live,yc,go_sem,zA,↓reduceIte,reduceCtorEq]
    ·intro i _ hi _;refine⟨trivial,?_⟩;simp only[go_sem,allQ,go_sem,zA]
    ·intro i _ hi hlti;obtain⟨hi,hgood⟩:=hi;have hlti:i<(flatAt 0 g.ports).length:=hlti;obtain⟨e1,e2⟩:=ybas hg hlti;have hel:ycq g.ports i∈flatAt 0 g.ports:=by unfold ycq;rw[getD_at hlti];exact zF hlti
     obtain⟨E,hE⟩:∃E,ycq g.ports i=E:=⟨_,rfl⟩;rw[hE]at e1 e2 hel;obtain⟨a1,a2,_⟩:=ycz hg e1 e2;have a1:0<=E.a:=a1;have a2:E.a.toNat<g.ports.length:=a2;have h1:=hTW E.v;have h2:=hTW E.a.toNat;obtain⟨x,hx⟩:∃x,W E.v=x:=⟨_,rfl⟩;obtain⟨y,hy⟩:∃y,W E.a.toNat=y:=⟨_,rfl⟩;rw[hx]at h1;rw[hy]at h2;refine⟨_,rfl,?_⟩;simp only[ycqg]
     have next:(decide (x<0)&&decide (y<0))=false->i+1<=(flatAt 0 g.ports).length/\∀j,j<i+1->(decide (W (ycq g.ports j).v<0)&&decide (W (ycq g.ports j).a.toNat<0))=false:=fun hb=>⟨hlti,fun j hj=>by
      by_cases q:j=i
      ·rw[q,hE,hx,hy];exact hb
      ·exact hgood j (by omega)⟩
     by_cases q:x<0
     ·have t2:decide (x<0)=true:=decide_eq_true q
      by_cases r:y<0
      ·have t3:decide (y<0)=true:=decide_eq_true r
       have e:(flatAt 0 g.ports).all (fun e=>!(decide (W e.v<0)&&decide (W e.a.toNat<0)))=false:=by
        rw[zAE];exact⟨E,hel,by rw[hx,hy,t2,t3];decide⟩
       rw[hQe,e];simp only[ybgp,ybgd,ybew,ycel,hE,h1,h2,t2,t3,splice,clash,go_sem,zA,zB,zG,zC,↓reduceIte,reduceCtorEq]
       repeat (refine⟨by omega,?_⟩)
       exact Sim.refl _
      ·have t3:decide (y<0)=false:=decide_eq_false r;rw[t2,t3]at next
       simp only[ybgp,ybgd,ybew,hE,h1,h2,t2,t3,splice,clash,go_sem,zA,zB,zG,zC,↓reduceIte,reduceCtorEq]
       repeat (first|refine⟨(by omega:(_:Prop)),?_⟩|refine⟨(by decide:(_:Prop)),?_⟩)
       refine⟨next rfl,?_⟩
       refine ydp [] [] [] ?_;simp only[go_sem,allQ,live,yc,go_sem,zA,↓reduceIte,reduceCtorEq]
     ·have t2:decide (x<0)=false:=decide_eq_false q;rw[t2]at next
      simp only[ybgp,ybgd,ybew,hE,h1,t2,splice,clash,go_sem,zA,zB,zC,↓reduceIte,reduceCtorEq]
      repeat (first|refine⟨(by omega:(_:Prop)),?_⟩|refine⟨(by decide:(_:Prop)),?_⟩)
      refine⟨next rfl,?_⟩
      refine ydp [] [] [] ?_;simp only[go_sem,allQ,live,yc,go_sem,zA,↓reduceIte,reduceCtorEq]
    ·intro _ hgood;obtain⟨_,hgood⟩:=hgood
     have e:(flatAt 0 g.ports).all (fun e=>!(decide (W e.v<0)&&decide (W e.a.toNat<0)))=true:=by
      rw[zS];intro e he;obtain⟨j,hj,rfl⟩:=zV he;have:=hgood j hj;unfold ycq at this;rw[getD_at hj]at this;rw[this];rfl
     rw[hQe,e];simp only[ycfi,splice,go_sem,zA,↓reduceIte];exact Sim.refl _
theorem ybut:Returns zD 60 [] (ycd [⟨⟨#[112]⟩,3,0,0,0,0⟩]):=by
 refine Returns.of (ydeh _ _ ?_);have h1:=ybdx ⟨#[112]⟩;simp only[varC]at h1;simp only[c60,ydds,ydan,go_sem,↓reduceIte];refine h1.use ?_;simp only[ybf,splice,clash,go_sem,zA,zB,zC,↓reduceIte,reduceCtorEq];have one:∀{q:Nat},q<1->q=0:=fun {q} h=>by omega
 refine⟨fun q hq=>by obtain rfl:=one hq;simp only[go_sem],?_⟩
 refine yke fun q hq=>?_;obtain rfl:=one hq;simp only[varC,zU,go_sem];exact⟨Sim.refl _,Sim.refl _,Sim.refl _,Sim.refl _,Sim.refl _,Sim.refl _,trivial⟩
end Sh
end
section
namespace Sh
open Go Ev
def ydap:LO:=[o3 (.box 24 (.tmp 0)) 2 0,o3 (.alloc 27 1 [.a (.slice none 0 0),.a (.slice none 0 0)]) 4 0]
def yddq:LO:=[ld' true 6 2 12 0,mv' 1 13 0,o3 (.bin .sub (.tmp 13) (ci' 2)) 14 2,cl' 75 [12,14] 15 7,o3 (.alloc 27 1 [.a (.slice none 0 0),.a (.slice none 0 0)]) 5 0,o0 (.store 2 (.tmp 5) (.tmp 15)) 31]
def ycvk:LO:=[fa' 1 1 5 16 0,ld' false 1 16 17 1,ln' 17 18 3,o3 (.bin .lss (.tmp 18) (ci' 3)) 19 7]
def yddz:LO:=[o3 (.mv (ci' 0)) 6 0]
def ycxw:LO:=[o3 (.mv (ci' 0)) 7 0]
def ybxl:LO:=[mv' 7 20 0,fa' 0 1 5 21 0,ld' false 1 21 22 2,ln' 22 23 6,bn' .lss 20 23 24 15]
def ycrd:LO:=[fa' 0 1 5 27 0,ld' false 1 27 28 1,mv' 7 29 0,ix' 1 28 29 30 7,ld' false 1 30 31 15,mv' 6 32 0,bn' .eql 31 32 33 63]
def yddp:LO:=[mv' 6 34 0,o3 (.bin .add (.tmp 34) (ci' 1)) 35 1,mv' 35 6 3,o3 (.mv (.const (.int .i64 (-1)))) 7 7]
def ycsa:LO:=[mv' 7 25 0,o3 (.bin .add (.tmp 25) (ci' 1)) 26 1,mv' 26 7 3]
def ycxz:LO:=[fa' 0 1 5 36 0,ld' false 1 36 37 1,mv' 6 38 0,o3 (.bslice 3 1 1 [.i .i64 0] [(0,1,(.tmp 38))]) 39 4,o3 (.app 3 1 8 (.tmp 37) (.tmp 39)) 40 15,fa' 1 1 5 41 0,ld' false 1 41 42 32,o3 (.bslice 71 1 1 [.a (.slice none 0 0)] [(0,1,(.const (.slice none 0 0)))]) 43 0,o3 (.app 71 1 24 (.tmp 42) (.tmp 43)) 44 255,fa' 0 1 5 45 127,o0 (.store 1 (.tmp 45) (.tmp 40)) 1023,fa' 1 1 5 46 2047,o0 (.store 1 (.tmp 46) (.tmp 44)) 4095]
def ycet:LO:=[fa' 1 1 5 47 0,ld' false 1 47 48 1,ln' 48 49 3,mv' 49 8 7]
def ychh:LO:=[o3 (.mv (ci' 0)) 9 0]
def ybnc:LO:=[mv' 9 50 0,mv' 8 51 0,bn' .lss 50 51 52 3]
def yccn:LO:=[fa' 2 1 2 55 0,ld' false 1 55 56 1,mv' 9 57 0,mv' 8 58 0,bn' .add 57 58 59 12,o3 (.bin .sub (.tmp 59) (ci' 1)) 60 28,mv' 8 61 0,bn' .rem 60 61 62 124,cl' 77 [56,62] 63 255,o3 (.call (.func 39) [(.tmp 63),(ci' 15)]) 64 511,o3 (.bin .add (ci' 1) (.tmp 64)) 65 1023,mv' 65 10 2047]
def yclj:LO:=[fa' 2 1 2 66 0,ld' false 1 66 67 1,mv' 9 68 0,cl' 77 [67,68] 69 7,o3 (.call (.func 39) [(.tmp 69),(ci' 15)]) 70 15,o3 (.bin .add (ci' 1) (.tmp 70)) 71 31,mv' 71 11 63]
def ycon:LO:=[fa' 1 1 5 72 0,ld' false 1 72 73 1,mv' 9 74 0,mv' 9 75 0,mv' 8 76 0,bn' .add 75 76 77 24,o3 (.bin .sub (.tmp 77) (ci' 1)) 78 56,mv' 8 79 0,bn' .rem 78 79 80 248,mv' 10 81 0,o3 (.build [.i .i64 0,.i .i64 0] [(0,1,(.tmp 80)),(1,1,(.tmp 81))]) 82 1016,mv' 9 83 0,o3 (.bin .add (.tmp 83) (ci' 1)) 84 2048,mv' 8 85 0,bn' .rem 84 85 86 14336,mv' 11 87 0,o3 (.build [.i .i64 0,.i .i64 0] [(0,1,(.tmp 86)),(1,1,(.tmp 87))]) 88 63488,o3 (.bslice 95 2 2 [.i .i64 0,.i .i64 0,.i .i64 0,.i .i64 0] [(0,2,(.tmp 82)),(2,2,(.tmp 88))]) 89 131064,ix' 1 73 74 90 262143,o0 (.store 1 (.tmp 90) (.tmp 89)) 524287]
def ycnq:LO:=[mv' 9 53 0,o3 (.bin .add (.tmp 53) (ci' 1)) 54 1,mv' 54 9 3]
def yckr:LO:=[ld' true 2 5 91 0,o0 (.store 2 (.tmp 4) (.tmp 91)) 1]
def c67:SC:=(.seq (.reg false ydap) (.seq (.reg false yddq) (.seq (.block 0 (.loop (.seq (.seq (.reg false ycvk) (.cond (.tmp 19) .skip (.exit 0))) (.block 1 (.seq (.reg false yddz) (.seq (.seq (.reg false ycxw) (.block 2 (.loop (.seq (.seq (.reg false ybxl) (.cond (.tmp 24) .skip (.exit 2))) (.seq (.block 3 (.seq (.reg false ycrd) (.cond (.tmp 33) (.reg false yddp) .skip))) (.reg false ycsa)))))) (.reg true ycxz))))))) (.seq (.reg false ycet) (.seq (.seq (.reg false ychh) (.block 4 (.loop (.seq (.seq (.reg false ybnc) (.cond (.tmp 52) .skip (.exit 4))) (.seq (.block 5 (.seq (.reg true yccn) (.seq (.reg false yclj) (.reg true ycon)))) (.reg false ycnq)))))) (.seq (.reg false yckr) .ret))))))
theorem ycuk:FnU 67 c67 [.c 4 true 2]:=fn_u Tryz.func67 (by kernel_rfl) (by kernel_rfl)
end Sh
end
section
namespace Sh
open Ev Go.RowKit
end Sh
end
section
namespace Ev
def Mzb0:BlkL:=⟨5,71,1,[.slice (some ⟨20,0,none⟩) 1 CU,.slice (some ⟨29,0,none⟩) 2 CU,.slice (some ⟨31,0,none⟩) 1 CU]⟩
def Mzb1:BlkL:=⟨12,3,1,[.int .i64 0,.int .i64 1,.int .i64 2]⟩
def Mzb2:BlkL:=⟨29,95,2,[.int .i64 0,.int .i64 1,.int .i64 2,.int .i64 1]⟩
def Mzb3:BlkL:=⟨746,240,2,[.int .i64 41,.int .i64 0,.int .i64 35,.int .i64 0,.int .i64 5,.int .i64 0,.int .i64 4,.int .i64 0,.int .i64 21,.int .i64 0,.int .i64 35,.int .i64 0,.int .i64 12,.int .i64 0,.int .i64 17,.int .i64 0]⟩
def Mzb4:BlkL:=⟨795,240,2,[.int .i64 23,.int .i64 0,.int .i64 35,.int .i64 0,.int .i64 12,.int .i64 0,.int .i64 17,.int .i64 0]⟩
def Mzb5:BlkL:=⟨802,200,2,[.int .i64 0,.slice (some ⟨795,0,none⟩) 4 CU]⟩
def Mzb6:BlkL:=⟨881,240,2,[.int .i64 41,.int .i64 0,.int .i64 35,.int .i64 0,.int .i64 5,.int .i64 0,.int .i64 4,.int .i64 0,.int .i64 21,.int .i64 0,.int .i64 35,.int .i64 0,.int .i64 12,.int .i64 0,.int .i64 4,.int .i64 0]⟩
def Mzb7:BlkL:=⟨926,240,2,[.int .i64 23,.int .i64 0,.int .i64 35,.int .i64 0,.int .i64 12,.int .i64 0,.int .i64 4,.int .i64 0]⟩
def Mzb8:BlkL:=⟨933,200,2,[.int .i64 0,.slice (some ⟨926,0,none⟩) 4 CU]⟩
def Mzb9:BlkL:=⟨1042,240,2,[.int .i64 21,.int .i64 0,.int .i64 41,.int .i64 0,.int .i64 41,.int .i64 0,.int .i64 35,.int .i64 0,.int .i64 11,.int .i64 0,.int .i64 5,.int .i64 0,.int .i64 36,.int .i64 0,.int .i64 12,.int .i64 0,.int .i64 4,.int .i64 0,.int .i64 36,.int .i64 0,.int .i64 12,.int .i64 0,.int .i64 17,.int .i64 0]⟩
def ycux:BlkL:=⟨1058,240,2,[.int .i64 4,.int .i64 0]⟩
def ycul:BlkL:=⟨1065,200,2,[.int .i64 0,.slice (some ⟨1058,0,none⟩) 1 1]⟩
def ycyb:BlkL:=⟨2544,22,1,[.slice (some ⟨2545,0,none⟩) 1 CU,.slice (some ⟨2588,0,none⟩) 1 CU,.slice (some ⟨2547,0,none⟩) 1 CU]⟩
end Ev
end
section
namespace Ev
def Mzm1:Fact:=ybfc.move [746,795,802,1960] 1963
theorem ycvg:ycx zD Mzm1:=ydf (ybg.at_ yhq 0 rfl) (by kernel_rfl)
def Mzm2:Fact:=ybfm.move [881,926,933,1960] 2088
theorem ycwq:ycx zD Mzm2:=ydf (ybg.at_ yhq 1 rfl) (by kernel_rfl)
def Mzm3:Fact:=ybgj.move [1042,1058,1065,1960] 2213
theorem ycwf:ycx zD Mzm3:=ydf (ybg.at_ ypn 0 rfl) (by kernel_rfl)
/- selfstab/memory.Check -/
def ybof:Fact:=⟨112,[.agg #[.string (by8 [109,97,116,99,104,105,110,103]),.slice (some ⟨667,0,none⟩) 1 CU,.slice (some ⟨1069,0,none⟩) 3 CU],.agg #[.slice (some ⟨12,0,none⟩) 3 CU,.slice (some ⟨5,0,none⟩) 3 3],.slice (some ⟨1707,0,none⟩) 3 3],1710,[Mzb0,Mzb1,⟨20,95,2,[.int .i64 1,.int .i64 1]⟩,Mzb2,⟨31,95,2,[.int .i64 1,.int .i64 1]⟩,⟨667,87,6,[.string (by8 [112]),.int .i64 3,.int .i64 0,.int .i64 0,.int .i64 0,.int .i64 0]⟩,Mzb3,Mzb4,Mzb5,Mzb6,Mzb7,Mzb8,Mzb9,ycux,ycul,⟨1069,191,3,[.string (by8 [97,99,99,101,112,116]),.slice (some ⟨746,0,none⟩) 8 CU,.slice (some ⟨802,0,none⟩) 1 CU,.string (by8 [112,114,111,112,111,115,101]),.slice (some ⟨881,0,none⟩) 8 CU,.slice (some ⟨933,0,none⟩) 1 CU,.string (by8 [119,105,116,104,100,114,97,119]),.slice (some ⟨1042,0,none⟩) 12 CU,.slice (some ⟨1065,0,none⟩) 1 CU]⟩,⟨1704,3,1,[.int .i64 (-1)]⟩,⟨1705,3,1,[.int .i64 (-1)]⟩,⟨1706,3,1,[.int .i64 (-1)]⟩,⟨1707,22,1,[.slice (some ⟨1704,0,none⟩) 1 1,.slice (some ⟨1705,0,none⟩) 1 1,.slice (some ⟨1706,0,none⟩) 1 1]⟩],.int .i64 0,2383,[],1710⟩
def ydeq:List Fact:=[ybof]
theorem ybvr:ybg ydeq:=ybg.seq (ybg.cons (f:=Mzm1) ycvg (ybg.cons (f:=Mzm2) ycwq (ybg.cons (f:=Mzm3) ycwf ybg.nil))) (by kernel_rfl)
def Mzm4:Fact:=ybfc.move [746,795,802,2856] 2859
theorem ycrg:ycx zD Mzm4:=ydf (ybg.at_ yhq 0 rfl) (by kernel_rfl)
def Mzm5:Fact:=ybfm.move [881,926,933,2856] 2984
theorem ycqt:ycx zD Mzm5:=ydf (ybg.at_ yhq 1 rfl) (by kernel_rfl)
def Mzm6:Fact:=ybgj.move [1042,1058,1065,2856] 3109
theorem ycup:ycx zD Mzm6:=ydf (ybg.at_ ypn 0 rfl) (by kernel_rfl)
/- selfstab/memory.Check -/
def ycgp:Fact:=⟨112,[.agg #[.string (by8 [109,97,116,99,104,105,110,103]),.slice (some ⟨667,0,none⟩) 1 CU,.slice (some ⟨1069,0,none⟩) 3 CU],.agg #[.slice (some ⟨12,0,none⟩) 3 CU,.slice (some ⟨5,0,none⟩) 3 3],.slice (some ⟨2544,0,none⟩) 3 3],2606,[Mzb0,Mzb1,⟨20,95,2,[.int .i64 1,.int .i64 1]⟩,Mzb2,⟨31,95,2,[.int .i64 1,.int .i64 1]⟩,⟨667,87,6,[.string (by8 [112]),.int .i64 3,.int .i64 0,.int .i64 0,.int .i64 0,.int .i64 0]⟩,Mzb3,Mzb4,Mzb5,Mzb6,Mzb7,Mzb8,Mzb9,ycux,ycul,⟨1069,191,3,[.string (by8 [97,99,99,101,112,116]),.slice (some ⟨746,0,none⟩) 8 CU,.slice (some ⟨802,0,none⟩) 1 CU,.string (by8 [112,114,111,112,111,115,101]),.slice (some ⟨881,0,none⟩) 8 CU,.slice (some ⟨933,0,none⟩) 1 CU,.string (by8 [119,105,116,104,100,114,97,119]),.slice (some ⟨1042,0,none⟩) 12 CU,.slice (some ⟨1065,0,none⟩) 1 CU]⟩,ycyb,⟨2545,3,1,[.int .i64 (-1)]⟩,⟨2547,3,1,[.int .i64 (-1)]⟩,⟨2588,3,1,[.int .i64 0]⟩],.int .i64 0,3279,[],2606⟩
def ydgh:List Fact:=[ycgp]
theorem ybwt:ybg ydgh:=ybg.seq (ybg.cons (f:=Mzm4) ycrg (ybg.cons (f:=Mzm5) ycqt (ybg.cons (f:=Mzm6) ycup ybg.nil))) (by kernel_rfl)
end Ev
end
section
namespace Ev
/- selfstab/step.Step -/
def ybkv:Fact:=⟨53,[.agg #[.string (by8 [109,97,116,99,104,105,110,103]),.slice (some ⟨667,0,none⟩) 1 CU,.slice (some ⟨1069,0,none⟩) 3 CU],.agg #[.slice (some ⟨12,0,none⟩) 3 CU,.slice (some ⟨5,0,none⟩) 3 3],.slice (some ⟨2544,0,none⟩) 3 3,.int .u32 1],2604,[Mzb0,Mzb1,⟨20,95,2,[.int .i64 1,.int .i64 1]⟩,Mzb2,⟨31,95,2,[.int .i64 1,.int .i64 1]⟩,⟨667,87,6,[.string (by8 [112]),.int .i64 3,.int .i64 0,.int .i64 0,.int .i64 0,.int .i64 0]⟩,Mzb3,Mzb4,Mzb5,Mzb6,Mzb7,Mzb8,Mzb9,ycux,ycul,⟨1069,191,3,[.string (by8 [97,99,99,101,112,116]),.slice (some ⟨746,0,none⟩) 8 CU,.slice (some ⟨802,0,none⟩) 1 CU,.string (by8 [112,114,111,112,111,115,101]),.slice (some ⟨881,0,none⟩) 8 CU,.slice (some ⟨933,0,none⟩) 1 CU,.string (by8 [119,105,116,104,100,114,97,119]),.slice (some ⟨1042,0,none⟩) 12 CU,.slice (some ⟨1065,0,none⟩) 1 CU]⟩,ycyb,⟨2545,3,1,[.int .i64 (-1)]⟩,⟨2547,3,1,[.int .i64 (-1)]⟩,⟨2588,3,1,[.int .i64 0]⟩],.tuple #[.slice (some ⟨3486,0,none⟩) 3 3,.int .i64 0],3517,[⟨3486,22,1,[.slice (some ⟨3505,0,none⟩) 1 CU,.slice (some ⟨3488,0,none⟩) 1 CU,.slice (some ⟨3489,0,none⟩) 1 CU]⟩,⟨3488,3,1,[.int .i64 0]⟩,⟨3489,3,1,[.int .i64 (-1)]⟩,⟨3505,3,1,[.int .i64 0]⟩],2604⟩
def ydgk:List Fact:=[ybkv]
theorem ycaz:ybg ydgk:=ybg.seq (ybg.cons (f:=ycgp) (ybg.at_ ybwt 0 rfl) ybg.nil) (by kernel_rfl)
end Ev
end
section
namespace Ev
def Mzm0:Fact:=yrj.move [] 33
theorem ycvj:ycx zD Mzm0:=ydf (ybg.at_ ybfb 0 rfl) (by kernel_rfl)
end Ev
end
end Go.Proofs.YtiejahgklcjhkaaGreatDoor
