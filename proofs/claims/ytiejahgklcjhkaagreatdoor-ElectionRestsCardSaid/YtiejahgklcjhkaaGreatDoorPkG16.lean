/- Joined. -/
import Derived.Test.YtiejahgklcjhkaaGreatDoorPkG15
set_option linter.unusedSimpArgs false
set_option linter.unusedVariables false
set_option maxRecDepth 8000
open Nat renaming reduceEqDiff→zA,reduceAdd→zB,le_refl→zI,reduceLT→zK,lt_succ_self→zAB,le_succ→zAK,zero_le→zAM
open Int renaming le_refl→zC,lt_or_le→zD,le_trans→zT,natCast_zero→zAF,le_antisymm→zAH
open Classical renaming byContradiction→zF
open List renaming mem_cons_of_mem→zG,getElem?_eq_getElem→zJ,take_succ_eq_append_getElem→zL,filter_cons→zM,foldl_cons→zN,mem_cons_self→zO,range→zQ,getElem_mem→zS,length_map→zU,getElem_of_mem→zW,foldl_append→zX,not_mem_nil→zY,countP_cons→zZ,take_length→zAA,getElem_map→zAC,all_eq_true→zAD,any_eq_true→zAE,countP_nil→zAG,getD→zAI,map_cons→zAJ,length→zAL
open Bool renaming and_eq_true→zH,eq_iff_iff→zV
open Go
namespace Go.Proofs.YtiejahgklcjhkaaGreatDoor
section
def dP(g:Gr)(a v:Nat):Int:=(ybx g a).getD v 0
structure Tr(g:Gr):Prop where
 good:ybe g
 conn:yfy g=true
 m:TreeM g
section
variable {g:Gr}{a b u v w x:Nat}
theorem Tr.self(h:Tr g)(ha:a<g.ports.length):dP g a a=0:=ybow h.good h.conn ha
theorem Tr.nonneg(h:Tr g)(ha:a<g.ports.length)(hv:v<g.ports.length):0<=dP g a v:=(ybrn h.good h.conn ha hv).1
theorem Tr.lt_n(h:Tr g)(ha:a<g.ports.length)(hv:v<g.ports.length):dP g a v<g.ports.length:=(ybrn h.good h.conn ha hv).2
theorem Tr.pos(h:Tr g)(ha:a<g.ports.length)(hv:v<g.ports.length)(hne:v≠a):1<=dP g a v:=yccr h.good h.conn ha hv hne
theorem Tr.up(h:Tr g)(ha:a<g.ports.length)(hu:adj g v u):dP g a u=dP g a v-1\/dP g a u=dP g a v+1:=h.m.up a v u ha hu
theorem Tr.one(h:Tr g)(ha:a<g.ports.length)(hu:adj g v u)(hx:adj g v x)(e1:dP g a u=dP g a v-1)(e2:dP g a x=dP g a v-1):u=x:=h.m.one a v u x ha hu hx e1 e2
theorem Tr.back(h:Tr g)(ha:a<g.ports.length)(hv:v<g.ports.length)(hne:v≠a):∃u,adj g v u/\dP g a u=dP g a v-1:=ybbq h.good h.conn ha hv hne
theorem Tr.adj1(h:Tr g)(hu:adj g v u):dP g v u=1:=by
 obtain⟨hv,hu'⟩:=h.good.adj_lt hu;have h1:=h.up hv hu;have h2:=h.self hv;have h3:=h.nonneg hv hu';omega
theorem Tr.ne(h:Tr g)(hu:adj g v u):v≠u:=fun e=>by
 subst e;have:=h.adj1 hu;have:=h.self (h.good.adj_lt hu).1;omega
def rchP(g:Gr)(v u:Nat):Int:=(zQ g.ports.length).foldl (fun m w=>if dP g w u<dP g w v then max m (dP g w v)else m) 0
theorem yrv(f:Nat->Int)(p:Nat->Prop)[DecidablePred p]:∀(l:List Nat) (m:Int),m<=l.foldl (fun m w=>if p w then max m (f w)else m) m/\(∀w∈l,p w->f w<=l.foldl (fun m w=>if p w then max m (f w)else m) m)/\(l.foldl (fun m w=>if p w then max m (f w)else m) m=m\/∃w∈l,p w/\f w=l.foldl (fun m w=>if p w then max m (f w)else m) m)
 |[],m=>⟨zC _,fun w hw=>absurd hw zY,.inl rfl⟩
 | x :: l,m=>by
   obtain⟨h1,h2,h3⟩:=yrv f p l (if p x then max m (f x)else m)
   simp only[zN];refine⟨?_,fun w hw hp=>?_,?_⟩
   ·clear h2 h3
    have:m<=if p x then max m (f x)else m:=by split<;>omega
    omega
   ·rcases List.mem_cons.1 hw with rfl|hw
    ·rw[if_pos hp]at h1 ⊢;omega
    ·exact h2 w hw hp
   ·clear h2
    rcases h3 with h3|⟨w,hw,hp,e⟩
    ·by_cases hp:p x
     ·rw[if_pos hp]at h3 ⊢;rcases Int.le_total (f x) m with q|q
      ·left;rw[h3];omega
      ·right;exact⟨x,zO,hp,by rw[h3];omega⟩
     ·rw[if_neg hp]at h3 ⊢;exact .inl h3
    ·exact .inr ⟨w,zG _ hw,hp,e⟩
theorem ybah(hw:w<g.ports.length)(h:dP g w u<dP g w v):dP g w v<=rchP g v u :=
 (yrv (fun w=>dP g w v) (fun w=>dP g w u<dP g w v) (zQ g.ports.length) 0).2.1 w (List.mem_range.2 hw) h
theorem Tr.rch_pos(h:Tr g)(hu:adj g v u):1<=rchP g v u:=by
 obtain⟨hv,hu'⟩:=h.good.adj_lt hu;have h1:=h.adj1 (h.good.adj_symm hu);have h2:=h.self hu';have:=ybah (g:=g) (w:=u) (u:=u) (v:=v) hu' (by omega)
 omega
theorem Tr.rch_ex(h:Tr g)(hu:adj g v u):∃w,w<g.ports.length/\dP g w u<dP g w v/\dP g w v=rchP g v u:=by
 rcases(yrv (fun w=>dP g w v) (fun w=>dP g w u<dP g w v) (zQ g.ports.length) 0).2.2 with e|⟨w,hw,hp,e⟩
 ·have:=h.rch_pos hu;have e:rchP g v u=0:=e;omega
 ·exact⟨w,List.mem_range.1 hw,hp,e⟩
theorem Tr.into(h:Tr g)(hu:adj g v u)(hx:adj g u x)(hne:x≠v)(hw:w<g.ports.length)(hs:dP g w x<dP g w u):dP g w u<dP g w v/\dP g w v=dP g w u+1:=by
 have h1:=h.up hw hx;have h2:=h.up hw (h.good.adj_symm hu);rcases h2 with h2|h2
 ·exact absurd (h.one hw hx (h.good.adj_symm hu) (by omega) h2) hne
 ·omega
theorem Tr.rch_step(h:Tr g)(hu:adj g v u)(hx:adj g u x)(hne:x≠v):1+rchP g u x<=rchP g v u:=by
 obtain⟨w,hw,h1,h2⟩:=h.rch_ex hx;obtain⟨h3,h4⟩:=h.into hu hx hne hw h1;have:=ybah hw h3;omega
theorem Tr.rch_from(h:Tr g)(hu:adj g v u)(h2:2<=rchP g v u):∃x,adj g u x/\x≠v/\rchP g v u=1+rchP g u x:=by
 obtain⟨hv,hu'⟩:=h.good.adj_lt hu;obtain⟨w,hw,h3,h4⟩:=h.rch_ex hu;have h5:=h.up hw (h.good.adj_symm hu)
 have hne:w≠u:=fun e=>by
  subst e;have:=h.self hw;omega
 obtain⟨x,hx,h6⟩:=h.back hw hu' (fun e=>hne e.symm);have hxv:x≠v:=fun e=>by subst e;omega
 refine⟨x,hx,hxv,?_⟩;have a:=h.rch_step hu hx hxv;have b:=ybah (g:=g) (u:=x) (v:=u) hw (by omega)
 omega
def step2(p:Int×Int)(a:Int):Int×Int:=if a>p.1 then(a,p.1)else(p.1,max p.2 a)
def top2(b:Int)(l:List Int):Int×Int:=l.foldl step2 (b,b)
theorem ybxt(b:Int)(l:List Int)(a:Int):top2 b (l++[a])=step2 (top2 b l) a:=by unfold top2;rw[zX];rfl
theorem ybdi(b:Int)(l:List Int):∀k,k<=l.length->b<=(top2 b (l.take k)).2/\(top2 b (l.take k)).2<=(top2 b (l.take k)).1/\∀m,b<m->(m<=(top2 b (l.take k)).1↔1<=(l.take k).countP fun x=>decide (m<=x))/\(m<=(top2 b (l.take k)).2↔2<=(l.take k).countP fun x=>decide (m<=x))
 | 0,_=>by
   refine⟨zC _,zC _,fun m hm=>?_⟩;have e:(top2 b (l.take 0))=(b,b):=rfl;rw[e];simp only[List.take_zero,zAG];omega
 | k + 1,hk=>by
   obtain⟨h1,h2,h3⟩:=ybdi b l k (by omega)
   rw[zL (show k<l.length by omega),ybxt]
   generalize l[k]=a
   have hc:∀m,(l.take k++[a]).countP (fun x=>decide (m<=x))=(l.take k).countP (fun x=>decide (m<=x))+if m<=a then 1 else 0:=fun m=>by
    rw[List.countP_append,zZ,zAG];simp
   generalize top2 b (l.take k)=P at *
   unfold step2;split
   ·refine⟨by simp only;omega,by simp only;omega,fun m hm=>?_⟩
    obtain⟨h4,h5⟩:=h3 m hm;rw[hc];simp only;constructor
    ·split<;>omega
    ·split<;>omega
   ·refine⟨by simp only;omega,by simp only;omega,fun m hm=>?_⟩
    obtain⟨h4,h5⟩:=h3 m hm;rw[hc];simp only;constructor
    ·split<;>omega
    ·split<;>omega
theorem ynp(b:Int)(l:List Int):b<=(top2 b l).2/\(top2 b l).2<=(top2 b l).1/\∀m,b<m->(m<=(top2 b l).1↔1<=l.countP fun x=>decide (m<=x))/\(m<=(top2 b l).2↔2<=l.countP fun x=>decide (m<=x)):=by
 have h:=ybdi b l l.length (zI _)
 rwa [zAA]at h
theorem ybdh{p:Int×Int->Bool}:∀{ls:List (Int×Int)},(ls.map (·.1)).Nodup->(2<=ls.countP p↔∃a∈ls,∃b∈ls,a.1≠b.1/\p a=true/\p b=true)
 |[],_=>by simp
 | l :: ls,hn=>by
   have hn:=List.nodup_cons.1 hn;have ih:=ybdh (p:=p) hn.2
   have one:1<=ls.countP p↔∃a∈ls,p a=true:=by
    rw[Nat.one_le_iff_ne_zero,Nat.ne_zero_iff_zero_lt,List.countP_pos_iff]
   have hno:∀a∈ls,l.1≠a.1:=fun a ha e=>hn.1 (List.mem_map.2 ⟨a,ha,e.symm⟩);rw[zZ];constructor
   ·intro h
    by_cases hp:p l=true
    ·rw[if_pos hp]at h;obtain⟨a,ha,hpa⟩:=one.1 (by omega)
     exact⟨l,zO,a,zG _ ha,hno a ha,hp,hpa⟩
    ·rw[if_neg hp]at h;obtain⟨a,ha,b,hb,q⟩:=ih.1 (by omega)
     exact⟨a,zG _ ha,b,zG _ hb,q⟩
   ·rintro⟨a,ha,b,hb,hab,hpa,hpb⟩;rcases List.mem_cons.1 ha with ea|ha
    ·rcases List.mem_cons.1 hb with eb|hb
     ·exact absurd (by rw[ea,eb]) hab
     ·have:=one.2 ⟨b,hb,hpb⟩;rw[<-ea,if_pos hpa];omega
    ·rcases List.mem_cons.1 hb with eb|hb
     ·have:=one.2 ⟨a,ha,hpa⟩;rw[<-eb,if_pos hpb];omega
     ·have:=ih.2 ⟨a,ha,b,hb,hab,hpa,hpb⟩;omega
theorem ysn(hg:ybe g)(hv:v<g.ports.length):((g.ports.getD v []).map (·.1)).Nodup:=by
 have h:=(hg.2.2.2.2.2.1 ⟨v,hv⟩).2;have e0:g.ports[v]=g.ports.getD v []:=by rw[Sh.getD_at hv]
 have h:((g.ports[v]).map (·.1)).Nodup:=h
 rwa [e0]at h
theorem ybwa(hg:ybe g)(hv:v<g.ports.length){f:Nat->Int}{m:Int}:2<=((g.ports.getD v []).map fun l=>f l.1.toNat).countP (fun x=>decide (m<=x))↔∃a b,adj g v a/\adj g v b/\a≠b/\m<=f a/\m<=f b:=by
 rw[List.countP_map,ybdh (ysn hg hv)];constructor
 ·rintro⟨a,ha,b,hb,hne,hpa,hpb⟩;obtain⟨a1,_,a3,_⟩:=ydj hg hv ha;obtain⟨b1,_,b3,_⟩:=ydj hg hv hb;exact⟨_,_,a3,b3,by omega,of_decide_eq_true hpa,of_decide_eq_true hpb⟩
 ·rintro⟨a,b,ha,hb,hne,hpa,hpb⟩;obtain⟨la,hla,ea⟩:=yhr ha;obtain⟨lb,hlb,eb⟩:=yhr hb;exact⟨la,hla,lb,hlb,fun e=>hne (by rw[<-ea,<-eb,e]),decide_eq_true (by show m<=f la.1.toNat;rw[ea];exact hpa),decide_eq_true (by show m<=f lb.1.toNat;rw[eb];exact hpb)⟩
def htP(g:Gr)(v:Nat):Int:=(top2 0 ((g.ports.getD v []).map fun l=>rchP g v l.1.toNat)).2
theorem yfm(g:Gr)(v:Nat):0<=htP g v:=(ynp 0 _).1
theorem ymv(hg:ybe g)(hv:v<g.ports.length){m:Int}(hm:1<=m):m<=htP g v↔∃a b,adj g v a/\adj g v b/\a≠b/\m<=rchP g v a/\m<=rchP g v b:=by
 rw[<-ybwa hg hv (f:=fun u=>rchP g v u)];exact((ynp 0 _).2.2 m (by omega)).2
theorem Tr.ht_step(h:Tr g)(hv:v<g.ports.length){m:Int}(hm:1<=m)(hd:∃a b,adj g v a/\adj g v b/\a≠b):m<=htP g v↔∃a b,adj g v a/\adj g v b/\a≠b/\m-1<=htP g a/\m-1<=htP g b:=by
 rw[ymv h.good hv hm]
 by_cases h1:m=1
 ·subst h1;obtain⟨a,b,ha,hb,hne⟩:=hd;exact⟨fun _=>⟨a,b,ha,hb,hne,by have:=yfm g a;omega,by have:=yfm g b;omega⟩,fun _=>⟨a,b,ha,hb,hne,h.rch_pos ha,h.rch_pos hb⟩⟩
 have key:∀a b,adj g v a->adj g v b->a≠b->m<=rchP g v a->m<=rchP g v b->m-1<=htP g a:=fun a b ha hb hne ra rb=>by
  rw[ymv h.good (h.good.adj_lt ha).2 (by omega)]
  obtain⟨x,hx,hxv,e⟩:=h.rch_from ha (by omega)
  have s:=h.rch_step (h.good.adj_symm ha) hb (fun e=>hne e.symm);exact⟨v,x,h.good.adj_symm ha,hx,fun e=>hxv e.symm,by omega,by omega⟩
 have key2:∀a,adj g v a->m-1<=htP g a->m<=rchP g v a:=fun a ha hh=>by
  rw[ymv h.good (h.good.adj_lt ha).2 (by omega)]at hh
  obtain⟨x,y,hx,hy,hne,rx,ry⟩:=hh
  by_cases q:x=v
  ·have s:=h.rch_step ha hy (fun e=>hne (by rw[q,e]))
   omega
  ·have s:=h.rch_step ha hx q;omega
 constructor
 ·rintro⟨a,b,ha,hb,hne,ra,rb⟩;exact⟨a,b,ha,hb,hne,key a b ha hb hne ra rb,key b a hb ha (fun e=>hne e.symm) rb ra⟩
 ·rintro⟨a,b,ha,hb,hne,ra,rb⟩;exact⟨a,b,ha,hb,hne,key2 a ha ra,key2 b hb rb⟩
theorem Tr.thru(h:Tr g)(hw:w<g.ports.length):∀(k:Nat) (v u x:Nat),adj g v u->dP g w u=dP g w v+1->x<g.ports.length->dP g x u<dP g x v->(dP g x u).toNat<k->dP g w x=dP g w u+dP g x u
 |0,v,u,x,_,_,_,_,hk=>by omega
 | k + 1,v,u,x,hu,hwu,hx,hs,hk=>by
   obtain⟨hv,hu'⟩:=h.good.adj_lt hu
   by_cases e:x=u
   ·subst e;rw[h.self hx];omega
   ·obtain⟨y,hy,h1⟩:=h.back hx hu' (fun q=>e q.symm);have hyv:y≠v:=fun q=>by subst q;omega
    have h2:=h.up hw hy
    have hw1:dP g w y=dP g w u+1:=by
     rcases h2 with h2|h2
     ·exact absurd (h.one hw hy (h.good.adj_symm hu) h2 (by omega)) hyv
     ·exact h2
    have:=h.nonneg hx (h.good.adj_lt hy).2;have ih:=Tr.thru h hw k u y x hy hw1 hx (by omega) (by omega)
    omega
theorem Tr.apart(h:Tr g)(ha:adj g v a)(hb:adj g v b)(hne:a≠b)(hw:w<g.ports.length)(hx:x<g.ports.length)(h1:dP g w a<dP g w v)(h2:dP g x b<dP g x v):dP g w x=dP g w v+dP g x v:=by
 have a1:=h.up hw ha;have b1:=h.up hw hb;have b2:=h.up hx hb
 have hwb:dP g w b=dP g w v+1:=by
  rcases b1 with q|q
  ·exact absurd (h.one hw ha hb (by omega) q) hne
  ·exact q
 have:=h.thru hw _ v b x hb hwb hx h2 (zAB _);omega
end
end
section
def ybqv:Ex:=.agg 28 (eQ 0)
def ybgb:Ex:=.ite (.bin 37 (.leaf 9 0) (eNum 2)) (eNum 0) (.ite (.bin 37 ybqv eN) (.bin 33 ybqv (eNum 1)) eN)
def cnS(g:Gr)(c:Conf)(v:Nat):Int:=(top2 (-1073741824) ((g.ports.getD v []).map (endP c 0))).2
def cnV(g:Gr)(c:Conf)(v:Nat):Int:=if ((g.ports.getD v []).length:Int)<2 then 0 else if cnS g c v<(g.ids.length:Int)then cnS g c v+1 else(g.ids.length:Int)
section
variable {nm nh nr:ByteArray}{g:Gr}{c:Conf}{v:Nat}
theorem ydhz(g:Gr)(c:Conf)(v:Nat):-1073741824<=cnS g c v:=(ynp (-1073741824) _).1
theorem ycbl(g:Gr)(c:Conf)(v:Nat)(p:Int):yct g c v ybqv p=cnS g c v:=by
 show ygo 28 _=_;unfold ygo;rw[if_neg (by decide),if_neg (by decide),if_neg (by decide),if_neg (by decide),if_neg (by decide),if_neg (by decide),if_neg (by decide),if_neg (by decide),if_pos rfl]
 show(ydk _).2=_;unfold cnS;have e:∀l,ydk l=top2 (-1073741824) l:=fun l=>rfl;rw[e];congr 2;exact yrz g v _ _ fun q hq=>rfl
theorem ybio(hg:ybe g)(p:Int):yct g c v ybgb p=cnV g c v:=by
 have h1:=hg.2.1;have h2:=hg.2.2.1;have h3:=ydhz g c v;show(if binP 37 ((g.ports.getD v []).length:Int) 2≠0 then 0 else if binP 37 (yct g c v ybqv p) (g.ids.length:Int)≠0 then satP (yct g c v ybqv p+1)else(g.ids.length:Int))=_
 rw[ycbl];have e3:∀a b:Int,binP 37 a b=ybp (decide (a<b)):=fun a b=>rfl;rw[e3,e3];unfold cnV;have tT:ybp true≠0:=by decide
 have tF:¬ybp false≠0:=by decide
 by_cases q:((g.ports.getD v []).length:Int)<2
 ·rw[if_pos q,decide_eq_true q,if_pos tT]
 ·rw[if_neg q,decide_eq_false q,if_neg tF]
  by_cases q2:cnS g c v<(g.ids.length:Int)
  ·rw[if_pos q2,decide_eq_true q2,if_pos tT];unfold satP;omega
  ·rw[if_neg q2,decide_eq_false q2,if_neg tF]
theorem Tr.ht_lt(h:Tr g)(hv:v<g.ports.length):htP g v<g.ports.length:=by
 rcases zD (htP g v) 1 with q|q
 ·omega
 ·obtain⟨a,b,ha,_,_,hr,_⟩:=(ymv h.good hv q).1 (zC _);obtain⟨w,hw,_,e⟩:=h.rch_ex ha;have:=h.lt_n hw hv;omega
theorem ytp(hg:ybe g)(hv:v<g.ports.length):2<=(g.ports.getD v []).length↔∃a b,adj g v a/\adj g v b/\a≠b:=by
 constructor
 ·intro h;have m0:(g.ports.getD v [])[0]∈g.ports.getD v []:=zS _;have m1:(g.ports.getD v [])[1]∈g.ports.getD v []:=zS _;obtain⟨a1,_,a3,_⟩:=ydj hg hv m0;obtain⟨b1,_,b3,_⟩:=ydj hg hv m1;refine⟨_,_,a3,b3,fun e=>?_⟩;have hn:=ysn hg hv;have h0':0<((g.ports.getD v []).map (·.1)).length:=by rw[zU];omega
  have h1':1<((g.ports.getD v []).map (·.1)).length:=by rw[zU];omega
  have:=(List.getElem_inj (h₀:=h0') (h₁:=h1') hn).1 (by rw[zAC,zAC];omega)
  omega
 ·rintro⟨a,b,ha,hb,hne⟩;obtain⟨la,hla,ea⟩:=yhr ha;obtain⟨lb,hlb,eb⟩:=yhr hb;obtain⟨i,hi,e1⟩:=zW hla;obtain⟨j,hj,e2⟩:=zW hlb
  have:i≠j:=fun e=>by
   subst e;rw[e1]at e2;exact hne (by rw[<-ea,<-eb,e2])
  omega
theorem Tr.cn_next(h:Tr g)(hv:v<g.ids.length)(r:Nat)(hall:∀u,u<g.ids.length->if htP g u<(r:Int)then(c.getD u []).getD 0 0=htP g u else(r:Int)<=(c.getD u []).getD 0 0) :
 if htP g v<((r+1:Nat):Int)then cnV g c v=htP g v else((r+1:Nat):Int)<=cnV g c v:=by
 have hpl:=h.good.2.2.1;have hvp:v<g.ports.length:=by omega
 have hlt:=h.ht_lt hvp;have h0:=yfm g v
 by_cases hd:2<=(g.ports.getD v []).length
 ·have eV:cnV g c v=if cnS g c v<(g.ids.length:Int)then cnS g c v+1 else(g.ids.length:Int):=by unfold cnV;rw[if_neg (by omega)]
  rw[eV];have hd2:=(ytp h.good hvp).1 hd
  have agree:∀u (j:Int),u<g.ids.length->j<=r->(j<=(c.getD u []).getD 0 0↔j<=htP g u):=fun u j hu hj=>by
   have:=hall u hu;split at this
   ·rw[this]
   ·omega
  have key:∀m:Int,1<=m->m<=r+1->(m<=cnS g c v+1↔m<=htP g v):=fun m h1 h2=>by
   rw[h.ht_step hvp h1 hd2];have e:=((ynp (-1073741824) ((g.ports.getD v []).map (endP c 0))).2.2 (m-1) (by omega)).2
   have e2:=ybwa h.good hvp (f:=fun u=>(c.getD u []).getD 0 0) (m:=m-1);have e3:m<=cnS g c v+1↔m-1<=cnS g c v:=by omega
   rw[e3];refine e.trans (e2.trans ?_);constructor
   ·rintro⟨a,b,ha,hb,hne,q1,q2⟩;exact⟨a,b,ha,hb,hne,(agree a _ (by have:=(h.good.adj_lt ha).2;omega) (by omega)).1 q1,(agree b _ (by have:=(h.good.adj_lt hb).2;omega) (by omega)).1 q2⟩
   ·rintro⟨a,b,ha,hb,hne,q1,q2⟩;exact⟨a,b,ha,hb,hne,(agree a _ (by have:=(h.good.adj_lt ha).2;omega) (by omega)).2 q1,(agree b _ (by have:=(h.good.adj_lt hb).2;omega) (by omega)).2 q2⟩
  have h1:1<=htP g v:=by
   rw[h.ht_step hvp (zC 1) hd2];obtain⟨a,b,ha,hb,hne⟩:=hd2;exact⟨a,b,ha,hb,hne,by have:=yfm g a;omega,by have:=yfm g b;omega⟩
  by_cases hq:htP g v<((r+1:Nat):Int)
  ·rw[if_pos hq];have k1:=(key (htP g v) h1 (by omega)).2 (zC _)
   have k2:¬htP g v+1<=cnS g c v+1:=fun q=>by
    have:=(key (htP g v+1) (by omega) (by omega)).1 q
    omega
   rw[if_pos (by omega)]
   omega
  ·rw[if_neg hq];have k1:=(key (r+1) (by omega) (by omega)).2 (by omega)
   split<;>omega
 ·have eV:cnV g c v=0:=by unfold cnV;rw[if_pos (by omega)]
  rw[eV]
  have:htP g v=0:=by
   rcases zD (htP g v) 1 with q|q
   ·omega
   ·obtain⟨a,b,ha,hb,hne,_⟩:=(ymv h.good hvp q).1 (zC _);exact absurd ((ytp h.good hvp).2 ⟨a,b,ha,hb,hne⟩) hd
  rw[this,if_pos (by omega)]
theorem Tr.ht_diam(h:Tr g)(hv:v<g.ports.length){d:Int}(hd:∀a b,a<g.ports.length->b<g.ports.length->dP g a b<=d):2*htP g v<=d:=by
 rcases zD (htP g v) 1 with q|q
 ·have:=hd v v hv hv;have:=h.self hv;have:=yfm g v;omega
 ·obtain⟨a,b,ha,hb,hne,r1,r2⟩:=(ymv h.good hv q).1 (zC _);obtain⟨w,hw,w1,w2⟩:=h.rch_ex ha;obtain⟨x,hx,x1,x2⟩:=h.rch_ex hb;have:=h.apart ha hb hne hw hx w1 x1;have:=hd w x hw hx;omega
structure CnC(g:Gr)(c:Conf):Prop where
 len:c.length=g.ids.length
 row:∀v,v<g.ids.length->(c.getD v []).length=1/\(0<=(c.getD v []).getD 0 0/\(c.getD v []).getD 0 0<=g.ids.length)
theorem ydkm(hg:ybe g)(hv:v<g.ids.length)(h0:∀u,u<g.ids.length->0<=(c.getD u []).getD 0 0):0<=cnV g c v/\cnV g c v<=g.ids.length:=by
 have hpl:=hg.2.2.1;unfold cnV;split
 ·omega
 ·rename_i q
  have:0<=cnS g c v:=by
   have e:=((ynp (-1073741824) ((g.ports.getD v []).map (endP c 0))).2.2 0 (by omega)).2
   refine e.2 ((ybwa hg (by omega) (f:=fun u=>(c.getD u []).getD 0 0) (m:=0)).2 ?_)
   obtain⟨a,b,ha,hb,hne⟩:=(ytp hg (v:=v) (by omega)).1 (by omega)
   exact⟨a,b,ha,hb,hne,h0 a (by have:=(hg.adj_lt ha).2;omega),h0 b (by have:=(hg.adj_lt hb).2;omega)⟩
  split<;>omega
end
end
section
section
variable {g:Gr}{a b u v w x:Nat}
def yul(g:Gr)(v:Nat)(e:Int):Prop:=(∀w,w<g.ports.length->dP g w v<=e)/\∃w,w<g.ports.length/\dP g w v=e
theorem yvv(hv:v<g.ports.length):∃e,yul g v e:=by
 rcases(yrv (fun w=>dP g w v) (fun _=>True) (zQ g.ports.length) (dP g v v))with⟨h1,h2,h3⟩;refine⟨_,fun w hw=>h2 w (List.mem_range.2 hw) trivial,?_⟩;rcases h3 with h3|⟨w,hw,_,e⟩
 ·exact⟨v,hv,h3.symm⟩
 ·exact⟨w,List.mem_range.1 hw,e⟩
theorem Tr.side(h:Tr g)(hu:adj g v u)(hw:w<g.ports.length):(dP g w u<dP g w v/\dP g w v=dP g w u+1)\/(dP g w v<dP g w u/\dP g w u=dP g w v+1):=by
 rcases h.up hw hu with q|q<;>omega
theorem Tr.link(h:Tr g)(hu:adj g v u){ev eu:Int}(he:yul g v ev)(he':yul g u eu) :
 ev=max (rchP g u v-1) (rchP g v u)/\eu=max (rchP g v u-1) (rchP g u v):=by
 have key:∀{v u:Nat}{ev:Int},adj g v u->yul g v ev->ev=max (rchP g u v-1) (rchP g v u):=fun {v u ev} hu he=>by
  obtain⟨hv,hu'⟩:=h.good.adj_lt hu;obtain⟨e1,w,hw,e2⟩:=he
  have hle:ev<=max (rchP g u v-1) (rchP g v u):=by
   rcases h.side hu hw with⟨q,q2⟩|⟨q,q2⟩
   ·have:=ybah hw q;omega
   ·have:=ybah (u:=v) (v:=u) hw q;omega
  obtain⟨x,hx,x1,x2⟩:=h.rch_ex hu;obtain⟨y,hy,y1,y2⟩:=h.rch_ex (h.good.adj_symm hu);have a1:=e1 x hx;have a2:=e1 y hy;rcases h.side hu hy with⟨q,q2⟩|⟨q,q2⟩<;>omega
 exact⟨key hu he,key (h.good.adj_symm hu) he'⟩
theorem Tr.ht_link(h:Tr g)(hu:adj g v u):(rchP g u v-1<=rchP g v u->htP g v=rchP g u v-1)/\(rchP g v u<=rchP g u v-1->rchP g v u<=htP g v):=by
 obtain⟨hv,hu'⟩:=h.good.adj_lt hu;have p1:=h.rch_pos hu;have p2:=h.rch_pos (h.good.adj_symm hu);have from_:2<=rchP g u v->∃x,adj g v x/\x≠u/\rchP g u v=1+rchP g v x:=fun q=>h.rch_from (h.good.adj_symm hu) q;constructor
 ·intro hq;refine zAH ?_ ?_
  ·rcases zD (htP g v) 1 with q|q
   ·omega
   ·obtain⟨a,b,ha,hb,hne,r1,r2⟩:=(ymv h.good hv q).1 (zC _)
    by_cases e:a=u
    ·have:=h.rch_step (h.good.adj_symm hu) hb (fun e2=>hne (by rw[e,e2]))
     omega
    ·have:=h.rch_step (h.good.adj_symm hu) ha e;omega
  ·rcases zD (rchP g u v) 2 with q|q
   ·have:=yfm g v;omega
   ·obtain⟨x,hx,hne,e⟩:=from_ q;exact(ymv h.good hv (by omega)).2 ⟨x,u,hx,hu,hne,by omega,by omega⟩
 ·intro hq;obtain⟨x,hx,hne,e⟩:=from_ (by omega)
  exact(ymv h.good hv p1).2 ⟨x,u,hx,hu,hne,by omega,by omega⟩
theorem Tr.higher(h:Tr g)(hu:adj g v u){ev eu:Int}(he:yul g v ev)(he':yul g u eu):(htP g v<htP g u↔eu<ev)/\(htP g v=htP g u↔eu=ev):=by
 obtain⟨l1,l2⟩:=h.link hu he he';obtain⟨a1,a2⟩:=h.ht_link hu;obtain⟨b1,b2⟩:=h.ht_link (h.good.adj_symm hu);rcases Int.lt_trichotomy (rchP g v u) (rchP g u v)with q|q|q
 ·have:=b1 (by omega)
  have:=a2 (by omega)
  omega
 ·have:=a1 (by omega)
  have:=b1 (by omega)
  omega
 ·have:=a1 (by omega)
  have:=b2 (by omega)
  omega
def Peak(g:Gr)(v:Nat):Prop:=∀u,adj g v u->htP g u<=htP g v
theorem Tr.peak_least(h:Tr g)(hp:Peak g v)(hv:v<g.ports.length)(hx:x<g.ports.length){ev ex:Int}(he:yul g v ev)(he':yul g x ex):ev<=ex/\(ex=ev->x≠v->dP g x v=1):=by
 by_cases e:x=v
 ·subst e;obtain⟨q1,w,hw,q2⟩:=he;obtain⟨p1,y,hy,p2⟩:=he';have:=q1 y hy;have:=p1 w hw;exact⟨by omega,fun _ hne=>absurd rfl hne⟩
 ·obtain⟨u,hu,hd⟩:=h.back hx hv (fun q=>e q.symm);obtain⟨eu,heu⟩:=yvv (g:=g) (h.good.adj_lt hu).2;obtain⟨l1,l2⟩:=h.link hu he heu;have hh:=(h.higher hu he heu).1;have hle:=hp u hu;have hpos:=h.pos hx hv (fun q=>e q.symm)
  have hAB:rchP g v u<=rchP g u v:=by
   rcases zD (rchP g u v) (rchP g v u)with q|q
   ·have:=hh.2 (by omega);omega
   ·exact q
  obtain⟨y,hy,y1,y2⟩:=h.rch_ex (h.good.adj_symm hu);have far:dP g y x=dP g y u+dP g x u:=h.thru hy _ v u x hu (by rcases h.side hu hy with⟨q,_⟩|⟨_,q⟩<;>omega) hx (by omega) (zAB _)
  have:=he'.1 y hy;have hxu:=h.nonneg hx (h.good.adj_lt hu).2;exact⟨by omega,fun q _=>by omega⟩
theorem Tr.least_peak(h:Tr g)(hv:v<g.ports.length){ev:Int}(he:yul g v ev)(hl:∀x ex,x<g.ports.length->yul g x ex->ev<=ex):Peak g v:=fun u hu=>by
 obtain⟨eu,heu⟩:=yvv (g:=g) (h.good.adj_lt hu).2;have h1:=(h.higher hu he heu).1;have h2:=hl u eu (h.good.adj_lt hu).2 heu;rcases zD (htP g v) (htP g u)with q|q
 ·have:=h1.1 q;omega
 ·exact q
theorem Tr.peaks_adj(h:Tr g)(hp:Peak g v)(hq:Peak g x)(hv:v<g.ports.length)(hx:x<g.ports.length)(hne:x≠v):dP g x v=1:=by
 obtain⟨ev,he⟩:=yvv (g:=g) hv;obtain⟨ex,hex⟩:=yvv (g:=g) hx;have a:=(h.peak_least hp hv hx he hex);have b:=(h.peak_least hq hx hv hex he);exact a.2 (by omega) hne
theorem Tr.adj_of(h:Tr g)(hv:v<g.ports.length)(hx:x<g.ports.length)(hd:dP g x v=1):adj g v x:=by
 have hne:v≠x:=fun e=>by subst e;have:=h.self hv;omega
 obtain⟨u,hu,hd2⟩:=h.back hx hv hne;have hu':=(h.good.adj_lt hu).2
 by_cases e:u=x
 ·rw[<-e];exact hu
 ·have:=h.pos hx hu' e;omega
theorem Tr.no_three(h:Tr g)(ha:Peak g a)(hb:Peak g b)(hx:Peak g x)(la:a<g.ports.length)(lb:b<g.ports.length)(lx:x<g.ports.length)(hab:a≠b)(hax:a≠x)(hbx:b≠x):False:=by
 have h1:=h.adj_of la lb (h.peaks_adj ha hb la lb (fun e=>hab e.symm));have h2:=h.peaks_adj ha hx la lx (fun e=>hax e.symm);have h3:=h.peaks_adj hb hx lb lx (fun e=>hbx e.symm);rcases h.up lx h1 with q|q<;>omega
theorem Tr.peak_eq(h:Tr g)(hp:Peak g v)(hu:adj g v u)(he:htP g u=htP g v):Peak g u:=by
 obtain⟨hv,hu'⟩:=h.good.adj_lt hu;obtain⟨ev,hev⟩:=yvv (g:=g) hv;obtain⟨eu,heu⟩:=yvv (g:=g) hu';have h1:=(h.higher hu hev heu).2.1 he.symm
 exact h.least_peak hu' heu fun x ex hx hex=>by
  have:=(h.peak_least hp hv hx hev hex).1;omega
theorem Tr.peak_ex(h:Tr g):∃v,v<g.ports.length/\Peak g v:=by
 have h0:0<g.ports.length:=by have:=h.good.1;omega
 have:∀n,n<=g.ports.length->0<n->∃v,v < n/\∀u,u<n->htP g u<=htP g v:=by
  intro n
  induction n with
  |zero=>intro _ h;omega
  | succ n ih =>
    intro hn _
    by_cases q:n=0
    ·subst q;exact⟨0,by omega,fun u hu=>by have:u=0:=by omega
                                           subst this;exact zC _⟩
    ·obtain⟨v,hv,hm⟩:=ih (by omega) (by omega)
     rcases zD (htP g v) (htP g n)with q2|q2
     ·refine⟨n,by omega,fun u hu=>?_⟩
      by_cases e:u=n
      ·subst e;exact zC _
      ·have:=hm u (by omega);omega
     ·refine⟨v,by omega,fun u hu=>?_⟩
      by_cases e:u=n
      ·subst e;exact q2
      ·exact hm u (by omega)
 obtain⟨v,hv,hm⟩:=this g.ports.length (zI _) h0;exact⟨v,hv,fun u hu=>hm u (h.good.adj_lt hu).2⟩
end
end
section
namespace Sh
section
variable {nm nd np nt nl:ByteArray}{g:Gr}
end
end Sh
end
section
def yoh(g:Gr)(s:Nat):Prop:=∀u v,adj g u v->s.testBit u=true->s.testBit v=false
def ResD(D:Nat->Prop)(res:Nat->Nat->Nat):Prop:=∀e w,e≠0->res e w≠0/\subB (res e w) e/\D (res e w)
theorem Sys.run_allD{S:Sys}{D:Nat->Prop}{res:Nat->Nat->Nat}(hr:ResD D res){J:Conf->Cnt->Prop}(hstep:∀c k s,J c k->s≠0->subB s (S.en c)->D s->J (S.mv c s) (addP k s (S.en (S.mv c s)))) :
 ∀(ws:List Nat) (c:Conf) (k:Cnt),J c k->∀p∈S.run res ws c k,J p.1 p.2
 |[],c,k,_,p,hp=>by cases hp
 | w :: ws,c,k,hJ,p,hp=>by
   unfold Sys.run at hp;split at hp
   ·cases hp
   ·rename_i h0
    obtain⟨r1,r2,r3⟩:=hr _ w h0;have hJ':=hstep c k _ hJ r1 r2 r3;rcases List.mem_cons.1 hp with e|e
    ·rw[e];exact hJ'
    ·exact Sys.run_allD hr hstep ws _ _ hJ' p e
theorem Sys.runs_allD{S:Sys}{D:Nat->Prop}{res:Nat->Nat->Nat}(hr:ResD D res){J:Conf->Cnt->Prop}(hstep:∀c k s,J c k->s≠0->subB s (S.en c)->D s->J (S.mv c s) (addP k s (S.en (S.mv c s)))){ws:List Nat}{c:Conf}(h:J c (ydp (S.en c))):∀p∈S.runs res ws c,J p.1 p.2:=fun p hp=>by
 rcases List.mem_cons.1 hp with e|e
 ·rw[e];exact h
 ·exact Sys.run_allD hr hstep ws _ _ h p e
theorem ResD.ok{D:Nat->Prop}{res:Nat->Nat->Nat}(h:ResD D res):ycev res:=fun e w h0=>⟨(h e w h0).1,(h e w h0).2.1⟩
structure ByRoundsC(S:Sys)(V:Conf->Prop)(D:Nat->Prop)(P:Nat->Nat->Conf->Prop):Prop where
 valid:∀c s,V c->s≠0->subB s (S.en c)->D s->V (S.mv c s)
 stay:∀c s v r r',r<=r'->r'<=r+1->V c->v<S.n->s.testBit v=false->subB s (S.en c)->D s->(∀u,u<S.n->P r u c)->P r' v c->P r' v (S.mv c s)
 move:∀c s v r,V c->v<S.n->s.testBit v=true->subB s (S.en c)->D s->(∀u,u<S.n->P r u c)->P (r+1) v (S.mv c s)
 rest:∀c v r,V c->v<S.n->(S.en c).testBit v=false->(∀u,u<S.n->P r u c)->P (r+1) v c
 less:∀r v c,P (r+1) v c->P r v c
structure RInvC(S:Sys)(V:Conf->Prop)(P:Nat->Nat->Conf->Prop)(c:Conf)(k:Cnt):Prop where
 valid:V c
 all:∀v,v<S.n->P k.rounds v c
 done:∀v,v<S.n->k.pend.testBit v=false->P (k.rounds+1) v c
 begun:k.begun<=k.rounds+1
section
variable {S:Sys}{V:Conf->Prop}{D:Nat->Prop}{P:Nat->Nat->Conf->Prop}
theorem ByRoundsC.start(h:ByRoundsC S V D P){c:Conf}(hv:V c)(h0:∀v,v<S.n->P 0 v c):RInvC S V P c (ydp (S.en c)) :=
 ⟨hv,h0,fun v hn hb=>h.rest c v 0 hv hn hb h0,by simp[ydp]⟩
theorem ByRoundsC.step(h:ByRoundsC S V D P)(c:Conf)(k:Cnt)(s:Nat)(hi:RInvC S V P c k)(h0:s≠0)(hs:subB s (S.en c))(hD:D s):RInvC S V P (S.mv c s) (addP k s (S.en (S.mv c s))):=by
 obtain⟨i1,i2,i3,i4⟩:=hi;have hv:=h.valid c s i1 h0 hs hD
 have hall:∀v,v<S.n->P k.rounds v (S.mv c s):=fun v hn=>by
  cases hb:s.testBit v with
  |true=>exact h.less _ _ _ (h.move c s v _ i1 hn hb hs hD i2)
  |false=>exact h.stay c s v _ _ (zI _) (zAK _) i1 hn hb hs hD i2 (i2 v hn)
 have hnext:∀v,v<S.n->(difB k.pend s&&&S.en (S.mv c s)).testBit v=false->P (k.rounds+1) v (S.mv c s):=fun v hn hb=>by
  rw[Nat.testBit_and,ygf]at hb;cases hb1:s.testBit v with
  |true=>exact h.move c s v _ i1 hn hb1 hs hD i2
  | false =>
    cases hb2:k.pend.testBit v with
    |false=>exact h.stay c s v _ _ (zAK _) (zI _) i1 hn hb1 hs hD i2 (i3 v hn hb2)
    | true =>
      rw[hb1,hb2]at hb;exact h.rest _ v _ hv hn (by simpa using hb) hall
 unfold addP;simp only
 by_cases hp:difB k.pend s&&&S.en (S.mv c s)=0
 ·simp only[if_pos hp];have hall':∀v,v<S.n->P (k.rounds+1) v (S.mv c s):=fun v hn=>hnext v hn (by rw[hp];simp)
  exact⟨hv,hall',fun v hn hb=>h.rest _ v _ hv hn hb hall',by show k.rounds+1<=_;simp⟩
 ·simp only[if_neg hp];exact⟨hv,hall,hnext,zI _⟩
theorem ByRoundsC.runs(h:ByRoundsC S V D P){res:Nat->Nat->Nat}(hr:ResD D res){ws:List Nat}{c:Conf}(hv:V c)(h0:∀v,v<S.n->P 0 v c):∀p∈S.runs res ws c,RInvC S V P p.1 p.2 :=
 Sys.runs_allD hr (fun c k s=>h.step c k s) (h.start hv h0)
theorem ByRoundsC.silent(h:ByRoundsC S V D P){c:Conf}(hv:V c)(h0:∀v,v<S.n->P 0 v c)(he:S.en c=0):∀r v,v<S.n->P r v c
 |0,v,hn=>h0 v hn
 |r+1,v,hn=>h.rest c v r hv hn (by rw[he];simp) (ByRoundsC.silent h hv h0 he r)
end
end
section
def ycvc:Ex:=.bin 41 (eVar 1) (.un 19 (.agg 20 (.bin 38 (eQ 0) (eVar 0))))
def ycqs:Ex:=.bin 41 (.un 19 (eVar 1)) (.agg 20 (.bin 37 (eQ 0) (eVar 0)))
def ydje:Ex:=.bin 41 (.bin 41 (.bin 37 (eVar 0) eN) (.agg 20 (.bin 38 (eQ 0) (eVar 0)))) (.agg 21 (.bin 41 (.bin 35 (eQ 0) (eVar 0)) (.bin 35 (eQ 1) (eVar 1))))
def ybs(nm h l f d t i:ByteArray):ProgT:=⟨nm,[⟨h,1,0,0,1,0⟩,⟨l,2,0,0,0,0⟩],[⟨f,.bin 36 (eVar 0) ybgb,[(0,ybgb)]⟩,⟨d,ycvc,[(1,.leaf 3 0)]⟩,⟨t,ycqs,[(1,.leaf 2 0)]⟩,⟨i,ydje,[(1,.un 19 (eVar 1))]⟩]⟩
theorem count_filter(f:Int×Int->Bool)(ls:List (Int×Int)):countP (ls.map fun l=>ybp (f l))=((ls.filter f).length:Int):=by
 unfold countP
 induction ls with
 |nil=>rfl
 | cons l ls ih =>
   cases h:f l with
   | false =>
     rw[zAJ,zM,zM,h];have e:((ybp false != 0)=true)=False:=by simp[ybp]
     simp only[e,if_false,Bool.false_eq_true];exact ih
   | true =>
     rw[zAJ,zM,zM,h];have e:((ybp true != 0)=true)=True:=by simp[ybp]
     simp only[e,if_true,List.length_cons];omega
theorem yccd(f:Int×Int->Bool)(ls:List (Int×Int)):ygo 20 (ls.map fun l=>ybp (f l))=ybp (ls.all f):=by
 show ybp (countP _==((zAL (ls.map _):Nat):Int))=_;rw[count_filter,zU];congr 1;rw[zV,beq_iff_eq,zAD];constructor
 ·intro h l hl;have h:(ls.filter f).length=ls.length:=by omega
  exact List.length_filter_eq_length_iff.1 h l hl
 ·intro h;have:(ls.filter f).length=ls.length:=List.length_filter_eq_length_iff.2 h;omega
theorem yboy(f:Int×Int->Bool)(ls:List (Int×Int)):ygo 21 (ls.map fun l=>ybp (f l))=ybp (ls.any f):=by
 show ybp (decide (countP _>0))=_;rw[count_filter];congr 1;rw[zV,decide_eq_true_iff,zAE];constructor
 ·intro h;have h:0<(ls.filter f).length:=by omega
  obtain⟨l,hl⟩:=List.exists_mem_of_length_pos h;exact⟨l,(List.mem_filter.1 hl).1,(List.mem_filter.1 hl).2⟩
 ·rintro⟨l,hl,hf⟩;have:=List.length_pos_of_mem (List.mem_filter.2 ⟨hl,hf⟩);omega
def hAt(c:Conf)(v:Nat):Int:=(c.getD v []).getD 0 0
def lAt(c:Conf)(v:Nat):Int:=(c.getD v []).getD 1 0
section
variable {nm nh nl nf nd nt ni:ByteArray}{g:Gr}{c:Conf}{u v w:Nat}
def yqq(g:Gr)(c:Conf)(v:Nat):Prop:=lAt c v=1/\∃u,adj g v u/\hAt c v<hAt c u
def yqx(g:Gr)(c:Conf)(v:Nat):Prop:=lAt c v=0/\∀u,adj g v u->hAt c u<hAt c v
def gTie(g:Gr)(c:Conf)(v:Nat):Prop:=hAt c v<(g.ids.length:Int)/\(∀u,adj g v u->hAt c u<=hAt c v)/\∃u,adj g v u/\hAt c u=hAt c v/\lAt c u=lAt c v
structure ElC(g:Gr)(c:Conf):Prop where
 len:c.length=g.ids.length
 row:∀v,v<g.ids.length->(c.getD v []).length=2/\(0<=hAt c v/\hAt c v<=g.ids.length)/\(lAt c v=0\/lAt c v=1)
theorem bTB{x:ByteArray}:ybi g v ⟨x,2,0,0,0,0⟩=(0,1):=by
 show(if (2:Int)=1 then _ else if (2:Int)=2 then _ else _)=_
 rw[if_neg (by decide),if_pos rfl]
theorem ylc(hc:yeq (ybs nm nh nl nf nd nt ni) g c=true):ElC g c:=by
 have h:=(yew _ _ _).1 hc;refine⟨h.1,fun v hv=>?_⟩;have hlt:v<c.length:=by rw[h.1];exact hv
 have e:c.getD v []=c[v]:=by simp[zAI,hlt]
 have h2:=h.2 v _ (zJ hlt);unfold hAt lAt;rw[e];have hl:c[v].length=2:=h2.1;have a0:(ybi g v ⟨nh,1,0,0,1,0⟩).1<=c[v][0]/\c[v][0]<=(ybi g v ⟨nh,1,0,0,1,0⟩).2:=h2.2 0 _ _ rfl (zJ (by omega))
 have a1:(ybi g v ⟨nl,2,0,0,0,0⟩).1<=c[v][1]/\c[v][1]<=(ybi g v ⟨nl,2,0,0,0,0⟩).2:=h2.2 1 _ _ rfl (zJ (by omega))
 have e0:c[v].getD 0 0=c[v][0]:=by simp[zAI,hl]
 have e1:c[v].getD 1 0=c[v][1]:=by simp[zAI,hl]
 rw[e0,e1];rw[bT1]at a0;rw[bTB]at a1;simp only at a0 a1;exact⟨hl,⟨by omega,by omega⟩,by omega⟩
theorem ybrl(hg:ybe g)(hv:v<g.ports.length){f:Nat->Bool}:(g.ports.getD v []).all (fun l=>f l.1.toNat)=true↔∀u,adj g v u->f u=true:=by
 rw[zAD];constructor
 ·intro h u hu;obtain⟨l,hl,e⟩:=yhr hu;rw[<-e];exact h l hl
 ·intro h l hl;exact h _ (ydj hg hv hl).2.2.1
theorem ydoe(hg:ybe g)(hv:v<g.ports.length){f:Nat->Bool}:(g.ports.getD v []).any (fun l=>f l.1.toNat)=true↔∃u,adj g v u/\f u=true:=by
 rw[zAE];constructor
 ·rintro⟨l,hl,hf⟩;exact⟨_,(ydj hg hv hl).2.2.1,hf⟩
 ·rintro⟨u,hu,hf⟩;obtain⟨l,hl,e⟩:=yhr hu;exact⟨l,hl,by rw[e];exact hf⟩
theorem ybza(hg:ybe g)(h:ElC g c)(hv:v<g.ids.length) :
 (yiz g c v ⟨nf,.bin 36 (eVar 0) ybgb,[(0,ybgb)]⟩=true↔hAt c v≠cnV g c v) /\
 (yiz g c v ⟨nd,ycvc,[(1,.leaf 3 0)]⟩=true↔yqq g c v) /\
 (yiz g c v ⟨nt,ycqs,[(1,.leaf 2 0)]⟩=true↔yqx g c v) /\
 (yiz g c v ⟨ni,ydje,[(1,.un 19 (eVar 1))]⟩=true↔gTie g c v):=by
 have hvp:v<g.ports.length:=by have:=hg.2.2.1;omega
 have hl:=(h.row v hv).2.2;have b36:∀a b:Int,binP 36 a b=ybp (a != b):=fun a b=>rfl;have b37:∀a b:Int,binP 37 a b=ybp (decide (a<b)):=fun a b=>rfl;have b38:∀a b:Int,binP 38 a b=ybp (decide (a<=b)):=fun a b=>rfl;have b35:∀a b:Int,binP 35 a b=ybp (a==b):=fun a b=>rfl;have b41:∀a b:Bool,binP 41 (ybp a) (ybp b)=ybp (a&&b):=fun a b=>by cases a<;>cases b<;>rfl
 have u19:∀a:Bool,unP 19 (ybp a)=ybp (!a):=fun a=>by cases a<;>rfl
 have e1:yct g c v (eVar 1) (-1)=ybp (lAt c v==1):=by
  show lAt c v=_;rcases hl with q|q<;>rw[q]<;>rfl
 have aggA:∀(f:Nat->Bool) (x:Ex),(∀q:Nat,q<(g.ports.getD v []).length->yct g c v x q=ybp (f (yck g v q).1.toNat))->yct g c v (.agg 20 x) (-1)=ybp ((g.ports.getD v []).all fun l=>f l.1.toNat):=fun f x hx=>by
  rw[<-yccd];show ygo 20 _=_;congr 1;exact yrz g v _ _ fun q hq=>hx q hq
 have aggS:∀(f:Nat->Bool) (x:Ex),(∀q:Nat,q<(g.ports.getD v []).length->yct g c v x q=ybp (f (yck g v q).1.toNat))->yct g c v (.agg 21 x) (-1)=ybp ((g.ports.getD v []).any fun l=>f l.1.toNat):=fun f x hx=>by
  rw[<-yboy];show ygo 21 _=_;congr 1;exact yrz g v _ _ fun q hq=>hx q hq
 have a1:=aggA (fun u=>decide (hAt c u<=hAt c v)) (.bin 38 (eQ 0) (eVar 0)) fun q hq=>rfl;have a2:=aggA (fun u=>decide (hAt c u<hAt c v)) (.bin 37 (eQ 0) (eVar 0)) fun q hq=>rfl
 have a3:=aggS (fun u=>(hAt c u==hAt c v)&&(lAt c u==lAt c v)) (.bin 41 (.bin 35 (eQ 0) (eVar 0)) (.bin 35 (eQ 1) (eVar 1))) fun q hq=>by
  show binP 41 (binP 35 _ _) (binP 35 _ _)=_;rw[b35,b35,b41];rfl
 refine⟨?_,?_,?_,?_⟩
 ·show(binP 36 (hAt c v) (yct g c v ybgb (-1))!=0)=true↔_;rw[ybio hg,b36,ylx,bne_iff_ne]
 ·show(binP 41 (yct g c v (eVar 1) (-1)) (unP 19 (yct g c v (.agg 20 (.bin 38 (eQ 0) (eVar 0))) (-1)))!=0)=true↔_;rw[e1,a1,u19,b41,ylx,zH,beq_iff_eq,Bool.not_eq_true'];unfold yqq;refine and_congr_right fun _=>?_;rw[Bool.eq_false_iff,Ne,ybrl hg hvp (f:=fun u=>decide (hAt c u<=hAt c v))];constructor
  ·intro hq;refine zF fun hn=>hq fun u hu=>decide_eq_true ?_;rcases zD (hAt c v) (hAt c u)with q|q
   ·exact absurd ⟨u,hu,q⟩ hn
   ·exact q
  ·rintro⟨u,hu,q⟩ hq;have:=of_decide_eq_true (hq u hu);omega
 ·show(binP 41 (unP 19 (yct g c v (eVar 1) (-1))) (yct g c v (.agg 20 (.bin 37 (eQ 0) (eVar 0))) (-1))!=0)=true↔_;rw[e1,a2,u19,b41,ylx,zH,ybrl hg hvp (f:=fun u=>decide (hAt c u<hAt c v))];unfold yqx;refine and_congr ?_ ?_
  ·rcases hl with q|q<;>rw[q]<;>decide
  ·exact forall_congr' fun u=>forall_congr' fun hu=>decide_eq_true_iff
 ·show(binP 41 (binP 41 (binP 37 (hAt c v) (g.ids.length:Int)) (yct g c v (.agg 20 (.bin 38 (eQ 0) (eVar 0))) (-1))) (yct g c v (.agg 21 (.bin 41 (.bin 35 (eQ 0) (eVar 0)) (.bin 35 (eQ 1) (eVar 1)))) (-1))!=0)=true↔_;rw[a1,a3,b37,b41,b41,ylx,zH,zH,ybrl hg hvp (f:=fun u=>decide (hAt c u<=hAt c v)),ydoe hg hvp (f:=fun u=>(hAt c u==hAt c v)&&(lAt c u==lAt c v)),decide_eq_true_iff];unfold gTie;rw[and_assoc]
  refine and_congr_right fun _=>and_congr ?_ ?_
  ·exact forall_congr' fun u=>forall_congr' fun hu=>decide_eq_true_iff
  ·refine exists_congr fun u=>and_congr_right fun _=>?_;rw[zH,beq_iff_eq,beq_iff_eq]
open Classical in
noncomputable def ykt(g:Gr)(c:Conf)(v:Nat):Int:=if hAt c v≠cnV g c v then 0 else if yqq g c v then 1 else if yqx g c v then 2 else if gTie g c v then 3 else -1
theorem ybop(hg:ybe g)(h:ElC g c)(hv:v<g.ids.length):yhb (ybs nm nh nl nf nd nt ni) g c v=ykt g c v:=by
 obtain⟨h1,h2,h3,h4⟩:=ybza (nf:=nf) (nd:=nd) (nt:=nt) (ni:=ni) hg h hv;unfold yhb ybs ykt;simp only[List.findIdx?_cons,List.findIdx?_nil]
 by_cases q1:hAt c v≠cnV g c v
 ·rw[if_pos q1,h1.2 q1];rfl
 ·rw[if_neg q1,Bool.eq_false_iff.2 fun e=>q1 (h1.1 e)]
  by_cases q2:yqq g c v
  ·rw[if_pos q2,h2.2 q2];rfl
  ·rw[if_neg q2,Bool.eq_false_iff.2 fun e=>q2 (h2.1 e)]
   by_cases q3:yqx g c v
   ·rw[if_pos q3,h3.2 q3];rfl
   ·rw[if_neg q3,Bool.eq_false_iff.2 fun e=>q3 (h3.1 e)]
    by_cases q4:gTie g c v
    ·rw[if_pos q4,h4.2 q4];rfl
    ·rw[if_neg q4,Bool.eq_false_iff.2 fun e=>q4 (h4.1 e)];rfl
theorem ydcy(hg:ybe g)(h:ElC g c)(hv:v<g.ids.length)(hen:ykt g c v ≠ -1) :
 ∃ s,ybaf (ybs nm nh nl nf nd nt ni) g c v (yhb (ybs nm nh nl nf nd nt ni) g c v).toNat=s/\s.getD 0 0=cnV g c v /\
   ((hAt c v≠cnV g c v/\s.getD 1 0=lAt c v)\/(hAt c v=cnV g c v/\((yqq g c v/\s.getD 1 0=0)\/(yqx g c v/\s.getD 1 0=1)\/(gTie g c v/\s.getD 1 0=1-lAt c v)))):=by
 rw[ybop hg h hv];obtain⟨h2,h3,h4⟩:=h.row v hv
 obtain⟨x,y,hxy⟩:∃x y,c.getD v []=[x,y]:=by
  match hq:c.getD v [],h2 with
  |[x,y],_=>exact⟨x,y,rfl⟩
 have hx:hAt c v=x:=by unfold hAt;rw[hxy];rfl
 have hy:lAt c v=y:=by unfold lAt;rw[hxy];rfl
 obtain⟨b1,b2⟩:=ydkm hg hv fun u hu=>(h.row u hu).2.1.1;refine⟨_,rfl,?_⟩;unfold ybaf yoa;rw[hxy]
 have br:∀z:Int,0<=z/\z<=1->yfp 2 (ybi g v ⟨nl,2,0,0,0,0⟩) z=z:=fun z hz=>by
  unfold yfp;rw[bTB,if_pos ⟨hz.1,hz.2⟩]
 unfold ykt at hen ⊢
 by_cases q1:hAt c v≠cnV g c v
 ·rw[if_pos q1];show([yfp 1 (ybi g v ⟨nh,1,0,0,1,0⟩) (yct g c v ybgb (-1)),y]:List Int).getD 0 0=_/\_;rw[ybio hg];refine⟨?_,.inl ⟨q1,hy.symm⟩⟩;show yfp 1 (ybi g v ⟨nh,1,0,0,1,0⟩) (cnV g c v)=_;unfold yfp;rw[bT1,if_pos (by simp only;omega)]
 ·have q1':hAt c v=cnV g c v:=Classical.not_not.1 q1;rw[if_neg q1]at hen ⊢
  by_cases q2:yqq g c v
  ·rw[if_pos q2];show([x,yfp 2 (ybi g v ⟨nl,2,0,0,0,0⟩) 0]:List Int).getD 0 0=_/\_;refine⟨by rw[<-q1',hx];rfl,.inr ⟨q1',.inl ⟨q2,?_⟩⟩⟩
   exact br 0 (by omega)
  ·rw[if_neg q2]at hen ⊢
   by_cases q3:yqx g c v
   ·rw[if_pos q3];show([x,yfp 2 (ybi g v ⟨nl,2,0,0,0,0⟩) 1]:List Int).getD 0 0=_/\_;refine⟨by rw[<-q1',hx];rfl,.inr ⟨q1',.inr (.inl ⟨q3,?_⟩)⟩⟩
    exact br 1 (by omega)
   ·rw[if_neg q3]at hen ⊢
    by_cases q4:gTie g c v
    ·rw[if_pos q4];show([x,yfp 2 (ybi g v ⟨nl,2,0,0,0,0⟩) (unP 19 (yct g c v (eVar 1) (-1)))]:List Int).getD 0 0=_/\_;refine⟨by rw[<-q1',hx];rfl,.inr ⟨q1',.inr (.inr ⟨q4,?_⟩)⟩⟩
     have e:unP 19 (yct g c v (eVar 1) (-1))=1-lAt c v:=by
      show ybp (lAt c v==0)=_;rcases h4 with q|q<;>rw[q]<;>rfl
     show yfp 2 _ (unP 19 (yct g c v (eVar 1) (-1)))=_;rw[e];exact br _ (by omega)
    ·rw[if_neg q4]at hen;exact absurd rfl hen
end
end
section
structure Stab(g:Gr)(c:Conf)(v:Nat):Prop where
 low:¬Peak g v->lAt c v=0
 one:Peak g v->(∀u,adj g v u->htP g u<htP g v)->lAt c v=1
 two:Peak g v->∀u,adj g v u->htP g u=htP g v->lAt c u≠lAt c v
def ygr(g:Gr)(c:Conf):Prop:=∀v,v<g.ids.length->hAt c v=htP g v
section
variable {nm nh nl nf nd nt ni:ByteArray}{g:Gr}{c:Conf}{u v w s:Nat}
theorem ybzg(hg:ybe g):Sh.yxd (ybs nm nh nl nf nd nt ni) g=true:=by
 have h1:=hg.1;have h2:=hg.2.1;have h3:=hg.2.2.1;simp[Sh.yxd,ybs,ybi];omega
theorem ydps:(ybs nm nh nl nf nd nt ni).ok=true:=by kernel_rfl
theorem ycct(hg:ybe g)(h:ElC g c)(hv:v<g.ids.length):(ybm (ybs nm nh nl nf nd nt ni) g c).testBit v=false↔ykt g c v = -1:=by
 unfold ybm;rw[yng,ybop hg h hv,decide_eq_true hv,Bool.true_and,decide_eq_false_iff_not];unfold ykt;split
 ·omega
 ·split
  ·omega
  ·split
   ·omega
   ·split<;>omega
theorem yxk(h:ElC g c)(hv:v<g.ids.length)(hb:s.testBit v=false):(yfa (ybs nm nh nl nf nd nt ni) g c s).getD v []=c.getD v []:=by
 rw[Sh.ymf _ g c s (by rw[h.len];exact hv),hb]
 rfl
theorem ybkl(hg:ybe g)(h:ElC g c)(hv:v<g.ids.length)(hb:s.testBit v=true)(hs:subB s (ybm (ybs nm nh nl nf nd nt ni) g c)) :
 hAt (yfa (ybs nm nh nl nf nd nt ni) g c s) v=cnV g c v /\
  ((hAt c v≠cnV g c v/\lAt (yfa (ybs nm nh nl nf nd nt ni) g c s) v=lAt c v)\/(hAt c v=cnV g c v/\((yqq g c v/\lAt (yfa (ybs nm nh nl nf nd nt ni) g c s) v=0)\/(yqx g c v/\lAt (yfa (ybs nm nh nl nf nd nt ni) g c s) v=1)\/(gTie g c v/\lAt (yfa (ybs nm nh nl nf nd nt ni) g c s) v=1-lAt c v)))):=by
 have hen:ykt g c v ≠ -1:=fun e=>by
  have:=(ycct (nm:=nm) (nh:=nh) (nl:=nl) (nf:=nf) (nd:=nd) (nt:=nt) (ni:=ni) hg h hv).2 e;rw[hs v hb]at this;cases this
 obtain⟨t,e1,e2,e3⟩:=ydcy (nm:=nm) (nh:=nh) (nl:=nl) (nf:=nf) (nd:=nd) (nt:=nt) (ni:=ni) hg h hv hen
 have e:(yfa (ybs nm nh nl nf nd nt ni) g c s).getD v []=t:=by
  rw[Sh.ymf _ g c s (by rw[h.len];exact hv),hb,if_pos rfl]
  exact e1
 unfold hAt at *;unfold lAt at *;rw[e];exact⟨e2,e3⟩
theorem yddi(hg:ybe g)(h:ElC g c)(hv:v<g.ids.length)(hb:(ybm (ybs nm nh nl nf nd nt ni) g c).testBit v=false):hAt c v=cnV g c v/\¬yqq g c v/\¬yqx g c v/\¬gTie g c v:=by
 have e:=(ycct hg h hv).1 hb;unfold ykt at e
 by_cases q1:hAt c v≠cnV g c v
 ·rw[if_pos q1]at e;omega
 ·rw[if_neg q1]at e
  by_cases q2:yqq g c v
  ·rw[if_pos q2]at e;omega
  ·rw[if_neg q2]at e
   by_cases q3:yqx g c v
   ·rw[if_pos q3]at e;omega
   ·rw[if_neg q3]at e
    by_cases q4:gTie g c v
    ·rw[if_pos q4]at e;omega
    ·exact⟨Classical.not_not.1 q1,q2,q3,q4⟩
theorem yql(h:Tr g)(hH:ygr g c)(hv:v<g.ids.length):cnV g c v=htP g v:=by
 have:=h.cn_next (c:=c) hv 100 fun u hu=>by
  have:=h.ht_lt (v:=u) (by have:=h.good.2.2.1;omega)
  have:=h.good.2.1;rw[if_pos (by omega)]
  exact hH u hu
 have h2:=h.ht_lt (v:=v) (by have:=h.good.2.2.1;omega)
 have h3:=h.good.2.1;rw[if_pos (by omega)]at this
 exact this
theorem yoo(hg:ybe g)(hH:ygr g c)(hv:v<g.ids.length):yqq g c v↔lAt c v=1/\¬Peak g v:=by
 have hpl:=hg.2.2.1;unfold yqq Peak;refine and_congr_right fun _=>?_;constructor
 ·rintro⟨u,hu,q⟩ hp;rw[hH v hv,hH u (by have:=(hg.adj_lt hu).2;omega)]at q
  have:=hp u hu;omega
 ·intro hp;refine zF fun hn=>hp fun u hu=>?_;rcases zD (htP g v) (htP g u)with q|q
  ·exact absurd ⟨u,hu,by rw[hH v hv,hH u (by have:=(hg.adj_lt hu).2;omega)];exact q⟩ hn
  ·exact q
theorem yox(hg:ybe g)(hH:ygr g c)(hv:v<g.ids.length):yqx g c v↔lAt c v=0/\∀u,adj g v u->htP g u<htP g v:=by
 have hpl:=hg.2.2.1;unfold yqx;refine and_congr_right fun _=>forall_congr' fun u=>forall_congr' fun hu=>?_;rw[hH v hv,hH u (by have:=(hg.adj_lt hu).2;omega)]
theorem ytx(h:Tr g)(hH:ygr g c)(hv:v<g.ids.length):gTie g c v↔Peak g v/\∃u,adj g v u/\htP g u=htP g v/\lAt c u=lAt c v:=by
 have hg:=h.good;have hpl:=hg.2.2.1;have hlt:=h.ht_lt (v:=v) (by omega)
 unfold gTie Peak;rw[hH v hv];constructor
 ·rintro⟨_,h1,u,hu,h2,h3⟩;exact⟨fun x hx=>by have:=h1 x hx;rwa [hH x (by have:=(hg.adj_lt hx).2;omega)]at this,u,hu,by rwa [hH u (by have:=(hg.adj_lt hu).2;omega)]at h2,h3⟩
 ·rintro⟨h1,u,hu,h2,h3⟩;exact⟨by omega,fun x hx=>by rw[hH x (by have:=(hg.adj_lt hx).2;omega)];exact h1 x hx,u,hu,by rw[hH u (by have:=(hg.adj_lt hu).2;omega)];exact h2,h3⟩
theorem Tr.twin(h:Tr g)(hp:Peak g v)(hu:adj g v u)(hw:adj g v w)(eu:htP g u=htP g v)(ew:htP g w=htP g v):u=w:=by
 refine zF fun hne=>?_;obtain⟨lv,lu⟩:=h.good.adj_lt hu;exact h.no_three hp (h.peak_eq hp hu eu) (h.peak_eq hp hw ew) lv lu (h.good.adj_lt hw).2 (h.ne hu) (h.ne hw) hne
theorem yua(h:Tr g)(hc:ElC g c)(hH:ygr g c)(hv:v<g.ids.length)(hS:Stab g c v):ykt g c v = -1:=by
 have e:=yql h hH hv;unfold ykt;rw[if_neg (fun q=>q (by rw[hH v hv,e])),if_neg,if_neg,if_neg]
 ·rw[ytx h hH hv];rintro⟨hp,u,hu,e1,e2⟩;exact hS.two hp u hu e1 e2
 ·rw[yox h.good hH hv];rintro⟨e1,e2⟩;have:=hS.one (fun u hu=>by have:=e2 u hu;omega) e2
  omega
 ·rw[yoo h.good hH hv];rintro⟨e1,e2⟩;have:=hS.low e2;omega
theorem ybzp(h:Tr g)(hc:ElC g c)(hH:ygr g c)(hv:v<g.ids.length)(h2:¬yqq g c v)(h3:¬yqx g c v)(h4:¬gTie g c v):Stab g c v:=by
 rw[yoo h.good hH hv]at h2;rw[yox h.good hH hv]at h3;rw[ytx h hH hv]at h4;have hl:=(hc.row v hv).2.2;refine⟨fun hp=>?_,fun hp hq=>?_,fun hp u hu e1 e2=>h4 ⟨hp,u,hu,e1,e2⟩⟩
 ·rcases hl with q|q
  ·exact q
  ·exact absurd ⟨q,hp⟩ h2
 ·rcases hl with q|q
  ·exact absurd ⟨q,hq⟩ h3
  ·exact q
theorem ycaa(h:Tr g)(hc:ElC g c)(hH:ygr g c)(hv:v<g.ids.length)(hb:s.testBit v=true)(hs:subB s (ybm (ybs nm nh nl nf nd nt ni) g c))(hD:yoh g s):Stab g (yfa (ybs nm nh nl nf nd nt ni) g c s) v:=by
 have hpl:=h.good.2.2.1;have hl:=(hc.row v hv).2.2;have e:=yql h hH hv;obtain⟨_,hm⟩:=ybkl h.good hc hv hb hs
 have other:∀u,adj g v u->lAt (yfa (ybs nm nh nl nf nd nt ni) g c s) u=lAt c u:=fun u hu=>by
  unfold lAt;rw[yxk hc (by have:=(h.good.adj_lt hu).2;omega) (hD v u hu hb)]
 rcases hm with⟨q,_⟩|⟨_,⟨q,e1⟩|⟨q,e1⟩|⟨q,e1⟩⟩
 ·exact absurd (by rw[hH v hv,e]) q
 ·rw[yoo h.good hH hv]at q;exact⟨fun _=>e1,fun hp=>absurd hp q.2,fun hp=>absurd hp q.2⟩
 ·rw[yox h.good hH hv]at q;have hp:Peak g v:=fun u hu=>by have:=q.2 u hu;omega
  exact⟨fun hn=>absurd hp hn,fun _ _=>e1,fun _ u hu e2=>by have:=q.2 u hu;omega⟩
 ·rw[ytx h hH hv]at q;obtain⟨hp,u,hu,e2,e3⟩:=q;refine⟨fun hn=>absurd hp hn,fun _ hq=>by have:=hq u hu;omega,fun _ w hw e4=>?_⟩
  have:=h.twin hp hu hw e2 e4;subst this;rw[other u hu,e1,e3];omega
theorem ybqf(h:Tr g)(hc:ElC g c)(hH:ygr g c)(hv:v<g.ids.length)(hb:s.testBit v=false)(hs:subB s (ybm (ybs nm nh nl nf nd nt ni) g c))(hS:Stab g c v):Stab g (yfa (ybs nm nh nl nf nd nt ni) g c s) v:=by
 have hpl:=h.good.2.2.1
 have e0:lAt (yfa (ybs nm nh nl nf nd nt ni) g c s) v=lAt c v:=by
  unfold lAt;rw[yxk hc hv hb]
 refine⟨fun hn=>by rw[e0];exact hS.low hn,fun hp hq=>by rw[e0];exact hS.one hp hq,fun hp u hu e1=>?_⟩
 have hun:u<g.ids.length:=by have:=(h.good.adj_lt hu).2;omega
 have hnb:s.testBit u=false:=by
  cases hbu:s.testBit u with
  |false=>rfl
  | true =>
    exfalso
    have hpu:=h.peak_eq hp hu e1;have back:=h.good.adj_symm hu
    have hSu:Stab g c u:=⟨fun hn=>absurd hpu hn,fun _ hq=>by have:=hq v back;omega,fun _ w hw e2=>by
     have:=h.twin hpu back hw e1.symm e2;subst this;exact fun q=>hS.two hp u hu e1 q.symm⟩
    have:=(ycct (nm:=nm) (nh:=nh) (nl:=nl) (nf:=nf) (nd:=nd) (nt:=nt) (ni:=ni) h.good hc hun).2 (yua h hc hH hun hSu);rw[hs u hbu]at this;cases this
 have e2:lAt (yfa (ybs nm nh nl nf nd nt ni) g c s) u=lAt c u:=by
  unfold lAt;rw[yxk hc hun hnb]
 rw[e0,e2];exact hS.two hp u hu e1
def elR(g:Gr)(R r v:Nat)(c:Conf):Prop:=(if htP g v<(r:Int)then hAt c v=htP g v else(r:Int)<=hAt c v)/\(R+1<=r->Stab g c v)
theorem yms{R r:Nat}(hR:∀v,v<g.ids.length->htP g v<(R:Int))(hr:R<=r)(hall:∀u,u<g.ids.length->elR g R r u c):ygr g c:=fun v hv=>by
 have:=(hall v hv).1;have:=hR v hv;rw[if_pos (by omega)]at *
 assumption
theorem ycqu(h:Tr g){R r:Nat}(hall:∀u,u<g.ids.length->elR g R r u c)(hv:v<g.ids.length):if htP g v<((r+1:Nat):Int)then cnV g c v=htP g v else((r+1:Nat):Int)<=cnV g c v :=
 h.cn_next hv r fun u hu=>(hall u hu).1
theorem ydkg(h:Tr g){R:Nat}(hR:∀v,v<g.ids.length->htP g v<(R:Int)):ByRoundsC (ybu (ybs nm nh nl nf nd nt ni) g) (fun c=>yeq (ybs nm nh nl nf nd nt ni) g c=true) (yoh g) (elR g R) where
 valid:=fun c s hc _ _ _=>Sh.ywr h.good ydps (ybzg h.good) hc s
 stay:=fun c s v r r' hr1 hr2 hV hv hb hs hD hall hP=>by
  have hc:=ylc hV;have hv:v<g.ids.length:=hv
  have e:hAt (yfa (ybs nm nh nl nf nd nt ni) g c s) v=hAt c v:=by
   unfold hAt;rw[yxk hc hv hb]
  refine⟨?_,fun hq=>?_⟩
  ·have:=hP.1;show if htP g v<(r':Int)then hAt (yfa _ g c s) v=htP g v else(r':Int)<=hAt (yfa _ g c s) v
   rw[e];exact this
  ·exact ybqf h hc (yms hR (r:=r) (by omega) hall) hv hb hs (hP.2 hq)
 move:=fun c s v r hV hv hb hs hD hall=>by
  have hc:=ylc hV;have hv:v<g.ids.length:=hv;have e:=(ybkl h.good hc hv hb hs).1;refine⟨?_,fun hq=>?_⟩
  ·show if htP g v<((r+1:Nat):Int)then hAt (yfa _ g c s) v=htP g v else((r+1:Nat):Int)<=hAt (yfa _ g c s) v
   rw[e];exact ycqu h hall hv
  ·exact ycaa h hc (yms hR (r:=r) (by omega) hall) hv hb hs hD
 rest:=fun c v r hV hv hb hall=>by
  have hc:=ylc hV;have hv:v<g.ids.length:=hv;obtain⟨e,h2,h3,h4⟩:=yddi h.good hc hv hb;refine⟨?_,fun hq=>?_⟩
  ·rw[e];exact ycqu h hall hv
  ·exact ybzp h hc (yms hR (r:=r) (by omega) hall) hv h2 h3 h4
 less:=fun r v c hP=>by
  refine⟨?_,fun hq=>hP.2 (by omega)⟩
  have:=hP.1;split at this
  ·split
   ·exact this
   ·rw[this];omega
  ·rw[if_neg (by omega)];omega
theorem ybie(hc:ElC g c)(hv:v<g.ids.length){R:Nat}:elR g R 0 v c:=by
 have:=yfm g v;refine⟨?_,fun q=>by omega⟩
 rw[if_neg (by omega)]
 exact(hc.row v hv).2.1.1
def ysu(g:Gr)(c:Conf):Prop:=ygr g c/\∃v,v<g.ids.length/\Peak g v/\lAt c v=1/\∀u,u<g.ids.length->lAt c u=1->u=v
theorem ypi(h:Tr g)(hc:ElC g c)(hH:ygr g c):ysu g c↔∀v,v<g.ids.length->Stab g c v:=by
 have hpl:=h.good.2.2.1;constructor
 ·rintro⟨_,p,hp,hpk,hl,huni⟩ v hv
  have peers:∀x,x<g.ids.length->Peak g x->x≠p->adj g p x/\htP g x=htP g p:=fun x hx hxp hne=>by
   have ha:=h.adj_of (by omega) (by omega) (h.peaks_adj hpk hxp (by omega) (by omega) hne)
   have:=hpk x ha;have:=hxp p (h.good.adj_symm ha);exact⟨ha,by omega⟩
  have zero:∀x,x<g.ids.length->x≠p->lAt c x=0:=fun x hx hne=>by
   rcases(hc.row x hx).2.2 with q|q
   ·exact q
   ·exact absurd (huni x hx q) hne
  refine⟨fun hn=>zero v hv fun e=>hn (e▸hpk),fun hvp hq=>?_,fun hvp u hu e1=>?_⟩
  ·by_cases e:v=p
   ·rw[e];exact hl
   ·obtain⟨ha,he⟩:=peers v hv hvp e;have:=hq p (h.good.adj_symm ha);omega
  ·have hun:u<g.ids.length:=by have:=(h.good.adj_lt hu).2;omega
   have hup:=h.peak_eq hvp hu e1
   by_cases e:v=p
   ·subst e;rw[hl,zero u hun (fun e2=>h.ne hu e2.symm)];omega
   ·by_cases e2:u=p
    ·subst e2;rw[hl,zero v hv e];omega
    ·exact(h.no_three hvp hup hpk (by omega) (by omega) (by omega) (h.ne hu) e e2).elim
 ·intro hS;refine⟨hH,?_⟩;obtain⟨p,hp,hpk⟩:=h.peak_ex
  have fin:∀q,q<g.ids.length->Peak g q->lAt c q=1->(∀x,x<g.ids.length->Peak g x->x≠q->lAt c x=0)->∃v,v<g.ids.length/\Peak g v/\lAt c v=1/\∀u,u<g.ids.length->lAt c u=1->u=v:=fun q hq hqp h1 h0=>by
   refine⟨q,hq,hqp,h1,fun u hu e=>zF fun hne=>?_⟩
   by_cases hup:Peak g u
   ·have:=h0 u hu hup hne;omega
   ·have:=(hS u hu).low hup;omega
  by_cases hx:∃x,x<g.ids.length/\Peak g x/\x≠p
  ·obtain⟨x,hxl,hxp,hne⟩:=hx;have ha:=h.adj_of (by omega) (by omega) (h.peaks_adj hpk hxp (by omega) (by omega) hne)
   have h1:=hpk x ha;have h2:=hxp p (h.good.adj_symm ha);have hd:=(hS p (by omega)).two hpk x ha (by omega)
   rcases(hc.row p (by omega)).2.2 with q|q
   ·have hl:lAt c x=1:=by
     rcases(hc.row x hxl).2.2 with q2|q2
     ·rw[q,q2]at hd;exact absurd rfl hd
     ·exact q2
    refine fin x hxl hxp hl fun y hy hyp hyn=>?_
    by_cases e:y=p
    ·rw[e];exact q
    ·exact(h.no_three hpk hxp hyp hp (by omega) (by omega) (fun e2=>hne e2.symm) (fun e2=>e e2.symm) (fun e2=>hyn e2.symm)).elim
   ·refine fin p (by omega) hpk q fun y hy hyp hyn=>?_
    by_cases e:y=x
    ·subst e;rcases(hc.row y hy).2.2 with q2|q2
     ·exact q2
     ·rw[q,q2]at hd;exact absurd rfl hd
    ·exact(h.no_three hpk hxp hyp hp (by omega) (by omega) (fun e2=>hne e2.symm) (fun e2=>hyn e2.symm) (fun e2=>e e2.symm)).elim
  ·have only:∀x,x<g.ids.length->Peak g x->x=p:=fun x hxl hxp=>zF fun hne=>hx ⟨x,hxl,hxp,hne⟩;refine fin p (by omega) hpk ((hS p (by omega)).one hpk fun u hu=>?_) fun y hy hyp hyn=>absurd (only y hy hyp) hyn
   have h1:=hpk u hu;rcases zD (htP g u) (htP g p)with q|q
   ·exact q
   ·have:=only u (by have:=(h.good.adj_lt hu).2;omega) (h.peak_eq hpk hu (by omega))
    exact absurd this.symm (h.ne hu)
theorem ycek(h:Tr g)(hv:yeq (ybs nm nh nl nf nd nt ni) g c=true):ybm (ybs nm nh nl nf nd nt ni) g c=0↔ysu g c:=by
 have hpl:=h.good.2.2.1;have hc:=ylc hv
 have hR:∀v,v<g.ids.length->htP g v<((24:Nat):Int):=fun v hv=>by
  have:=h.ht_lt (v:=v) (by omega)
  have:=h.good.2.1;omega
 constructor
 ·intro he;have hs:=(ydkg (nm:=nm) (nh:=nh) (nl:=nl) (nf:=nf) (nd:=nd) (nt:=nt) (ni:=ni) h hR).silent hv (fun v hn=>ybie hc hn) he;have hH:ygr g c:=yms hR (zI _) (hs 24);exact(ypi h hc hH).2 fun v hn=>(hs 25 v hn).2 (zI _)
 ·intro hr;have hH:=hr.1;have hS:=(ypi h hc hH).1 hr;rw[yby];intro i
  by_cases hi:i<g.ids.length
  ·exact(ycct h.good hc hi).2 (yua h hc hH hi (hS i hi))
  ·exact Nat.testBit_lt_two_pow (Nat.lt_of_lt_of_le (Sh.yccq _ g c) (Nat.pow_le_pow_right (by omega) (by omega)))
theorem ybvu(h:Tr g){R:Nat}(hR:∀v,v<g.ids.length->htP g v<(R:Int)){res:Nat->Nat->Nat}(hr:ResD (yoh g) res){ws:List Nat}{c:Conf}(hv:yeq (ybs nm nh nl nf nd nt ni) g c=true):∀p∈(ybu (ybs nm nh nl nf nd nt ni) g).runs res ws c,RInvC (ybu (ybs nm nh nl nf nd nt ni) g) (fun c=>yeq (ybs nm nh nl nf nd nt ni) g c=true) (elR g R) p.1 p.2 :=
 (ydkg h hR).runs hr hv fun v hn=>ybie (ylc hv) hn
end
end
section
theorem ybat{α:Type}(f:α->Int)(p:α->Bool):∀(l:List α) (m:Int),m<=l.foldl (fun m w=>if p w then max m (f w)else m) m/\(∀w∈l,p w=true->f w<=l.foldl (fun m w=>if p w then max m (f w)else m) m)/\∀t,m<=t->(∀w∈l,p w=true->f w<=t)->l.foldl (fun m w=>if p w then max m (f w)else m) m<=t
 |[],m=>⟨zC _,fun w hw=>absurd hw zY,fun t ht _=>ht⟩
 | x :: l,m=>by
   obtain⟨h1,h2,h3⟩:=ybat f p l (if p x then max m (f x)else m)
   rw[zN];refine⟨?_,fun w hw hp=>?_,fun t ht hl=>h3 t ?_ fun w hw=>hl w (zG _ hw)⟩
   ·refine zT ?_ h1;split<;>omega
   ·rcases List.mem_cons.1 hw with e|hw
    ·subst e;refine zT ?_ h1;rw[if_pos hp];omega
    ·exact h2 w hw hp
   ·by_cases q:p x=true
    ·rw[if_pos q];have:=hl x zO q;omega
    ·rw[if_neg q];exact ht
section
variable {g:Gr}{u v:Nat}
def ypd(g:Gr)(v u:Nat)(m:Int)(l:Int×Int):Int:=if (l.1 != (v:Int))=true then max m (1+rchP g u l.1.toNat)else m
theorem Tr.rch_loop(h:Tr g)(hu:adj g v u):(g.ports.getD u []).foldl (ypd g v u) 1=rchP g v u:=by
 obtain⟨hv,hul⟩:=h.good.adj_lt hu;obtain⟨h1,h2,h3⟩:=ybat (fun l:Int×Int=>1+rchP g u l.1.toNat) (fun l:Int×Int=>l.1 != (v:Int)) (g.ports.getD u []) 1;refine zAH (h3 _ (h.rch_pos hu) fun l hl hp=>?_) ?_
 ·obtain⟨a1,_,a2,_⟩:=ydj h.good hul hl;rw[bne_iff_ne]at hp;exact h.rch_step hu a2 (fun e=>hp (by omega))
 ·rcases zD (rchP g v u) 2 with q|q
  ·exact zT (by omega) h1
  ·obtain⟨x,hx,hne,e⟩:=h.rch_from hu q;obtain⟨l,hl,el⟩:=yhr hx;obtain⟨a1,_⟩:=ydj h.good hul hl;have:=h2 l hl (by rw[bne_iff_ne];intro e;exact hne (by omega))
   rw[el]at this;rw[e];exact this
theorem Tr.rch_less(h:Tr g)(hu:adj g v u){l:Int×Int}(hl:l∈g.ports.getD u [])(hne:l.1≠(v:Int)):rchP g u l.1.toNat<rchP g v u:=by
 obtain⟨hv,hul⟩:=h.good.adj_lt hu;obtain⟨a1,_,a2,_⟩:=ydj h.good hul hl;have:=h.rch_step hu a2 (fun e=>hne (by omega))
 omega
def yqe(s:Int×Int)(x:Int):Int×Int:=(max s.1 x,max s.2 (min x s.1))
theorem ycch{s:Int×Int}{x:Int}(h:s.2<=s.1):yqe s x=step2 s x:=by
 unfold yqe step2;split<;>(try split)<;>(refine Prod.ext ?_ ?_<;>simp only<;>omega)
theorem ybkg:∀(l:List Int) (s:Int×Int),s.2<=s.1->l.foldl yqe s=l.foldl step2 s
 |[],_,_=>rfl
 | x::l,s,h=>by
   rw[zN,zN,<-ycch h];exact ybkg l _ (by unfold yqe;simp only;omega)
theorem ycym(g:Gr)(v:Nat):(((g.ports.getD v []).map fun l=>rchP g v l.1.toNat).foldl yqe (0,0)).2=htP g v:=by
 rw[ybkg _ _ (zC _)];rfl
end
end
section
def ylw(g:Gr)(k:Nat):Int:=(zQ k).foldl (fun m v=>max m (ycf (ybx g v))) 0
abbrev yqt(g:Gr):Int:=ylw g g.ports.length
section
variable {g:Gr}{a b v:Nat}
theorem yit(k:Nat):ylw g (k+1)=max (ylw g k) (ycf (ybx g k)):=by
 unfold ylw;rw[List.range_succ,zX];rfl
theorem ybpa:∀k v,v<k->ycf (ybx g v)<=ylw g k
 |0,v,h=>absurd h (Nat.not_lt_zero _)
 | k + 1,v,h=>by
   rw[yit]
   by_cases q:v=k
   ·rw[q];omega
   ·have:=ybpa k v (by omega)
    omega
theorem ylk:∀k,0<=ylw g k
 |0=>zC _
 | k+1=>by
   rw[yit];have:=ylk k;omega
theorem yboa(hg:ybe g)(ha:a<g.ports.length)(hb:b<g.ports.length):dP g a b<=yqt g:=by
 have h1:=ybpa (g:=g) g.ports.length a ha;have hl:b<(ybx g a).length:=by rw[yhk hg ha];exact hb
 have h2:dP g a b<=ycf (ybx g a):=by
  refine ybcy _ _ ?_;unfold dP;rw[Sh.getD_at hl];exact zS hl
 exact zT h2 h1
theorem Tr.ht_le_diam(h:Tr g)(hv:v<g.ports.length):2*htP g v<=yqt g:=h.ht_diam hv fun _ _ ha hb=>yboa h.good ha hb
end
end
section
namespace Sh
open Go Ev
def ybva:LO:=[o3 (.box 27 (.tmp 0)) 1 0,o3 (.mv (ci' 0)) 2 0,o3 (.mv (ci' 0)) 3 2]
def ybvf:LO:=[ld' true 2 1 6 0,cl' 96 [6] 7 1,o3 (.un .not (.tmp 7)) 8 3]
def ycvx:LO:=[o3 (.mv (ci' 0)) 2 0,o3 (.mv (ci' 0)) 3 1]
def ycpt:LO:=[fa' 1 1 1 9 0,ld' false 1 9 10 1,ln' 10 11 3,o3 (.mv (ci' 0)) 12 0]
def ybwn:LO:=[bn' .lss 12 11 13 0]
def ycjb:LO:=[ix' 1 10 12 14 0,ld' false 1 14 15 1,mv' 15 5 3]
def ycrz:LO:=[mv' 3 16 0,mv' 5 17 0,ln' 17 18 2,bn' .add 16 18 19 7,mv' 19 3 15]
def ycpq:LO:=[o3 (.bin .add (.tmp 12) (ci' 1)) 20 0,mv' 20 12 1]
def ycmc:LO:=[fa' 0 1 1 21 0,ld' false 1 21 22 1,ln' 22 23 3,mv' 3 24 0,o3 (.bin .quo (.tmp 24) (ci' 2)) 25 8,mv' 23 2 7,mv' 25 3 63]
def c122:SC:=(.seq (.reg false ybva) (.seq (.seq (.reg false ybvf) (.cond (.tmp 8) (.seq (.reg false ycvx) .ret) .skip)) (.seq (.seq (.reg false ycpt) (.block 0 (.loop (.seq (.reg false ybwn) (.seq (.cond (.tmp 13) .skip (.exit 0)) (.seq (.block 1 (.seq (.reg false ycjb) (.reg false ycrz))) (.reg false ycpq))))))) (.seq (.reg false ycmc) .ret))))
theorem ydfo:Fn 122 c122 [.t 2,.t 3]:=fn_0 Tryz.func122 (by kernel_rfl) (by kernel_rfl)
def ybro:LO:=[o3 (.box 27 (.tmp 0)) 1 0,o3 (.mv (.const (.bool false))) 2 0]
def ybpm:LO:=[ld' true 2 1 5 0,cl' 137 [5] 6 1,o3 (.un .not (.tmp 6)) 7 3]
def ycts:LO:=[o3 (.mv (.const (.bool false))) 2 0]
def ycln:LO:=[ld' true 2 1 9 0,cl' 122 [9] 10 1,mv' 10 8 3,xt' 8 0 11 7,xt' 8 1 12 7,mv' 11 3 15,mv' 12 4 63]
def ycnv:LO:=[mv' 4 13 0,mv' 3 14 0,o3 (.bin .sub (.tmp 14) (ci' 1)) 15 2,bn' .eql 13 15 16 7,mv' 16 2 15]
def c136:SC:=(.seq (.reg false ybro) (.seq (.seq (.reg false ybpm) (.cond (.tmp 7) (.seq (.reg false ycts) .ret) .skip)) (.seq (.reg false ycln) (.seq (.reg false ycnv) .ret))))
theorem ydfk:Fn 136 c136 [.t 2]:=fn_0 Tryz.func136 (by kernel_rfl) (by kernel_rfl)
def ydbs:LO:=[o3 (.box 27 (.tmp 0)) 1 0,o3 (.mv (ci' 0)) 2 0]
def yczd:LO:=[ld' true 2 1 5 0,cl' 137 [5] 6 1,o3 (.un .not (.tmp 6)) 7 3]
def ydhe:LO:=[o3 (.mv (.const (.int .i64 (-1)))) 2 0]
def ydjt:LO:=[o3 (.mv (ci' 0)) 3 0]
def ydha:LO:=[fa' 1 1 1 8 0,ld' false 1 8 9 1,ln' 9 10 3,o3 (.mv (ci' 0)) 11 0]
def ydec:LO:=[bn' .lss 11 10 12 0]
def ydlr:LO:=[mv' 11 13 0,mv' 13 4 1]
def ydmc:LO:=[mv' 3 14 0,ld' true 2 1 15 0,mv' 4 16 0,cl' 139 [15,16] 17 6,cl' 138 [17] 18 14,o3 (.mm true (.tmp 14) (.tmp 18)) 19 31,mv' 19 3 63]
def ydlc:LO:=[o3 (.bin .add (.tmp 11) (ci' 1)) 20 0,mv' 20 11 1]
def ydmy:LO:=[mv' 3 21 0,mv' 21 2 1]
def c88:SC:=(.seq (.reg false ydbs) (.seq (.seq (.reg false yczd) (.cond (.tmp 7) (.seq (.reg false ydhe) .ret) .skip)) (.seq (.reg false ydjt) (.seq (.seq (.reg false ydha) (.block 0 (.loop (.seq (.reg false ydec) (.seq (.cond (.tmp 12) .skip (.exit 0)) (.seq (.block 1 (.seq (.reg false ydlr) (.reg false ydmc))) (.reg false ydlc))))))) (.seq (.reg false ydmy) .ret)))))
theorem ydhk:Fn 88 c88 [.t 2]:=fn_0 Tryz.func88 (by kernel_rfl) (by kernel_rfl)
def yctr:LO:=[o3 (.box 27 (.tmp 0)) 3 0,o3 (.mv (ci' 0)) 6 0]
def ycwu:LO:=[o3 (.mv (ci' 1)) 7 0]
def yclq:LO:=[fa' 1 1 3 10 0,ld' false 1 10 11 1,mv' 2 12 0,ix' 1 11 12 13 7,ld' false 1 13 14 15,ln' 14 15 31,o3 (.mv (ci' 0)) 16 0]
def ybka:LO:=[bn' .lss 16 15 17 0]
def ybqo:LO:=[ix' 2 14 16 18 0,ld' true 2 18 19 1,o3 (.alloc 95 1 [.i .i64 0,.i .i64 0]) 9 0,o0 (.store 2 (.tmp 9) (.tmp 19)) 7]
def ybsx:LO:=[fa' 0 1 9 20 0,ld' false 1 20 21 1,mv' 1 22 0,bn' .neq 21 22 23 7]
def ycpy:LO:=[mv' 7 24 0,ld' true 2 3 25 0,mv' 2 26 0,fa' 0 1 9 27 0,ld' false 1 27 28 8,cl' 142 [25,26,28] 29 30,o3 (.bin .add (ci' 1) (.tmp 29)) 30 62,o3 (.mm true (.tmp 24) (.tmp 30)) 31 127,mv' 31 7 255]
def ybpr:LO:=[o3 (.bin .add (.tmp 16) (ci' 1)) 32 0,mv' 32 16 1]
def ychf:LO:=[mv' 7 33 0,mv' 33 6 1]
def c142:SC:=(.seq (.reg false yctr) (.seq (.reg false ycwu) (.seq (.seq (.reg false yclq) (.block 0 (.loop (.seq (.reg false ybka) (.seq (.cond (.tmp 17) .skip (.exit 0)) (.seq (.block 1 (.seq (.reg false ybqo) (.seq (.reg false ybsx) (.cond (.tmp 23) (.reg false ycpy) .skip)))) (.reg false ybpr))))))) (.seq (.reg false ychf) .ret))))
theorem yczc:Fn 142 c142 [.t 6]:=fn_0 Tryz.func142 (by kernel_rfl) (by kernel_rfl)
def ydgy:LO:=[o3 (.box 27 (.tmp 0)) 1 0,o3 (.mv (.const (.slice none 0 0))) 2 0]
def ydgz:LO:=[fa' 0 1 1 10 0,ld' false 1 10 11 1,ln' 11 12 3,o3 (.mk 3 1 8 [.i .i64 0] (.tmp 12) (.tmp 12)) 13 7,mv' 13 3 15]
def ydmi:LO:=[fa' 1 1 1 14 0,ld' false 1 14 15 1,ln' 15 16 3,o3 (.mv (ci' 0)) 17 0]
def ydbh:LO:=[bn' .lss 17 16 18 0]
def ydgr:LO:=[mv' 17 19 0,ix' 1 15 17 20 0,ld' false 1 20 21 2,mv' 19 4 7,mv' 21 5 15]
def ydib:LO:=[o3 (.mv (ci' 0)) 6 0]
def ydmk:LO:=[mv' 5 22 0,ln' 22 23 1,o3 (.mv (ci' 0)) 24 0]
def ycyo:LO:=[bn' .lss 24 23 25 0]
def ydjp:LO:=[ix' 2 22 24 26 0,ld' true 2 26 27 1,o3 (.alloc 95 1 [.i .i64 0,.i .i64 0]) 8 0,o0 (.store 2 (.tmp 8) (.tmp 27)) 7]
def ydok:LO:=[ld' true 2 1 28 0,mv' 4 29 0,fa' 0 1 8 30 0,ld' false 1 30 31 4,cl' 142 [28,29,31] 32 15,mv' 32 9 31]
def ycvl:LO:=[mv' 3 33 0,mv' 4 34 0,mv' 3 35 0,mv' 4 36 0,ix' 1 35 36 37 12,ld' false 1 37 38 28,mv' 9 39 0,mv' 6 40 0,o3 (.mm false (.tmp 39) (.tmp 40)) 41 192,o3 (.mm true (.tmp 38) (.tmp 41)) 42 508,ix' 1 33 34 43 1023,o0 (.store 1 (.tmp 43) (.tmp 42)) 2047]
def ycgt:LO:=[mv' 6 44 0,mv' 9 45 0,o3 (.mm true (.tmp 44) (.tmp 45)) 46 3,mv' 46 6 7]
def ycsh:LO:=[o3 (.bin .add (.tmp 24) (ci' 1)) 47 0,mv' 47 24 1]
def ycqr:LO:=[o3 (.bin .add (.tmp 17) (ci' 1)) 48 0,mv' 48 17 1]
def ycpk:LO:=[mv' 3 49 0,mv' 49 2 1]
def c91:SC:=(.seq (.reg false ydgy) (.seq (.reg false ydgz) (.seq (.seq (.reg false ydmi) (.block 0 (.loop (.seq (.reg false ydbh) (.seq (.cond (.tmp 18) .skip (.exit 0)) (.seq (.block 1 (.seq (.reg false ydgr) (.seq (.reg false ydib) (.seq (.reg false ydmk) (.block 2 (.loop (.seq (.reg false ycyo) (.seq (.cond (.tmp 25) .skip (.exit 2)) (.seq (.block 3 (.seq (.reg false ydjp) (.seq (.reg false ydok) (.seq (.reg false ycvl) (.reg false ycgt))))) (.reg false ycsh)))))))))) (.reg false ycqr))))))) (.seq (.reg false ycpk) .ret))))
theorem ydlz:Fn 91 c91 [.t 2]:=fn_0 Tryz.func91 (by kernel_rfl) (by kernel_rfl)
def ydky:LO:=[o3 (.box 27 (.tmp 0)) 2 0,o3 (.box 90 (.tmp 1)) 3 0,o3 (.mv (.const (.int .u32 0))) 4 0]
def ydgw:LO:=[ld' true 2 2 8 0,cl' 109 [8] 9 1,o3 (.alloc 40 1 [.i .u32 0]) 5 0,o0 (.store 1 (.tmp 5) (.tmp 9)) 7]
def ydjq:LO:=[ld' true 2 2 10 0,cl' 120 [10] 11 1]
def ydma:LO:=[mv' 12 6 0]
def ydiy:LO:=[o3 (.alloc 95 1 [.i .i64 0,.i .i64 0]) 7 0,o0 (.store 2 (.tmp 7) (.tmp 13)) 1]
def ydlt:LO:=[ld' false 1 3 14 0,mv' 6 15 0,o3 (.call (.tmp 14) [(.tmp 15)]) 16 3,ld' false 1 3 17 0,fa' 0 1 7 18 0,ld' false 1 18 19 16,o3 (.call (.tmp 17) [(.tmp 19)]) 20 63,bn' .lss 16 20 21 127]
def ydkk:LO:=[ld' false 1 5 22 0,mv' 6 23 0,o3 (.bin .shl (.const (.int .u32 1)) (.tmp 23)) 24 2,bn' .andNot 22 24 25 7,o0 (.store 1 (.tmp 5) (.tmp 25)) 15]
def ydig:LO:=[ld' false 1 5 26 0,mv' 26 4 1]
def c81:SC:=(.seq (.reg false ydky) (.seq (.reg false ydgw) (.seq (.seq (.reg false ydjq) (.block 0 (.range (.tmp 11) [12,13] (.seq (.reg false ydma) (.reg false ydiy)) (.block 1 (.seq (.reg true ydlt) (.cond (.tmp 21) (.reg true ydkk) .skip)))))) (.seq (.reg false ydig) .ret))))
theorem ydoh:Fn 81 c81 [.t 4]:=fn_0 Tryz.func81 (by kernel_rfl) (by kernel_rfl)
def c5_0:LO:=[o3 (.box 24 (.tmp 0)) 3 0,o3 (.mv (.const (.bool false))) 6 0]
def c5_1:LO:=[ld' true 6 3 15 0,o3 (.call (.func 21) [(.tmp 15),(ci' 10)]) 16 1,o3 (.alloc 27 1 [.a (.slice none 0 0),.a (.slice none 0 0)]) 7 0,o0 (.store 2 (.tmp 7) (.tmp 16)) 7]
def c5_2:LO:=[ld' true 2 7 17 0,cl' 25 [] 18 0,mv' 1 19 0,cl' 24 [17,18,19] 20 7,mv' 20 8 15]
def c5_3:LO:=[cl' 23 [] 22 0,ld' true 2 7 23 0,ld' true 2 7 24 0,cl' 33 [24] 25 5,o3 (.field false 0 1 (.tmp 25)) 26 13,mv' 8 27 0,mv' 2 28 0,o3 (.call (.func 26) [(.tmp 28),(ci' 120)]) 29 77,cl' 22 [22,23,26,27,29] 30 255,mv' 30 21 511,xt' 21 0 31 1023,xt' 21 1 32 1023,xt' 21 2 33 1023,mv' 31 9 2047,mv' 32 10 12287,mv' 33 11 32767]
def c5_4:LO:=[mv' 11 34 0,o3 (.un .not (.tmp 34)) 35 1,mv' 35 36 3,⟨.load true 2 (.tmp 7),some 37,some (36,false),7⟩,⟨.call (.func 33) [(.tmp 37)],some 38,some (36,false),15⟩,⟨.load true 2 (.tmp 7),some 39,some (36,false),7⟩,⟨.call (.func 34) [(.tmp 39)],some 40,some (36,false),63⟩,⟨.seq true [false,true,true,false,false] (.tmp 38) (.tmp 40),some 41,some (36,false),127⟩,o3 (.pick (.tmp 36) (.const (.bool true)) (.tmp 41)) 42 255]
def c5_5:LO:=[o3 (.mv (.const (.bool false))) 6 0]
def c5_6:LO:=[o3 (.mv (.const (.slice none 0 0))) 12 0]
def c5_7:LO:=[o3 (.mv (ci' 0)) 13 0]
def c5_8:LO:=[mv' 13 43 0,mv' 9 44 0,ln' 44 45 2,bn' .lss 43 45 46 7]
def ydpk:LO:=[mv' 12 49 0,ld' true 2 7 50 0,mv' 9 51 0,mv' 13 52 0,ix' 1 51 52 53 12,ld' false 1 53 54 28,cl' 35 [50,54] 55 62,o3 (.bslice 4 1 1 [.b false] [(0,1,(.tmp 55))]) 56 126,o3 (.app 4 1 1 (.tmp 49) (.tmp 56)) 57 255,mv' 57 12 511]
def c5_9:LO:=[mv' 13 47 0,o3 (.bin .add (.tmp 47) (ci' 1)) 48 1,mv' 48 13 3]
def ydqt:LO:=[cl' 23 [] 58 0,cl' 37 [58] 59 1,ld' true 2 7 60 0,mv' 9 61 0,mv' 9 62 0,ln' 62 63 16,o3 (.bin .sub (.tmp 63) (ci' 1)) 64 48,ix' 1 61 64 65 120,ld' false 1 65 66 248,cl' 36 [59,60,66] 67 511,o3 (.bin .eql (.tmp 67) (.const (.int .u32 0))) 68 1023,mv' 68 14 2047]
def ydpj:LO:=[cl' 30 [] 69 0,mv' 69 70 1,⟨.mv (.tmp 12),some 71,some (70,true),3⟩,⟨.mv (.tmp 10),some 72,some (70,true),3⟩,⟨.load true 2 (.tmp 7),some 73,some (70,true),3⟩,⟨.call (.func 33) [(.tmp 73)],some 74,some (70,true),19⟩,⟨.mv (.tmp 14),some 75,some (70,true),3⟩,⟨.call (.func 38) [(.tmp 71),(.tmp 72),(.tmp 74),(.tmp 75)],some 76,some (70,true),127⟩,o3 (.pick (.tmp 70) (.tmp 76) (.const (.bool false))) 77 255,mv' 77 6 511]
def c5:SC:=(.seq (.reg false c5_0) (.seq (.reg false c5_1) (.seq (.reg true c5_2) (.seq (.reg true c5_3) (.seq (.seq (.reg true c5_4) (.cond (.tmp 42) (.seq (.reg false c5_5) .ret) .skip)) (.seq (.reg false c5_6) (.seq (.seq (.reg false c5_7) (.block 0 (.loop (.seq (.seq (.reg false c5_8) (.cond (.tmp 46) .skip (.exit 0))) (.seq (.block 1 (.reg true ydpk)) (.reg false c5_9)))))) (.seq (.reg true ydqt) (.seq (.reg false ydpj) .ret)))))))))
def c6_0:LO:=[o3 (.box 24 (.tmp 0)) 3 0,o3 (.mv (.const (.bool false))) 6 0]
def c6_1:LO:=[ld' true 6 3 13 0,o3 (.call (.func 21) [(.tmp 13),(ci' 10)]) 14 1,o3 (.alloc 27 1 [.a (.slice none 0 0),.a (.slice none 0 0)]) 7 0,o0 (.store 2 (.tmp 7) (.tmp 14)) 7]
def c6_2:LO:=[cl' 23 [] 15 0,cl' 37 [15] 16 1,o3 (.alloc 58 1 [.a (.string (ByteArray.mk #[])),.a (.slice none 0 0),.a (.slice none 0 0)]) 8 0,o0 (.store 3 (.tmp 8) (.tmp 16)) 7]
def c6_3:LO:=[cl' 23 [] 18 0,ld' true 2 7 19 0,ld' true 2 7 20 0,cl' 33 [20] 21 5,o3 (.field false 0 1 (.tmp 21)) 22 13,ld' true 2 7 23 0,cl' 25 [] 24 13,mv' 1 25 0,cl' 24 [23,24,25] 26 237,mv' 2 27 0,o3 (.call (.func 26) [(.tmp 27),(ci' 60)]) 28 1005,cl' 22 [18,19,22,26,28] 29 2047,mv' 29 17 4095,xt' 17 0 30 8191,xt' 17 1 31 8191,xt' 17 2 32 8191,mv' 30 9 16383,mv' 31 10 98303,mv' 32 11 262143]
def c6_4:LO:=[o3 (.mv (ci' 0)) 12 0]
def c6_5:LO:=[mv' 12 33 0,mv' 9 34 0,ln' 34 35 2,bn' .lss 33 35 36 7]
def c6_7:LO:=[ld' true 3 8 39 0,ld' true 2 7 40 0,mv' 9 41 0,mv' 12 42 0,ix' 1 41 42 43 12,ld' false 1 43 44 28,cl' 36 [39,40,44] 45 63,o3 (.bin .eql (.tmp 45) (.const (.int .u32 0))) 46 127,ld' true 2 7 47 0,mv' 9 48 0,mv' 12 49 0,ix' 1 48 49 50 1536,ld' false 1 50 51 3584,cl' 35 [47,51] 52 8063,o3 (.beq true (.tmp 46) (.tmp 52)) 53 16383]
def c6_8:LO:=[o3 (.mv (.const (.bool false))) 6 0]
def c6_6:LO:=[mv' 12 37 0,o3 (.bin .add (.tmp 37) (ci' 1)) 38 1,mv' 38 12 3]
def c6_9:LO:=[cl' 30 [] 54 0,mv' 54 55 1,⟨.mv (.tmp 11),some 56,some (55,true),3⟩,o3 (.pick (.tmp 55) (.tmp 56) (.const (.bool false))) 57 7,mv' 57 6 15]
def c6:SC:=(.seq (.reg false c6_0) (.seq (.reg false c6_1) (.seq (.reg false c6_2) (.seq (.reg true c6_3) (.seq (.seq (.reg false c6_4) (.block 0 (.loop (.seq (.seq (.reg false c6_5) (.cond (.tmp 36) .skip (.exit 0))) (.seq (.block 1 (.seq (.reg true c6_7) (.cond (.tmp 53) (.seq (.reg false c6_8) .ret) .skip))) (.reg false c6_6)))))) (.seq (.reg false c6_9) .ret))))))
def c4_0:LO:=[o3 (.box 24 (.tmp 0)) 3 0,o3 (.mv (.const (.bool false))) 6 0]
def c4_1:LO:=[ld' true 6 3 16 0,o3 (.call (.func 21) [(.tmp 16),(ci' 10)]) 17 1,o3 (.alloc 27 1 [.a (.slice none 0 0),.a (.slice none 0 0)]) 7 0,o0 (.store 2 (.tmp 7) (.tmp 17)) 7]
def c4_2:LO:=[cl' 23 [] 19 0,ld' true 2 7 20 0,ld' true 2 7 21 0,cl' 25 [] 22 1,mv' 1 23 0,cl' 24 [21,22,23] 24 29,mv' 2 25 0,o3 (.call (.func 26) [(.tmp 25),(ci' 80)]) 26 125,o3 (.call (.func 22) [(.tmp 19),(.tmp 20),(ci' 3),(.tmp 24),(.tmp 26)]) 27 255,mv' 27 18 511,xt' 18 0 28 1023,xt' 18 1 29 1023,xt' 18 2 30 1023,mv' 28 8 2047,mv' 29 9 12287,mv' 30 10 32767]
def c4_3:LO:=[o3 (.mv (ci' 0)) 11 0]
def c4_4:LO:=[mv' 11 31 0,mv' 8 32 0,ln' 32 33 2,bn' .lss 31 33 34 7]
def c4_6:LO:=[mv' 9 37 0,mv' 11 38 0,ix' 5 37 38 39 3,fa' 2 1 39 40 7,ld' false 1 40 41 15,o3 (.bin .sub (.tmp 41) (ci' 1)) 42 31,mv' 42 12 63]
def c4_7:LO:=[o3 (.mv (ci' 0)) 13 0]
def c4_8:LO:=[mv' 13 43 0,fa' 1 1 7 44 0,ld' false 1 44 45 2,ln' 45 46 6,bn' .lss 43 46 47 15,mv' 47 48 31,⟨.mv (.tmp 12),some 49,some (48,true),63⟩,⟨.bin .geq (.tmp 49) (ci' 0),some 50,some (48,true),127⟩,o3 (.pick (.tmp 48) (.tmp 50) (.const (.bool false))) 51 255]
def ydrd:LO:=[mv' 8 54 0,mv' 11 55 0,ix' 1 54 55 56 3,ld' false 1 56 57 7,ln' 57 58 15,fa' 1 1 7 59 0,ld' false 1 59 60 32,ln' 60 61 96,bn' .neq 58 61 62 255,mv' 62 63 511,⟨.mv (.tmp 8),some 64,some (63,false),1023⟩,⟨.mv (.tmp 11),some 65,some (63,false),1023⟩,⟨.idx 1 (.tmp 64) (.tmp 65),some 66,some (63,false),4095⟩,⟨.load false 1 (.tmp 66),some 67,some (63,false),8191⟩,⟨.mv (.tmp 13),some 68,some (63,false),1023⟩,⟨.idx 1 (.tmp 67) (.tmp 68),some 69,some (63,false),32767⟩,⟨.load false 1 (.tmp 69),some 70,some (63,false),65535⟩,⟨.len (.tmp 70),some 71,some (63,false),131071⟩,⟨.bin .neq (.tmp 71) (ci' 1),some 72,some (63,false),262143⟩,o3 (.pick (.tmp 63) (.const (.bool true)) (.tmp 72)) 73 524287]
def ydpq:LO:=[o3 (.mv (.const (.bool false))) 6 0]
def ydqc:LO:=[mv' 8 74 0,mv' 11 75 0,ix' 1 74 75 76 3,ld' false 1 76 77 7,mv' 13 78 0,ix' 1 77 78 79 31,ld' false 1 79 80 63,o3 (.idx 1 (.tmp 80) (ci' 0)) 81 127,ld' false 1 81 82 255,ld' true 2 7 83 0,mv' 13 84 0,cl' 32 [83,84] 85 1536,mv' 82 14 4095,mv' 85 15 8191]
def ydqj:LO:=[mv' 15 86 0,mv' 12 87 0,bn' .leq 86 87 88 3,mv' 88 89 7,⟨.mv (.tmp 14),some 90,some (89,true),15⟩,⟨.mv (.tmp 15),some 91,some (89,true),15⟩,⟨.bin .neq (.tmp 90) (.tmp 91),some 92,some (89,true),63⟩,o3 (.pick (.tmp 89) (.tmp 92) (.const (.bool false))) 93 127,mv' 93 94 255,⟨.mv (.tmp 15),some 95,some (94,false),511⟩,⟨.mv (.tmp 12),some 96,some (94,false),511⟩,⟨.bin .gtr (.tmp 95) (.tmp 96),some 97,some (94,false),2047⟩,⟨.mv (.tmp 97),some 98,some (94,false),4095⟩,⟨.mv (.tmp 14),some 99,some (98,true),8191⟩,⟨.mv (.tmp 12),some 100,some (98,true),8191⟩,⟨.bin .add (.tmp 100) (ci' 1),some 101,some (98,true),24575⟩,⟨.bin .lss (.tmp 99) (.tmp 101),some 102,some (98,true),65535⟩,⟨.pick (.tmp 98) (.tmp 102) (.const (.bool false)),some 103,some (94,false),131071⟩,o3 (.pick (.tmp 94) (.const (.bool true)) (.tmp 103)) 104 262143]
def ydqw:LO:=[o3 (.mv (.const (.bool false))) 6 0]
def c4_9:LO:=[mv' 13 52 0,o3 (.bin .add (.tmp 52) (ci' 1)) 53 1,mv' 53 13 3]
def c4_5:LO:=[mv' 11 35 0,o3 (.bin .add (.tmp 35) (ci' 1)) 36 1,mv' 36 11 3]
def ydov:LO:=[cl' 30 [] 105 0,mv' 105 106 1,⟨.mv (.tmp 10),some 107,some (106,true),3⟩,o3 (.pick (.tmp 106) (.tmp 107) (.const (.bool false))) 108 7,mv' 108 6 15]
def c4:SC:=(.seq (.reg false c4_0) (.seq (.reg false c4_1) (.seq (.reg true c4_2) (.seq (.seq (.reg false c4_3) (.block 0 (.loop (.seq (.seq (.reg false c4_4) (.cond (.tmp 34) .skip (.exit 0))) (.seq (.block 1 (.seq (.reg false c4_6) (.seq (.reg false c4_7) (.block 2 (.loop (.seq (.seq (.reg false c4_8) (.cond (.tmp 51) .skip (.exit 2))) (.seq (.block 3 (.seq (.seq (.reg true ydrd) (.cond (.tmp 73) (.seq (.reg false ydpq) .ret) .skip)) (.seq (.reg true ydqc) (.seq (.reg false ydqj) (.cond (.tmp 104) (.seq (.reg false ydqw) .ret) .skip))))) (.reg false c4_9)))))))) (.reg false c4_5)))))) (.seq (.reg false ydov) .ret)))))
def c3_0:LO:=[o3 (.box 24 (.tmp 0)) 2 0,o3 (.mv (.const (.bool false))) 4 0]
def c3_1:LO:=[ld' true 6 2 14 0,o3 (.call (.func 21) [(.tmp 14),(ci' 10)]) 15 1,o3 (.alloc 27 1 [.a (.slice none 0 0),.a (.slice none 0 0)]) 5 0,o0 (.store 2 (.tmp 5) (.tmp 15)) 7]
def c3_2:LO:=[cl' 23 [] 17 0,ld' true 2 5 18 0,ld' true 2 5 19 0,cl' 25 [] 20 1,mv' 1 21 0,cl' 24 [19,20,21] 22 29,o3 (.call (.func 26) [(.const (.slice none 0 0)),(ci' 12)]) 23 61,o3 (.call (.func 22) [(.tmp 17),(.tmp 18),(ci' 4),(.tmp 22),(.tmp 23)]) 24 127,mv' 24 16 255,xt' 16 0 25 511,xt' 16 1 26 511,xt' 16 2 27 511,mv' 25 6 1023,mv' 26 7 6143,mv' 27 8 16383]
def c3_3:LO:=[mv' 8 28 0,o3 (.un .not (.tmp 28)) 29 1]
def c3_4:LO:=[o3 (.mv (.const (.bool false))) 4 0]
def c3_5:LO:=[ld' true 2 5 30 0,mv' 6 31 0,mv' 6 32 0,ln' 32 33 4,o3 (.bin .sub (.tmp 33) (ci' 1)) 34 12,ix' 1 31 34 35 30,ld' false 1 35 36 62,cl' 27 [30,36] 37 127,mv' 37 9 255,o3 (.mv (ci' 24)) 10 511]
def c3_6:LO:=[o3 (.mv (ci' 0)) 11 0]
def c3_7:LO:=[mv' 11 38 0,fa' 1 1 5 39 0,ld' false 1 39 40 2,ln' 40 41 6,bn' .lss 38 41 42 15]
def c3_9:LO:=[mv' 10 45 0,ld' true 2 5 46 0,mv' 11 47 0,cl' 28 [46,47] 48 6,o3 (.mm false (.tmp 45) (.tmp 48)) 49 15,mv' 49 10 31]
def c3_8:LO:=[mv' 11 43 0,o3 (.bin .add (.tmp 43) (ci' 1)) 44 1,mv' 44 11 3]
def ydpd:LO:=[o3 (.mv (ci' 0)) 12 0]
def ydqp:LO:=[o3 (.mv (ci' 0)) 13 0]
def ydqk:LO:=[mv' 13 50 0,fa' 1 1 5 51 0,ld' false 1 51 52 2,ln' 52 53 6,bn' .lss 50 53 54 15]
def ydpp:LO:=[mv' 9 57 0,mv' 13 58 0,cl' 29 [57,58] 59 3,ld' true 2 5 60 0,mv' 13 61 0,cl' 28 [60,61] 62 31,mv' 10 63 0,bn' .eql 62 63 64 127,o3 (.beq true (.tmp 59) (.tmp 64)) 65 255]
def ydqu:LO:=[o3 (.mv (.const (.bool false))) 4 0]
def ydri:LO:=[mv' 9 66 0,mv' 13 67 0,cl' 29 [66,67] 68 3]
def ydrh:LO:=[mv' 12 69 0,o3 (.bin .add (.tmp 69) (ci' 1)) 70 1,mv' 70 12 3]
def ydot:LO:=[mv' 13 55 0,o3 (.bin .add (.tmp 55) (ci' 1)) 56 1,mv' 56 13 3]
def ydoy:LO:=[cl' 30 [] 71 0,mv' 71 72 1,⟨.mv (.tmp 12),some 73,some (72,true),3⟩,⟨.bin .eql (.tmp 73) (ci' 1),some 74,some (72,true),7⟩,⟨.mv (.tmp 74),some 75,some (72,true),15⟩,⟨.mv (.tmp 12),some 76,some (75,false),31⟩,⟨.bin .eql (.tmp 76) (ci' 2),some 77,some (75,false),63⟩,⟨.mv (.tmp 77),some 78,some (75,false),127⟩,⟨.load true 2 (.tmp 5),some 79,some (78,true),255⟩,⟨.mv (.tmp 9),some 80,some (78,true),255⟩,⟨.call (.func 31) [(.tmp 79),(.tmp 80)],some 81,some (78,true),1023⟩,⟨.mv (.tmp 9),some 82,some (78,true),255⟩,⟨.bin .and (.tmp 81) (.tmp 82),some 83,some (78,true),4095⟩,⟨.mv (.tmp 9),some 84,some (78,true),255⟩,⟨.bin .eql (.tmp 83) (.tmp 84),some 85,some (78,true),16383⟩,⟨.pick (.tmp 78) (.tmp 85) (.const (.bool false)),some 86,some (75,false),32767⟩,⟨.pick (.tmp 75) (.const (.bool true)) (.tmp 86),some 87,some (72,true),65535⟩,o3 (.pick (.tmp 72) (.tmp 87) (.const (.bool false))) 88 131071,mv' 88 4 262143]
def c3:SC:=(.seq (.reg false c3_0) (.seq (.reg false c3_1) (.seq (.reg true c3_2) (.seq (.seq (.reg false c3_3) (.cond (.tmp 29) (.seq (.reg false c3_4) .ret) .skip)) (.seq (.reg true c3_5) (.seq (.seq (.reg false c3_6) (.block 0 (.loop (.seq (.seq (.reg false c3_7) (.cond (.tmp 42) .skip (.exit 0))) (.seq (.block 1 (.reg false c3_9)) (.reg false c3_8)))))) (.seq (.reg false ydpd) (.seq (.seq (.reg false ydqp) (.block 2 (.loop (.seq (.seq (.reg false ydqk) (.cond (.tmp 54) .skip (.exit 2))) (.seq (.block 3 (.seq (.seq (.reg true ydpp) (.cond (.tmp 65) (.seq (.reg false ydqu) .ret) .skip)) (.seq (.reg false ydri) (.cond (.tmp 68) (.reg false ydrh) .skip)))) (.reg false ydot)))))) (.seq (.reg false ydoy) .ret)))))))))
def c7_0:LO:=[o3 (.box 24 (.tmp 0)) 2 0,o3 (.mv (.const (.bool false))) 4 0]
def c7_1:LO:=[ld' true 6 2 20 0,o3 (.call (.func 21) [(.tmp 20),(ci' 10)]) 21 1,o3 (.alloc 27 1 [.a (.slice none 0 0),.a (.slice none 0 0)]) 5 0,o0 (.store 2 (.tmp 5) (.tmp 21)) 7]
def c7_2:LO:=[fa' 1 1 5 22 0,ld' false 1 22 23 1,ln' 23 24 3,mv' 24 6 7]
def c7_3:LO:=[mv' 1 25 0,mv' 6 26 0,cl' 39 [25,26] 27 3,mv' 27 1 7]
def c7_4:LO:=[mv' 6 28 0,o3 (.mk 3 1 8 [.i .i64 0] (.tmp 28) (.tmp 28)) 29 1,mv' 29 7 3]
def c7_5:LO:=[o3 (.mv (ci' 0)) 8 0]
def c7_6:LO:=[mv' 8 30 0,mv' 6 31 0,bn' .lss 30 31 32 3]
def c7_8:LO:=[mv' 7 35 0,mv' 8 36 0,mv' 8 37 0,mv' 1 38 0,bn' .add 37 38 39 12,mv' 6 40 0,bn' .rem 39 40 41 60,ix' 1 35 36 42 127,o0 (.store 1 (.tmp 42) (.tmp 41)) 255]
def c7_7:LO:=[mv' 8 33 0,o3 (.bin .add (.tmp 33) (ci' 1)) 34 1,mv' 34 8 3]
def c7_9:LO:=[ld' true 2 5 44 0,mv' 7 45 0,cl' 40 [44,45] 46 3,mv' 46 43 7,xt' 43 0 47 15,xt' 43 1 48 15,o3 (.alloc 27 1 [.a (.slice none 0 0),.a (.slice none 0 0)]) 9 0,o0 (.store 2 (.tmp 9) (.tmp 47)) 95,mv' 48 10 255]
def ydql:LO:=[cl' 23 [] 50 0,ld' true 2 5 51 0,ld' true 2 5 52 0,cl' 25 [] 53 1,o3 (.call (.func 24) [(.tmp 52),(.tmp 53),(.const (.slice none 0 0))]) 54 13,o3 (.call (.func 26) [(.const (.slice none 0 0)),(ci' 12)]) 55 29,o3 (.call (.func 22) [(.tmp 50),(.tmp 51),(ci' 4),(.tmp 54),(.tmp 55)]) 56 63,mv' 56 49 127,xt' 49 0 57 255,xt' 49 1 58 255,xt' 49 2 59 255,mv' 57 11 511,mv' 58 12 3071,mv' 59 13 8191]
def ydoz:LO:=[cl' 23 [] 61 0,ld' true 2 9 62 0,ld' true 2 9 63 0,cl' 25 [] 64 1,o3 (.call (.func 24) [(.tmp 63),(.tmp 64),(.const (.slice none 0 0))]) 65 13,o3 (.call (.func 26) [(.const (.slice none 0 0)),(ci' 12)]) 66 29,o3 (.call (.func 22) [(.tmp 61),(.tmp 62),(ci' 4),(.tmp 65),(.tmp 66)]) 67 63,mv' 67 60 127,xt' 60 0 68 255,xt' 60 1 69 255,xt' 60 2 70 255,mv' 68 14 511,mv' 69 15 3071,mv' 70 16 8191]
def ydos:LO:=[mv' 10 71 0,o3 (.bin .neq (.tmp 71) (ci' 0)) 72 1,mv' 72 73 3,⟨.mv (.tmp 13),some 74,some (73,false),7⟩,⟨.un .not (.tmp 74),some 75,some (73,false),15⟩,o3 (.pick (.tmp 73) (.const (.bool true)) (.tmp 75)) 76 31,mv' 76 77 63,⟨.mv (.tmp 16),some 78,some (77,false),127⟩,⟨.un .not (.tmp 78),some 79,some (77,false),255⟩,o3 (.pick (.tmp 77) (.const (.bool true)) (.tmp 79)) 80 511]
def ydpc:LO:=[o3 (.mv (.const (.bool false))) 4 0]
def ydpu:LO:=[ld' true 2 5 81 0,mv' 11 82 0,mv' 11 83 0,ln' 83 84 4,o3 (.bin .sub (.tmp 84) (ci' 1)) 85 12,ix' 1 82 85 86 30,ld' false 1 86 87 62,cl' 27 [81,87] 88 127,ld' true 2 9 89 0,mv' 14 90 0,mv' 14 91 0,ln' 91 92 1024,o3 (.bin .sub (.tmp 92) (ci' 1)) 93 3072,ix' 1 90 93 94 7680,ld' false 1 94 95 15872,cl' 27 [89,95] 96 32767,mv' 88 17 65535,mv' 96 18 131071]
def ydqi:LO:=[o3 (.mv (ci' 0)) 19 0]
def ydqz:LO:=[mv' 19 97 0,mv' 6 98 0,bn' .lss 97 98 99 3]
def ydpn:LO:=[mv' 17 102 0,mv' 19 103 0,cl' 29 [102,103] 104 3,mv' 18 105 0,mv' 7 106 0,mv' 19 107 0,ix' 1 106 107 108 48,ld' false 1 108 109 112,cl' 29 [105,109] 110 255,o3 (.beq true (.tmp 104) (.tmp 110)) 111 511]
def ydph:LO:=[o3 (.mv (.const (.bool false))) 4 0]
def ydou:LO:=[mv' 19 100 0,o3 (.bin .add (.tmp 100) (ci' 1)) 101 1,mv' 101 19 3]
def ydop:LO:=[cl' 30 [] 112 0,mv' 112 113 1,⟨.mv (.tmp 17),some 114,some (113,true),3⟩,⟨.bin .neq (.tmp 114) (.const (.int .u32 0)),some 115,some (113,true),7⟩,o3 (.pick (.tmp 113) (.tmp 115) (.const (.bool false))) 116 15,mv' 116 4 31]
def c7:SC:=(.seq (.reg false c7_0) (.seq (.reg false c7_1) (.seq (.reg false c7_2) (.seq (.reg false c7_3) (.seq (.reg false c7_4) (.seq (.seq (.reg false c7_5) (.block 0 (.loop (.seq (.seq (.reg false c7_6) (.cond (.tmp 32) .skip (.exit 0))) (.seq (.block 1 (.reg false c7_8)) (.reg false c7_7)))))) (.seq (.reg false c7_9) (.seq (.reg true ydql) (.seq (.reg true ydoz) (.seq (.seq (.reg false ydos) (.cond (.tmp 80) (.seq (.reg false ydpc) .ret) .skip)) (.seq (.reg true ydpu) (.seq (.seq (.reg false ydqi) (.block 2 (.loop (.seq (.seq (.reg false ydqz) (.cond (.tmp 99) .skip (.exit 2))) (.seq (.block 3 (.seq (.reg true ydpn) (.cond (.tmp 111) (.seq (.reg false ydph) .ret) .skip))) (.reg false ydou)))))) (.seq (.reg false ydop) .ret)))))))))))))
end Sh
end
section
def ygp(g:Gr)(k:Nat):Nat:=((g.ports.take k).map zAL).sum
theorem yqc{g:Gr}{k:Nat}(h:k<g.ports.length):ygp g (k+1)=ygp g k+(g.ports.getD k []).length:=by
 unfold ygp;rw[zL h,List.map_append,List.sum_append,Sh.getD_at h];simp
theorem ypa{g:Gr}(hg:ybe g):∀k,k<=g.ports.length->ygp g k<=24*k
 |0,_=>by simp[ygp]
 | k+1,h=>by
   rw[yqc (by omega)]
   have:=ypa hg k (by omega)
   have:=hg.deg_lt (v:=k);omega
theorem ybhe(g:Gr):ygp g g.ports.length=ygt g:=by unfold ygp ygt;rw[zAA]
def ybhy(g:Gr):Nat:=ygt g/2
namespace Sh
open Ev Go.RowKit
def yczp(g:Gr):List SV:=if ygm g=true then[.i .i64 g.ports.length,.i .i64 (ybhy g)]else[.i .i64 0,.i .i64 0]
theorem yccs(n:Nat):((n:Nat):Int).tdiv 2=((n/2:Nat):Int):=by
 rw[Int.tdiv_eq_ediv_of_nonneg (by omega)]
 omega
theorem ybxy{g:Gr}(hI:GrI g):Returns Tryz.prog 122 [grV g] (.tp (yczp g)):=by
 refine Returns.of (ydfo _ _ ?_);have hV:=ywi hI;unfold yczp;cases hv:ygm g with
 | false =>
   rw[hv]at hV;simp only[grV]at hV;simp only[c122,ybva,ybvf,ycvx,grV,clash,go_sem,zA,zB,zK,↓reduceIte];refine hV.use ?_;simp only[ybh,clash,go_sem,zA,zB,↓reduceIte];exact Sim.refl _
 | true =>
   have hg:=(yfh g).1 hv;have h24:=hg.2.1;have hpl:=hg.2.2.1;obtain⟨n,hn⟩:∃n,g.ports.length=n:=⟨_,rfl⟩;rw[hv]at hV;simp only[grV]at hV;rw[hn]at h24 hpl;simp only[c122,ybva,ybvf,ycpt,grV,clash,go_sem,zA,zB,zK,↓reduceIte];refine hV.use ?_;simp only[ybh,yx,hn,clash,go_sem,zA,zB,↓reduceIte,reduceCtorEq];refine ybj (σ:=Nat) (fun k=>⟨[(12,.i .i64 k),(11,.i .i64 n),(10,yx g.ports),(3,.i .i64 (ygp g k:Nat)),(1,.pt (1,0) 0 0)],[(1,.one (some ⟨27,true,2,1,fun _=>[yw g.ids,yx g.ports]⟩))]⟩) (fun k=>k<=n) (fun k=>n-k) 0 (zAM _) ?_ ?_
   ·refine yh [] [] [] ?_;simp only[yx,hn,allQ,live,yc,ybb,zAF,go_sem,zA,↓reduceIte,reduceCtorEq];rfl
   intro k hk
   by_cases hlt:k<n
   ·have t1:decide ((k:Int)<(n:Int))=true:=decide_eq_true (by omega)
    have hs:=yqc (g:=g) (k:=k) (by omega)
    have hb:=ypa hg k (by omega)
    have hd:=hg.deg_lt (v:=k);obtain⟨d,hdd⟩:∃d,(g.ports.getD k []).length=d:=⟨_,rfl⟩;rw[hdd]at hs hd;have e:(ygp g k:Int)+(d:Int)=((ygp g (k+1):Nat):Int):=by rw[hs];omega
    simp only[ybwn,ycjb,ycrz,ycpq,yx,yba,hn,t1,hdd,e,clash,go_sem,zA,zB,↓reduceIte,reduceCtorEq];refine⟨by omega,ikw (by omega) (by omega),ikw (by omega) (by omega),?_⟩
    refine yj (k+1) (by omega) (by omega) ?_
    refine yh [] [] [] ?_;simp only[allQ,live,yc,ybb,go_sem,zA,↓reduceIte,reduceCtorEq];omega
   ·obtain rfl:k=n:=by omega
    have t1:decide ((k:Int)<(k:Int))=false:=decide_eq_false (by omega)
    have hb:=ypa hg k (by omega)
    have e:=ybhe g;rw[hn]at e;have e2:=yccs (ygp g k);simp only[ybwn,ycmc,yx,yw,hn,hpl,t1,e2,clash,go_sem,zA,zB,Nat.reduceLeDiff,↓reduceIte,reduceCtorEq];unfold ybhy;rw[<-e];exact⟨⟨by decide,ikw (by omega) (by omega)⟩,Sim.refl _⟩
theorem ybsk{g:Gr}(hI:GrI g):Returns Tryz.prog 136 [grV g] (.b (ydn g)):=by
 refine Returns.of (ydfk _ _ ?_);have hC:=ybaa hI;have hS:=ybxy hI;unfold ydn;cases hcn:yfy g with
 | false =>
   rw[hcn]at hC;simp only[grV]at hC;simp only[c136,ybro,ybpm,ycts,grV,clash,go_sem,zA,zB,zK,↓reduceIte];refine hC.use ?_;simp only[ybh,clash,go_sem,zB,↓reduceIte];exact Sim.refl _
 | true =>
   have hv:=yky hcn;have hg:=(yfh g).1 hv;have h24:=hg.2.1;rw[hcn]at hC;unfold yczp at hS;rw[if_pos hv]at hS;simp only[grV]at hC hS;simp only[c136,ybro,ybpm,ycln,ycnv,grV,clash,go_sem,zA,zB,zK,↓reduceIte];refine hC.use ?_;simp only[ybh,clash,go_sem,zA,zB,↓reduceIte,reduceCtorEq];refine hS.use ?_;simp only[go_sem,zA,↓reduceIte];refine⟨ikw (by omega) (by omega),?_⟩
   have e:(((ybhy g:Nat):Int)==(g.ports.length:Int)-1)=decide (ygt g/2+1=g.ports.length):=by
    rw[zV,beq_iff_eq,decide_eq_true_iff];unfold ybhy;omega
   rw[<-e];exact Sim.refl _
theorem ybtz{g:Gr}(hg:ybe g):∀k,k<=g.ports.length->ylw g k<=24
 |0,_=>by show(0:Int)<=24;decide
 | k+1,h=>by
   rw[yit];have h1:=ybtz hg k (by omega)
   have h2:ycf (ybx g k)<=24:=ybcc _ _ (by omega) fun x hx=>((yeo hg (a:=k) (by omega)).bound hg (by omega) x hx).2
   omega
theorem ybrw{g:Gr}(hI:GrI g):Returns Tryz.prog 88 [grV g] (.i .i64 (if yfy g=true then yqt g else -1)):=by
 refine Returns.of (ydhk _ _ ?_);have hC:=ybaa hI;cases hcn:yfy g with
 | false =>
   rw[hcn]at hC;simp only[grV]at hC;simp only[c88,ydbs,yczd,ydhe,grV,clash,go_sem,zA,zB,zK,↓reduceIte];refine hC.use ?_;simp only[ybh,clash,go_sem,zB,↓reduceIte];exact Sim.refl _
 | true =>
   have hg:=(yfh g).1 (yky hcn);have h24:=hg.2.1;have hd0:ylw g 0=0:=rfl;obtain⟨n,hn⟩:∃n,g.ports.length=n:=⟨_,rfl⟩;rw[hcn]at hC;simp only[grV]at hC;rw[hn]at h24;simp only[c88,ydbs,yczd,ydjt,ydha,grV,clash,go_sem,zA,zB,zK,↓reduceIte];refine hC.use ?_;simp only[ybh,yx,hn,clash,go_sem,zA,zB,↓reduceIte,reduceCtorEq];refine ybj (σ:=Nat) (fun k=>⟨[(11,.i .i64 k),(10,.i .i64 n),(3,.i .i64 (ylw g k)),(1,.pt (1,0) 0 0)],[(1,.one (some ⟨27,true,2,1,fun _=>[yw g.ids,yx g.ports]⟩))]⟩) (fun k=>k<=n) (fun k=>n-k) 0 (zAM _) ?_ ?_
   ·refine yh [] [] [] ?_;simp only[yx,hn,hd0,allQ,live,yc,zAF,go_sem,zA,↓reduceIte,reduceCtorEq]
   intro k hk
   by_cases hlt:k<n
   ·have t1:decide ((k:Int)<(n:Int))=true:=decide_eq_true (by omega)
    have hS:=ybok hg (a:=k) (by omega)
    have hl:=yhk hg (a:=k) (by omega)
    have hG:=ybcr (ybx g k) (by omega)
    have hs:=yit (g:=g) k;obtain⟨D,hD⟩:∃D,ybx g k=D:=⟨_,rfl⟩;rw[hD]at hS hG hs hl;simp only[grV]at hS;simp only[yw,hl]at hG hS;simp only[ydec,ydlr,ydmc,ydlc,yx,t1,clash,go_sem,zA,zB,↓reduceIte,reduceCtorEq];refine hS.use ?_;simp only[ybh,clash,go_sem,zA,zB,↓reduceIte,reduceCtorEq];refine hG.use ?_;simp only[<-hs,go_sem,zA,↓reduceIte];refine⟨ikw (by omega) (by omega),?_⟩
    refine yj (k+1) (by omega) (by omega) ?_
    refine yh [] [] [] ?_;simp only[go_sem,allQ,live,yc,ybb,go_sem,zA,↓reduceIte,reduceCtorEq];omega
   ·obtain rfl:k=n:=by omega
    have t1:decide ((k:Int)<(k:Int))=false:=decide_eq_false (by omega)
    simp only[ydec,ydmy,t1,clash,go_sem,zA,zB,↓reduceIte,reduceCtorEq];unfold yqt;rw[hn];exact Sim.refl _
end Sh
end
end Go.Proofs.YtiejahgklcjhkaaGreatDoor
