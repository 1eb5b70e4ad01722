/- Joined. -/
import Derived.Test.YtiejahgklcjhkaaGreatPkX12
import Derived.Test.YtiejahgklcjhkaaGreatPkX9
set_option linter.unusedSimpArgs false
set_option linter.unusedVariables false
set_option maxRecDepth 8000
open Nat renaming reduceEqDiff→zA,reduceAdd→zB,reduceLT→zC,le_refl→zG,reduceLeDiff→zM,zero_le→zQ,ble_eq_true_of_le→zU,eq_zero_or_pos→zY,lt_of_lt_of_le→zAD,lt_irrefl→zAO,mul_comm→zAP,le_succ→zAQ,beq→zAR
open List renaming take_succ_eq_append_getElem→zD,mem_cons_of_mem→zF,not_mem_nil→zH,foldl_append→zI,eq_nil_of_length_eq_zero→zJ,take_length→zK,mem_cons_self→zN,range→zS,foldl_cons→zT,getElem_mem→zV,getD→zAA,length→zAF,countP_cons→zAG,length_cons→zAH,getElem_map→zAI,countP_nil→zAJ,range_succ→zAL,map_append→zAM
open Int renaming natCast_zero→zL,le_refl→zW,toNat_of_nonneg→zX,lt_or_le→zAB,le_trans→zAC,toNat_natCast→zAE,le_antisymm→zAK
open Go.Proofs.Tryz renaming prog→zO
open Bool renaming and_eq_true→zZ,eq_iff_iff→zAN
open Go
namespace Go.Proofs.YtiejahgklcjhkaaGreat
section
def dP(g:Gr)(a v:Nat):Int:=(ybo g a).getD v 0
structure Tr(g:Gr):Prop where
 good:ybj g
 conn:ydd g=true
 m:TreeM g
section
variable {g:Gr}{a b u v w x:Nat}
theorem Tr.self(h:Tr g)(ha:a<g.ports.length):dP g a a=0:=ybka h.good h.conn ha
theorem Tr.nonneg(h:Tr g)(ha:a<g.ports.length)(hv:v<g.ports.length):0<=dP g a v:=(ybgp h.good h.conn ha hv).1
theorem Tr.lt_n(h:Tr g)(ha:a<g.ports.length)(hv:v<g.ports.length):dP g a v<g.ports.length:=(ybgp h.good h.conn ha hv).2
theorem Tr.pos(h:Tr g)(ha:a<g.ports.length)(hv:v<g.ports.length)(hne:v≠a):1<=dP g a v:=ybof h.good h.conn ha hv hne
theorem Tr.up(h:Tr g)(ha:a<g.ports.length)(hu:adj g v u):dP g a u=dP g a v-1\/dP g a u=dP g a v+1:=h.m.up a v u ha hu
theorem Tr.one(h:Tr g)(ha:a<g.ports.length)(hu:adj g v u)(hx:adj g v x)(e1:dP g a u=dP g a v-1)(e2:dP g a x=dP g a v-1):u=x:=h.m.one a v u x ha hu hx e1 e2
theorem Tr.back(h:Tr g)(ha:a<g.ports.length)(hv:v<g.ports.length)(hne:v≠a):∃u,adj g v u/\dP g a u=dP g a v-1:=ywb h.good h.conn ha hv hne
theorem Tr.adj1(h:Tr g)(hu:adj g v u):dP g v u=1:=by
 obtain⟨hv,hu'⟩:=h.good.adj_lt hu;have h1:=h.up hv hu;have h2:=h.self hv;have h3:=h.nonneg hv hu';omega
theorem Tr.ne(h:Tr g)(hu:adj g v u):v≠u:=fun e=>by
 subst e;have:=h.adj1 hu;have:=h.self (h.good.adj_lt hu).1;omega
def rchP(g:Gr)(v u:Nat):Int:=(zS g.ports.length).foldl (fun m w=>if dP g w u<dP g w v then max m (dP g w v)else m) 0
theorem yso(f:Nat->Int)(p:Nat->Prop)[DecidablePred p]:∀(l:List Nat) (m:Int),m<=l.foldl (fun m w=>if p w then max m (f w)else m) m/\(∀w∈l,p w->f w<=l.foldl (fun m w=>if p w then max m (f w)else m) m)/\(l.foldl (fun m w=>if p w then max m (f w)else m) m=m\/∃w∈l,p w/\f w=l.foldl (fun m w=>if p w then max m (f w)else m) m)
 |[],m=>⟨zW _,fun w hw=>absurd hw zH,.inl rfl⟩
 | x :: l,m=>by
   obtain⟨h1,h2,h3⟩:=yso f p l (if p x then max m (f x)else m)
   simp only[zT];refine⟨?_,fun w hw hp=>?_,?_⟩
   ·clear h2 h3
    have:m<=if p x then max m (f x)else m:=by split<;>omega
    omega
   ·rcases List.mem_cons.1 hw with rfl|hw
    ·rw[if_pos hp]at h1 ⊢;omega
    ·exact h2 w hw hp
   ·clear h2
    rcases h3 with h3|⟨w,hw,hp,e⟩
    ·by_cases hp:p x
     ·rw[if_pos hp]at h3 ⊢;rcases Int.le_total (f x) m with q|q
      ·left;rw[h3];omega
      ·right;exact⟨x,zN,hp,by rw[h3];omega⟩
     ·rw[if_neg hp]at h3 ⊢;exact .inl h3
    ·exact .inr ⟨w,zF _ hw,hp,e⟩
theorem yvi(hw:w<g.ports.length)(h:dP g w u<dP g w v):dP g w v<=rchP g v u :=
 (yso (fun w=>dP g w v) (fun w=>dP g w u<dP g w v) (zS g.ports.length) 0).2.1 w (List.mem_range.2 hw) h
theorem Tr.rch_pos(h:Tr g)(hu:adj g v u):1<=rchP g v u:=by
 obtain⟨hv,hu'⟩:=h.good.adj_lt hu;have h1:=h.adj1 (h.good.adj_symm hu);have h2:=h.self hu';have:=yvi (g:=g) (w:=u) (u:=u) (v:=v) hu' (by omega)
 omega
theorem Tr.rch_ex(h:Tr g)(hu:adj g v u):∃w,w<g.ports.length/\dP g w u<dP g w v/\dP g w v=rchP g v u:=by
 rcases(yso (fun w=>dP g w v) (fun w=>dP g w u<dP g w v) (zS g.ports.length) 0).2.2 with e|⟨w,hw,hp,e⟩
 ·have:=h.rch_pos hu;have e:rchP g v u=0:=e;omega
 ·exact⟨w,List.mem_range.1 hw,hp,e⟩
theorem Tr.into(h:Tr g)(hu:adj g v u)(hx:adj g u x)(hne:x≠v)(hw:w<g.ports.length)(hs:dP g w x<dP g w u):dP g w u<dP g w v/\dP g w v=dP g w u+1:=by
 have h1:=h.up hw hx;have h2:=h.up hw (h.good.adj_symm hu);rcases h2 with h2|h2
 ·exact absurd (h.one hw hx (h.good.adj_symm hu) (by omega) h2) hne
 ·omega
theorem Tr.rch_step(h:Tr g)(hu:adj g v u)(hx:adj g u x)(hne:x≠v):1+rchP g u x<=rchP g v u:=by
 obtain⟨w,hw,h1,h2⟩:=h.rch_ex hx;obtain⟨h3,h4⟩:=h.into hu hx hne hw h1;have:=yvi hw h3;omega
theorem Tr.rch_from(h:Tr g)(hu:adj g v u)(h2:2<=rchP g v u):∃x,adj g u x/\x≠v/\rchP g v u=1+rchP g u x:=by
 obtain⟨hv,hu'⟩:=h.good.adj_lt hu;obtain⟨w,hw,h3,h4⟩:=h.rch_ex hu;have h5:=h.up hw (h.good.adj_symm hu)
 have hne:w≠u:=fun e=>by
  subst e;have:=h.self hw;omega
 obtain⟨x,hx,h6⟩:=h.back hw hu' (fun e=>hne e.symm);have hxv:x≠v:=fun e=>by subst e;omega
 refine⟨x,hx,hxv,?_⟩;have a:=h.rch_step hu hx hxv;have b:=yvi (g:=g) (u:=x) (v:=u) hw (by omega)
 omega
def step2(p:Int×Int)(a:Int):Int×Int:=if a>p.1 then(a,p.1)else(p.1,max p.2 a)
def top2(b:Int)(l:List Int):Int×Int:=l.foldl step2 (b,b)
theorem yblg(b:Int)(l:List Int)(a:Int):top2 b (l++[a])=step2 (top2 b l) a:=by unfold top2;rw[zI];rfl
theorem ywo(b:Int)(l:List Int):∀k,k<=l.length->b<=(top2 b (l.take k)).2/\(top2 b (l.take k)).2<=(top2 b (l.take k)).1/\∀m,b<m->(m<=(top2 b (l.take k)).1↔1<=(l.take k).countP fun x=>decide (m<=x))/\(m<=(top2 b (l.take k)).2↔2<=(l.take k).countP fun x=>decide (m<=x))
 | 0,_=>by
   refine⟨zW _,zW _,fun m hm=>?_⟩;have e:(top2 b (l.take 0))=(b,b):=rfl;rw[e];simp only[List.take_zero,zAJ];omega
 | k + 1,hk=>by
   obtain⟨h1,h2,h3⟩:=ywo b l k (by omega)
   rw[zD (show k<l.length by omega),yblg]
   generalize l[k]=a
   have hc:∀m,(l.take k++[a]).countP (fun x=>decide (m<=x))=(l.take k).countP (fun x=>decide (m<=x))+if m<=a then 1 else 0:=fun m=>by
    rw[List.countP_append,zAG,zAJ];simp
   generalize top2 b (l.take k)=P at *
   unfold step2;split
   ·refine⟨by simp only;omega,by simp only;omega,fun m hm=>?_⟩
    obtain⟨h4,h5⟩:=h3 m hm;rw[hc];simp only;constructor
    ·split<;>omega
    ·split<;>omega
   ·refine⟨by simp only;omega,by simp only;omega,fun m hm=>?_⟩
    obtain⟨h4,h5⟩:=h3 m hm;rw[hc];simp only;constructor
    ·split<;>omega
    ·split<;>omega
theorem ybbi(b:Int)(l:List Int):b<=(top2 b l).2/\(top2 b l).2<=(top2 b l).1/\∀m,b<m->(m<=(top2 b l).1↔1<=l.countP fun x=>decide (m<=x))/\(m<=(top2 b l).2↔2<=l.countP fun x=>decide (m<=x)):=by
 have h:=ywo b l l.length (zG _)
 rwa [zK]at h
theorem yvy{p:Int×Int->Bool}:∀{ls:List (Int×Int)},(ls.map (·.1)).Nodup->(2<=ls.countP p↔∃a∈ls,∃b∈ls,a.1≠b.1/\p a=true/\p b=true)
 |[],_=>by simp
 | l :: ls,hn=>by
   have hn:=List.nodup_cons.1 hn;have ih:=yvy (p:=p) hn.2
   have one:1<=ls.countP p↔∃a∈ls,p a=true:=by
    rw[Nat.one_le_iff_ne_zero,Nat.ne_zero_iff_zero_lt,List.countP_pos_iff]
   have hno:∀a∈ls,l.1≠a.1:=fun a ha e=>hn.1 (List.mem_map.2 ⟨a,ha,e.symm⟩);rw[zAG];constructor
   ·intro h
    by_cases hp:p l=true
    ·rw[if_pos hp]at h;obtain⟨a,ha,hpa⟩:=one.1 (by omega)
     exact⟨l,zN,a,zF _ ha,hno a ha,hp,hpa⟩
    ·rw[if_neg hp]at h;obtain⟨a,ha,b,hb,q⟩:=ih.1 (by omega)
     exact⟨a,zF _ ha,b,zF _ hb,q⟩
   ·rintro⟨a,ha,b,hb,hab,hpa,hpb⟩;rcases List.mem_cons.1 ha with ea|ha
    ·rcases List.mem_cons.1 hb with eb|hb
     ·exact absurd (by rw[ea,eb]) hab
     ·have:=one.2 ⟨b,hb,hpb⟩;rw[<-ea,if_pos hpa];omega
    ·rcases List.mem_cons.1 hb with eb|hb
     ·have:=one.2 ⟨a,ha,hpa⟩;rw[<-eb,if_pos hpb];omega
     ·have:=ih.2 ⟨a,ha,b,hb,hab,hpa,hpb⟩;omega
theorem ybai(hg:ybj g)(hv:v<g.ports.length):((g.ports.getD v []).map (·.1)).Nodup:=by
 have h:=(hg.2.2.2.2.2.1 ⟨v,hv⟩).2;have e0:g.ports[v]=g.ports.getD v []:=by rw[Sh.getD_at hv]
 have h:((g.ports[v]).map (·.1)).Nodup:=h
 rwa [e0]at h
theorem ybzr(hg:ybj g)(hv:v<g.ports.length){f:Nat->Int}{m:Int}:2<=((g.ports.getD v []).map fun l=>f l.1.toNat).countP (fun x=>decide (m<=x))↔∃a b,adj g v a/\adj g v b/\a≠b/\m<=f a/\m<=f b:=by
 rw[List.countP_map,yvy (ybai hg hv)];constructor
 ·rintro⟨a,ha,b,hb,hne,hpa,hpb⟩;obtain⟨a1,_,a3,_⟩:=ycp hg hv ha;obtain⟨b1,_,b3,_⟩:=ycp hg hv hb;exact⟨_,_,a3,b3,by omega,of_decide_eq_true hpa,of_decide_eq_true hpb⟩
 ·rintro⟨a,b,ha,hb,hne,hpa,hpb⟩;obtain⟨la,hla,ea⟩:=ylj ha;obtain⟨lb,hlb,eb⟩:=ylj hb;exact⟨la,hla,lb,hlb,fun e=>hne (by rw[<-ea,<-eb,e]),decide_eq_true (by show m<=f la.1.toNat;rw[ea];exact hpa),decide_eq_true (by show m<=f lb.1.toNat;rw[eb];exact hpb)⟩
def htP(g:Gr)(v:Nat):Int:=(top2 0 ((g.ports.getD v []).map fun l=>rchP g v l.1.toNat)).2
theorem ybia(g:Gr)(v:Nat):0<=htP g v:=(ybbi 0 _).1
theorem ybjv(hg:ybj g)(hv:v<g.ports.length){m:Int}(hm:1<=m):m<=htP g v↔∃a b,adj g v a/\adj g v b/\a≠b/\m<=rchP g v a/\m<=rchP g v b:=by
 rw[<-ybzr hg hv (f:=fun u=>rchP g v u)];exact((ybbi 0 _).2.2 m (by omega)).2
theorem Tr.thru(h:Tr g)(hw:w<g.ports.length):∀(k:Nat) (v u x:Nat),adj g v u->dP g w u=dP g w v+1->x<g.ports.length->dP g x u<dP g x v->(dP g x u).toNat<k->dP g w x=dP g w u+dP g x u
 |0,v,u,x,_,_,_,_,hk=>by omega
 | k + 1,v,u,x,hu,hwu,hx,hs,hk=>by
   obtain⟨hv,hu'⟩:=h.good.adj_lt hu
   by_cases e:x=u
   ·subst e;rw[h.self hx];omega
   ·obtain⟨y,hy,h1⟩:=h.back hx hu' (fun q=>e q.symm);have hyv:y≠v:=fun q=>by subst q;omega
    have h2:=h.up hw hy
    have hw1:dP g w y=dP g w u+1:=by
     rcases h2 with h2|h2
     ·exact absurd (h.one hw hy (h.good.adj_symm hu) h2 (by omega)) hyv
     ·exact h2
    have:=h.nonneg hx (h.good.adj_lt hy).2;have ih:=Tr.thru h hw k u y x hy hw1 hx (by omega) (by omega)
    omega
theorem Tr.apart(h:Tr g)(ha:adj g v a)(hb:adj g v b)(hne:a≠b)(hw:w<g.ports.length)(hx:x<g.ports.length)(h1:dP g w a<dP g w v)(h2:dP g x b<dP g x v):dP g w x=dP g w v+dP g x v:=by
 have a1:=h.up hw ha;have b1:=h.up hw hb;have b2:=h.up hx hb
 have hwb:dP g w b=dP g w v+1:=by
  rcases b1 with q|q
  ·exact absurd (h.one hw ha hb (by omega) q) hne
  ·exact q
 have:=h.thru hw _ v b x hb hwb hx h2 (Nat.lt_succ_self _);omega
end
end
section
section
variable {nm nh nr:ByteArray}{g:Gr}{c:Conf}{v:Nat}
structure CnC(g:Gr)(c:Conf):Prop where
 len:c.length=g.ids.length
 row:∀v,v<g.ids.length->(c.getD v []).length=1/\(0<=(c.getD v []).getD 0 0/\(c.getD v []).getD 0 0<=g.ids.length)
end
end
section
section
variable {g:Gr}{a b u v w x:Nat}
def ybgd(g:Gr)(v:Nat)(e:Int):Prop:=(∀w,w<g.ports.length->dP g w v<=e)/\∃w,w<g.ports.length/\dP g w v=e
theorem Tr.side(h:Tr g)(hu:adj g v u)(hw:w<g.ports.length):(dP g w u<dP g w v/\dP g w v=dP g w u+1)\/(dP g w v<dP g w u/\dP g w u=dP g w v+1):=by
 rcases h.up hw hu with q|q<;>omega
theorem Tr.link(h:Tr g)(hu:adj g v u){ev eu:Int}(he:ybgd g v ev)(he':ybgd g u eu) :
 ev=max (rchP g u v-1) (rchP g v u)/\eu=max (rchP g v u-1) (rchP g u v):=by
 have key:∀{v u:Nat}{ev:Int},adj g v u->ybgd g v ev->ev=max (rchP g u v-1) (rchP g v u):=fun {v u ev} hu he=>by
  obtain⟨hv,hu'⟩:=h.good.adj_lt hu;obtain⟨e1,w,hw,e2⟩:=he
  have hle:ev<=max (rchP g u v-1) (rchP g v u):=by
   rcases h.side hu hw with⟨q,q2⟩|⟨q,q2⟩
   ·have:=yvi hw q;omega
   ·have:=yvi (u:=v) (v:=u) hw q;omega
  obtain⟨x,hx,x1,x2⟩:=h.rch_ex hu;obtain⟨y,hy,y1,y2⟩:=h.rch_ex (h.good.adj_symm hu);have a1:=e1 x hx;have a2:=e1 y hy;rcases h.side hu hy with⟨q,q2⟩|⟨q,q2⟩<;>omega
 exact⟨key hu he,key (h.good.adj_symm hu) he'⟩
theorem Tr.ht_link(h:Tr g)(hu:adj g v u):(rchP g u v-1<=rchP g v u->htP g v=rchP g u v-1)/\(rchP g v u<=rchP g u v-1->rchP g v u<=htP g v):=by
 obtain⟨hv,hu'⟩:=h.good.adj_lt hu;have p1:=h.rch_pos hu;have p2:=h.rch_pos (h.good.adj_symm hu);have from_:2<=rchP g u v->∃x,adj g v x/\x≠u/\rchP g u v=1+rchP g v x:=fun q=>h.rch_from (h.good.adj_symm hu) q;constructor
 ·intro hq;refine zAK ?_ ?_
  ·rcases zAB (htP g v) 1 with q|q
   ·omega
   ·obtain⟨a,b,ha,hb,hne,r1,r2⟩:=(ybjv h.good hv q).1 (zW _)
    by_cases e:a=u
    ·have:=h.rch_step (h.good.adj_symm hu) hb (fun e2=>hne (by rw[e,e2]))
     omega
    ·have:=h.rch_step (h.good.adj_symm hu) ha e;omega
  ·rcases zAB (rchP g u v) 2 with q|q
   ·have:=ybia g v;omega
   ·obtain⟨x,hx,hne,e⟩:=from_ q;exact(ybjv h.good hv (by omega)).2 ⟨x,u,hx,hu,hne,by omega,by omega⟩
 ·intro hq;obtain⟨x,hx,hne,e⟩:=from_ (by omega)
  exact(ybjv h.good hv p1).2 ⟨x,u,hx,hu,hne,by omega,by omega⟩
theorem Tr.higher(h:Tr g)(hu:adj g v u){ev eu:Int}(he:ybgd g v ev)(he':ybgd g u eu):(htP g v<htP g u↔eu<ev)/\(htP g v=htP g u↔eu=ev):=by
 obtain⟨l1,l2⟩:=h.link hu he he';obtain⟨a1,a2⟩:=h.ht_link hu;obtain⟨b1,b2⟩:=h.ht_link (h.good.adj_symm hu);rcases Int.lt_trichotomy (rchP g v u) (rchP g u v)with q|q|q
 ·have:=b1 (by omega)
  have:=a2 (by omega)
  omega
 ·have:=a1 (by omega)
  have:=b1 (by omega)
  omega
 ·have:=a1 (by omega)
  have:=b2 (by omega)
  omega
def Peak(g:Gr)(v:Nat):Prop:=∀u,adj g v u->htP g u<=htP g v
end
end
section
namespace Sh
section
variable {nm nd np nt nl:ByteArray}{g:Gr}
end
end Sh
end
section
def ResD(D:Nat->Prop)(res:Nat->Nat->Nat):Prop:=∀e w,e≠0->res e w≠0/\subB (res e w) e/\D (res e w)
theorem Sys.run_allD{S:Sys}{D:Nat->Prop}{res:Nat->Nat->Nat}(hr:ResD D res){J:Conf->Cnt->Prop}(hstep:∀c k s,J c k->s≠0->subB s (S.en c)->D s->J (S.mv c s) (addP k s (S.en (S.mv c s)))) :
 ∀(ws:List Nat) (c:Conf) (k:Cnt),J c k->∀p∈S.run res ws c k,J p.1 p.2
 |[],c,k,_,p,hp=>by cases hp
 | w :: ws,c,k,hJ,p,hp=>by
   unfold Sys.run at hp;split at hp
   ·cases hp
   ·rename_i h0
    obtain⟨r1,r2,r3⟩:=hr _ w h0;have hJ':=hstep c k _ hJ r1 r2 r3;rcases List.mem_cons.1 hp with e|e
    ·rw[e];exact hJ'
    ·exact Sys.run_allD hr hstep ws _ _ hJ' p e
theorem Sys.runs_allD{S:Sys}{D:Nat->Prop}{res:Nat->Nat->Nat}(hr:ResD D res){J:Conf->Cnt->Prop}(hstep:∀c k s,J c k->s≠0->subB s (S.en c)->D s->J (S.mv c s) (addP k s (S.en (S.mv c s)))){ws:List Nat}{c:Conf}(h:J c (yft (S.en c))):∀p∈S.runs res ws c,J p.1 p.2:=fun p hp=>by
 rcases List.mem_cons.1 hp with e|e
 ·rw[e];exact h
 ·exact Sys.run_allD hr hstep ws _ _ h p e
theorem ResD.ok{D:Nat->Prop}{res:Nat->Nat->Nat}(h:ResD D res):ybnp res:=fun e w h0=>⟨(h e w h0).1,(h e w h0).2.1⟩
structure ByRoundsC(S:Sys)(V:Conf->Prop)(D:Nat->Prop)(P:Nat->Nat->Conf->Prop):Prop where
 valid:∀c s,V c->s≠0->subB s (S.en c)->D s->V (S.mv c s)
 stay:∀c s v r r',r<=r'->r'<=r+1->V c->v<S.n->s.testBit v=false->subB s (S.en c)->D s->(∀u,u<S.n->P r u c)->P r' v c->P r' v (S.mv c s)
 move:∀c s v r,V c->v<S.n->s.testBit v=true->subB s (S.en c)->D s->(∀u,u<S.n->P r u c)->P (r+1) v (S.mv c s)
 rest:∀c v r,V c->v<S.n->(S.en c).testBit v=false->(∀u,u<S.n->P r u c)->P (r+1) v c
 less:∀r v c,P (r+1) v c->P r v c
structure RInvC(S:Sys)(V:Conf->Prop)(P:Nat->Nat->Conf->Prop)(c:Conf)(k:Cnt):Prop where
 valid:V c
 all:∀v,v<S.n->P k.rounds v c
 done:∀v,v<S.n->k.pend.testBit v=false->P (k.rounds+1) v c
 begun:k.begun<=k.rounds+1
section
variable {S:Sys}{V:Conf->Prop}{D:Nat->Prop}{P:Nat->Nat->Conf->Prop}
theorem ByRoundsC.start(h:ByRoundsC S V D P){c:Conf}(hv:V c)(h0:∀v,v<S.n->P 0 v c):RInvC S V P c (yft (S.en c)) :=
 ⟨hv,h0,fun v hn hb=>h.rest c v 0 hv hn hb h0,by simp[yft]⟩
theorem ByRoundsC.step(h:ByRoundsC S V D P)(c:Conf)(k:Cnt)(s:Nat)(hi:RInvC S V P c k)(h0:s≠0)(hs:subB s (S.en c))(hD:D s):RInvC S V P (S.mv c s) (addP k s (S.en (S.mv c s))):=by
 obtain⟨i1,i2,i3,i4⟩:=hi;have hv:=h.valid c s i1 h0 hs hD
 have hall:∀v,v<S.n->P k.rounds v (S.mv c s):=fun v hn=>by
  cases hb:s.testBit v with
  |true=>exact h.less _ _ _ (h.move c s v _ i1 hn hb hs hD i2)
  |false=>exact h.stay c s v _ _ (zG _) (zAQ _) i1 hn hb hs hD i2 (i2 v hn)
 have hnext:∀v,v<S.n->(difB k.pend s&&&S.en (S.mv c s)).testBit v=false->P (k.rounds+1) v (S.mv c s):=fun v hn hb=>by
  rw[Nat.testBit_and,ygp]at hb;cases hb1:s.testBit v with
  |true=>exact h.move c s v _ i1 hn hb1 hs hD i2
  | false =>
    cases hb2:k.pend.testBit v with
    |false=>exact h.stay c s v _ _ (zAQ _) (zG _) i1 hn hb1 hs hD i2 (i3 v hn hb2)
    | true =>
      rw[hb1,hb2]at hb;exact h.rest _ v _ hv hn (by simpa using hb) hall
 unfold addP;simp only
 by_cases hp:difB k.pend s&&&S.en (S.mv c s)=0
 ·simp only[if_pos hp];have hall':∀v,v<S.n->P (k.rounds+1) v (S.mv c s):=fun v hn=>hnext v hn (by rw[hp];simp)
  exact⟨hv,hall',fun v hn hb=>h.rest _ v _ hv hn hb hall',by show k.rounds+1<=_;simp⟩
 ·simp only[if_neg hp];exact⟨hv,hall,hnext,zG _⟩
theorem ByRoundsC.runs(h:ByRoundsC S V D P){res:Nat->Nat->Nat}(hr:ResD D res){ws:List Nat}{c:Conf}(hv:V c)(h0:∀v,v<S.n->P 0 v c):∀p∈S.runs res ws c,RInvC S V P p.1 p.2 :=
 Sys.runs_allD hr (fun c k s=>h.step c k s) (h.start hv h0)
theorem ByRoundsC.silent(h:ByRoundsC S V D P){c:Conf}(hv:V c)(h0:∀v,v<S.n->P 0 v c)(he:S.en c=0):∀r v,v<S.n->P r v c
 |0,v,hn=>h0 v hn
 |r+1,v,hn=>h.rest c v r hv hn (by rw[he];simp) (ByRoundsC.silent h hv h0 he r)
end
end
section
def hAt(c:Conf)(v:Nat):Int:=(c.getD v []).getD 0 0
def lAt(c:Conf)(v:Nat):Int:=(c.getD v []).getD 1 0
section
variable {nm nh nl nf nd nt ni:ByteArray}{g:Gr}{c:Conf}{u v w:Nat}
structure ElC(g:Gr)(c:Conf):Prop where
 len:c.length=g.ids.length
 row:∀v,v<g.ids.length->(c.getD v []).length=2/\(0<=hAt c v/\hAt c v<=g.ids.length)/\(lAt c v=0\/lAt c v=1)
open Classical in
end
end
section
structure Stab(g:Gr)(c:Conf)(v:Nat):Prop where
 low:¬Peak g v->lAt c v=0
 one:Peak g v->(∀u,adj g v u->htP g u<htP g v)->lAt c v=1
 two:Peak g v->∀u,adj g v u->htP g u=htP g v->lAt c u≠lAt c v
def ybch(g:Gr)(c:Conf):Prop:=∀v,v<g.ids.length->hAt c v=htP g v
section
variable {nm nh nl nf nd nt ni:ByteArray}{g:Gr}{c:Conf}{u v w s:Nat}
def yzb(g:Gr)(c:Conf):Prop:=ybch g c/\∃v,v<g.ids.length/\Peak g v/\lAt c v=1/\∀u,u<g.ids.length->lAt c u=1->u=v
end
end
section
theorem yws{α:Type}(f:α->Int)(p:α->Bool):∀(l:List α) (m:Int),m<=l.foldl (fun m w=>if p w then max m (f w)else m) m/\(∀w∈l,p w=true->f w<=l.foldl (fun m w=>if p w then max m (f w)else m) m)/\∀t,m<=t->(∀w∈l,p w=true->f w<=t)->l.foldl (fun m w=>if p w then max m (f w)else m) m<=t
 |[],m=>⟨zW _,fun w hw=>absurd hw zH,fun t ht _=>ht⟩
 | x :: l,m=>by
   obtain⟨h1,h2,h3⟩:=yws f p l (if p x then max m (f x)else m)
   rw[zT];refine⟨?_,fun w hw hp=>?_,fun t ht hl=>h3 t ?_ fun w hw=>hl w (zF _ hw)⟩
   ·refine zAC ?_ h1;split<;>omega
   ·rcases List.mem_cons.1 hw with e|hw
    ·subst e;refine zAC ?_ h1;rw[if_pos hp];omega
    ·exact h2 w hw hp
   ·by_cases q:p x=true
    ·rw[if_pos q];have:=hl x zN q;omega
    ·rw[if_neg q];exact ht
section
variable {g:Gr}{u v:Nat}
def ygs(g:Gr)(v u:Nat)(m:Int)(l:Int×Int):Int:=if (l.1 != (v:Int))=true then max m (1+rchP g u l.1.toNat)else m
theorem Tr.rch_loop(h:Tr g)(hu:adj g v u):(g.ports.getD u []).foldl (ygs g v u) 1=rchP g v u:=by
 obtain⟨hv,hul⟩:=h.good.adj_lt hu;obtain⟨h1,h2,h3⟩:=yws (fun l:Int×Int=>1+rchP g u l.1.toNat) (fun l:Int×Int=>l.1 != (v:Int)) (g.ports.getD u []) 1;refine zAK (h3 _ (h.rch_pos hu) fun l hl hp=>?_) ?_
 ·obtain⟨a1,_,a2,_⟩:=ycp h.good hul hl;rw[bne_iff_ne]at hp;exact h.rch_step hu a2 (fun e=>hp (by omega))
 ·rcases zAB (rchP g v u) 2 with q|q
  ·exact zAC (by omega) h1
  ·obtain⟨x,hx,hne,e⟩:=h.rch_from hu q;obtain⟨l,hl,el⟩:=ylj hx;obtain⟨a1,_⟩:=ycp h.good hul hl;have:=h2 l hl (by rw[bne_iff_ne];intro e;exact hne (by omega))
   rw[el]at this;rw[e];exact this
theorem Tr.rch_less(h:Tr g)(hu:adj g v u){l:Int×Int}(hl:l∈g.ports.getD u [])(hne:l.1≠(v:Int)):rchP g u l.1.toNat<rchP g v u:=by
 obtain⟨hv,hul⟩:=h.good.adj_lt hu;obtain⟨a1,_,a2,_⟩:=ycp h.good hul hl;have:=h.rch_step hu a2 (fun e=>hne (by omega))
 omega
def ymo(s:Int×Int)(x:Int):Int×Int:=(max s.1 x,max s.2 (min x s.1))
theorem ybaw{s:Int×Int}{x:Int}(h:s.2<=s.1):ymo s x=step2 s x:=by
 unfold ymo step2;split<;>(try split)<;>(refine Prod.ext ?_ ?_<;>simp only<;>omega)
theorem ybcn:∀(l:List Int) (s:Int×Int),s.2<=s.1->l.foldl ymo s=l.foldl step2 s
 |[],_,_=>rfl
 | x::l,s,h=>by
   rw[zT,zT,<-ybaw h];exact ybcn l _ (by unfold ymo;simp only;omega)
theorem ybvs(g:Gr)(v:Nat):(((g.ports.getD v []).map fun l=>rchP g v l.1.toNat).foldl ymo (0,0)).2=htP g v:=by
 rw[ybcn _ _ (zW _)];rfl
end
end
section
def yix(g:Gr)(k:Nat):Int:=(zS k).foldl (fun m v=>max m (ybp (ybo g v))) 0
abbrev yld(g:Gr):Int:=yix g g.ports.length
section
variable {g:Gr}{a b v:Nat}
theorem ygx(k:Nat):yix g (k+1)=max (yix g k) (ybp (ybo g k)):=by
 unfold yix;rw[zAL,zI];rfl
theorem yjf:∀k,0<=yix g k
 |0=>zW _
 | k+1=>by
   rw[ygx];have:=yjf k;omega
end
end
section
namespace Sh
open Go Ev
def ybwo:LO:=[o3 (.box 25 (.tmp 0)) 1 0,o3 (.mv (ci' 0)) 2 0,o3 (.mv (ci' 0)) 3 2]
def ybtp:LO:=[ld' true 2 1 6 0,cl' 64 [6] 7 1,o3 (.un .not (.tmp 7)) 8 3]
def ycds:LO:=[o3 (.mv (ci' 0)) 2 0,o3 (.mv (ci' 0)) 3 1]
def ycdw:LO:=[fa' 1 1 1 9 0,ld' false 1 9 10 1,ln' 10 11 3,o3 (.mv (ci' 0)) 12 0]
def ybvn:LO:=[bn' .lss 12 11 13 0]
def ycge:LO:=[ix' 1 10 12 14 0,ld' false 1 14 15 1,mv' 15 5 3]
def yceh:LO:=[mv' 3 16 0,mv' 5 17 0,ln' 17 18 2,bn' .add 16 18 19 7,mv' 19 3 15]
def ycap:LO:=[o3 (.bin .add (.tmp 12) (ci' 1)) 20 0,mv' 20 12 1]
def ycan:LO:=[fa' 0 1 1 21 0,ld' false 1 21 22 1,ln' 22 23 3,mv' 3 24 0,o3 (.bin .quo (.tmp 24) (ci' 2)) 25 8,mv' 23 2 7,mv' 25 3 63]
def c71:SC:=(.seq (.reg false ybwo) (.seq (.seq (.reg false ybtp) (.cond (.tmp 8) (.seq (.reg false ycds) .ret) .skip)) (.seq (.seq (.reg false ycdw) (.block 0 (.loop (.seq (.reg false ybvn) (.seq (.cond (.tmp 13) .skip (.exit 0)) (.seq (.block 1 (.seq (.reg false ycge) (.reg false yceh))) (.reg false ycap))))))) (.seq (.reg false ycan) .ret))))
theorem ycee:Fn 71 c71 [.t 2,.t 3]:=fn_0 Tryz.func71 (by kernel_rfl) (by kernel_rfl)
def ybtz:LO:=[o3 (.box 25 (.tmp 0)) 1 0,o3 (.mv (.const (.bool false))) 2 0]
def ybtu:LO:=[ld' true 2 1 5 0,cl' 76 [5] 6 1,o3 (.un .not (.tmp 6)) 7 3]
def ycga:LO:=[o3 (.mv (.const (.bool false))) 2 0]
def ybym:LO:=[ld' true 2 1 9 0,cl' 71 [9] 10 1,mv' 10 8 3,xt' 8 0 11 7,xt' 8 1 12 7,mv' 11 3 15,mv' 12 4 63]
def ybze:LO:=[mv' 4 13 0,mv' 3 14 0,o3 (.bin .sub (.tmp 14) (ci' 1)) 15 2,bn' .eql 13 15 16 7,mv' 16 2 15]
def c39:SC:=(.seq (.reg false ybtz) (.seq (.seq (.reg false ybtu) (.cond (.tmp 7) (.seq (.reg false ycga) .ret) .skip)) (.seq (.reg false ybym) (.seq (.reg false ybze) .ret))))
theorem ybxz:Fn 39 c39 [.t 2]:=fn_0 Tryz.func39 (by kernel_rfl) (by kernel_rfl)
def ybsh:LO:=[o3 (.box 25 (.tmp 0)) 1 0,o3 (.mv (ci' 0)) 2 0]
def ybtx:LO:=[ld' true 2 1 5 0,cl' 76 [5] 6 1,o3 (.un .not (.tmp 6)) 7 3]
def ycai:LO:=[o3 (.mv (.const (.int .i64 (-1)))) 2 0]
def ycbn:LO:=[o3 (.mv (ci' 0)) 3 0]
def ycav:LO:=[fa' 1 1 1 8 0,ld' false 1 8 9 1,ln' 9 10 3,o3 (.mv (ci' 0)) 11 0]
def ybtk:LO:=[bn' .lss 11 10 12 0]
def ycde:LO:=[mv' 11 13 0,mv' 13 4 1]
def ycfn:LO:=[mv' 3 14 0,ld' true 2 1 15 0,mv' 4 16 0,cl' 81 [15,16] 17 6,cl' 80 [17] 18 14,o3 (.mm true (.tmp 14) (.tmp 18)) 19 31,mv' 19 3 63]
def ybzh:LO:=[o3 (.bin .add (.tmp 11) (ci' 1)) 20 0,mv' 20 11 1]
def ybzb:LO:=[mv' 3 21 0,mv' 21 2 1]
def c46:SC:=(.seq (.reg false ybsh) (.seq (.seq (.reg false ybtx) (.cond (.tmp 7) (.seq (.reg false ycai) .ret) .skip)) (.seq (.reg false ycbn) (.seq (.seq (.reg false ycav) (.block 0 (.loop (.seq (.reg false ybtk) (.seq (.cond (.tmp 12) .skip (.exit 0)) (.seq (.block 1 (.seq (.reg false ycde) (.reg false ycfn))) (.reg false ybzh))))))) (.seq (.reg false ybzb) .ret)))))
theorem ybyq:Fn 46 c46 [.t 2]:=fn_0 Tryz.func46 (by kernel_rfl) (by kernel_rfl)
def ybyt:LO:=[o3 (.box 25 (.tmp 0)) 3 0,o3 (.mv (ci' 0)) 6 0]
def ycfa:LO:=[o3 (.mv (ci' 1)) 7 0]
def ycbj:LO:=[fa' 1 1 3 10 0,ld' false 1 10 11 1,mv' 2 12 0,ix' 1 11 12 13 7,ld' false 1 13 14 15,ln' 14 15 31,o3 (.mv (ci' 0)) 16 0]
def yboj:LO:=[bn' .lss 16 15 17 0]
def ybtn:LO:=[ix' 2 14 16 18 0,ld' true 2 18 19 1,o3 (.alloc 81 1 [.i .i64 0,.i .i64 0]) 9 0,o0 (.store 2 (.tmp 9) (.tmp 19)) 7]
def ybvi:LO:=[fa' 0 1 9 20 0,ld' false 1 20 21 1,mv' 1 22 0,bn' .neq 21 22 23 7]
def ybzq:LO:=[mv' 7 24 0,ld' true 2 3 25 0,mv' 2 26 0,fa' 0 1 9 27 0,ld' false 1 27 28 8,cl' 78 [25,26,28] 29 30,o3 (.bin .add (ci' 1) (.tmp 29)) 30 62,o3 (.mm true (.tmp 24) (.tmp 30)) 31 127,mv' 31 7 255]
def ybwr:LO:=[o3 (.bin .add (.tmp 16) (ci' 1)) 32 0,mv' 32 16 1]
def ycgl:LO:=[mv' 7 33 0,mv' 33 6 1]
def c78:SC:=(.seq (.reg false ybyt) (.seq (.reg false ycfa) (.seq (.seq (.reg false ycbj) (.block 0 (.loop (.seq (.reg false yboj) (.seq (.cond (.tmp 17) .skip (.exit 0)) (.seq (.block 1 (.seq (.reg false ybtn) (.seq (.reg false ybvi) (.cond (.tmp 23) (.reg false ybzq) .skip)))) (.reg false ybwr))))))) (.seq (.reg false ycgl) .ret))))
theorem ycah:Fn 78 c78 [.t 6]:=fn_0 Tryz.func78 (by kernel_rfl) (by kernel_rfl)
def ybyh:LO:=[o3 (.box 25 (.tmp 0)) 1 0,o3 (.mv (.const (.slice none 0 0))) 2 0]
def ybye:LO:=[fa' 0 1 1 10 0,ld' false 1 10 11 1,ln' 11 12 3,o3 (.mk 3 1 8 [.i .i64 0] (.tmp 12) (.tmp 12)) 13 7,mv' 13 3 15]
def ybxm:LO:=[fa' 1 1 1 14 0,ld' false 1 14 15 1,ln' 15 16 3,o3 (.mv (ci' 0)) 17 0]
def ybvp:LO:=[bn' .lss 17 16 18 0]
def ycgj:LO:=[mv' 17 19 0,ix' 1 15 17 20 0,ld' false 1 20 21 2,mv' 19 4 7,mv' 21 5 15]
def ybxp:LO:=[o3 (.mv (ci' 0)) 6 0]
def ybzx:LO:=[mv' 5 22 0,ln' 22 23 1,o3 (.mv (ci' 0)) 24 0]
def ybwy:LO:=[bn' .lss 24 23 25 0]
def ycdi:LO:=[ix' 2 22 24 26 0,ld' true 2 26 27 1,o3 (.alloc 81 1 [.i .i64 0,.i .i64 0]) 8 0,o0 (.store 2 (.tmp 8) (.tmp 27)) 7]
def ycfb:LO:=[ld' true 2 1 28 0,mv' 4 29 0,fa' 0 1 8 30 0,ld' false 1 30 31 4,cl' 78 [28,29,31] 32 15,mv' 32 9 31]
def ybrn:LO:=[mv' 3 33 0,mv' 4 34 0,mv' 3 35 0,mv' 4 36 0,ix' 1 35 36 37 12,ld' false 1 37 38 28,mv' 9 39 0,mv' 6 40 0,o3 (.mm false (.tmp 39) (.tmp 40)) 41 192,o3 (.mm true (.tmp 38) (.tmp 41)) 42 508,ix' 1 33 34 43 1023,o0 (.store 1 (.tmp 43) (.tmp 42)) 2047]
def ybqy:LO:=[mv' 6 44 0,mv' 9 45 0,o3 (.mm true (.tmp 44) (.tmp 45)) 46 3,mv' 46 6 7]
def ybql:LO:=[o3 (.bin .add (.tmp 24) (ci' 1)) 47 0,mv' 47 24 1]
def ybrk:LO:=[o3 (.bin .add (.tmp 17) (ci' 1)) 48 0,mv' 48 17 1]
def ybrh:LO:=[mv' 3 49 0,mv' 49 2 1]
def c42:SC:=(.seq (.reg false ybyh) (.seq (.reg false ybye) (.seq (.seq (.reg false ybxm) (.block 0 (.loop (.seq (.reg false ybvp) (.seq (.cond (.tmp 18) .skip (.exit 0)) (.seq (.block 1 (.seq (.reg false ycgj) (.seq (.reg false ybxp) (.seq (.reg false ybzx) (.block 2 (.loop (.seq (.reg false ybwy) (.seq (.cond (.tmp 25) .skip (.exit 2)) (.seq (.block 3 (.seq (.reg false ycdi) (.seq (.reg false ycfb) (.seq (.reg false ybrn) (.reg false ybqy))))) (.reg false ybql)))))))))) (.reg false ybrk))))))) (.seq (.reg false ybrh) .ret))))
theorem ycaa:Fn 42 c42 [.t 2]:=fn_0 Tryz.func42 (by kernel_rfl) (by kernel_rfl)
def ycev:LO:=[o3 (.box 25 (.tmp 0)) 2 0,o3 (.box 60 (.tmp 1)) 3 0,o3 (.mv (.const (.int .u32 0))) 4 0]
def yceq:LO:=[ld' true 2 2 8 0,cl' 79 [8] 9 1,o3 (.alloc 46 1 [.i .u32 0]) 5 0,o0 (.store 1 (.tmp 5) (.tmp 9)) 7]
def ybxl:LO:=[ld' true 2 2 10 0,cl' 68 [10] 11 1]
def yccy:LO:=[mv' 12 6 0]
def ycct:LO:=[o3 (.alloc 81 1 [.i .i64 0,.i .i64 0]) 7 0,o0 (.store 2 (.tmp 7) (.tmp 13)) 1]
def ycfs:LO:=[ld' false 1 3 14 0,mv' 6 15 0,o3 (.call (.tmp 14) [(.tmp 15)]) 16 3,ld' false 1 3 17 0,fa' 0 1 7 18 0,ld' false 1 18 19 16,o3 (.call (.tmp 17) [(.tmp 19)]) 20 63,bn' .lss 16 20 21 127]
def ycgc:LO:=[ld' false 1 5 22 0,mv' 6 23 0,o3 (.bin .shl (.const (.int .u32 1)) (.tmp 23)) 24 2,bn' .andNot 22 24 25 7,o0 (.store 1 (.tmp 5) (.tmp 25)) 15]
def ycff:LO:=[ld' false 1 5 26 0,mv' 26 4 1]
def c43:SC:=(.seq (.reg false ycev) (.seq (.reg false yceq) (.seq (.seq (.reg false ybxl) (.block 0 (.range (.tmp 11) [12,13] (.seq (.reg false yccy) (.reg false ycct)) (.block 1 (.seq (.reg true ycfs) (.cond (.tmp 21) (.reg true ycgc) .skip)))))) (.seq (.reg false ycff) .ret))))
theorem ycep:Fn 43 c43 [.t 4]:=fn_0 Tryz.func43 (by kernel_rfl) (by kernel_rfl)
def ybvy:LO:=[o3 (.box 25 (.tmp 0)) 1 0,o3 (.mv (ci' 0)) 2 0,o3 (.mv (ci' 0)) 3 2]
def ybsa:LO:=[ld' true 2 1 6 0,cl' 65 [6] 7 1,o3 (.un .not (.tmp 7)) 8 3]
def ycew:LO:=[o3 (.mv (ci' 0)) 2 0,o3 (.mv (ci' 0)) 3 1]
def ybyr:LO:=[o3 (.mv (ci' 0)) 4 0]
def ycgn:LO:=[o3 (.mv (ci' 0)) 5 0]
def ybuk:LO:=[mv' 5 9 0,fa' 1 1 1 10 0,ld' false 1 10 11 2,ln' 11 12 6,bn' .lss 9 12 13 15]
def ycbg:LO:=[mv' 4 16 0,fa' 1 1 1 17 0,ld' false 1 17 18 2,mv' 5 19 0,ix' 1 18 19 20 14,ld' false 1 20 21 30,ln' 21 22 62,bn' .add 16 22 23 127,mv' 23 4 255]
def ycgm:LO:=[mv' 5 14 0,o3 (.bin .add (.tmp 14) (ci' 1)) 15 1,mv' 15 5 3]
def ybxi:LO:=[fa' 1 1 1 24 0,ld' false 1 24 25 1,ln' 25 26 3,mv' 4 27 0,o3 (.bin .quo (.tmp 27) (ci' 2)) 28 8,mv' 26 2 7,mv' 28 3 63]
def c72:SC:=(.seq (.reg false ybvy) (.seq (.seq (.reg false ybsa) (.cond (.tmp 8) (.seq (.reg false ycew) .ret) .skip)) (.seq (.reg false ybyr) (.seq (.seq (.reg false ycgn) (.block 0 (.loop (.seq (.seq (.reg false ybuk) (.cond (.tmp 13) .skip (.exit 0))) (.seq (.block 1 (.reg false ycbg)) (.reg false ycgm)))))) (.seq (.reg false ybxi) .ret)))))
theorem ybzy:Fn 72 c72 [.t 2,.t 3]:=fn_0 Tryz.func72 (by kernel_rfl) (by kernel_rfl)
def yblo:LO:=[o3 (.box 25 (.tmp 0)) 1 0,o3 (.mv (.const (.bool false))) 2 0]
def ybnl:LO:=[ld' true 2 1 6 0,cl' 72 [6] 7 1,mv' 7 5 3,xt' 5 0 8 7,xt' 5 1 9 7,mv' 8 3 15,mv' 9 4 63]
def ybop:LO:=[ld' true 2 1 10 0,cl' 77 [10] 11 1,mv' 11 12 3,⟨.mv (.tmp 4),some 13,some (12,true),7⟩,⟨.mv (.tmp 3),some 14,some (12,true),7⟩,⟨.bin .sub (.tmp 14) (ci' 1),some 15,some (12,true),23⟩,⟨.bin .eql (.tmp 13) (.tmp 15),some 16,some (12,true),63⟩,o3 (.pick (.tmp 12) (.tmp 16) (.const (.bool false))) 17 127,mv' 17 2 255]
def c40:SC:=(.seq (.reg false yblo) (.seq (.reg false ybnl) (.seq (.reg false ybop) .ret)))
theorem yccz:Fn 40 c40 [.t 2]:=fn_0 Tryz.func40 (by kernel_rfl) (by kernel_rfl)
def ybuf:LO:=[o3 (.box 25 (.tmp 0)) 1 0,o3 (.mv (ci' 0)) 2 0]
def ybxh:LO:=[ld' true 2 1 5 0,cl' 77 [5] 6 1,o3 (.un .not (.tmp 6)) 7 3]
def ycdb:LO:=[o3 (.mv (.const (.int .i64 (-1)))) 2 0]
def ycfx:LO:=[o3 (.mv (ci' 0)) 3 0]
def ybxn:LO:=[o3 (.mv (ci' 0)) 4 0]
def ybss:LO:=[mv' 4 8 0,fa' 1 1 1 9 0,ld' false 1 9 10 2,ln' 10 11 6,bn' .lss 8 11 12 15]
def ybxo:LO:=[mv' 3 15 0,ld' true 2 1 16 0,mv' 4 17 0,cl' 82 [16,17] 18 6,o3 (.mm true (.tmp 15) (.tmp 18)) 19 15,mv' 19 3 31]
def ycey:LO:=[mv' 4 13 0,o3 (.bin .add (.tmp 13) (ci' 1)) 14 1,mv' 14 4 3]
def ybyu:LO:=[mv' 3 20 0,mv' 20 2 1]
def c47:SC:=(.seq (.reg false ybuf) (.seq (.seq (.reg false ybxh) (.cond (.tmp 7) (.seq (.reg false ycdb) .ret) .skip)) (.seq (.reg false ycfx) (.seq (.seq (.reg false ybxn) (.block 0 (.loop (.seq (.seq (.reg false ybss) (.cond (.tmp 12) .skip (.exit 0))) (.seq (.block 1 (.reg false ybxo)) (.reg false ycey)))))) (.seq (.reg false ybyu) .ret)))))
theorem ycad:Fn 47 c47 [.t 2]:=fn_0 Tryz.func47 (by kernel_rfl) (by kernel_rfl)
def ybxu:LO:=[o3 (.box 25 (.tmp 0)) 2 0,o3 (.mv (ci' 0)) 4 0]
def yccm:LO:=[o3 (.mv (ci' 0)) 5 0,o3 (.mv (ci' 0)) 6 1]
def ybzf:LO:=[o3 (.mv (ci' 0)) 7 0]
def ybnh:LO:=[mv' 7 9 0,fa' 1 1 2 10 0,ld' false 1 10 11 2,mv' 1 12 0,ix' 1 11 12 13 14,ld' false 1 13 14 30,ln' 14 15 62,bn' .lss 9 15 16 127]
def ybth:LO:=[ld' true 2 2 19 0,mv' 1 20 0,mv' 7 21 0,cl' 113 [19,20,21] 22 7,mv' 22 8 15]
def ybtv:LO:=[mv' 8 23 0,mv' 5 24 0,bn' .gtr 23 24 25 3]
def ycbv:LO:=[mv' 8 26 0,mv' 5 27 0,mv' 26 5 3,mv' 27 6 7]
def ycaj:LO:=[mv' 6 28 0,mv' 8 29 0,o3 (.mm true (.tmp 28) (.tmp 29)) 30 3,mv' 30 6 7]
def ybsw:LO:=[mv' 7 17 0,o3 (.bin .add (.tmp 17) (ci' 1)) 18 1,mv' 18 7 3]
def ybzn:LO:=[mv' 6 31 0,mv' 31 4 1]
def c87:SC:=(.seq (.reg false ybxu) (.seq (.reg false yccm) (.seq (.seq (.reg false ybzf) (.block 0 (.loop (.seq (.seq (.reg false ybnh) (.cond (.tmp 16) .skip (.exit 0))) (.seq (.block 1 (.seq (.reg false ybth) (.seq (.reg false ybtv) (.cond (.tmp 25) (.reg false ycbv) (.reg false ycaj))))) (.reg false ybsw)))))) (.seq (.reg false ybzn) .ret))))
theorem ycdd:Fn 87 c87 [.t 4]:=fn_0 Tryz.func87 (by kernel_rfl) (by kernel_rfl)
def ybqk:LO:=[o3 (.box 25 (.tmp 0)) 3 0,o3 (.mv (ci' 0)) 6 0]
def ybqp:LO:=[fa' 1 1 3 10 0,ld' false 1 10 11 1,mv' 1 12 0,ix' 1 11 12 13 7,ld' false 1 13 14 15,mv' 2 15 0,ix' 2 14 15 16 63,fa' 0 1 16 17 127,ld' false 1 17 18 255,mv' 18 7 511,o3 (.mv (ci' 1)) 8 1023]
def ybqx:LO:=[o3 (.mv (ci' 0)) 9 0]
def ybbl:LO:=[mv' 9 19 0,fa' 1 1 3 20 0,ld' false 1 20 21 2,mv' 7 22 0,ix' 1 21 22 23 14,ld' false 1 23 24 30,ln' 24 25 62,bn' .lss 19 25 26 127]
def ybkc:LO:=[fa' 1 1 3 29 0,ld' false 1 29 30 1,mv' 7 31 0,ix' 1 30 31 32 7,ld' false 1 32 33 15,mv' 9 34 0,ix' 2 33 34 35 63,fa' 0 1 35 36 127,ld' false 1 36 37 255,mv' 1 38 0,bn' .neq 37 38 39 1023]
def ybrc:LO:=[mv' 8 40 0,ld' true 2 3 41 0,mv' 7 42 0,mv' 9 43 0,cl' 113 [41,42,43] 44 14,o3 (.bin .add (ci' 1) (.tmp 44)) 45 30,o3 (.mm true (.tmp 40) (.tmp 45)) 46 63,mv' 46 8 127]
def ybic:LO:=[mv' 9 27 0,o3 (.bin .add (.tmp 27) (ci' 1)) 28 1,mv' 28 9 3]
def ybqt:LO:=[mv' 8 47 0,mv' 47 6 1]
def c113:SC:=(.seq (.reg false ybqk) (.seq (.reg false ybqp) (.seq (.seq (.reg false ybqx) (.block 0 (.loop (.seq (.seq (.reg false ybbl) (.cond (.tmp 26) .skip (.exit 0))) (.seq (.block 1 (.seq (.reg false ybkc) (.cond (.tmp 39) (.reg false ybrc) .skip))) (.reg false ybic)))))) (.seq (.reg false ybqt) .ret))))
theorem ybwv:Fn 113 c113 [.t 6]:=fn_0 Tryz.func113 (by kernel_rfl) (by kernel_rfl)
end Sh
end
section
def ydr(g:Gr)(k:Nat):Nat:=((g.ports.take k).map zAF).sum
theorem yia{g:Gr}{k:Nat}(h:k<g.ports.length):ydr g (k+1)=ydr g k+(g.ports.getD k []).length:=by
 unfold ydr;rw[zD h,zAM,List.sum_append,Sh.getD_at h];simp
theorem ygf{g:Gr}(hg:ybj g):∀k,k<=g.ports.length->ydr g k<=24*k
 |0,_=>by simp[ydr]
 | k+1,h=>by
   rw[yia (by omega)]
   have:=ygf hg k (by omega)
   have:=hg.deg_lt (v:=k);omega
theorem yow(g:Gr):ydr g g.ports.length=ydg g:=by unfold ydr ydg;rw[zK]
def yjs(g:Gr):Nat:=ydg g/2
namespace Sh
open Ev Go.RowKit
def ybdl(g:Gr):List SV:=if ybw g=true then[.i .i64 g.ports.length,.i .i64 (yjs g)]else[.i .i64 0,.i .i64 0]
theorem ybbr(n:Nat):((n:Nat):Int).tdiv 2=((n/2:Nat):Int):=by
 rw[Int.tdiv_eq_ediv_of_nonneg (by omega)]
 omega
theorem ybie{g:Gr}(hI:GrI g):Returns zO 71 [grV g] (.tp (ybdl g)):=by
 refine Returns.of (ycee _ _ ?_);have hV:=yqt hI;unfold ybdl;cases hv:ybw g with
 | false =>
   rw[hv]at hV;simp only[grV]at hV;simp only[c71,ybwo,ybtp,ycds,grV,clash,go_sem,zA,zB,zC,↓reduceIte];refine hV.use ?_;simp only[ybk,clash,go_sem,zA,zB,↓reduceIte];exact Sim.refl _
 | true =>
   have hg:=(ybr g).1 hv;have h24:=hg.2.1;have hpl:=hg.2.2.1;obtain⟨n,hn⟩:∃n,g.ports.length=n:=⟨_,rfl⟩;rw[hv]at hV;simp only[grV]at hV;rw[hn]at h24 hpl;simp only[c71,ybwo,ybtp,ycdw,grV,clash,go_sem,zA,zB,zC,↓reduceIte];refine hV.use ?_;simp only[ybk,yw,hn,clash,go_sem,zA,zB,↓reduceIte,reduceCtorEq];refine ycm (σ:=Nat) (fun k=>⟨[(12,.i .i64 k),(11,.i .i64 n),(10,yw g.ports),(3,.i .i64 (ydr g k:Nat)),(1,.pt (1,0) 0 0)],[(1,.one (some ⟨25,true,2,1,fun _=>[ybg g.ids,yw g.ports]⟩))]⟩) (fun k=>k<=n) (fun k=>n-k) 0 (zQ _) ?_ ?_
   ·refine ybc [] [] [] ?_;simp only[yw,hn,allQ,live,yj,ydb,zL,go_sem,zA,↓reduceIte,reduceCtorEq];rfl
   intro k hk
   by_cases hlt:k<n
   ·have t1:decide ((k:Int)<(n:Int))=true:=decide_eq_true (by omega)
    have hs:=yia (g:=g) (k:=k) (by omega)
    have hb:=ygf hg k (by omega)
    have hd:=hg.deg_lt (v:=k);obtain⟨d,hdd⟩:∃d,(g.ports.getD k []).length=d:=⟨_,rfl⟩;rw[hdd]at hs hd;have e:(ydr g k:Int)+(d:Int)=((ydr g (k+1):Nat):Int):=by rw[hs];omega
    simp only[ybvn,ycge,yceh,ycap,yw,ybh,hn,t1,hdd,e,clash,go_sem,zA,zB,↓reduceIte,reduceCtorEq];refine⟨by omega,ikw (by omega) (by omega),ikw (by omega) (by omega),?_⟩
    refine ybd (k+1) (by omega) (by omega) ?_
    refine ybc [] [] [] ?_;simp only[allQ,live,yj,ydb,go_sem,zA,↓reduceIte,reduceCtorEq];omega
   ·obtain rfl:k=n:=by omega
    have t1:decide ((k:Int)<(k:Int))=false:=decide_eq_false (by omega)
    have hb:=ygf hg k (by omega)
    have e:=yow g;rw[hn]at e;have e2:=ybbr (ydr g k);simp only[ybvn,ycan,yw,ybg,hn,hpl,t1,e2,clash,go_sem,zA,zB,zM,↓reduceIte,reduceCtorEq];unfold yjs;rw[<-e];exact⟨⟨by decide,ikw (by omega) (by omega)⟩,Sim.refl _⟩
theorem ybig{g:Gr}(hI:GrI g):Returns zO 39 [grV g] (.b (ybs g)):=by
 refine Returns.of (ybxz _ _ ?_);have hC:=yvm hI;have hS:=ybie hI;unfold ybs;cases hcn:ydd g with
 | false =>
   rw[hcn]at hC;simp only[grV]at hC;simp only[c39,ybtz,ybtu,ycga,grV,clash,go_sem,zA,zB,zC,↓reduceIte];refine hC.use ?_;simp only[ybk,clash,go_sem,zB,↓reduceIte];exact Sim.refl _
 | true =>
   have hv:=yfb hcn;have hg:=(ybr g).1 hv;have h24:=hg.2.1;rw[hcn]at hC;unfold ybdl at hS;rw[if_pos hv]at hS;simp only[grV]at hC hS;simp only[c39,ybtz,ybtu,ybym,ybze,grV,clash,go_sem,zA,zB,zC,↓reduceIte];refine hC.use ?_;simp only[ybk,clash,go_sem,zA,zB,↓reduceIte,reduceCtorEq];refine hS.use ?_;simp only[go_sem,zA,↓reduceIte];refine⟨ikw (by omega) (by omega),?_⟩
   have e:(((yjs g:Nat):Int)==(g.ports.length:Int)-1)=decide (ydg g/2+1=g.ports.length):=by
    rw[zAN,beq_iff_eq,decide_eq_true_iff];unfold yjs;omega
   rw[<-e];exact Sim.refl _
theorem yzw{g:Gr}(hg:ybj g):∀k,k<=g.ports.length->yix g k<=24
 |0,_=>by show(0:Int)<=24;decide
 | k+1,h=>by
   rw[ygx];have h1:=yzw hg k (by omega)
   have h2:ybp (ybo g k)<=24:=yvl _ _ (by omega) fun x hx=>((ydc hg (a:=k) (by omega)).bound hg (by omega) x hx).2
   omega
theorem ybio{g:Gr}(hI:GrI g):Returns zO 46 [grV g] (.i .i64 (if ydd g=true then yld g else -1)):=by
 refine Returns.of (ybyq _ _ ?_);have hC:=yvm hI;cases hcn:ydd g with
 | false =>
   rw[hcn]at hC;simp only[grV]at hC;simp only[c46,ybsh,ybtx,ycai,grV,clash,go_sem,zA,zB,zC,↓reduceIte];refine hC.use ?_;simp only[ybk,clash,go_sem,zB,↓reduceIte];exact Sim.refl _
 | true =>
   have hg:=(ybr g).1 (yfb hcn);have h24:=hg.2.1;have hd0:yix g 0=0:=rfl;obtain⟨n,hn⟩:∃n,g.ports.length=n:=⟨_,rfl⟩;rw[hcn]at hC;simp only[grV]at hC;rw[hn]at h24;simp only[c46,ybsh,ybtx,ycbn,ycav,grV,clash,go_sem,zA,zB,zC,↓reduceIte];refine hC.use ?_;simp only[ybk,yw,hn,clash,go_sem,zA,zB,↓reduceIte,reduceCtorEq];refine ycm (σ:=Nat) (fun k=>⟨[(11,.i .i64 k),(10,.i .i64 n),(3,.i .i64 (yix g k)),(1,.pt (1,0) 0 0)],[(1,.one (some ⟨25,true,2,1,fun _=>[ybg g.ids,yw g.ports]⟩))]⟩) (fun k=>k<=n) (fun k=>n-k) 0 (zQ _) ?_ ?_
   ·refine ybc [] [] [] ?_;simp only[yw,hn,hd0,allQ,live,yj,zL,go_sem,zA,↓reduceIte,reduceCtorEq]
   intro k hk
   by_cases hlt:k<n
   ·have t1:decide ((k:Int)<(n:Int))=true:=decide_eq_true (by omega)
    have hS:=ybei hg (a:=k) (by omega)
    have hl:=yfw hg (a:=k) (by omega)
    have hG:=yvw (ybo g k) (by omega)
    have hs:=ygx (g:=g) k;obtain⟨D,hD⟩:∃D,ybo g k=D:=⟨_,rfl⟩;rw[hD]at hS hG hs hl;simp only[grV]at hS;simp only[ybg,hl]at hG hS;simp only[ybtk,ycde,ycfn,ybzh,yw,t1,clash,go_sem,zA,zB,↓reduceIte,reduceCtorEq];refine hS.use ?_;simp only[ybk,clash,go_sem,zA,zB,↓reduceIte,reduceCtorEq];refine hG.use ?_;simp only[<-hs,go_sem,zA,↓reduceIte];refine⟨ikw (by omega) (by omega),?_⟩
    refine ybd (k+1) (by omega) (by omega) ?_
    refine ybc [] [] [] ?_;simp only[go_sem,allQ,live,yj,ydb,go_sem,zA,↓reduceIte,reduceCtorEq];omega
   ·obtain rfl:k=n:=by omega
    have t1:decide ((k:Int)<(k:Int))=false:=decide_eq_false (by omega)
    simp only[ybtk,ybzb,t1,clash,go_sem,zA,zB,↓reduceIte,reduceCtorEq];unfold yld;rw[hn];exact Sim.refl _
theorem ybgz{g:Gr}(hI:GrI g):Returns zO 72 [grV g] (.tp (ybdl g)):=by
 refine Returns.of (ybzy _ _ ?_);have hV:=ybdm hI;unfold ybdl;cases hv:ybw g with
 | false =>
   rw[hv]at hV;simp only[grV]at hV;simp only[c72,ybvy,ybsa,ycew,grV,clash,go_sem,zA,zB,zC,↓reduceIte];refine hV.use ?_;simp only[ybk,clash,go_sem,zA,zB,↓reduceIte];exact Sim.refl _
 | true =>
   have hg:=(ybr g).1 hv;have h24:=hg.2.1;obtain⟨n,hn⟩:∃n,g.ports.length=n:=⟨_,rfl⟩;rw[hv]at hV;simp only[grV]at hV;rw[hn]at h24;simp only[c72,ybvy,ybsa,ybyr,ycgn,grV,clash,go_sem,zA,zB,zC,↓reduceIte];refine hV.use ?_;simp only[ybk,clash,go_sem,zB,↓reduceIte];refine ycm (σ:=Nat) (fun k=>⟨[(5,.i .i64 k),(4,.i .i64 (ydr g k:Nat)),(1,.pt (1,0) 0 0)],[(1,.one (some ⟨25,true,2,1,fun _=>[ybg g.ids,yw g.ports]⟩))]⟩) (fun k=>k<=n) (fun k=>n-k) 0 (zQ _) ?_ ?_
   ·refine ybc [] [] [] ?_;simp only[go_sem,allQ,live,yj,ydb,zL,go_sem,zA,↓reduceIte,reduceCtorEq];rfl
   intro k hk
   by_cases hlt:k<n
   ·have t1:decide ((k:Int)<(n:Int))=true:=decide_eq_true (by omega)
    have hs:=yia (g:=g) (k:=k) (by omega)
    have hb:=ygf hg k (by omega)
    have hd:=hg.deg_lt (v:=k);obtain⟨d,hdd⟩:∃d,(g.ports.getD k []).length=d:=⟨_,rfl⟩;rw[hdd]at hs hd;have e:(ydr g k:Int)+(d:Int)=((ydr g (k+1):Nat):Int):=by rw[hs];omega
    simp only[ybuk,ycgm,ycbg,yw,ybh,hn,t1,hdd,e,clash,go_sem,zA,zB,↓reduceIte,reduceCtorEq];refine⟨⟨by omega,by omega⟩,ikw (by omega) (by omega),ikw (by omega) (by omega),?_⟩
    refine ybd (k+1) (by omega) (by omega) ?_
    refine ybc [] [] [] ?_;simp only[allQ,live,yj,ydb,go_sem,zA,↓reduceIte,reduceCtorEq];omega
   ·obtain rfl:k=n:=by omega
    have t1:decide ((k:Int)<(k:Int))=false:=decide_eq_false (by omega)
    have e:=yow g;rw[hn]at e;have e2:=ybbr (ydr g k);have hb:=ygf hg k (by omega)
    simp only[ybuk,ybxi,yw,hn,t1,e2,clash,go_sem,zA,zB,↓reduceIte,reduceCtorEq];unfold yjs;rw[<-e];exact⟨⟨by decide,ikw (by omega) (by omega)⟩,Sim.refl _⟩
theorem ybad{g:Gr}(hI:GrI g):Returns zO 40 [grV g] (.b (ybs g)):=by
 refine Returns.of (yccz _ _ ?_);have hC:=ytm hI;have hS:=ybgz hI;unfold ybs;unfold ybdl at hS;cases hcn:ydd g with
 | false =>
   rw[hcn]at hC;simp only[grV]at hC hS;cases hv:ybw g with
   | false =>
     rw[hv,if_neg (by decide)]at hS
     simp only[c40,yblo,ybnl,ybop,grV,clash,go_sem,zA,zB,zC,↓reduceIte];refine hS.use ?_;simp only[ybk,clash,go_sem,zA,zB,↓reduceIte,reduceCtorEq];refine hC.use ?_;simp only[clash,go_sem,zA,zB,↓reduceIte,reduceCtorEq];exact Sim.refl _
   | true =>
     rw[hv,if_pos rfl]at hS;simp only[c40,yblo,ybnl,ybop,grV,clash,go_sem,zA,zB,zC,↓reduceIte];refine hS.use ?_;simp only[ybk,clash,go_sem,zA,zB,↓reduceIte,reduceCtorEq];refine hC.use ?_;simp only[clash,go_sem,zA,zB,↓reduceIte,reduceCtorEq];exact Sim.refl _
 | true =>
   have hv:=yfb hcn;have hg:=(ybr g).1 hv;have h24:=hg.2.1;rw[hcn]at hC;rw[if_pos hv]at hS;simp only[grV]at hC hS;simp only[c40,yblo,ybnl,ybop,grV,clash,go_sem,zA,zB,zC,↓reduceIte];refine hS.use ?_;simp only[ybk,clash,go_sem,zA,zB,↓reduceIte,reduceCtorEq];refine hC.use ?_;simp only[clash,go_sem,zA,zB,↓reduceIte,reduceCtorEq]
   have e:(((yjs g:Nat):Int)==(g.ports.length:Int)-1)=decide (ydg g/2+1=g.ports.length):=by
    rw[zAN,beq_iff_eq,decide_eq_true_iff];unfold yjs;omega
   rw[<-e];exact⟨ikw (by omega) (by omega),Sim.refl _⟩
theorem ybjm{g:Gr}(hI:GrI g):Returns zO 47 [grV g] (.i .i64 (if ydd g=true then yld g else -1)):=by
 refine Returns.of (ycad _ _ ?_);have hC:=ytm hI;cases hcn:ydd g with
 | false =>
   rw[hcn]at hC;simp only[grV]at hC;simp only[c47,ybuf,ybxh,ycdb,grV,clash,go_sem,zA,zB,zC,↓reduceIte];refine hC.use ?_;simp only[ybk,clash,go_sem,zB,↓reduceIte];exact Sim.refl _
 | true =>
   have hg:=(ybr g).1 (yfb hcn);have h24:=hg.2.1;have hd0:yix g 0=0:=rfl;obtain⟨n,hn⟩:∃n,g.ports.length=n:=⟨_,rfl⟩;rw[hcn]at hC;simp only[grV]at hC;rw[hn]at h24;simp only[c47,ybuf,ybxh,ycfx,ybxn,grV,clash,go_sem,zA,zB,zC,↓reduceIte];refine hC.use ?_;simp only[ybk,clash,go_sem,zB,↓reduceIte];refine ycm (σ:=Nat) (fun k=>⟨[(4,.i .i64 k),(3,.i .i64 (yix g k)),(1,.pt (1,0) 0 0)],[(1,.one (some ⟨25,true,2,1,fun _=>[ybg g.ids,yw g.ports]⟩))]⟩) (fun k=>k<=n) (fun k=>n-k) 0 (zQ _) ?_ ?_
   ·refine ybc [] [] [] ?_;simp only[hd0,allQ,live,yj,zL,go_sem,zA,↓reduceIte,reduceCtorEq]
   intro k hk
   by_cases hlt:k<n
   ·have t1:decide ((k:Int)<(n:Int))=true:=decide_eq_true (by omega)
    have hE:=ybow hI (v:=(k:Int)) (yfk (by omega))
    have hec:eccP g (k:Int)=ybp (ybo g k):=by
     unfold eccP;rw[if_pos ⟨hcn,by omega,by omega⟩,zAE]
    rw[hec]at hE;have hs:=ygx (g:=g) k;simp only[grV,yw,hn]at hE;simp only[ybss,ycey,ybxo,yw,hn,t1,clash,go_sem,zA,zB,↓reduceIte,reduceCtorEq];refine hE.use ?_;simp only[ybk,clash,<-hs,go_sem,zA,zB,↓reduceIte,reduceCtorEq];refine⟨ikw (by omega) (by omega),?_⟩
    refine ybd (k+1) (by omega) (by omega) ?_
    refine ybc [] [] [] ?_;simp only[go_sem,allQ,live,yj,ydb,go_sem,zA,↓reduceIte,reduceCtorEq];omega
   ·obtain rfl:k=n:=by omega
    have t1:decide ((k:Int)<(k:Int))=false:=decide_eq_false (by omega)
    simp only[ybss,ybyu,yw,hn,t1,clash,go_sem,zA,zB,↓reduceIte,reduceCtorEq];unfold yld;rw[hn];exact Sim.refl _
end Sh
end
section
theorem ybti{g:Gr}(hg:ybj g)(ht:ybs g=true)(he:ydg g%2=0):Tr g:=by
 unfold ybs at ht;rw[zZ,decide_eq_true_iff]at ht;exact⟨hg,ht.1,ycay hg ht.1 (by omega)⟩
theorem Tr.rch_le{g:Gr}(h:Tr g){v u:Nat}(hu:adj g v u):1<=rchP g v u/\rchP g v u<=24:=by
 obtain⟨w,hw,_,e⟩:=h.rch_ex hu;have:=h.lt_n hw (h.good.adj_lt hu).1;have:=h.good.2.1;have:=h.rch_pos hu;omega
def htS(g:Gr)(v i:Nat):Int×Int:=(((g.ports.getD v []).take i).map fun l=>rchP g v l.1.toNat).foldl ymo (0,0)
theorem ysm{g:Gr}{v i:Nat}(hi:i<(g.ports.getD v []).length):htS g v (i+1)=ymo (htS g v i) (rchP g v ((g.ports.getD v []).getD i (0,0)).1.toNat):=by
 unfold htS;rw[zD hi,zAM,zI,Sh.getD_at hi];rfl
theorem ybak(g:Gr)(v:Nat):(htS g v (g.ports.getD v []).length).2=htP g v:=by
 unfold htS;rw[zK];exact ybvs g v
theorem ybbh{g:Gr}(h:Tr g){v:Nat}(hv:v<g.ports.length):∀i,i<=(g.ports.getD v []).length->(0<=(htS g v i).2/\(htS g v i).2<=(htS g v i).1)/\(htS g v i).1<=24
 |0,_=>by simp[htS]
 | i+1,hi=>by
   have ih:=ybbh h hv i (by omega)
   have hm:(g.ports.getD v []).getD i (0,0)∈g.ports.getD v []:=by rw[Sh.getD_at (show i<_ by omega)];exact zV _
   have hr:=h.rch_le (ycp h.good hv hm).2.2.1;rw[ysm (by omega)]
   unfold ymo;simp only;omega
theorem Tr.ht_le{g:Gr}(h:Tr g){v:Nat}(hv:v<g.ports.length):0<=htP g v/\htP g v<=24:=by
 have:=ybbh h hv _ (zG _);rw[<-ybak g v];omega
def rchS(g:Gr)(v u i:Nat):Int:=((g.ports.getD u []).take i).foldl (ygs g v u) 1
theorem yvu{g:Gr}{v u i:Nat}(hi:i<(g.ports.getD u []).length):rchS g v u (i+1)=ygs g v u (rchS g v u i) ((g.ports.getD u []).getD i (0,0)):=by
 unfold rchS;rw[zD hi,zI,Sh.getD_at hi];rfl
namespace Sh
open Ev Go.RowKit
theorem yvs{g:Gr}(h:Tr g):∀(k v u:Nat),adj g v u->(rchP g v u).toNat<=k->Returns zO 78 [grV g,.i .i64 v,.i .i64 u] (.i .i64 (rchP g v u))
 |0,v,u,hu,hk=>by have:=h.rch_pos hu;omega
 | k + 1,v,u,hu,hk=>by
   refine Returns.of (ycah _ _ ?_);have ih:=yvs h k;obtain⟨hv,hul⟩:=h.good.adj_lt hu;have h24:=h.good.2.1;have hlo:=h.rch_loop hu;have hrs:∀i,rchS g v u i=((g.ports.getD u []).take i).foldl (ygs g v u) 1:=fun _=>rfl;have hsu:=fun i=>yvu (g:=g) (v:=v) (u:=u) (i:=i);have hle:=h.rch_le hu;obtain⟨L,hL⟩:∃L,g.ports.getD u []=L:=⟨_,rfl⟩;have hdeg:=h.good.deg_lt (v:=u)
   have hadj:∀l∈L,0<=l.1/\l.1.toNat<g.ports.length/\adj g u l.1.toNat:=fun l hl=>by
    obtain⟨a,b,c,_⟩:=ycp h.good hul (by rw[hL];exact hl)
    exact⟨a,b,c⟩
   have hless:∀l∈L,l.1≠(v:Int)->rchP g u l.1.toNat<rchP g v u:=fun l hl=>h.rch_less hu (by rw[hL];exact hl)
   rw[hL]at hlo hdeg hrs;simp only[hL]at hsu;obtain⟨d,hd⟩:∃d,L.length=d:=⟨_,rfl⟩;obtain⟨S,hS⟩:∃S:Nat->Int,(fun i=>rchS g v u i)=S:=⟨_,rfl⟩;have hS':∀i,rchS g v u i=S i:=fun i=>by rw[<-hS]
   simp only[hS']at hsu hrs;rw[hd]at hdeg hsu;have hS0:S 0=1:=by rw[hrs];rfl
   have hSd:S d=rchP g v u:=by rw[hrs,<-hd,zK,hlo]
   rw[<-hSd]at hless hle ⊢;simp only[grV]at ih;simp only[c78,ybyt,ycfa,ycbj,grV,yw,ybh,hL,hd,clash,go_sem,zA,zB,zC,↓reduceIte,reduceCtorEq];refine⟨⟨by omega,by omega⟩,?_⟩
   refine ycm (σ:=Nat) (fun i=>⟨[(16,.i .i64 i),(15,.i .i64 d),(14,ybh L),(7,.i .i64 (S i)),(1,.i .i64 v),(2,.i .i64 u),(3,.pt (3,0) 0 0)],[(3,.one (some ⟨25,true,2,1,fun _=>[ybg g.ids,yw g.ports]⟩))]⟩) (fun i=>i<=d) (fun i=>d-i) 0 (zQ _) ?_ ?_
   ·refine ybc [] [] [] ?_;simp only[yw,ybh,hd,hS0,allQ,live,yj,zL,go_sem,zA,↓reduceIte,reduceCtorEq]
   intro i hi
   by_cases hlt:i<d
   ·have t1:decide ((i:Int)<(d:Int))=true:=decide_eq_true (by omega)
    have hm:L.getD i (0,0)∈L:=by rw[getD_at (show i<L.length by omega)];exact zV _
    have hss:=hsu i hlt;obtain⟨l,hl⟩:∃l,L.getD i (0,0)=l:=⟨_,rfl⟩;rw[hl]at hm hss;obtain⟨a1,a2,a3⟩:=hadj l hm
    by_cases hlv:l.1=(v:Int)
    ·have t2:(l.1 != (v:Int))=false:=by rw[hlv];simp
     have e:S (i+1)=S i:=by
      rw[hss];unfold ygs;rw[if_neg (by rw[t2];decide)]
     simp only[yboj,ybtn,ybvi,ybwr,ybh,hd,hl,t1,t2,splice,clash,go_sem,zA,zB,zM,zC,↓reduceIte,reduceCtorEq];refine⟨by omega,ikw (by omega) (by omega),?_⟩
     refine ybd (i+1) (by omega) (by omega) ?_
     refine ybc [] [] [] ?_;simp only[e,allQ,live,yj,ydb,go_sem,zA,↓reduceIte,reduceCtorEq];omega
    ·have t2:(l.1 != (v:Int))=true:=by rw[bne_iff_ne];exact hlv
     have hlr:=hless l hm hlv;have hlb:=h.rch_le a3;have hR:=ih u l.1.toNat a3 (by rw[<-hSd]at hk;omega)
     rw[zX a1]at hR
     have e:S (i+1)=max (S i) (1+rchP g u l.1.toNat):=by
      rw[hss];unfold ygs;rw[if_pos t2]
     obtain⟨r,hr⟩:∃r,rchP g u l.1.toNat=r:=⟨_,rfl⟩;rw[hr]at hR e hlb;simp only[yboj,ybtn,ybvi,ybzq,ybwr,ybh,hd,hl,t1,t2,splice,clash,go_sem,zA,zB,zM,zC,↓reduceIte,reduceCtorEq];refine⟨by omega,hR.use ?_⟩
     simp only[ybk,clash,go_sem,zA,zB,↓reduceIte,reduceCtorEq];refine⟨ikw (by omega) (by omega),ikw (by omega) (by omega),?_⟩
     refine ybd (i+1) (by omega) (by omega) ?_
     refine ybc [] [] [] ?_;simp only[e,allQ,live,yj,ydb,go_sem,zA,↓reduceIte,reduceCtorEq];omega
   ·obtain rfl:i=d:=by omega
    have t1:decide ((i:Int)<(i:Int))=false:=decide_eq_false (by omega)
    simp only[yboj,ycgl,t1,clash,go_sem,zA,zB,↓reduceIte,reduceCtorEq];exact Sim.refl _
set_option maxHeartbeats 1000000 in
theorem yxe{g:Gr}(h:Tr g):Returns zO 42 [grV g] (ybg (mapR g.ports.length (htP g))):=by
 refine Returns.of (ycaa _ _ ?_);have hg:=h.good;have h24:=hg.2.1;have hpl:=hg.2.2.1;obtain⟨n,hn⟩:∃n,g.ports.length=n:=⟨_,rfl⟩;rw[hn]at h24 hpl ⊢;simp only[c42,ybyh,ybye,ybxm,grV,ybg,yw,hpl,hn,clash,go_sem,zA,zB,zM,zC,↓reduceIte,reduceCtorEq];refine⟨⟨by omega,by omega,by omega⟩,?_⟩
 refine ycm (σ:=Nat) (fun v=>⟨[(17,.i .i64 v),(16,.i .i64 n),(15,yw g.ports),(3,.os (13,0) 0 n true),(1,.pt (1,0) 0 0)],[(13,.one (some ⟨3,false,1,n,fun j=>[.i .i64 (if j<v then htP g j else 0)]⟩)),(1,.one (some ⟨25,true,2,1,fun _=>[ybg g.ids,yw g.ports]⟩))]⟩) (fun v=>v<=n) (fun v=>n-v) 0 (zQ _) ?_ ?_
 ·refine ybc [] [] [] ?_;simp only[ybg,yw,hpl,hn,Nat.not_lt_zero,allQ,live,yj,zL,go_sem,zA,↓reduceIte,reduceCtorEq]
 intro v hv
 by_cases hlt:v<n
 ·have t1:decide ((v:Int)<(n:Int))=true:=decide_eq_true (by omega)
  have hend:=ybak g v;have hsu:=fun i=>ysm (g:=g) (v:=v) (i:=i);have hsl:=ybbh h (v:=v) (by omega)
  have hdeg:=hg.deg_lt (v:=v);have hadj:=fun(l:Int×Int) (hl:l∈g.ports.getD v [])=>ycp hg (by omega) hl
  obtain⟨L,hL⟩:∃L,g.ports.getD v []=L:=⟨_,rfl⟩;obtain⟨d,hd⟩:∃d,L.length=d:=⟨_,rfl⟩;rw[hL,hd]at hend hdeg hsl;rw[hL]at hadj;simp only[hL,hd]at hsu;obtain⟨S,hS⟩:∃S:Nat->Int×Int,(fun i=>htS g v i)=S:=⟨_,rfl⟩;have hS':∀i,htS g v i=S i:=fun i=>by rw[<-hS]
  have hS0:S 0=(0,0):=by rw[<-hS'];rfl
  simp only[hS']at hsu hsl hend;simp only[ybvp,ycgj,ybxp,ybzx,yw,ybh,hn,hL,hd,t1,clash,go_sem,zA,zB,↓reduceIte,reduceCtorEq];refine⟨by omega,?_⟩
  refine ycm (σ:=Nat) (fun i=>⟨[(24,.i .i64 i),(23,.i .i64 d),(22,ybh L),(6,.i .i64 (S i).1),(4,.i .i64 v),(17,.i .i64 v),(16,.i .i64 n),(15,yw g.ports),(3,.os (13,0) 0 n true),(1,.pt (1,0) 0 0)],[(13,.one (some ⟨3,false,1,n,fun j=>[.i .i64 (if j<v then htP g j else if j=v then(S i).2 else 0)]⟩)),(1,.one (some ⟨25,true,2,1,fun _=>[ybg g.ids,yw g.ports]⟩))]⟩) (fun i=>i<=d) (fun i=>d-i) 0 (zQ _) ?_ ?_
  ·refine ybc [] [] [] ?_;simp only[ybg,yw,ybh,hn,hd,hS0,allQ,live,yj,ydb,zL,go_sem,zA,↓reduceIte,reduceCtorEq];intro j hj;split
   ·rfl
   ·split<;>rfl
  intro i hi
  by_cases hlti:i<d
  ·have t2:decide ((i:Int)<(d:Int))=true:=decide_eq_true (by omega)
   have hm:L.getD i (0,0)∈L:=by rw[getD_at (show i<L.length by omega)];exact zV _
   have hss:=hsu i hlti;have hb:=hsl i hi;obtain⟨l,hl⟩:∃l,L.getD i (0,0)=l:=⟨_,rfl⟩;rw[hl]at hm hss;obtain⟨a1,a2,a3,_⟩:=hadj l hm;have hR:=yvs h _ v l.1.toNat a3 (zG _);have hrb:=h.rch_le a3;rw[zX a1]at hR;obtain⟨r,hr⟩:∃r,rchP g v l.1.toNat=r:=⟨_,rfl⟩;rw[hr]at hR hss hrb;have e1:(S (i+1)).1=max (S i).1 r:=by rw[hss];rfl
   have e2:(S (i+1)).2=max (S i).2 (min r (S i).1):=by rw[hss];rfl
   simp only[grV]at hR;have i0:(if v<v then htP g v else if v=v then(S i).2 else 0)=(S i).2:=by rw[if_neg (zAO v),if_pos rfl]
   have i1:(if v=v then(S i).2 else 0)=(S i).2:=if_pos rfl
   simp only[ybwy,ycdi,ycfb,ybh,hd,hl,t2,splice,clash,go_sem,zA,zB,zM,zC,↓reduceIte,reduceCtorEq];refine⟨by omega,hR.use ?_⟩
   simp only[ybk,ybrn,ybqy,ybql,splice,clash,<-e1,<-e2,go_sem,zA,zB,↓reduceIte,reduceCtorEq];refine⟨⟨by omega,by omega⟩,by omega,⟨by omega,by omega⟩,by omega,ikw (by omega) (by omega),?_⟩
   refine ybd (i+1) (by omega) (by omega) ?_
   refine ybc [] [] [] ?_;simp only[ybg,yw,ybh,hn,allQ,live,yj,ydb,go_sem,zA,↓reduceIte,reduceCtorEq];refine⟨by omega,fun j hj=>?_⟩
   by_cases q:j=v
   ·subst q;simp only[if_pos,if_neg (zAO j)];simp only[go_sem,live,yj,go_sem,reduceCtorEq]
   ·simp only[if_neg q];simp only[go_sem,live,yj,go_sem,reduceCtorEq]
  ·obtain rfl:i=d:=by omega
   have t2:decide ((i:Int)<(i:Int))=false:=decide_eq_false (by omega)
   simp only[ybwy,ybrk,t2,clash,go_sem,zA,zB,↓reduceIte,reduceCtorEq];refine⟨ikw (by omega) (by omega),?_⟩
   refine ybd (v+1) (by omega) (by omega) ?_
   refine ybc [] [] [] ?_;simp only[ybg,yw,ybh,hn,allQ,live,yj,ydb,go_sem,zA,↓reduceIte,reduceCtorEq];refine⟨by omega,fun j hj=>?_⟩
   by_cases q:j<v
   ·rw[if_pos q,if_pos (by omega)]
   ·rw[if_neg q]
    by_cases q2:j=v
    ·rw[if_pos q2,if_pos (by omega),q2,hend]
    ·rw[if_neg q2,if_neg (by omega)]
 ·obtain rfl:v=n:=by omega
  have t1:decide ((v:Int)<(v:Int))=false:=decide_eq_false (by omega)
  simp only[ybvp,ybrh,t1,clash,go_sem,zA,zB,↓reduceIte,reduceCtorEq];rw[ynf];refine ycda fun j hj=>?_;rw[gmR _ _ _ _ hj,if_pos hj]
end Sh
end
section
section
variable {g:Gr}{t u v:Nat}
end
end
section
section
variable {g:Gr}{t u v a:Nat}
end
end
section
def pkL(f:Nat->Int)(v:Nat)(s:Nat)(l:Int×Int):Nat:=if f v<f l.1.toNat then difB s (2^v)else s
def pkV(f:Nat->Int)(g:Gr)(s v:Nat):Nat:=(g.ports.getD v []).foldl (pkL f v) s
def yed(f:Nat->Int)(g:Gr):Nat:=(zS g.ports.length).foldl (pkV f g) (2^g.ports.length-1)
section
variable {g:Gr}{f:Nat->Int}
theorem ybcj{v i:Nat}:∀(ls:List (Int×Int)) (s:Nat),(ls.foldl (pkL f v) s).testBit i=true↔s.testBit i=true/\(i=v->∀l∈ls,f l.1.toNat<=f v)
 |[],s=>⟨fun h=>⟨h,fun _ _ hl=>nomatch hl⟩,fun h=>h.1⟩
 | l :: ls,s=>by
   rw[zT,ybcj ls]
   have hb:(pkL f v s l).testBit i=true↔s.testBit i=true/\(i=v->f l.1.toNat<=f v):=by
    unfold pkL
    by_cases q:f v<f l.1.toNat
    ·rw[if_pos q,ygp,zZ,Bool.not_eq_true',Nat.testBit_two_pow,decide_eq_false_iff_not];exact and_congr Iff.rfl ⟨fun h e=>absurd e.symm h,fun h e=>by have:=h e.symm;omega⟩
    ·rw[if_neg q];exact⟨fun h=>⟨h,fun _=>by omega⟩,fun h=>h.1⟩
   rw[hb];constructor
   ·rintro⟨⟨h1,h2⟩,h3⟩;refine⟨h1,fun e x hx=>?_⟩;rcases List.mem_cons.1 hx with r|r
    ·rw[r];exact h2 e
    ·exact h3 e x r
   ·rintro⟨h1,h2⟩;exact⟨⟨h1,fun e=>h2 e l zN⟩,fun e x hx=>h2 e x (zF _ hx)⟩
theorem ybby{i:Nat}:∀(vs:List Nat) (s:Nat),(vs.foldl (pkV f g) s).testBit i=true↔s.testBit i=true/\(i∈vs->∀l∈g.ports.getD i [],f l.1.toNat<=f i)
 |[],s=>⟨fun h=>⟨h,fun hl=>nomatch hl⟩,fun h=>h.1⟩
 | v :: vs,s=>by
   rw[zT,ybby vs];have hb:(pkV f g s v).testBit i=true↔s.testBit i=true/\(i=v->∀l∈g.ports.getD v [],f l.1.toNat<=f v):=ybcj _ _;rw[hb];constructor
   ·rintro⟨⟨h1,h2⟩,h3⟩;refine⟨h1,fun hm=>?_⟩;rcases List.mem_cons.1 hm with r|r
    ·subst r;exact h2 rfl
    ·exact h3 r
   ·rintro⟨h1,h2⟩;exact⟨⟨h1,fun e=>by subst e;exact h2 zN⟩,fun hm=>h2 (zF _ hm)⟩
theorem yju(hg:ybj g){v:Nat}:(yed f g).testBit v=true↔v<g.ports.length/\∀u,adj g v u->f u<=f v:=by
 unfold yed;rw[ybby,Nat.testBit_two_pow_sub_one,decide_eq_true_iff,List.mem_range];constructor
 ·rintro⟨h1,h2⟩;refine⟨h1,fun u hu=>?_⟩;obtain⟨l,hl,e⟩:=ylj hu;rw[<-e];exact h2 h1 l hl
 ·rintro⟨h1,h2⟩;exact⟨h1,fun _ l hl=>h2 _ (ycp hg h1 hl).2.2.1⟩
end
end
section
namespace Sh
open Go Ev Go.RowKit
section
variable {m:Mem}{F:AM}
theorem row_of{z bk p n cp N e zz:Nat}{Tb:Ev.T Value}{L:Nat->List Value}(h1:m.b.get bk=some (.cells Tb N e zz))(h2:0<n)(h3:p+n*z<=N)(h4:∀a,a<n->(L a).length=z)(h5:∀a,a<n->∀j,j<z->Tb.get (p+a*z+j)=(L a)[j]?) :
 rowOf m z (.slice (some ⟨bk,p,none⟩) n cp)=some (ybv L n,[bk]):=by
 have hl:=yco h4;show(bif zAR n 0 then _ else _)=_;rw[show zAR n 0=false by cases n with|zero=>omega|succ n=>rfl]
 simp only[cond_false];rw[h1];simp only;rw[zU h3];simp only[cond_true]
 have hg:=yfc (T:=Tb) (L:=ybv L n) (o:=p) (fun j hj=>by
  rw[hl]at hj;rcases zY z with hz|hz
  ·subst hz;omega
  ·have hd:=Nat.div_add_mod j z;have hm:=Nat.mod_lt j hz;have hk:j/z<n:=Nat.div_lt_of_lt_mul (by rwa [zAP]at hj)
   have e1:j=j/z*z+j%z:=by rw[zAP];exact hd.symm
   rw[e1,yel h4 _ _ hk hm,<-Nat.add_assoc];exact h5 _ hk _ hm)
 rw[hl]at hg;rw[hg]
theorem row_zero{u:Value}(h:Z0 u)(z:Nat):rowOf m z u=some ([],[]):=by
 rcases h with rfl|⟨b,o,c,rfl⟩
 ·rfl
 ·rfl
theorem in64{n:Int}(h:I64 n):inI64 n=true:=by
 unfold I64 at h;unfold inI64;split
 ·rename_i k;exact zU (by simp only[Int.ofNat_eq_natCast]at h;omega)
 ·rename_i k;exact zU (by omega)
theorem ymp{a b:Int}(ha:I64 a)(hb:I64 b):∀{l:List Value}{r:List (Int×Int)},pairsOf l=some r->pairsOf (l++[.int .i64 a,.int .i64 b])=some (r++[(a,b)])
 | [],r,h=>by
   cases h
   show(bif inI64 a&&inI64 b then _ else _)=_;rw[in64 ha,in64 hb];rfl
 | .int .i64 x :: .int .i64 y::l,r,h=>by
   unfold pairsOf at h;split at h
   ·rename_i r' hr
    rw[Bool.cond_eq_ite]at h;split at h
    ·rename_i hc
     cases h
     show(match pairsOf (l++[.int .i64 a,.int .i64 b])with|some r=>bif inI64 x&&inI64 y then some ((x,y)::r)else none|none=>none)=_
     rw[ymp ha hb hr];simp only[hc,cond_true];rfl
    ·cases h
   ·cases h
theorem ybde(hF:Le F m.b.get){ls:List (Int×Int)}{u:Value}(h:RV F om0 (ybh ls) u)(hI:∀l∈ls,I64 l.1/\I64 l.2):linksOf m u=some ls:=by
 unfold linksOf;rcases h.sl_inv with⟨h0,hz⟩|⟨bk,p,cp,T,N,e,zz,L,rfl,g1,g2,g3,g4,g5,g6,g7⟩
 ·rw[row_zero hz];have:ls=[]:=zJ h0;subst this;rfl
 ·rcases zY ls.length with h0|h0
  ·have:ls=[]:=zJ h0;subst this;rfl
  ·rw[row_of (hF _ _ g1) h0 g3 g4 g5]
   have:∀n,n<=ls.length->pairsOf (ybv L n)=some (ls.take n):=by
    intro n
    induction n with
    |zero=>intro _;rfl
    | succ n ih =>
      intro hn;have hn':n<ls.length:=by omega
      have hl:=g6 n hn'
      have e1:L n=[.int .i64 ls[n].1,.int .i64 ls[n].2]:=by
       have e0:ls.getD n (0,0)=ls[n]:=by simp[zAA,hn']
       rw[e0]at hl;obtain⟨x,y,e2,hx,hy⟩:=rvl2 hl;rw[e2,hx.int_inv,hy.int_inv]
      show pairsOf (ybv L n++L n)=_;rw[e1,zD hn'];have:=hI ls[n] (zV hn');exact ymp this.1 this.2 (ih (by omega))
   simp only;rw[this _ (zG _),zK]
theorem ybhv{α β:Type}{f:α->Option β}:∀{l:List α}{r:List β},l.length=r.length->(∀(k:Nat) x y,l[k]?=some x->r[k]?=some y->f x=some y)->mapO f l=some r
 |[],[],_,_=>rfl
 | x::l,y::r,hl,h=>by
   unfold mapO;rw[h 0 x y rfl rfl];simp only;rw[ybhv (by simpa using hl) fun k a b h1 h2=>h (k+1) a b (by simpa using h1) (by simpa using h2)]
 |[],_::_,hl,_=>by simp at hl
 |_::_,[],hl,_=>by simp at hl
theorem ybhc{L:Nat->List Value}{n:Nat}(h:∀a,a<n->(L a).length=1){k:Nat}(hk:k<n):(ybv L n)[k]?=(L k)[0]?:=by
 have:=yel h k 0 hk (by omega)
 simpa using this
theorem ybey{ids:SV}{P:List (List (Int×Int))}{u:Value}(h:RV F om0 (.rf [ids,yw P]) u)(hI:∀ls∈P,∀l∈ls,I64 l.1/\I64 l.2) :
 ∃A v us,u = .pointer (some A)/\∀m:Mem,Le F m.b.get->graphOf m A=some ⟨v,us,P⟩:=by
 obtain⟨bk,p,T,N,e,zz,L,rfl,h1,h2,h3,h4,_⟩:=h.rf_inv;cases h4 with
 | cons a0 b0 =>
   cases b0 with
   | cons a1 b1 =>
     rename_i u0 _ u1 _
     cases b1
     have hbox:∀m:Mem,Le F m.b.get->boxPorts m ⟨bk,p,none⟩=some u1:=fun m hF=>by
      unfold boxPorts;simp only;rw[hF _ _ h1];simp only;rw[show Nat.blt (p+1) N=true from zU (show p+1+1<=N by simp at h2;omega)]
      simp only[cond_true];exact h3 1 (by simp)
     have fin:∀(us:List Value) (ft:List Nat),(∀m:Mem,Le F m.b.get->rowOf m 1 u1=some (us,ft))->us.length=P.length->(∀(k:Nat) x y,us[k]?=some x->P[k]?=some y->RV F om0 (ybh y) x) ->
      ∃A v us,Value.pointer (some ⟨bk,p,none⟩) = .pointer (some A)/\∀m:Mem,Le F m.b.get->graphOf m A=some ⟨v,us,P⟩:=fun us ft hr hl hx=>by
      refine⟨_,u1,us,rfl,fun m hF=>?_⟩;unfold graphOf;rw[hbox m hF];show ob (rowOf m 1 u1) _=_;rw[hr m hF];show ob (mapO (linksOf m) us) _=_;rw[ybhv hl fun k x y q1 q2=>ybde hF (hx k x y q1 q2) (hI y (List.mem_of_getElem? q2))];rfl
     rcases a1.sl_inv with⟨k0,hz⟩|⟨bk',p',cp,T',N',e',zz',L',rfl,g1,g2,g3,g4,g5,g6,g7⟩
     ·have:P=[]:=zJ k0;subst this;exact fin [] [] (fun m _=>row_zero hz 1) rfl (fun k x y q _=>by simp at q)
     ·rcases zY P.length with h0|h0
      ·have:P=[]:=zJ h0;subst this;exact fin [] [] (fun m _=>rfl) rfl (fun k x y q _=>by simp at q)
      ·refine fin (ybv L' P.length) [bk'] (fun m hF=>row_of (hF _ _ g1) h0 g3 g4 g5) (by rw[yco g4,Nat.mul_one]) fun k x y q1 q2=>?_
       have hk:k<P.length:=(List.getElem?_eq_some_iff.1 q2).1;rw[ybhc g4 hk]at q1;have hl:=g6 k hk;have e0:P.getD k []=y:=by simp[zAA,q2]
       rw[e0]at hl;obtain⟨v,e1,hv⟩:=rvl1 hl;rw[e1]at q1;cases q1
       exact hv
end
def ydt(P:List (List (Int×Int)))(k:Nat):El:=(flatAt 0 P).getD k ⟨0,0,0⟩
def ybgu(P:List (List (Int×Int))):ItS:=⟨(flatAt 0 P).length,fun k=>[.i .i64 (ydt P k).v,.ag [.i .i64 (ydt P k).a,.i .i64 (ydt P k).b]],[],fun _ _=>True,fun _ o=>o⟩
theorem ybmw{ids:SV}{P:List (List (Int×Int))}(hI:∀ls∈P,∀l∈ls,I64 l.1/\I64 l.2):ItC zO 107 [.rf [ids,yw P]] (ybgu P):=by
 intro lo F ω s f m us hc hr _;obtain⟨u,rfl,hu⟩:=rvl1 hr
 have hu0:RV F om0 (.rf [ids,yw P]) u:=by
  obtain⟨bk,p,T,N,e,zz,L,rfl,h1,h2,h3,h4,h5⟩:=hu.rf_inv;exact .rf h1 h2 h3 h4 h5
 obtain⟨A,v,vs,rfl,hg⟩:=ybey hu0 hI;have el0:∀k,k<(flatAt 0 P).length->(flatAt 0 P)[k]?=some (ydt P k):=fun k hk=>by simp[ydt,zAA,hk]
 refine⟨⟨(flatAt 0 P).length,fun k=>[(ydt P k).v0,(ydt P k).v1],fun _ m=>graphOf m A=some ⟨v,vs,P⟩,fun _ m=>m,fun _ _ M w M' w'=>M'=M/\w'=w⟩,⟨ysf.1,fun k m hk hw _=>Grow.refl hw,?_,?_⟩,rfl,fun F' ω' s' f' m' k hF _ hc' hk _=>⟨hg m' (hF.trans hc'.sub),fun hk=>⟨.cons .i (.cons (.ag (.cons .i (.cons .i .nil))) .nil),hc'⟩⟩⟩
 ·rintro k φ M w m M' w' hk hw hR hs hp ⟨rfl,rfl⟩;exact Good.refl hR hs
 ·intro l St Stop φ M w cap' hread hgrow hyield h0 hcap;obtain⟨box,rfl,hbox⟩:=yef hcap;refine CallsIn.mono (ysf.2 l A ⟨v,vs,P⟩ (fun pre φ' M' w'=>φ.le φ'/\(∃post,flatAt 0 P=pre++post)/\St pre.length φ' M' w') Stop φ M w box ?_ ?_ ?_ ⟨φ.le_refl,⟨_,rfl⟩,h0⟩ hbox) ?_
  ·rintro pre φ' M' w' ⟨_,_,hst⟩;exact(hread _ _ _ _ hst).2
  ·rintro pre φ' M' w' w'' ⟨h1,h2,hst⟩ hb;exact⟨h1,h2,hgrow _ _ _ _ _ hst hb⟩
  ·rintro pre x post φ' M' w' ⟨h1,_,hst⟩ hfl;have hfl:flatAt 0 P=pre++x::post:=hfl;have hk:pre.length<(flatAt 0 P).length:=by rw[hfl];simp
   have ex:ydt P pre.length=x:=by
    have:=el0 _ hk;rw[hfl,List.getElem?_append_right (zG _)]at this
    simpa using this.symm
   obtain⟨fn,tmps,asg,bd,hy1,hy2⟩:=hyield pre.length φ' M' w' [x.v0,x.v1] hk hst (by
    show VRL φ' [(ydt P pre.length).v0,(ydt P pre.length).v1] _;rw[ex];exact .cons (.simple rfl) (.cons (VR.atomA (v:=x.v1) rfl) .nil))
   refine⟨fn,tmps,asg,bd,hy1,hy2.mono ?_⟩
   ·rintro e w'' (⟨he,φ'',M'',h3,_,h4⟩|h)
    ·refine .inl ⟨he,φ'',M'',h3,Phi.le_trans h1 h3,⟨post,by rw[hfl];simp⟩,?_⟩
     rw[List.length_append];exact h4 M'' w'' ⟨rfl,rfl⟩
    ·exact .inr h
  ·rintro e w' ⟨h1,(⟨φ',M',_,_,hst⟩|h)⟩
   ·exact⟨h1,.inl ⟨φ',M',hst⟩⟩
   ·exact⟨h1,.inr h⟩
end Sh
end
section
namespace Sh
open Go Ev
def yceu:LO:=[o3 (.box 25 (.tmp 0)) 1 0,o3 (.mv (.const (.nilFunc))) 2 0]
def ybzd:LO:=[o3 (.mkfn 107 [] [(.tmp 1)]) 3 0,mv' 3 2 1]
def c68:SC:=(.seq (.reg false yceu) (.seq (.reg false ybzd) .ret))
theorem yccv:Fn 68 c68 [.t 2]:=fn_0 Tryz.func68 (by kernel_rfl) (by kernel_rfl)
end Sh
end
section
open Ev
theorem yvx:∀(ps:List (List (Int×Int))) (v:Nat) (x:El),x∈flatAt v ps->v<=x.v/\x.v<v+ps.length/\(x.a,x.b)∈ps.getD (x.v-v) []
 |[],_,_,h=>absurd h zH
 | ls::l,v,x,h=>by
   rcases List.mem_append.1 h with h|h
   ·obtain⟨y,hy,rfl⟩:=List.mem_map.1 h;refine⟨zG _,by simp,?_⟩
    simp only[Nat.sub_self,List.getD_cons_zero];exact hy
   ·obtain⟨h1,h2,h3⟩:=yvx l (v+1) x h;refine⟨by omega,by simp only[zAH];omega,?_⟩
    have e:x.v-v=(x.v-(v+1))+1:=by omega
    rw[e,List.getD_cons_succ];exact h3
theorem ybit{g:Gr}{k:Nat}(hk:k<g.ports.length):flatAt 0 (g.ports.take (k+1))=flatAt 0 (g.ports.take k)++(g.ports.getD k []).map fun x=>(⟨k,x.1,x.2⟩:El):=by
 have h:=yji (ps:=g.ports) (k:=k) (ls:=g.ports.getD k []) (by simp[zAA,hk])
 rw[<-h];unfold yeo;rw[zK]
theorem yut{α:Type}{g:Gr}(f:α->El->α)(a:α):∀k,k<=g.ports.length->(flatAt 0 (g.ports.take k)).foldl f a=(zS k).foldl (fun a v=>(g.ports.getD v []).foldl (fun a l=>f a ⟨v,l.1,l.2⟩) a) a
 |0,_=>by simp[flatAt]
 | k+1,hk=>by
   rw[ybit (by omega),zI,yut f a k (by omega),zAL,zI,List.foldl_map]
   rfl
theorem ybmr{α:Type}{g:Gr}(f:α->El->α)(a:α):(flatAt 0 g.ports).foldl f a=(zS g.ports.length).foldl (fun a v=>(g.ports.getD v []).foldl (fun a l=>f a ⟨v,l.1,l.2⟩) a) a:=by
 have:=yut (g:=g) f a g.ports.length (zG _)
 rwa [zK]at this
theorem ybkj{g:Gr}(hg:ybj g){k:Nat}(hk:k<(flatAt 0 g.ports).length):(Sh.ydt g.ports k).v<g.ports.length/\((Sh.ydt g.ports k).a,(Sh.ydt g.ports k).b)∈g.ports.getD (Sh.ydt g.ports k).v []:=by
 have hm:Sh.ydt g.ports k∈flatAt 0 g.ports:=by unfold Sh.ydt;rw[Sh.getD_at hk];exact zV hk
 obtain⟨_,h2,h3⟩:=yvx _ _ _ hm;exact⟨by omega,by simpa using h3⟩
theorem ybfw{α:Type}{g:Gr}(f:α->El->α)(a:α){k:Nat}(hk:k<(flatAt 0 g.ports).length):((flatAt 0 g.ports).take (k+1)).foldl f a=f (((flatAt 0 g.ports).take k).foldl f a) (Sh.ydt g.ports k):=by
 rw[zD hk,zI];unfold Sh.ydt;rw[Sh.getD_at hk];rfl
theorem ybjt{g:Gr}(hg:ybj g):∀ls∈g.ports,∀l∈ls,I64 l.1/\I64 l.2:=fun ls hls l hl=>by
 obtain⟨v,hv,e⟩:=List.getElem_of_mem hls;have h24:=hg.2.1;have:g.ports.getD v []=ls:=by simp[zAA,hv,e]
 obtain⟨h1,h2,_,h4,h5⟩:=ycp hg hv (by rw[this];exact hl)
 exact⟨Sh.yfk (by omega),Sh.yfk (by omega)⟩
end
section
namespace Sh
open Ev Go.RowKit
theorem yblj{g:Gr}:Returns zO 68 [grV g] (.fn 107 [] [.rf [ybg g.ids,yw g.ports]]):=by
 refine Returns.of (yccv _ _ ?_);simp only[c68,yceu,ybzd,grV,clash,go_sem,zA,zB,zM,zC,↓reduceIte,reduceCtorEq];exact Sim.refl _
end Sh
end
section
def pkEl(f:Nat->Int)(s:Nat)(e:Ev.El):Nat:=if f e.v<f e.a.toNat then difB s (2^e.v)else s
theorem ybeu(f:Nat->Int)(g:Gr):(Ev.flatAt 0 g.ports).foldl (pkEl f) (2^g.ports.length-1)=yed f g:=by
 rw[ybmr];rfl
theorem yjg{g:Gr}(h:ybs g=true):ydd g=true:=by
 unfold ybs at h;rw[zZ]at h;exact h.1
theorem ygz{g:Gr}(h:ybs g=true):ybj g:=(ybr g).1 (yfb (yjg h))
namespace Sh
open Ev Go.RowKit
theorem ynd(o:Own)(n:Nat):∀l:List SV,allP (pok [] o n) l
 |[]=>trivial
 |v::l=>⟨by rw[yzd];trivial,ynd o n l⟩
theorem yfm(o:Own)(n:Nat):∀l:List SV,l.map (ycr [] o n)=l
 |[]=>rfl
 |v::l=>by rw[List.map_cons,yos,yfm o n l]
set_option maxHeartbeats 1000000 in
theorem ybjb{g:Gr}(hg:ybj g){f:Nat->Int}{h:FuncId}{cp:List SV}(hcp4:cp.any (owned 4)=false)(hf:∀v,v<g.ports.length->Returns zO h (.i .i64 v::cp) (.i .i64 (f v))) :
 Returns zO 43 [grV g,.fn h [] cp] (.i .u32 (yed f g)):=by
 refine Returns.of (ycep _ _ ?_);have hcp:=yqf hcp4;have hA:=ybsf hg;have hLk:=yblj (g:=g);have h24:=hg.2.1;have hpl:=hg.2.2.1;have hpk:=ybeu f g;rw[hpl]at hA;obtain⟨n,hn⟩:∃n,g.ports.length=n:=⟨_,rfl⟩;rw[hn]at hA h24 hpl hf hpk;obtain⟨A,hAe⟩:∃A,2^n-1=A:=⟨_,rfl⟩;have hAl:A<2^24:=by rw[<-hAe];have:2^n<=2^24:=Nat.pow_le_pow_right (by omega) h24;have:=Nat.two_pow_pos n;omega
 rw[hAe]at hA hpk;obtain⟨S,hS⟩:∃S:Nat->Nat,(fun k=>((flatAt 0 g.ports).take k).foldl (pkEl f) A)=S:=⟨_,rfl⟩;have hS0:S 0=A:=by rw[<-hS];rfl
 have hSn:S (flatAt 0 g.ports).length=yed f g:=by rw[<-hS,<-hpk];simp
 have hSs:∀k,k<(flatAt 0 g.ports).length->S (k+1)=pkEl f (S k) (ydt g.ports k):=fun k hk=>by rw[<-hS];exact ybfw (pkEl f) A hk
 have hSl:∀k,k<=(flatAt 0 g.ports).length->S k<2^24:=fun k=>by
  induction k with
  |zero=>intro _;rw[hS0];exact hAl
  | succ k ih =>
    intro hk;rw[hSs k hk];unfold pkEl;split
    ·exact ybas (ih (by omega))
    ·exact ih (by omega)
 rw[<-hSn];simp only[grV]at hA hLk;simp only[c43,ycev,yceq,ybxl,grV,clash,go_sem,zA,zB,zC,↓reduceIte,reduceCtorEq];refine hA.use ?_;simp only[ybk,splice,clash,go_sem,zA,zB,zC,↓reduceIte];refine hLk.use ?_
 refine ybor (ybmw (ybjt hg)) [(2,0),(3,0),(5,0)] (fun i (_:Unit)=>⟨[(11,.fn 107 [] [.rf [ybg g.ids,yw g.ports]]),(2,.pt (2,0) 0 0),(3,.pt (3,0) 0 0),(5,.pt (5,0) 0 0)],
  [(2,.one (some ⟨25,true,2,1,fun _=>[ybg g.ids,yw g.ports]⟩)),(3,.one (some ⟨60,true,1,1,fun _=>[.fn h [] cp]⟩)),(5,.one (some ⟨46,true,1,1,fun _=>[.i .u32 (S i)]⟩))]⟩) (fun i _=>i<=(flatAt 0 g.ports).length) () (zQ _) ⟨fun _ h=>absurd h zH,fun _ h=>absurd h zH⟩ ?_ (fun _=>rfl) ?_ ?_ ?_
 ·refine ybc [] [] [] ?_;simp only[hS0,yhe _ hcp4,ygy _ hcp4,allQ,live,yj,go_sem,zA,↓reduceIte,reduceCtorEq];intro _ _;refine⟨ynd _ _ cp,?_⟩;rw[yfm];exact Sim.refl _
 ·intro i _ hi _;refine⟨trivial,?_⟩;simp only[go_sem,allQ,go_sem,zA]
 ·intro i _ hi hlti;have hlti:i<(flatAt 0 g.ports).length:=hlti;obtain⟨e1,e2⟩:=ybkj hg hlti;have hs:=hSs i hlti;have hb:=hSl i hi;obtain⟨E,hE⟩:∃E,ydt g.ports i=E:=⟨_,rfl⟩;rw[hE]at hs e1 e2;obtain⟨a1,a2,_⟩:=ycp hg e1 e2;have a1:0<=E.a:=a1;have a2:E.a.toNat<g.ports.length:=a2;have f1:=hf E.v (by omega)
  have f2:=hf E.a.toNat (by omega)
  rw[zX a1]at f2;obtain⟨a,ha⟩:∃a,S i=a:=⟨_,rfl⟩;rw[ha]at hs hb;refine⟨_,rfl,?_⟩;simp only[ybgu];obtain⟨x,hx⟩:∃x,f E.v=x:=⟨_,rfl⟩;obtain⟨y,hy⟩:∃y,f E.a.toNat=y:=⟨_,rfl⟩;rw[hx]at f1;rw[hy]at f2;simp only[yccy,ycct,ycfs,ha,hE,splice,hcp,clash,go_sem,zA,zB,zC,↓reduceIte,reduceCtorEq];refine f1.use ?_;simp only[ybk,hcp,clash,go_sem,zA,zB,zM,↓reduceIte,reduceCtorEq];refine f2.use ?_
  by_cases q:x<y
  ·have z1:decide (x<y)=true:=decide_eq_true q;have e:S (i+1)=difB a (2^E.v):=by rw[hs];unfold pkEl;rw[hx,hy,if_pos q]
   have sh:=ynq (v:=E.v) (by omega)
   have an:=u32_andNot (a:=a) (b:=2^E.v) (by omega) (Nat.pow_lt_pow_right (by omega) (by omega))
   simp only[IntKind.bits,zAE]at sh an;simp only[ycgc,splice,z1,sh,an,clash,go_sem,zA,zB,↓reduceIte,reduceCtorEq]
   repeat (first|refine⟨by omega,?_⟩|refine⟨by decide,?_⟩)
   refine yuo [] [] [] ?_;simp only[e,yhe _ hcp4,ygy _ hcp4,allQ,live,yj,go_sem,zA,↓reduceIte,reduceCtorEq];intro _ _;refine⟨ynd _ _ cp,?_⟩;rw[yfm];exact Sim.refl _
  ·have z1:decide (x<y)=false:=decide_eq_false q;have e:S (i+1)=a:=by rw[hs];unfold pkEl;rw[hx,hy,if_neg q]
   simp only[z1,go_sem,↓reduceIte]
   repeat (first|refine⟨by omega,?_⟩|refine⟨by decide,?_⟩)
   refine yuo [] [] [] ?_;simp only[e,yhe _ hcp4,ygy _ hcp4,allQ,live,yj,go_sem,zA,↓reduceIte,reduceCtorEq];intro _ _;refine⟨ynd _ _ cp,?_⟩;rw[yfm];exact Sim.refl _
 ·intro _ _;simp only[ycff,ybgu,clash,go_sem,zA,zB,↓reduceIte,reduceCtorEq];exact Sim.refl _
end Sh
end
section
abbrev Ptr:=Nat->Option Nat
def Mt(p:Ptr)(x:Nat):Prop:=∃y,p x=some y/\p y=some x
inductive Mv (g:Gr) (p:Ptr) (v:Nat):Option Nat->Prop
 |accept (u:Nat):p v=none->adj g v u->p u=some v->Mv g p v (some u)
 |propose (u:Nat):p v=none->adj g v u->p u=none->(∀x,adj g v x->p x≠some v)->Mv g p v (some u)
 |withdraw (u w:Nat):p v=some u->p u=some w->w≠v->Mv g p v none
structure PtI(g:Gr)(p:Ptr)(I:Nat->Prop):Prop where
 nb:∀v u,p v=some u->adj g v u
 fresh:∀v u,p v=some u->¬I v->p u=none\/p u=some v\/Mt p u
open Classical in
noncomputable def lv(A B C:Prop):Nat:=if A then 0 else if B then 1 else if C then 0 else 2
noncomputable def lft(p:Ptr)(I:Nat->Prop)(u v:Nat):Nat:=lv (p u=some v/\p v=some u) ((p u=some v/\¬I u)\/(p v=some u/\¬I v)) (Mt p u\/Mt p v)
section
variable {g:Gr}{p:Ptr}{I:Nat->Prop}{v:Nat}{t:Option Nat}
end
end
section
section
variable {g:Gr}{p:Ptr}{I:Nat->Prop}{v:Nat}{t:Option Nat}
end
open Classical in
noncomputable def oldN(g:Gr)(p:Ptr)(I:Nat->Prop):Nat:=((zS g.ports.length).map fun x=>if I x/\p x≠none then 1 else 0).sum
open Classical in
noncomputable def lftN(g:Gr)(p:Ptr)(I:Nat->Prop):Nat:=((zS g.ports.length).map fun x=>((g.ports.getD x []).map fun l=>lft p I x l.1.toNat).sum).sum
open Classical in
end
section
section
variable {g:Gr}{p:Ptr}{I:Nat->Prop}{v w:Nat}{t t':Option Nat}
noncomputable def potN(g:Gr)(p:Ptr)(I:Nat->Prop):Nat:=2*oldN g p I+lftN g p I
open Classical in
end
end
section
def ybrm:Ex:=.bin 35 (eQ 0) (.leaf 17 0)
def ybqm:Ex:=.bin 35 (eQ 0) ybje
def ycfk:Ex:=.bin 41 (.bin 41 (.bin 35 (.leaf 11 0) (eVar 0)) (.bin 36 (eQ 0) ybje)) (.bin 36 (eQ 0) (.leaf 17 0))
def ycch(nm p a b w:ByteArray):ProgT:=⟨nm,[⟨p,3,0,0,0,0⟩],[⟨a,.bin 41 (.bin 35 (eVar 0) ybje) (.agg 21 ybrm),[(0,.agg 23 ybrm)]⟩,⟨b,.bin 41 (.bin 35 (eVar 0) ybje) (.agg 21 ybqm),[(0,.agg 23 ybqm)]⟩,⟨w,.agg 21 ycfk,[(0,ybje)]⟩]⟩
def pAt(c:Conf)(v:Nat):Int:=(c.getD v []).getD 0 0
def toP(g:Gr)(c:Conf):Ptr:=fun v=>if v<g.ports.length/\0<=pAt c v then some ((g.ports.getD v []).getD (pAt c v).toNat (0,0)).1.toNat else none
structure MtC(g:Gr)(c:Conf):Prop where
 len:c.length=g.ids.length
 row:∀v,v<g.ids.length->(c.getD v []).length=1/\(-1<=pAt c v/\pAt c v<(g.ports.getD v []).length)
section
variable {nm np na nb nw:ByteArray}{g:Gr}{c:Conf}{u v s:Nat}
end
end
section
theorem yjm{α:Type}[DecidableEq α]:∀{l1 l2:List α},l1.Nodup->(∀x∈l1,x∈l2)->l1.length<=l2.length
 |[],_,_,_=>zQ _
 | a::t,l2,hn,hs=>by
   have hn:=List.nodup_cons.1 hn;have h1:=hs a zN;have:=yjm (l1:=t) (l2:=l2.erase a) hn.2 fun y hy=>(List.mem_erase_of_ne fun e=>hn.1 (by rw[<-e];exact hy)).2 (hs y (zF _ hy))
   rw[List.length_erase_of_mem h1]at this;have:=List.length_pos_of_mem h1;simp only[zAH];omega
def kcEx:Ex:=.agg 21 (.bin 35 (eQ 0) (eVar 0))
def ybhp(nm c r:ByteArray):ProgT:=⟨nm,[⟨c,1,0,0,1,0⟩],[⟨r,kcEx,[(0,.agg 27 (eQ 0))]⟩]⟩
def ybml(c:Conf)(v:Nat):Int:=(c.getD v []).getD 0 0
def ycii(g:Gr)(c:Conf)(v:Nat):Prop:=∃u,adj g v u/\ybml c u=ybml c v
structure KcC(g:Gr)(c:Conf):Prop where
 len:c.length=g.ids.length
 row:∀v,v<g.ids.length->(c.getD v []).length=1/\(0<=ybml c v/\ybml c v<=g.ids.length)
section
variable {nm nc nr:ByteArray}{g:Gr}{c:Conf}{u v s:Nat}
def kcR(g:Gr)(r v:Nat)(c:Conf):Prop:=1<=r->¬ycii g c v
structure KcJ(nm nc nr:ByteArray)(g:Gr)(c:Conf)(k:Cnt):Prop where
 inv:RInvC (ybud (ybhp nm nc nr) g) (fun c=>ybzo (ybhp nm nc nr) g c=true) (kcR g) c k
 moves:k.moves+popP (ybbd (ybhp nm nc nr) g c)<=g.ids.length
end
end
section
def ybjc(ls:List (Int×Int))(b:Int):Bool:=ls.any fun l=>decide (l.1=b)
namespace Sh
open Ev Go.RowKit
end Sh
end
section
namespace Sh
open Go Ev
theorem Cm.ct{P:Program}{g:FuncId}{args:List SV}{Q:SV->Own->Prop}{R:SV->Prop}(h:Cm P g [] [] args Q)(hq:∀r o',Q r o'->vok o' 5 r/\R (view o' 5 r)):Ct P g args R:=by
 intro G m us hw hle hargs
 have hc0:Conc m.next G om0 ⟨[],[]⟩ ⟨0,.leaf⟩ (enterM m) :=
  ⟨hw,zG _,zG _,hle,fun β b h=>(by cases h),fun β _=>rfl,fun β γ k z k' z' h=>(by cases h),fun β k z h=>(by cases h),fun t v hv=>(by cases hv)⟩
 obtain⟨v,m1,r,o',F',ω',s0,t2,hrv,l1,l2,_,_,hQ⟩:=h m.next G om0 ⟨0,.leaf⟩ (enterM m) us hc0 hargs
 obtain⟨r3,r4⟩:=hq r o' hQ
 have hs0:ybn P (.call g us m) (.call v m1):=by
  obtain⟨n,b,l⟩:=m;exact ybn.relow s0
 have hm1:m.next<=m1.low:=t2.low
 have hold:∀{i x},m.b.get i=some x->i<m.next:=fun {i x} q=>hw i x q
 have hview:∀H:AM,Le F' H->(∀β k z,ω' β=some (some (k,z))->∀b,m1.b.get k=some b->H k=some b)->RV H om0 (view o' 5 r) v:=fun H h1 h2=>yha t2 h1 h2 hrv r3
 have hs1:ybn P (.call g us m) (.call v ⟨m1.next,yfj m.b m1.b,m1.low⟩):=by
  intro hwm;obtain⟨ext,hcall⟩:=hs0 hwm
  have hget:∀{i x},(yfj m.b m1.b).get i=some x->m.b.get i=some x\/m1.b.get i=some x:=fun {i x} q=>by
   rw[yck]at q;split at q
   ·rename_i y hy;cases q;exact .inl hy
   ·exact .inr q
  refine⟨⟨ext.next,fun i b hq=>?_,fun i b h1 h2 hq=>?_,fun i b hq=>?_⟩,fun φ M w args' hR hs ha hf=>?_⟩
  ·rcases hget hq with q|q
   ·exact .inl ⟨b,q⟩
   ·exact ext.dom i b q
  ·rcases hget hq with q|q
   ·exact q
   ·exact ext.old i b h1 h2 q
  ·rcases hget hq with q|q
   ·exact zAD (hold q) ext.next
   ·exact ext.wf i b q
  ·refine(hcall φ M w args' hR hs ha hf).mono ?_;rintro e' w' ⟨v',rfl,φ',M',hgd,hv⟩;refine⟨v',rfl,φ',M',⟨hgd.le,hgd.out,hgd.rel,fun i b hq=>?_,hgd.frame,hgd.wg⟩,hv⟩;rcases hget hq with q|q
   ·have hi:=hold q;rw[hgd.frame i (fun z=>by omega) (.inr (zAD hi hm1))]
    exact hs i b q
   ·exact hgd.sub i b q
 have hnone:∀{i},m.next<=i->m.b.get i=none:=fun {i} q=>by
  cases hh:m.b.get i with
  |none=>rfl
  |some x=>have:=hold hh;omega
 refine⟨_,_,view o' 5 r,hs1,hm1,fun i b hq=>?_,r4,hview _ (fun i b hq=>?_) (fun β k z hk b hq=>?_)⟩
 ·show(yfj m.b m1.b).get i=some b;rw[yck,hq]
 ·unfold frsh;rcases l2 i b hq with q|q
  ·rw[if_neg (by have:=hold (hle i b q);omega)];exact q
  ·rw[if_pos q];show(yfj m.b m1.b).get i=some b;rw[yck,hnone q];exact t2.sub i b hq
 ·unfold frsh;have:=(t2.apart β k z hk).2.1;rw[if_pos this];show(yfj m.b m1.b).get k=some b;rw[yck,hnone this];exact hq
theorem Cm.weak {P:Program}{g:FuncId}{o:Own}{args:List SV}{Q R:SV->Own->Prop}(h:Cm P g [] o args Q)
 (hq:∀r o',Q r o'->∃r2 o2,Weak [] ⟨[(0,r)],o'⟩ ⟨[(0,r2)],o2⟩/\(cln (live o2) 5 r2=true/\allQ (fun p=>ytr (live o2) p.2) o2)/\R r2 o2):Cm P g [] o args R:=by
 intro lo G ω f m us hc hargs;obtain⟨v,m1,r,o',F',ω',s0,t2,hrv,l1,l2,_,_,hQ⟩:=h lo G ω f m us hc hargs;obtain⟨r2,o2,hw,hcl,hR⟩:=hq r o' hQ
 have t3:Conc lo F' ω' ⟨[(0,r)],o'⟩ ⟨1,tOf [v]⟩ m1:=⟨t2.wf,t2.low,t2.nxt,t2.sub,t2.own,t2.dom,t2.inj,t2.apart,fun t x hx=>by
  unfold look at hx;split at hx
  ·rename_i e
   cases hx
   exact⟨v,by rw[ydm];simp[<-e],hrv⟩
  ·cases hx⟩
 obtain⟨ω2,F2,k1,k2,k3,_⟩:=hw lo F' ω' _ m1 t3;obtain⟨u,q1,q2⟩:=k3.fr 0 r2 rfl
 have e:u=v:=by
  rw[ydm]at q1
  simpa using q1.symm
 subst e
 exact⟨u,m1,r2,o2,F2,ω2,s0,⟨k3.wf,k3.low,k3.nxt,k3.sub,k3.own,k3.dom,k3.inj,k3.apart,fun t x hx=>(by cases hx)⟩,q2,fun x b hx=>k1 x b (l1 x b hx),fun x b hx=>by
  rcases k2 x b hx with z|z
  ·exact l2 x b z
  ·exact .inr z,fun β hβ=>absurd hβ zH,⟨hcl.1,hcl.2,trivial⟩,hR⟩
end Sh
end
section
structure NetR where
 n:Int
 links:List Int
 weights:List Int
 ids:List Int
 apart:Bool
 back:Bool
def NetR.ok(x:NetR):Prop:=Sh.inK .i64 x.n/\(∀k,Sh.inK .i64 (x.links.getD k 0))/\(∀k,Sh.inK .i64 (x.weights.getD k 0))/\(∀k,Sh.inK .i64 (x.ids.getD k 0))
namespace Sh
open Ev Go.RowKit
end Sh
end
section
def ytb(back:Bool)(g:Gr)(a b:Nat)(w:Int):Gr:=if a=b\/ybjc (g.ports.getD a []) b=true then g else ygw back g a b w
namespace Sh
open Ev Go.RowKit
theorem ybph(back:Bool)(L:List (Int×Int))(x:Int×Int):(addL back L x).length=L.length+1:=by
 unfold addL;cases back<;>simp
section
variable {x:NetR}{g:Gr}{a b:Nat}{w:Int}
end
end Sh
end
section
theorem ybir{back:Bool}{g:Gr}{a b:Nat}{w:Int}(ha:a<g.ports.length)(hb:b<g.ports.length){m:Nat}(h:Tre g m):Tre (ytb back g a b w) m:=by
 unfold ytb;split
 ·exact h
 ·exact h.add ha hb
theorem ybkv{back:Bool}{g:Gr}{a b:Nat}{w:Int}(ha:a<g.ports.length)(hb:b<g.ports.length)(hab:a≠b):adj (ytb back g a b w) a b:=by
 unfold ytb;split
 ·rename_i h
  rcases h with h|h
  ·exact absurd h hab
  ·obtain⟨l,hl,e⟩:=List.any_eq_true.1 h;exact ygo.2 ⟨l,hl,of_decide_eq_true e⟩
 ·exact yzc ha hb hab
theorem yxj:∀(l:List Nat) (i x:Nat) (h:i<l.length),(l.set i x).sum+l[i]=l.sum+x
 |a::l,0,x,_=>by simp;omega
 | a::l,i+1,x,h=>by
   have:=yxj l i x (by simpa using h)
   simp only[List.set_cons_succ,List.sum_cons,List.getElem_cons_succ];omega
theorem ybcv{back:Bool}{g:Gr}{a b:Nat}{w:Int}(ha:a<g.ports.length)(hb:b<g.ports.length)(hab:a≠b):ydg (ygw back g a b w)=ydg g+2:=by
 unfold ydg ygw;simp only[List.map_set,Sh.ybph];have h1:=yxj (g.ports.map zAF) a ((g.ports.getD a []).length+1) (by simpa using ha)
 have h2:=yxj ((g.ports.map zAF).set a ((g.ports.getD a []).length+1)) b ((g.ports.getD b []).length+1) (by simpa using hb)
 rw[List.getElem_set_ne hab,zAI,<-Sh.getD_at hb (d:=[])]at h2;rw[zAI,<-Sh.getD_at ha (d:=[])]at h1;omega
def WtF(x:NetR)(g:Gr):Prop:=∀v l,l∈g.ports.getD v []->∃i,l.2=1+yzq (atP x.weights i) 15
theorem ybpi{x:NetR}{back:Bool}{g:Gr}{a b:Nat}{w:Int}(ha:a<g.ports.length)(hb:b<g.ports.length)(hw:∃i,w=1+yzq (atP x.weights i) 15)(h:WtF x g):WtF x (ytb back g a b w):=by
 unfold ytb;split
 ·exact h
 ·intro v l hl;rw[yii back g w ha hb]at hl;split at hl
  ·rcases ykn.1 hl with rfl|hl
   ·exact hw
   ·exact h _ _ hl
  ·split at hl
   ·rcases ykn.1 hl with rfl|hl
    ·exact hw
    ·exact h _ _ hl
   ·exact h _ _ hl
structure TreeTo(x:NetR)(v:Nat)(g:Gr):Prop where
 tre:Tre g v
 wt:WtF x g
 none_:∀u,v<=u->g.ports.getD u []=[]
 count:ydg g+2=2*v
theorem yqs(ids:List Int)(v:Nat):(bare ids).ports.getD v []=[]:=by
 unfold bare;rw[List.getD_eq_getElem?_getD,List.getElem?_replicate];split<;>rfl
theorem TreeTo.zero(x:NetR)(ids:List Int):TreeTo x 1 (bare ids):=by
 refine⟨fun v h0 h1=>by omega,fun v l hl=>?_,fun u _=>yqs ids u,?_⟩
 ·rw[yqs]at hl;exact absurd hl zH
 ·have:ydg (bare ids)=0:=by
   unfold ydg bare;simp
  omega
theorem TreeTo.succ{x:NetR}{v:Nat}{g:Gr}(hg:ybj g)(h:TreeTo x v g)(hv:v<g.ports.length)(h1:1<=v){a:Nat}(ha:a<v){w:Int}(hw:∃i,w=1+yzq (atP x.weights i) 15):TreeTo x (v+1) (ytb x.back g a v w):=by
 have hadj:=ybkv (back:=x.back) (g:=g) (a:=a) (b:=v) (w:=w) (by omega) (by omega) (by omega)
 have hno:¬(a=v\/ybjc (g.ports.getD a []) v=true):=by
  rintro(e|e)
  ·omega
  ·obtain⟨l,hl,e⟩:=List.any_eq_true.1 e;have e:=of_decide_eq_true e;have:adj g v a:=hg.adj_symm (ygo.2 ⟨l,hl,e⟩);obtain⟨l',hl',_⟩:=ygo.1 this;rw[h.none_ v (zG _)]at hl';exact absurd hl' zH
 have e:ytb x.back g a v w=ygw x.back g a v w:=by unfold ytb;rw[if_neg hno]
 refine⟨fun u h0 hu=>?_,ybpi (by omega) hv hw h.wt,fun u hu=>?_,?_⟩
 ·by_cases q:u=v
  ·subst q;exact⟨a,ha,hadj⟩
  ·exact ybir (by omega) hv h.tre u h0 (by omega)
 ·rw[e,yii x.back g w (by omega) hv,if_neg (by omega),if_neg (by omega)]
  exact h.none_ u (by omega)
 ·rw[e,ybcv (by omega) hv (by omega)]
  have:=h.count;omega
namespace Sh
open Ev Go.RowKit
end Sh
end
section
namespace Sh
open Ev Go.RowKit
end Sh
end
end Go.Proofs.YtiejahgklcjhkaaGreat
