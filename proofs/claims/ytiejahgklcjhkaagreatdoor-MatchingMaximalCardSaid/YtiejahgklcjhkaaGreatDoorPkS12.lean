/- Joined. -/
import Derived.Test.YtiejahgklcjhkaaGreatDoorPkS11
set_option linter.unusedSimpArgs false
set_option linter.unusedVariables false
set_option maxRecDepth 8000
open Nat renaming reduceEqDiff→zA,reduceAdd→zB,le_refl→zI,zero_le→zZ,mul_le_mul→zAU
open List renaming getElem?_eq_getElem→zC,take_succ_eq_append_getElem→zG,getD_eq_getElem?_getD→zK,foldl_append→zL,range→zM,getElem_mem→zN,take_of_length_le→zO,eq_nil_of_length_eq_zero→zQ,getD→zS,mem_of_getElem?→zT,findIdx?_eq_none_iff→zU,mem_cons_self→zV,getElem?_set→zX,findIdx?_eq_some_iff_getElem→zY,mem_cons_of_mem→zAA,mem_zipIdx_iff_getElem?→zAB,length_append→zAC,getElem?_zip_eq_some→zAD,drop_eq_getElem_cons→zAE,all_eq_true→zAF,getElem?_eq_none→zAG,findIdx?_append→zAH,pairwise_map→zAL,length_take→zAN,take_length→zAO,elem_eq_mem→zAP,range_succ→zAQ,length_nil→zAR,length→zAW
open Go.Lib renaming hid→zD
open Bool renaming and_eq_true→zF
open Go.Proofs.Tryz renaming prog→zH,ntmps134→zAI,func134→zAJ,ntmps85→zAK,func85→zAM
open Int renaming natCast_zero→zJ,toNat_natCast→zW,reduceToNat→zAS,natAbs_mul→zAT
open Classical renaming byContradiction→zAV
open Go
namespace Go.Proofs.YtiejahgklcjhkaaGreatDoor
section
def ycbw(R:List Int)(x:Int)(ls:List (Int×Int)):Bool:=ls.any (fun l=>decide (R[l.1.toNat]?=some x))
def ycfh(g:Gr)(d:Int)(R:List Int)(v:Nat):List Int :=
 if decide (R.getD v 0<0)&&ycbw R (d-1) (g.ports.getD v [])then R.set v d else R
def stepD(g:Gr)(R:List Int)(d:Nat):List Int:=(zM g.ports.length).foldl (ycfh g d) R
def start(g:Gr)(a:Nat):List Int:=(List.replicate g.ports.length (-1)).set a 0
def yeq(g:Gr)(a:Nat):List Int:=(zM (g.ports.length-1)).foldl (fun R d=>stepD g R (d+1)) (start g a)
def Upto(g:Gr)(a d v:Nat)(x:Int):Prop:=(x = -1/\∀k,k<=d->¬Walk g a k v)\/∃k:Nat,k<=d/\x=k/\Walk g a k v/\∀j,j<k->¬Walk g a j v
theorem Upto.eq{g:Gr}{a d v:Nat}{x:Int}(h:Upto g a d v x){k:Nat}(hk:k<=d):x=k↔Walk g a k v/\∀j,j<k->¬Walk g a j v:=by
 rcases h with⟨rfl,h1⟩|⟨i,hi,rfl,h1,h2⟩
 ·exact⟨fun e=>by omega,fun e=>absurd e.1 (h1 k hk)⟩
 ·constructor
  ·intro e;obtain rfl:i=k:=by omega
   exact⟨h1,h2⟩
  ·rintro⟨h3,h4⟩;rcases Nat.lt_trichotomy i k with h|h|h
   ·exact absurd h1 (h4 i h)
   ·omega
   ·exact absurd h3 (h2 k h)
theorem Upto.more{g:Gr}{a d v:Nat}{x:Int}(h:Upto g a d v x)(hx:0<=x):Upto g a (d+1) v x:=by
 rcases h with⟨rfl,h1⟩|⟨i,hi,rfl,h1,h2⟩
 ·omega
 ·exact .inr ⟨i,by omega,rfl,h1,h2⟩
structure LayerInv(g:Gr)(a d v:Nat)(R:List Int):Prop where
 len:R.length=g.ports.length
 new:∀(u:Nat) (x:Int),R[u]?=some x->u<v->Upto g a (d+1) u x
 old:∀(u:Nat) (x:Int),R[u]?=some x->v<=u->Upto g a d u x
theorem LayerInv.at_{g:Gr}{a d v:Nat}{R:List Int}(h:LayerInv g a d v R){u:Nat}(hu:u<g.ports.length):R[u]?=some (d:Int)↔Walk g a d u/\∀j,j<d->¬Walk g a j u:=by
 have hl:=h.len;have e:R[u]?=some R[u]:=zC (by omega)
 have hx:R[u]=(d:Int)↔Walk g a d u/\∀j,j<d->¬Walk g a j u:=by
  by_cases hv:u<v
  ·exact(h.new u _ e hv).eq (by omega)
  ·exact(h.old u _ e (by omega)).eq (by omega)
 rw[e]
 simpa using hx
theorem LayerInv.step{g:Gr}(hg:yw g){a d v:Nat}{R:List Int}(h:LayerInv g a d v R)(hv:v<g.ports.length):LayerInv g a d (v+1) (ycfh g ((d:Int)+1) R v):=by
 have hlen:=h.len;have ev:R[v]?=some R[v]:=zC (by omega)
 have eg:R.getD v 0=R[v]:=by simp[zS,ev]
 have ep:g.ports.getD v []=g.ports[v]:=by simp[zS,zC hv]
 have hhas:ycbw R ((d:Int)+1-1) g.ports[v]=true↔∃u,adj g u v/\Walk g a d u/\∀j,j<d->¬Walk g a j u:=by
  unfold ycbw;rw[List.any_eq_true];constructor
  ·rintro⟨l,hl,h1⟩;have hlk:=hg.link (zC hv) hl;have h1:=of_decide_eq_true h1;rw[show(d:Int)+1-1=d by omega]at h1
   refine⟨l.1.toNat,hg.adj_symm ⟨_,zC hv,l,hl,by omega⟩,?_⟩
   exact(h.at_ (by omega)).1 h1
  ·rintro⟨u,hu,hw⟩;obtain⟨hu1,_⟩:=hg.adj_lt hu;obtain⟨ls,h1,l,hl,e⟩:=hg.adj_symm hu;rw[zC hv]at h1;cases h1
   refine⟨l,hl,decide_eq_true ?_⟩;rw[e,zW,show(d:Int)+1-1=d by omega]
   exact(h.at_ hu1).2 hw
 have hov:=h.old v _ ev (zI _);unfold ycfh;rw[eg,ep]
 by_cases c1:R[v]<0
 ·have hx:R[v] = -1/\∀k,k<=d->¬Walk g a k v:=by
   rcases hov with h1|⟨k,_,e,_⟩
   ·exact h1
   ·omega
  by_cases c2:ycbw R ((d:Int)+1-1) g.ports[v]=true
  ·rw[if_pos (by rw[zF];exact⟨decide_eq_true c1,c2⟩)]
   obtain⟨p,hp,hw,_⟩:=hhas.1 c2;have hset:∀t,t≠v->(R.set v ((d:Int)+1))[t]?=R[t]?:=fun t ht=>by rw[zX,if_neg (by omega)]
   refine⟨by simp[hlen],fun u x hu huv=>?_,fun u x hu huv=>?_⟩
   ·by_cases e:u=v
    ·subst e;rw[zX,if_pos rfl,if_pos (by omega)]at hu
     cases hu
     exact .inr ⟨d+1,zI _,by omega,⟨p,hw,hp⟩,fun j hj=>hx.2 j (by omega)⟩
    ·rw[hset u e]at hu;exact h.new u x hu (by omega)
   ·rw[hset u (by omega)]at hu
    exact h.old u x hu (by omega)
  ·rw[if_neg (fun e=>c2 (zF _ _▸e).2)];refine⟨hlen,fun u x hu huv=>?_,fun u x hu huv=>h.old u x hu (by omega)⟩
   by_cases e:u=v
   ·subst e;rw[ev]at hu;cases hu
    refine .inl ⟨hx.1,fun k hk hw=>?_⟩;rcases Nat.lt_or_ge d k with hlt|hge
    ·obtain rfl:k=d+1:=by omega
     obtain⟨p,hp,hpv⟩:=hw;refine c2 (hhas.2 ⟨p,hpv,hp,fun j hj hw'=>hx.2 (j+1) (by omega) ⟨p,hw',hpv⟩⟩)
    ·exact hx.2 k hge hw
   ·exact h.new u x hu (by omega)
 ·rw[if_neg (by simp[c1])]
  refine⟨hlen,fun u x hu huv=>?_,fun u x hu huv=>h.old u x hu (by omega)⟩
  by_cases e:u=v
  ·subst e;exact(h.old u x hu (zI _)).more (by rw[ev]at hu;cases hu;omega)
  ·exact h.new u x hu (by omega)
theorem yxk{g:Gr}(hg:yw g){a d:Nat}{R:List Int}(h:LayerInv g a d 0 R):∀v,v<=g.ports.length->LayerInv g a d v ((zM v).foldl (ycfh g ((d:Int)+1)) R)
 |0,_=>h
 | v+1,hv=>by
   rw[zAQ,zL];exact(yxk hg h v (by omega)).step hg (by omega)
def yzb(g:Gr)(a d:Nat)(R:List Int):Prop:=R.length=g.ports.length/\∀(u:Nat) (x:Int),R[u]?=some x->Upto g a d u x
theorem ybpr{g:Gr}{a:Nat}(ha:a<g.ports.length):yzb g a 0 (start g a):=by
 refine⟨by simp[start],fun u x hu=>?_⟩
 unfold start at hu;rw[zX]at hu;split at hu
 ·rename_i e
  subst e;simp[ha]at hu;subst hu;exact .inr ⟨0,zI _,rfl,rfl,fun j hj=>absurd hj (by omega)⟩
 ·rename_i e
  rw[List.getElem?_replicate]at hu;split at hu
  ·cases hu
   refine .inl ⟨rfl,fun k hk hw=>?_⟩;obtain rfl:k=0:=by omega
   exact e hw.symm
  ·cases hu
theorem ybpl{g:Gr}(hg:yw g){a d:Nat}{R:List Int}(h:yzb g a d R):yzb g a (d+1) (stepD g R (d+1)):=by
 have h0:LayerInv g a d 0 R:=⟨h.1,fun _ _ _ hu=>absurd hu (by omega),fun u x hu _=>h.2 u x hu⟩
 have h1:=yxk hg h0 g.ports.length (zI _);unfold stepD;rw[show((d+1:Nat):Int)=(d:Int)+1 by omega]
 exact⟨h1.len,fun u x hu=>h1.new u x hu (by rw[<-h1.len];exact(List.getElem?_eq_some_iff.1 hu).1)⟩
theorem ytq{g:Gr}(hg:yw g){a:Nat}(ha:a<g.ports.length):∀d,yzb g a d ((zM d).foldl (fun R d=>stepD g R (d+1)) (start g a))
 |0=>ybpr ha
 |d+1=>by rw[zAQ,zL];exact ybpl hg (ytq hg ha d)
theorem chain{g:Gr}{a:Nat}:∀k v,Walk g a k v->(∀j,j<k->¬Walk g a j v)->∃f:Nat->Nat,∀j,j<=k->Walk g a j (f j)/\∀i,i<j->¬Walk g a i (f j)
 | 0,v,h,_=>⟨fun _=>v,fun j hj=>by obtain rfl:j=0:=by omega
                                   exact⟨h,fun i hi=>absurd hi (by omega)⟩⟩
 | k + 1,v,h,hm=>by
   obtain⟨p,hp,hpv⟩:=h;obtain⟨f,hf⟩:=chain k p hp (fun j hj hw=>hm (j+1) (by omega) ⟨p,hw,hpv⟩)
   refine⟨fun j=>if j<=k then f j else v,fun j hj=>?_⟩
   by_cases hjk:j<=k
   ·simp only[if_pos hjk];exact hf j hjk
   ·obtain rfl:j=k+1:=by omega
    simp only[if_neg hjk];exact⟨⟨p,hp,hpv⟩,hm⟩
theorem walk_lt{g:Gr}(hg:yw g){a:Nat}(ha:a<g.ports.length):∀k v,Walk g a k v->v<g.ports.length
 |0,v,h=>by obtain rfl:v=a:=h;exact ha
 |k+1,v,h=>by obtain⟨u,_,hu⟩:=h;exact(hg.adj_lt hu).2
theorem least_walk{g:Gr}{a v:Nat}:∀k,Walk g a k v->∃j,j<=k/\Walk g a j v/\∀i,i<j->¬Walk g a i v:=by
 intro k
 induction k using Nat.strongRecOn with
 | _ k ih =>
   intro hw
   by_cases h:∃j,j<k/\Walk g a j v
   ·obtain⟨j,hj,hwj⟩:=h;obtain⟨i,hi,r⟩:=ih j hj hwj;exact⟨i,by omega,r⟩
   ·exact⟨k,zI _,hw,fun i hi hwi=>h ⟨i,hi,hwi⟩⟩
theorem ybsc{g:Gr}(hg:yw g){a v k:Nat}(ha:a<g.ports.length)(h:Walk g a k v)(hm:∀j,j<k->¬Walk g a j v):k<g.ports.length:=by
 obtain⟨f,hf⟩:=chain k v h hm;have hinj:∀i j,i<j->j<=k->f i≠f j:=fun i j hij hj e=>(hf j hj).2 i hij (by rw[<-e];exact(hf i (by omega)).1)
 have h1:((zM (k+1)).map f).Nodup:=by
  rw[List.Nodup,zAL];refine(List.Pairwise.and_mem.1 List.pairwise_lt_range).imp ?_;rintro i j ⟨_,hj,hij⟩;exact hinj i j hij (by simp at hj;omega)
 have h2:(zM (k+1)).map f ⊆ zM g.ports.length:=by
  intro x hx;obtain⟨j,hj,rfl⟩:=List.mem_map.1 hx;simp only[List.mem_range]at hj ⊢;exact walk_lt hg ha j _ (hf j (by omega)).1
 have:=List.Nodup.length_le_of_subset h1 h2;simp at this;omega
theorem yjy{g:Gr}(hg:yw g){a:Nat}(ha:a<g.ports.length):ydhu g a (yeq g a):=by
 obtain⟨h1,h2⟩:=ytq hg ha (g.ports.length-1);refine⟨h1,fun v x hx=>?_⟩;rcases h2 v x hx with⟨rfl,h3⟩|⟨k,_,r⟩
 ·refine .inl ⟨rfl,fun k hk=>?_⟩;obtain⟨j,_,hj,hm⟩:=least_walk k hk;have:=ybsc hg ha hj hm;exact h3 j (by omega) hj
 ·exact .inr ⟨k,r⟩
end
section
def yrn(g:Gr):Bool:=yec g&&(yeq g 0).all (fun x=>decide (0<=x))
theorem ybeh(D:List Int):∀m:Int,m<=D.foldl max m:=by
 induction D with
 |nil=>intro m;exact Int.le_refl _
 |cons x D ih=>intro m;exact Int.le_trans (Int.le_max_left m x) (ih _)
theorem ybch{g:Gr}(hg:yw g){a:Nat}(ha:a<g.ports.length):(yeq g a).length=g.ports.length:=(yjy hg ha).1
theorem Walk.trans{g:Gr}{a b:Nat}:∀{j:Nat}{c:Nat}{k:Nat},Walk g a k b->Walk g b j c->Walk g a (k+j) c
 |0,c,k,h1,h2=>by obtain rfl:c=b:=h2;exact h1
 | j+1,c,k,h1,h2=>by
   obtain⟨u,hu,huc⟩:=h2;exact⟨u,Walk.trans h1 hu,huc⟩
theorem Walk.one{g:Gr}{a b:Nat}(h:adj g a b):Walk g a 1 b:=⟨a,rfl,h⟩
theorem Walk.symm{g:Gr}(hg:yw g){a:Nat}:∀{k:Nat}{b:Nat},Walk g a k b->Walk g b k a
 |0,b,h=>by obtain rfl:b=a:=h;exact rfl
 | k+1,b,h=>by
   obtain⟨u,hu,hub⟩:=h;have:=Walk.trans (Walk.one (hg.adj_symm hub)) (Walk.symm hg hu)
   rwa [Nat.add_comm]at this
theorem ybgr{g:Gr}(hg:yw g){a:Nat}(ha:a<g.ports.length):(yeq g a).all (fun x=>decide (0<=x))=true↔∀v,v<g.ports.length->∃k,Walk g a k v:=by
 have hd:=yjy hg ha;rw[zAF];constructor
 ·intro h v hv;have hv':v<(yeq g a).length:=by rw[hd.1];exact hv
  rcases hd.2 v _ (zC hv')with⟨e,_⟩|⟨k,_,hk,_⟩
  ·have:=of_decide_eq_true (h _ (zN hv'));omega
  ·exact⟨k,hk⟩
 ·intro h x hx;obtain⟨v,hv,rfl⟩:=List.mem_iff_getElem.1 hx;obtain⟨k,hk⟩:=h v (by rw[<-hd.1];exact hv)
  rcases hd.2 v _ (zC hv)with⟨e,h1⟩|⟨k,e,_⟩
  ·exact absurd hk (h1 k)
  ·rw[e];simp
theorem ycfs{g:Gr}(hg:yw g){a b:Nat}(ha:a<g.ports.length)(hb:b<g.ports.length)(h:(yeq g a).all (fun x=>decide (0<=x))=true):(yeq g b).all (fun x=>decide (0<=x))=true:=by
 rw[ybgr hg ha]at h;rw[ybgr hg hb];intro v hv;obtain⟨k,hk⟩:=h v hv;obtain⟨j,hj⟩:=h b hb;exact⟨_,Walk.trans (Walk.symm hg hj) hk⟩
end
section
abbrev Conf:=List (List Int)
abbrev Bounds:=List (Int×Int)
def yus(bs:Bounds)(s:List Int):Bool:=decide (s.length=bs.length)&&(bs.zip s).all (fun p=>decide (p.1.1<=p.2)&&decide (p.2<=p.1.2))
def yrh(n:Nat)(bs:Nat->Bounds)(c:Conf):Bool:=decide (c.length=n)&&c.zipIdx.all (fun p=>yus (bs p.2) p.1)
def yer(bs:Bounds)(s:List Int):Prop:=s.length=bs.length/\∀(i:Nat) b x,bs[i]?=some b->s[i]?=some x->b.1<=x/\x<=b.2
def ybkm(n:Nat)(bs:Nat->Bounds)(c:Conf):Prop:=c.length=n/\∀(v:Nat) s,c[v]?=some s->yer (bs v) s
theorem yfj(bs:Bounds)(s:List Int):yus bs s=true↔yer bs s:=by
 unfold yus yer;rw[zF,decide_eq_true_iff,zAF];refine and_congr_right fun _=>⟨fun h i b x hb hx=>?_,fun h p hp=>?_⟩
 ·have:=h (b,x) (zT (i:=i) (by simp[zAD,hb,hx]))
  simpa using this
 ·obtain⟨i,hi⟩:=List.mem_iff_getElem?.1 hp;obtain⟨b,x⟩:=p;rw[zAD]at hi
  simpa using h i b x hi.1 hi.2
theorem yfc(n:Nat)(bs:Nat->Bounds)(c:Conf):yrh n bs c=true↔ybkm n bs c:=by
 unfold yrh ybkm;rw[zF,decide_eq_true_iff,zAF];refine and_congr_right fun _=>⟨fun h v s hs=>?_,fun h p hp=>?_⟩
 ·refine(yfj _ _).1 (h (s,v) ?_);rw[zAB];exact hs
 ·rw[zAB]at hp;exact(yfj _ _).2 (h p.2 p.1 hp)
theorem yiw{n:Nat}{bs:Nat->Bounds}{c:Conf}(h:¬ybkm n bs c):yrh n bs c=false:=by
 cases hb:yrh n bs c with
 |false=>rfl
 |true=>exact absurd ((yfc n bs c).1 hb) h
theorem yxg{n:Nat}{bs:Nat->Bounds}{c:Conf}(h:ybkm n bs c):yrh n bs c=true:=(yfc n bs c).2 h
def ybcg(g:Gr)(v:Nat):Nat:=(g.ports.getD v []).length
def ydt(g:Gr)(G:List Int)(v:Nat):Bounds:=G.map (fun h=>if h = -1 then(-1,(ybcg g v:Int)-1)else(0,h))
def ybez(g:Gr):Int:=g.ids.foldl max 0
end
section
open Go.RowKit
theorem In_t(v lo hi:Int)(w:World)(h1:lo<=v)(h2:v<=hi) :
 Calls zH 134 #[.int .i64 v,.int .i64 lo,.int .i64 hi] w fun e w'=>e = .returned (.bool true)/\w=w':=by
 go_enter zAJ,zAI
 go_wp2
 go_ret
 exact⟨rfl,rfl⟩
theorem In_f(v lo hi:Int)(w:World)(h:v<lo\/hi<v) :
 Calls zH 134 #[.int .i64 v,.int .i64 lo,.int .i64 hi] w fun e w'=>e = .returned (.bool false)/\w=w':=by
 by_cases h1:lo<=v
 ·have h2:hi<v:=by omega
  go_enter zAJ,zAI
  go_wp2
  go_ret
  exact⟨ybi (by simp;omega),rfl⟩
 ·go_enter zAJ,zAI
  go_wp2
  go_ret
  exact⟨rfl,rfl⟩
theorem yzy(gv:Value)(g:Gr)(v:Nat)(ls:List (Int×Int))(u:Int)(w:World)(hg:GrAt w gv g)(hv:g.ports[v]?=some ls) :
 Calls zH 62 #[gv,.int .i64 v,.int .i64 u] w fun e w'=>e = .returned (.int .i64 (yfh ls u))/\Below w.heap.size w w':=by
 obtain⟨i,p,rfl,_,A,c,rfl,hc1,hc2,hp⟩:=hg;have hvlt:v<g.ports.length:=(List.getElem?_eq_some_iff.1 hv).1;obtain⟨b,off,rfl,hb,hP⟩:=hp (by omega)
 obtain⟨lv,hcell,A2,c2,rfl,hl1,hl2,hL⟩:=hP v ls hv;simp only[Nat.mul_one]at hcell;have HL:=zD hL;have HP:=zD hP;have Hv:=zD hv
 clear hL hP hv hp
 go_enter Tryz.func62,Tryz.ntmps62
 go_wp2
 go_loop [7] (fun t=>∃k:Nat,k<=ls.length/\t = .int .i64 k/\Hid ((ls.take k).findIdx? (fun l=>l.1==u)=none)) (fun t=>ls.length-(intOf t).toNat)
 case atStart=>exact⟨0,by omega,rfl,zD (by simp)⟩
 case round =>
  obtain⟨k,hk,rfl,hnone⟩:=hrel
  by_cases hlt:k<ls.length
  ·obtain⟨b2,off2,rfl,hb2,hE⟩:=HL.out (by omega)
   obtain⟨e1,e2,hw1,hw2⟩:=hE k ls[k] (zC hlt);have HE:=zD hE
   clear hE
   by_cases heq:ls[k].1=u
   ·have heq':(ls[k].1==u)=true:=by simp[heq]
    have Hr:=zD (yon ls u k hlt heq hnone.out)
    clear heq
    go_wp2
    go_ret
    exact⟨ybxx Hr.out.symm,(Below.refl _ _).alloc (zI _) _⟩
   ·have heq':(ls[k].1==u)=false:=by simp[heq]
    have Hr:=zD (yqc ls u k hlt heq hnone.out)
    clear heq
    go_wp2
    go_round
    case rel=>exact⟨k+1,by omega,by go_num,Hr⟩
    case measure=>simp[intOf];omega
  ·have hkl:k=ls.length:=by omega
   subst hkl;have Hr:=zD (ysp ls u hnone.out)
   go_wp2
   go_ret
   exact⟨ybxx Hr.out.symm,(Below.refl _ _).alloc (zI _) _⟩
theorem yhs(lv:Value)(ls:List (Int×Int))(v n:Int)(w:World)(hl:ybgl w lv ls)(hn:0<=n/\n<=1000) :
 Calls zH 135 #[lv,.int .i64 v,.int .i64 n] w fun e w'=>e = .returned (.bool (ynj ls v n))/\∃m,w'=w.drewN m:=by
 obtain⟨hn1,hn2⟩:=hn;obtain⟨A,c,rfl,hc1,hc2,hL⟩:=hl;have HL:=zD hL
 clear hL
 go_enter Tryz.func135,Tryz.ntmps135
 go_wp2
 go_loopw [7] (fun t wr=>∃k m:Nat,k<=ls.length/\t = .int .i64 k/\wr=w.drewN m/\Hid (ych (ls.take k) v n)) (fun t _=>ls.length-(intOf t).toNat)
 case atStart=>exact⟨0,0,by omega,rfl,rfl,zD ⟨by simp,by simp⟩⟩
 case round =>
  obtain⟨k,m,hk,rfl,rfl,hok⟩:=hrel
  by_cases hlt:k<ls.length
  ·obtain⟨b2,off2,rfl,hb2,hE⟩:=HL.out (by omega)
   obtain⟨e1,e2,⟨hw1,hw1'⟩,⟨hw2,hw2'⟩⟩:=hE k ls[k] (zC hlt);have HE:=zD hE
   clear hE
   have Hsn:=zD (yqd ls v n k hlt);have Hbad:=zD (fun h=>ytj ls v n (k+1) h)
   by_cases c1:0<=ls[k].1/\ls[k].1<=n-1
   ·obtain⟨c1a,c1b⟩:=c1
    by_cases c2:ls[k].1=v
    ·have c2':(ls[k].1==v)=true:=by simp[c2]
     have Hf:=zD (Hbad.out (fun h=>((Hsn.out.1 h).2.1).2.2.1 c2))
     clear c2
     go_wp2_with (first|(go_at_call 134;refine(In_t _ _ _ _ (by omega) (by omega)).mono ?_;rintro e w' ⟨rfl,rfl⟩))
     go_ret
     exact⟨ybi Hf.out.symm,m,rfl⟩
    ·have c2':(ls[k].1==v)=false:=by simp[c2]
     by_cases c3:1<=ls[k].2/\ls[k].2<=15
     ·obtain⟨c3a,c3b⟩:=c3;have Hlk:=zD (show yhy v n ls[k]from⟨c1a,c1b,c2,c3a,c3b⟩)
      clear c2
      go_wp2_with (first|(go_at_call 134;refine(In_t _ _ _ _ (by omega) (by omega)).mono ?_;rintro e w' ⟨rfl,rfl⟩))
      go_loopw [8] (fun t wr=>∃j m2:Nat,j<=k/\t = .int .i64 j/\wr=w.drewN m2/\Hid (∀i (hi:i<j) (hj:j<=k),ls[i].1≠ls[k].1)) (fun t _=>k-(intOf t).toNat)
      case atStart=>exact⟨0,m,by omega,rfl,rfl,zD (fun i hi=>absurd hi (by omega))⟩
      case round =>
       obtain⟨j,m2,hj,rfl,rfl,hne⟩:=hrel
       by_cases hjk:j<k
       ·obtain⟨f1,f2,_,_⟩:=HE.out j ls[j] (zC (by omega))
        by_cases c4:ls[j].1=ls[k].1
        ·have c4':(ls[j].1==ls[k].1)=true:=by simp[c4]
         have Hf:=zD (Hbad.out (fun h=>(Hsn.out.1 h).2.2 j hjk c4))
         clear c4
         go_wp2
         go_quiet (fail)
         go_wp2
         go_ret
         exact⟨ybi Hf.out.symm,_,World.drewN_drewN _ _ _⟩
        ·have c4':(ls[j].1==ls[k].1)=false:=by simp[c4]
         have Hc4:=zD c4
         clear c4
         go_wp2
         go_quiet (fail)
         go_wp2
         go_roundw
         case rel =>
          refine⟨j+1,_,by omega,by go_num,rfl,zD (fun i hi hj'=>?_)⟩
          by_cases hij:i<j
          ·exact hne.out i hij hj
          ·obtain rfl:i=j:=by omega
           exact Hc4.out
         case measure=>simp[intOf];omega
       ·obtain rfl:j=k:=by omega
        go_wp2
        go_roundw
        case rel=>exact⟨j+1,_,by omega,by go_num,rfl,zD (Hsn.out.2 ⟨hok.out,Hlk.out,fun i hi=>hne.out i hi (zI _)⟩)⟩
        case measure=>simp[intOf];omega
     ·have Hf:=zD (Hbad.out (fun h=>c3 ⟨((Hsn.out.1 h).2.1).2.2.2.1,((Hsn.out.1 h).2.1).2.2.2.2⟩))
      clear c2
      have c3':ls[k].2<1\/15<ls[k].2:=by omega
      clear c3
      go_wp2_with (first|(go_at_call 134;refine(In_t _ _ _ _ (by omega) (by omega)).mono ?_;rintro e w' ⟨rfl,rfl⟩)|(go_at_call 134;refine(In_f _ _ _ _ (by omega)).mono ?_;rintro e w' ⟨rfl,rfl⟩))
      go_ret
      exact⟨ybi Hf.out.symm,m,rfl⟩
   ·have Hf:=zD (Hbad.out (fun h=>c1 ⟨((Hsn.out.1 h).2.1).1,((Hsn.out.1 h).2.1).2.1⟩));have c1':ls[k].1<0\/n-1<ls[k].1:=by omega
    clear c1
    go_wp2_with (first|(go_at_call 134;refine(In_f _ _ _ _ (by omega)).mono ?_;rintro e w' ⟨rfl,rfl⟩))
    go_ret
    exact⟨ybi Hf.out.symm,m,rfl⟩
  ·obtain rfl:k=ls.length:=by omega
   have Ht:=zD (yvo ls v n hok.out)
   go_wp2
   go_ret
   exact⟨ybi Ht.out.symm,m,rfl⟩
end
section
open Go.RowKit
set_option maxHeartbeats 2000000 in
theorem ybet(gv:Value)(g:Gr)(w:World)(hg:GrAt w gv g) :
 Calls zH 85 #[gv] w fun e w'=>e = .returned (.bool (yec g))/\Below w.heap.size w w':=by
 have hg0:=zD hg;obtain⟨i,p,rfl,hi,hp⟩:=hg;obtain⟨A,c,rfl,hA1,hA2⟩:=ybw hi;obtain⟨A2,c2,rfl,hB1,hB2⟩:=ybw hp;have Hi:=zD hi;have Hp:=zD hp
 clear hi hp
 by_cases n1:1<=g.ports.length/\g.ports.length<=24
 ·obtain⟨n1a,n1b⟩ := n1
  by_cases n2:g.ids.length=g.ports.length
  ·have n2':((g.ids.length:Int)!=(g.ports.length:Int))=false:=by simp[n2]
   have Hn2:=zD n2;have n2a:g.ids.length<=g.ports.length:=by omega
   have n2b:g.ports.length<=g.ids.length:=by omega
   clear n2
   go_enter zAM,zAK
   go_wp2_with (first|(go_at_call 134;refine(In_t _ _ _ _ (by omega) (by omega)).mono ?_;rintro e w' ⟨rfl,rfl⟩))
   go_loopw [4] (fun t wr=>∃k:Nat,k<=g.ports.length/\t = .int .i64 k/\Hid (Below (w.heap.size+1) (w.alloc (.cells #[.slice A g.ids.length c,.slice A2 g.ports.length c2] 27)) wr)/\Hid (∀v,v<k->V2 g v)) (fun t _=>g.ports.length-(intOf t).toNat)
   case atStart=>exact⟨0,by omega,rfl,zD (Below.refl _ _),zD (fun v hv=>absurd hv (by omega))⟩
   case round =>
    obtain⟨k,hk,rfl,hbel,hv2⟩:=hrel;obtain⟨q0,q1,hbw,hsz⟩:=box2 hbel.out;have Hbw:=zD hbw
    clear hbw
    by_cases hlt:k<g.ports.length
    ·obtain⟨b,off,rfl,hb,hcid,hr⟩:=yih (Hi.out.below Stable.int Hbw.out) (show k<g.ids.length by omega)
     obtain⟨b2,off2,lv,rfl,hb2,hcl,hls⟩:=yid (Hp.out.below (Stable.sl Stable.link) Hbw.out) (zC hlt);obtain⟨A3,c3,rfl,hl1,hl2⟩:=ybw hls;have Hls:=zD hls
     clear hls
     obtain⟨x,hx⟩:∃x,g.ids[k]?=some x:=⟨_,zC (by omega)⟩
     have hxe:g.ids[k]=x:=by have:=zC (l:=g.ids) (i:=k) (by omega);rw[hx]at this;exact(Option.some.inj this).symm
     simp only[hxe]at hcid hr;obtain⟨ls,hle⟩:∃ls,g.ports[k]=ls:=⟨_,rfl⟩;have hlp:g.ports[k]?=some ls:=by rw[zC hlt,hle]
     simp only[hle]at hcl hl1 Hls;have Hx:=zD hx;have Hlp:=zD hlp
     clear hx hxe hle hlp
     obtain⟨hr1,hr2⟩:=hr;have Hbad:=zD (fun h=>ytr (g:=g) (v:=k) hlt h)
     by_cases c1:0<=x/\x<=255
     ·obtain⟨c1a,c1b⟩:=c1
      by_cases c2:ls.length<g.ports.length
      ·have c2d:decide (g.ports.length<=ls.length)=false:=by simp;omega
       by_cases c3:ynj ls (k:Int) (g.ports.length:Int)=true
       ·go_wp2_with (first|(go_at_call 134;refine(In_t _ _ _ _ (by omega) (by omega)).mono ?_;rintro e w' ⟨rfl,rfl⟩)|(go_at_call 135;refine(yhs _ ls _ _ _ Hls.out ⟨by omega,by omega⟩).mono ?_;rintro e w' ⟨rfl,m,rfl⟩))
        obtain⟨w2,hw2⟩:∃w2,w2=wr.drewN m:=⟨_,rfl⟩;rw[<-hw2];have Hb2:=zD (yvl hbel.out hw2)
        clear hw2
        go_loopw [5] (fun t wq=>∃j m2:Nat,j<=k/\t = .int .i64 j/\wq=w2.drewN m2/\Hid (∀u y,u<j->g.ids[u]?=some y->y≠x)) (fun t _=>k-(intOf t).toNat)
        case atStart=>exact⟨0,0,by omega,rfl,rfl,zD (fun u y hu=>absurd hu (by omega))⟩
        case round =>
         obtain⟨j,m2,hj,rfl,rfl,hne⟩:=hrel;obtain⟨q0,q1,hbw,hsz⟩:=box2 Hb2.out;have Hbw2:=zD hbw;obtain⟨b',off',e',hb',hcid,_⟩:=yih (Hi.out.below Stable.int Hbw2.out) (show k<g.ids.length by omega)
         cases e'
         clear hbw
         have hkx:g.ids[k]=x:=by have:=zC (l:=g.ids) (i:=k) (by omega);rw[Hx.out]at this;exact(Option.some.inj this).symm
         rw[hkx]at hcid
         clear hkx
         by_cases hjk:j<k
         ·obtain⟨b',off',e',hb',hcj,_⟩:=yih (Hi.out.below Stable.int Hbw2.out) (show j<g.ids.length by omega)
          cases e'
          by_cases c4:g.ids[j]=x
          ·have c4':(g.ids[j]==x)=true:=by simp[c4]
           have Hf:=zD (Hbad.out (fun h=>(h x ls Hx.out Hlp.out).2.2.2 j _ hjk (zC (by omega)) c4))
           clear c4
           go_wp2
           go_quiet (fail)
           go_wp2
           go_ret
           exact⟨ybi Hf.out.symm,below_drewN (below_drewN (box2 Hb2.out).2.2.1 _) _⟩
          ·have c4':(g.ids[j]==x)=false:=by simp[c4]
           have Hc4:=zD c4
           clear c4
           go_wp2
           go_quiet (fail)
           go_wp2
           go_roundw
           case rel =>
            refine⟨j+1,_,by omega,by go_num,rfl,zD (fun u y hu hy=>?_)⟩
            by_cases huj:u<j
            ·exact hne.out u y huj hy
            ·obtain rfl:u=j:=by omega
             rw[zC (by omega)]at hy
             cases hy
             exact Hc4.out
           case measure=>simp[intOf];omega
         ·obtain rfl:j=k:=by omega
          go_wp2
          go_roundw
          case rel =>
           refine⟨j+1,by omega,by go_num,zD (below_drewN Hb2.out _),zD (fun v hv=>?_)⟩
           by_cases hvj:v<j
           ·exact hv2.out v hvj
           ·obtain rfl:v=j:=by omega
            intro x' ls' hx' hls';rw[Hx.out]at hx';rw[Hlp.out]at hls';cases hx'
            cases hls'
            exact⟨⟨c1a,c1b⟩,c2,c3,hne.out⟩
          case measure=>simp[intOf];omega
       ·have c3':ynj ls (k:Int) (g.ports.length:Int)=false:=by simpa using c3
        have Hf:=zD (Hbad.out (fun h=>c3 (h x ls Hx.out Hlp.out).2.2.1))
        clear c3
        go_wp2_with (first|(go_at_call 134;refine(In_t _ _ _ _ (by omega) (by omega)).mono ?_;rintro e w' ⟨rfl,rfl⟩)|(go_at_call 135;refine(yhs _ ls _ _ _ Hls.out ⟨by omega,by omega⟩).mono ?_;rintro e w' ⟨rfl,m,rfl⟩))
        go_ret
        exact⟨ybi Hf.out.symm,below_drewN Hbw.out _⟩
      ·have c2d:decide (g.ports.length<=ls.length)=true:=by simp;omega
       have Hf:=zD (Hbad.out (fun h=>c2 (h x ls Hx.out Hlp.out).2.1))
       go_wp2_with (first|(go_at_call 134;refine(In_t _ _ _ _ (by omega) (by omega)).mono ?_;rintro e w' ⟨rfl,rfl⟩)|(go_at_call 135;refine(yhs _ ls _ _ _ Hls.out ⟨by omega,by omega⟩).mono ?_;rintro e w' ⟨rfl,m,rfl⟩))
       go_ret
       exact⟨ybi Hf.out.symm,Hbw.out⟩
     ·have Hf:=zD (Hbad.out (fun h=>c1 (h x ls Hx.out Hlp.out).1));have c1':x<0\/255<x:=by omega
      clear c1
      go_wp2_with (first|(go_at_call 134;refine(In_f _ _ _ _ (by omega)).mono ?_;rintro e w' ⟨rfl,rfl⟩))
      go_ret
      exact⟨ybi Hf.out.symm,Hbw.out⟩
    ·obtain rfl:k=g.ports.length:=by omega
     go_wp2
     go_loopw [6] (fun t wr=>∃k:Nat,k<=g.ports.length/\t = .int .i64 k/\Hid (Below (w.heap.size+1) (w.alloc (.cells #[.slice A g.ids.length c,.slice A2 g.ports.length c2] 27)) wr)/\Hid (∀v i,v<k->V3 g v i)) (fun t _=>g.ports.length-(intOf t).toNat)
     case atStart=>exact⟨0,by omega,rfl,hbel,zD (fun v i hv=>absurd hv (by omega))⟩
     case round =>
      clear hbel Hbw q0 q1 hsz
      obtain⟨k,hk,rfl,hbel,hv3⟩:=hrel;obtain⟨q0,q1,hbw,hsz⟩:=box2 hbel.out;have Hbw:=zD hbw
      clear hbw
      by_cases hlt:k<g.ports.length
      ·obtain⟨ls,hle⟩:∃ls,g.ports[k]=ls:=⟨_,rfl⟩;have hlp:g.ports[k]?=some ls:=by rw[zC hlt,hle]
       have Hlp:=zD hlp
       clear hle hlp
       have Hlk:=zD (show ∀l∈ls,yhy k g.ports.length l by
        have:=(hv2.out k hlt _ ls (zC (by omega)) Hlp.out).2.2.1
        exact fun l hl=>(of_decide_eq_true this).1 l hl)
       have Hbad:=zD (fun i h=>yum (g:=g) (v:=k) (i:=i) hlt h)
       go_wp2
       go_loopw [7] (fun t wr=>∃i:Nat,i<=ls.length/\t = .int .i64 i/\Hid (Below (w.heap.size+1) (w.alloc (.cells #[.slice A g.ids.length c,.slice A2 g.ports.length c2] 27)) wr)/\Hid (∀j,j<i->V3 g k j)) (fun t _=>ls.length-(intOf t).toNat)
       case atStart=>exact⟨0,by omega,rfl,hbel,zD (fun j hj=>absurd hj (by omega))⟩
       case round =>
        clear hbel Hbw q0 q1 hsz
        obtain⟨i,hi,rfl,hbel,hv3'⟩:=hrel;obtain⟨q0,q1,hbw,hsz⟩:=box2 hbel.out;have Hbw:=zD hbw;obtain⟨b2,off2,lv,rfl,hb2,hcl,hls⟩:=yid (Hp.out.below (Stable.sl Stable.link) Hbw.out) Hlp.out;obtain⟨A3,c3,rfl,hl1,hl2⟩:=ybw hls
        by_cases hil:i<ls.length
        ·obtain⟨A4,c4,e4,_,_,hE⟩:=hls;cases e4
         obtain⟨b3,off3,rfl,hb3,hE⟩:=hE (by omega)
         obtain⟨⟨l1,wt⟩,hle⟩:∃l,ls[i]=l:=⟨_,rfl⟩;have hl?:ls[i]?=some (l1,wt):=by rw[zC hil,hle]
         obtain⟨hx1,hx2,⟨hr1,hr2⟩,⟨hr3,hr4⟩⟩:=hE i _ hl?;have hlk:=Hlk.out (l1,wt) (zT hl?);unfold yhy at hlk;obtain⟨k1,k2,k3,k4,k5⟩:=hlk;simp only at k1 k2 k3 k4 k5 hx1 hx2 hr1 hr2 hr3 hr4;obtain⟨t,rfl⟩:=Int.eq_ofNat_of_zero_le k1;have htl:t<g.ports.length:=by omega
         obtain⟨b',off',lv',e',hb',hcl',hls'⟩:=yid (Hp.out.below (Stable.sl Stable.link) Hbw.out) (zC htl);cases e'
         obtain⟨A5,c5,rfl,hm1,hm2⟩:=ybw hls';obtain⟨ls',hle'⟩:∃ls',g.ports[t]=ls':=⟨_,rfl⟩;have Hlp':=zD (show g.ports[t]?=some ls' by rw[zC htl,hle'])
         rw[hle']at hls' hcl' hm1;have Hl?:=zD hl?;have HE:=zD hE;have Hls':=zD hls';have Hbb:=zD (Hbad.out i)
         clear hle hle' hl? hE hls' k1 k3 hbw
         have Hgr:=zD (hg0.out.below Hbw.out);rcases ymc (ls:=ls') (u:=(k:Int))with hpt|⟨q,hpt,hq⟩
         ·have Hpt:=zD hpt
          clear hpt
          have Hf:=zD (Hbb.out (fun h=>by
           obtain⟨ls2,q2,l2,f1,f2,_⟩:=h ls _ Hlp.out Hl?.out;rw[zW,Hlp'.out]at f1;cases f1
           rw[Hpt.out]at f2;omega))
          go_wp2_with fail
          refine(yzy _ g t ls' k _ (Hgr.out.below ((Below.refl _ _).alloc (zI _) _)) Hlp'.out).mono ?_;rintro e w3 ⟨rfl,hb3w⟩;rw[Hpt.out];have d0:=keepA hb3w _ _ q0;have d1:=keepA hb3w _ _ q1;have d2:=keepA hb3w _ _ hcl';obtain⟨d3,d4⟩:=ycgj hb3w;have Hb3:=zD (ybjp hb3w);have hz3:wr.heap.size<w3.heap.size:=by have:=hb3w.size;simp at this;omega
          clear hb3w
          go_wp2
          go_quiet (fail)
          go_wp2
          go_ret
          exact⟨ybi Hf.out.symm,below_drewN (Hbw.out.trans (Hb3.out.mono Hbw.out.size)) _⟩
         ·have Hpt:=zD hpt
          clear hpt
          obtain⟨A6,c6,e6,_,_,hE6⟩:=Hls'.out;cases e6
          obtain⟨b6,off6,rfl,hb6,hE6⟩:=hE6 (by omega)
          obtain⟨⟨y1,y2⟩,hqe⟩:∃l,ls'[q]=l:=⟨_,rfl⟩;have hq?:ls'[q]?=some (y1,y2):=by rw[zC hq,hqe]
          obtain⟨_,hx4,_,_⟩:=hE6 q _ hq?;simp only at hx4;have Hq?:=zD hq?
          clear hqe hq? hE6
          by_cases c7:y2=wt
          ·have c7':(y2 != wt)=false:=by simp[c7]
           have Hv:=zD (show V3 g k i from fun ls2 l2 f1 f2=>by
            rw[Hlp.out]at f1;cases f1
            rw[Hl?.out]at f2;cases f2
            exact⟨ls',q,(y1,y2),by rw[zW];exact Hlp'.out,Hpt.out,Hq?.out,c7⟩)
           clear c7
           go_wp2_with fail
           refine(yzy _ g t ls' k _ (Hgr.out.below ((Below.refl _ _).alloc (zI _) _)) Hlp'.out).mono ?_;rintro e w3 ⟨rfl,hb3w⟩;rw[Hpt.out];have d0:=keepA hb3w _ _ q0;have d1:=keepA hb3w _ _ q1;have d2:=keepA hb3w _ _ hcl';obtain⟨d3,d4⟩:=ycgj hb3w;have Hb3:=zD (ybjp hb3w);have hz3:wr.heap.size<w3.heap.size:=by have:=hb3w.size;simp at this;omega
           clear hb3w
           have d5:=(Hb3.out.cell hb6).trans hx4
           go_wp2
           go_quiet (fail)
           go_wp2
           go_roundw
           case rel =>
            refine⟨i+1,by omega,by go_num,zD (below_drewN (hbel.out.trans (Hb3.out.mono (by have:=hbel.out.size;simp at this;omega))) _),zD (fun j hj=>?_)⟩
            by_cases hji:j<i
            ·exact hv3'.out j hji
            ·obtain rfl:j=i:=by omega
             exact Hv.out
           case measure=>simp[intOf];omega
          ·have c7':(y2 != wt)=true:=by simp[c7]
           have Hf:=zD (Hbb.out (fun h=>by
            obtain⟨ls2,q2,l2,f1,f2,f3,f4⟩:=h ls _ Hlp.out Hl?.out;rw[zW,Hlp'.out]at f1;cases f1
            rw[Hpt.out]at f2;obtain rfl:q=q2:=by omega
            rw[Hq?.out]at f3;cases f3
            exact c7 f4))
           clear c7
           go_wp2_with fail
           refine(yzy _ g t ls' k _ (Hgr.out.below ((Below.refl _ _).alloc (zI _) _)) Hlp'.out).mono ?_;rintro e w3 ⟨rfl,hb3w⟩;rw[Hpt.out];have d0:=keepA hb3w _ _ q0;have d1:=keepA hb3w _ _ q1;have d2:=keepA hb3w _ _ hcl';obtain⟨d3,d4⟩:=ycgj hb3w;have Hb3:=zD (ybjp hb3w);have hz3:wr.heap.size<w3.heap.size:=by have:=hb3w.size;simp at this;omega
           clear hb3w
           have d5:=(Hb3.out.cell hb6).trans hx4
           go_wp2
           go_quiet (fail)
           go_wp2
           go_ret
           exact⟨ybi Hf.out.symm,below_drewN (Hbw.out.trans (Hb3.out.mono Hbw.out.size)) _⟩
        ·obtain rfl:i=ls.length:=by omega
         have HE:=zD hls
         clear hls hbw
         go_wp2
         go_roundw
         case rel =>
          refine⟨k+1,by omega,by go_num,hbel,zD (fun v j hv=>?_)⟩
          by_cases hvk:v<k
          ·exact hv3.out v j hvk
          ·obtain rfl:v=k:=by omega
           by_cases hj:j<ls.length
           ·exact hv3'.out j hj
           ·intro ls2 l2 f1 f2;rw[Hlp.out]at f1;cases f1
            rw[zAG (by omega)]at f2
            cases f2
         case measure=>simp[intOf];omega
      ·obtain rfl:k=g.ports.length:=by omega
       have Ht:=zD (show yec g=true from decide_eq_true (yw.of n1a n1b Hn2.out hv2.out (fun v i hv=>hv3.out v i hv)))
       go_wp2
       go_ret
       exact⟨ybi Ht.out.symm,Hbw.out⟩
  ·have n2':((g.ids.length:Int)!=(g.ports.length:Int))=true:=by simp;omega
   have Hf:=zD (yeg (g:=g) (fun h=>n2 h.2.2))
   clear n2
   go_enter zAM,zAK
   go_wp2_with (first|(go_at_call 134;refine(In_t _ _ _ _ (by omega) (by omega)).mono ?_;rintro e w' ⟨rfl,rfl⟩))
   go_ret
   exact⟨ybi Hf.out.symm,(Below.refl _ _).alloc (zI _) _⟩
 ·have Hf:=zD (yeg (g:=g) (fun h=>n1 ⟨h.1,h.2.1⟩));have n1':g.ports.length<1\/24<g.ports.length:=by omega
  clear n1
  go_enter zAM,zAK
  go_wp2_with (first|(go_at_call 134;refine(In_f _ _ _ _ (by omega)).mono ?_;rintro e w' ⟨rfl,rfl⟩))
  go_ret
  exact⟨ybi Hf.out.symm,(Below.refl _ _).alloc (zI _) _⟩
end
section
open Go.RowKit
def ybes(acc:Int×Int->Bool)(ls:List (Int×Int)):Int:=match ls.findIdx? acc with|some i=>i|none=>-1
end
section
def portOf(g:Gr)(v:Nat)(y:Int):Int:=if 0<=y then((g.ports.getD v []).getD y.toNat (0,0)).1 else -1
def yzh(g:Gr)(c:Conf)(x:Nat):List Int:=c.zipIdx.map (fun p=>portOf g p.2 (p.1.getD x 0))
theorem ybbl(g:Gr)(c:Conf)(x v:Nat)(s:List Int)(hs:c[v]?=some s):(yzh g c x)[v]?=some (portOf g v (s.getD x 0)):=by
 simp[yzh,List.getElem?_zipIdx,hs]
end
section
def ybaw(ids:List Int)(k:Nat):Int:=(ids.take k).tail.foldl max (ids.headD 0)
abbrev maxI(ids:List Int):Int:=ybaw ids ids.length
theorem ybuc{ids:List Int}{k:Nat}(h1:1<=k)(hk:k<ids.length):(ids.take (k+1)).tail=(ids.take k).tail++[ids[k]]:=by
 rw[zG hk,List.tail_append_of_ne_nil];intro h;have:=congrArg zAW h;rw[zAN,zAR]at this;omega
theorem ycak(ids:List Int):ybaw ids 1=ids.headD 0:=by cases ids<;>simp[ybaw]
theorem ybok{ids:List Int}{k:Nat}(h1:1<=k)(hk:k<ids.length):ybaw ids (k+1)=max (ybaw ids k) ids[k]:=by
 unfold ybaw;rw[ybuc h1 hk,zL];rfl
theorem ybkn{ids:List Int}(h0:0<ids.length)(h:∀x∈ids,0<=x):maxI ids=ids.foldl max 0:=by
 cases ids with
 |nil=>simp at h0
 | cons x l =>
   have hx:max 0 x=x:=Int.max_eq_right (h x (by simp))
   simp[maxI,ybaw,hx]
def idxP(ids:List Int)(x:Int):Int:=match ids.findIdx? (fun y=>x==y)with
 |some i=>i
 |none=>-1
theorem ycew{ids:List Int}{x:Int}{k:Nat}(hk:k<ids.length)(h:x=ids[k])(hn:(ids.take k).findIdx? (fun y=>x==y)=none):idxP ids x=k:=by
 unfold idxP
 have:ids.findIdx? (fun y=>x==y)=some k:=by
  rw[zY];refine⟨hk,by simp[h],fun j hj=>?_⟩
  rw[zU]at hn;simp[hn ids[j] (List.mem_take_iff_getElem.2 ⟨j,by omega,rfl⟩)]
 rw[this]
theorem ybzo{ids:List Int}{x:Int}(hn:(ids.take ids.length).findIdx? (fun y=>x==y)=none):idxP ids x = -1:=by
 rw[zAO]at hn;unfold idxP;rw[hn]
theorem ycbj{ids:List Int}{x:Int}{k:Nat}(hk:k<ids.length)(h:x≠ids[k])(hn:(ids.take k).findIdx? (fun y=>x==y)=none):(ids.take (k+1)).findIdx? (fun y=>x==y)=none:=by
 rw[zG hk,zAH,hn];simp[h]
end
section
namespace Sh
open Go Ev
def yu(l:List Int):SV:=.sl 1 l.length (fun k=>[.i .i64 (l.getD k 0)])
def ybc(ls:List (Int×Int)):SV:=.sl 2 ls.length (fun j=>[.i .i64 (ls.getD j (0,0)).1,.i .i64 (ls.getD j (0,0)).2])
def ybb(ps:List (List (Int×Int))):SV:=.sl 1 ps.length (fun v=>[ybc (ps.getD v [])])
def ybk(c:List (List Int)):SV:=.sl 1 c.length (fun v=>[yu (c.getD v [])])
def grV(g:Gr):SV:=.ag [yu g.ids,ybb g.ports]
theorem ik{n:Int}(h1:-1000000000000<=n)(h2:n<=1000000000000):inK .i64 n:=by
 unfold inK;simp[IntKind.min,IntKind.max,IntKind.bits,IntKind.signed];omega
theorem ikw{n:Int}(h1:-4611686018427387904<=n)(h2:n<=4611686018427387904):inK .i64 n:=by
 unfold inK;simp[IntKind.min,IntKind.max,IntKind.bits,IntKind.signed];omega
theorem getD_at{α:Type}{l:List α}{k:Nat}{d:α}(h:k<l.length):l.getD k d=l[k]:=by simp[zS,h]
theorem ycgs{l:List Int}{i k:Nat}{x:Int}(h:i<l.length):(l.set i x).getD k 0=if k=i then x else l.getD k 0:=by
 simp only[zS,zX]
 by_cases q:i=k
 ·subst q;simp[h]
 ·rw[if_neg q,if_neg (Ne.symm q)]
theorem ybuq(l:List Int)(x:Int)(hl:l.length<=100000):Returns zH 165 [yu l,.i .i64 x] (.i .i64 (idxP l x)):=by
 refine Returns.of (ydee _ _ ?_);simp only[c165,yctk,ycmh,yu,go_sem,zB,↓reduceIte,reduceCtorEq];refine ybj (σ:=Nat) (fun k=>⟨[(8,.i .i64 k),(0,yu l),(1,.i .i64 x),(7,.i .i64 l.length)],[]⟩) (fun k=>k<=l.length/\(l.take k).findIdx? (fun y=>x==y)=none) (fun k=>l.length-k) 0 ⟨zZ _,by simp⟩ ?_ ?_
 ·refine yh [] [] [] ?_;simp only[yu,allQ,live,yc,zJ,go_sem,zA,↓reduceIte,reduceCtorEq]
 ·intro k ⟨hk,hno⟩;simp only[ychd,ycts,ychw,ycpp,ycnv,ycti,yu,yba,go_sem,zA,zB,↓reduceIte,reduceCtorEq];refine⟨fun h=>⟨by omega,fun he=>?_,fun he=>⟨ik (by omega) (by omega),?_⟩⟩,fun h=>?_⟩
  ·have hlt:k<l.length:=by omega
   rw[ycew hlt (by rw[he,getD_at hlt]) hno]
  ·have hlt:k<l.length:=by omega
   refine yj (k+1) ⟨by omega,ycbj hlt (by rw[<-getD_at (d:=0) hlt];exact he) hno⟩ (by omega) ?_
   refine yh [] [] [] ?_;simp only[allQ,live,yc,yba,go_sem,zA,↓reduceIte,reduceCtorEq];simp
  ·obtain rfl:k=l.length:=by omega
   rw[ybzo hno]
theorem ycyr(l:List Int)(h0:0<l.length)(hl:l.length<=100000):Returns zH 160 [yu l] (.i .i64 (maxI l)):=by
 refine Returns.of (yddf _ _ ?_);simp only[c160,ycxj,ycra,ycqz,ycmc,ycjn,yu,go_sem,zAS,zA,zB,↓reduceIte,reduceCtorEq];refine⟨fun h=>by omega,fun _=>⟨by omega,?_⟩⟩
 refine ybj (σ:=Nat) (fun k=>⟨[(4,.i .i64 k),(3,.i .i64 (ybaw l k)),(0,yu l)],[]⟩) (fun k=>1<=k/\k<=l.length) (fun k=>l.length-k) 1 ⟨by omega,by omega⟩ ?_ ?_
 ·refine yh [] [] [] ?_;simp only[yu,ycak,allQ,live,yc,yba,go_sem,zA,↓reduceIte,reduceCtorEq];cases l<;>simp at h0 ⊢
 ·intro k ⟨hk1,hk⟩;simp only[ycue,ycmi,ycla,yckv,yu,yba,go_sem,zA,zB,↓reduceIte,reduceCtorEq];refine⟨fun h=>⟨by omega,ik (by omega) (by omega),?_⟩,fun h=>?_⟩
  ·refine yj (k+1) ⟨by omega,by omega⟩ (by omega) ?_
   refine yh [] [] [] ?_;have hlt:k<l.length:=by omega
   simp only[ybok hk1 hlt,getD_at hlt,allQ,live,yc,yba,go_sem,zA,↓reduceIte,reduceCtorEq];simp
  ·obtain rfl:k=l.length:=by omega
   rfl
end Sh
end
section
structure VarR where
 name:ByteArray
 kind:Int
 lo:Int
 hi:Int
 perNode:Int
 perID:Int
def varE:Elem VarR:=fun w b o x=>w.cell? ⟨b,o,none⟩=some (.string x.name)/\w.cell? ⟨b,o+1,none⟩=some (.int .i64 x.kind)/\w.cell? ⟨b,o+2,none⟩=some (.int .i64 x.lo)/\w.cell? ⟨b,o+3,none⟩=some (.int .i64 x.hi) /\
 w.cell? ⟨b,o+4,none⟩=some (.int .i64 x.perNode)/\w.cell? ⟨b,o+5,none⟩=some (.int .i64 x.perID)
theorem Stable.var:Stable varE:=fun _ _ _ _ _ h _ hx=>⟨h _ _ hx.1,h _ _ hx.2.1,h _ _ hx.2.2.1,h _ _ hx.2.2.2.1,h _ _ hx.2.2.2.2.1,h _ _ hx.2.2.2.2.2⟩
theorem ybmf(ids:List Int)(k:Nat)(hk:k<ids.length):(ids.take (k+1)).foldl max 0=max ((ids.take k).foldl max 0) ids[k]:=by
 rw[take_snoc ids k hk,zL];rfl
theorem ybep(D:List Int)(m:Int)(h:∀x∈D,x<=m):∀a:Int,a<=m->D.foldl max a<=m:=by
 induction D with
 |nil=>intro a ha;exact ha
 |cons x D ih=>intro a ha;exact ih (fun y hy=>h y (by simp[hy])) _ (Int.max_le.2 ⟨ha,h x (by simp)⟩)
theorem ytp{g:Gr}(hg:yw g):0<=ybez g/\ybez g<=255:=⟨ybeh _ _,ybep _ _ (fun x hx=>(hg.2.2.2.1 x hx).2) _ (by omega)⟩
end
section
abbrev Tm:=Int×Int
structure SetR where
 var:Int
 val:List Tm
structure RuleR where
 name:ByteArray
 guard:List Tm
 sets:List SetR
structure ProgR where
 name:ByteArray
 vars:List VarR
 rules:List RuleR
instance:Inhabited VarR:=⟨⟨.empty,0,0,0,0,0⟩⟩
instance:Inhabited SetR:=⟨⟨0,[]⟩⟩
instance:Inhabited RuleR:=⟨⟨.empty,[],[]⟩⟩
inductive Ex where
 |leaf (op arg:Int)
 |un (op:Int) (a:Ex)
 |agg (op:Int) (a:Ex)
 |bin (op:Int) (a b:Ex)
 |ite (c a b:Ex)
def Ex.ser:Ex->List Tm
 |.leaf op arg=>[(op,arg)]
 |.un op a=>(op,0)::a.ser
 |.agg op a=>(op,0)::a.ser
 |.bin op a b=>(op,0)::(a.ser++b.ser)
 |.ite c a b=>(43,0)::(c.ser++(a.ser++b.ser))
def satP(a:Int):Int:=max (-1073741824) (min a 1073741824)
def ybr(b:Bool):Int:=if b then 1 else 0
def yuy(a b:Int):Int:=if b=0 then 0 else if a.tmod b≠0/\(decide (a<0)≠decide (b<0))then a.tdiv b-1 else a.tdiv b
def unP(op a:Int):Int:=if op=18 then -a else ybr (a==0)
def cmpP(op a b:Int):Bool:=if op=35 then a==b else if op=36 then a != b else if op=37 then decide (a<b)else if op=38 then decide (a<=b)else if op=39 then decide (a>b)else decide (a>=b)
def binP(op a b:Int):Int :=
 if op=30 then satP (a*b)else if op=31 then satP (yuy a b)else if op=32 then(if b=0 then 0 else satP (a-b*yuy a b))else if op=33 then satP (a+b)else if op=34 then satP (a-b)
 else if op=41 then ybr (a != 0&&b != 0)else if op=42 then ybr (a != 0||b != 0)else ybr (cmpP op a b)
def countP(l:List Int):Int:=((l.filter (· != 0)).length:Int)
def yqk(l:List Int):Int:=l.foldl min 1073741824
def yef(l:List Int):Int×Int:=l.foldl (fun p a=>if a>p.1 then(a,p.1)else(p.1,max p.2 a)) (-1073741824,-1073741824)
def yvb(l:List Int):Nat->Int->Int
 |0,r=>r
 |n+1,r=>if l.elem r then yvb l n (r+1)else r
def mexP(l:List Int):Int:=yvb l (l.length+1) 0
def yeh(l:List Int):Int:=match l.findIdx? (· != 0)with|some i=>i|none=>-1
def yhd(op:Int)(l:List Int):Int :=
 if op=20 then ybr (countP l==l.length)else if op=21 then ybr (decide (countP l>0))else if op=22 then countP l else if op=23 then yeh l else if op=24 then yqk l else if op=25 then(yef l).1
 else if op=26 then satP l.sum else if op=27 then mexP l else if op=28 then(yef l).2 else l.headD 0
structure Sc where
 g:Gr
 c:Conf
def ybm(g:Gr)(v port:Nat):Int×Int:=(g.ports.getD v []).getD port (0,0)
def yie(g:Gr)(v:Nat):List Int:=(g.ports.getD v []).map fun l=>yfh (g.ports.getD l.1.toNat []) v
def ymw(g:Gr)(op:Int)(v:Nat)(port:Int):Int :=
 if op=6 then g.ids.length else if op=7 then ybez g else if op=8 then g.ids.getD v 0 else if op=9 then((g.ports.getD v []).length:Int)else if op=10 then ybr ((v:Int)==0)else if op=11 then port
 else(let l:=ybm g v port.toNat
  if op=13 then g.ids.getD l.1.toNat 0 else if op=14 then((g.ports.getD l.1.toNat []).length:Int)else if op=15 then ybr (l.1==0)else if op=16 then l.2 else(yie g v).getD port.toNat 0)
def yut(g:Gr)(c:Conf)(op arg:Int)(v:Nat)(port:Int):Int :=
 if op=1 then arg else if op=2 then 1 else if op=3 then 0 else if op=4 then -1 else if op=5 then(c.getD v []).getD arg.toNat 0 else if op=12 then(c.getD (ybm g v port.toNat).1.toNat []).getD arg.toNat 0
 else ymw g op v port
def ydh(g:Gr)(c:Conf)(v:Nat):Ex->Int->Int
 |.leaf op arg,p=>yut g c op arg v p
 |.un op a,p=>unP op (ydh g c v a p)
 |.agg op a,_=>yhd op ((zM (g.ports.getD v []).length).map fun(q:Nat)=>ydh g c v a (q:Int))
 |.bin op a b,p=>binP op (ydh g c v a p) (ydh g c v b p)
 |.ite x a b,p=>if ydh g c v x p≠0 then ydh g c v a p else ydh g c v b p
def Ex.ok(nv:Int)(bnd:Bool):Ex->Bool
 |.leaf op arg=>decide (1<=op/\op<=17)&&(if op=1 then decide (0<=arg/\arg<=1073741824)else if op=5\/op=12 then decide (0<=arg/\arg<nv)else true)&&(if 11<=op then bnd else true)
 |.un op a=>decide (op=18\/op=19)&&a.ok nv bnd
 |.agg op a=>decide (20<=op/\op<=29)&&a.ok nv true
 |.bin op a b=>decide (30<=op/\op<=42)&&a.ok nv bnd&&b.ok nv bnd
 |.ite x a b=>x.ok nv bnd&&a.ok nv bnd&&b.ok nv bnd
def InB(x:Int):Prop:=-1073741824<=x/\x<=1073741824
theorem yom(a:Int):InB (satP a):=by unfold InB satP;omega
theorem yfv(b:Bool):InB (ybr b):=by unfold InB ybr;cases b<;>simp
theorem ydmh{op a:Int}(h:InB a):InB (unP op a):=by
 unfold unP;split
 ·unfold InB at *;omega
 ·exact yfv _
theorem ydaq(op a b:Int):InB (binP op a b):=by
 unfold binP;split;· exact yom _
 split;· exact yom _
 split
 ·split
  ·unfold InB;omega
  ·exact yom _
 split;· exact yom _
 split;· exact yom _
 split;· exact yfv _
 split;· exact yfv _
 exact yfv _
theorem countP_le(l:List Int):0<=countP l/\countP l<=l.length:=by
 unfold countP;have:=List.length_filter_le (· != 0) l;omega
theorem ybtx(l:List Int)(h:∀x∈l,InB x):InB (yqk l):=by
 unfold yqk
 have:∀(l:List Int) (a:Int),InB a->(∀x∈l,InB x)->InB (l.foldl min a):=by
  intro l
  induction l with
  |nil=>intro a ha _;exact ha
  | cons x l ih =>
    intro a ha hl;refine ih _ ?_ fun y hy=>hl y (zAA _ hy);have:=hl x zV;unfold InB at *;omega
 exact this l _ (by unfold InB;omega) h
theorem yvv(l:List Int)(h:∀x∈l,InB x):InB (yef l).1/\InB (yef l).2:=by
 unfold yef
 have:∀(l:List Int) (p:Int×Int),InB p.1/\InB p.2->(∀x∈l,InB x)->InB (l.foldl (fun p a=>if a>p.1 then(a,p.1)else(p.1,max p.2 a)) p).1/\InB (l.foldl (fun p a=>if a>p.1 then(a,p.1)else(p.1,max p.2 a)) p).2:=by
  intro l
  induction l with
  |nil=>intro p hp _;exact hp
  | cons x l ih =>
    intro p hp hl;refine ih _ ?_ fun y hy=>hl y (zAA _ hy);have:=hl x zV;unfold InB at *
    dsimp only
    split<;>dsimp only<;>omega
 exact this l _ (by unfold InB;simp) h
theorem ybku(l:List Int):∀(n:Nat) (r:Int),r<=yvb l n r/\yvb l n r<=r+n
 |0,r=>by unfold yvb;omega
 | n+1,r=>by
   unfold yvb;have:=ybku l n (r+1);split<;>omega
theorem ybdq(l:List Int):-1<=yeh l/\yeh l<l.length\/yeh l = -1:=by
 unfold yeh;split
 ·rename_i i hi
  obtain⟨h,_⟩:=List.findIdx?_eq_some_iff_getElem.1 hi;left;omega
 ·exact .inr rfl
theorem ycgm{op:Int}{l:List Int}(hl:l.length<=1000)(h:∀x∈l,InB x):InB (yhd op l):=by
 have hc:=countP_le l;unfold yhd;split;· exact yfv _
 split;· exact yfv _
 split;· unfold InB;omega
 split;· have:=ybdq l;unfold InB;omega
 split;· exact ybtx l h
 split;· exact(yvv l h).1
 split;· exact yom _
 split;· have:=ybku l (l.length+1) 0;unfold mexP InB;omega
 split;· exact(yvv l h).2
 cases l with
 |nil=>unfold InB;simp
 |cons x l=>exact h x zV
structure ConfIn(n nv:Nat)(c:Conf):Prop where
 len:c.length=n
 row:∀s∈c,s.length=nv/\∀x∈s,InB x
theorem ConfIn.at_{n nv:Nat}{c:Conf}(h:ConfIn n nv c){v:Nat}(hv:v<n):(c.getD v []).length=nv/\∀k,InB ((c.getD v []).getD k 0):=by
 have hlt:v<c.length:=by rw[h.len];exact hv
 have e:c.getD v []=c[v]:=by simp[zS,hlt]
 obtain⟨h1,h2⟩:=h.row c[v] (zN hlt);rw[e];refine⟨h1,fun k=>?_⟩;rw[zK];cases hk:c[v][k]? with
 |none=>simp;unfold InB;omega
 |some x=>simp;exact h2 x (zT hk)
theorem yw.ybm{g:Gr}(hg:yw g){v p:Nat}(hv:v<g.ports.length)(hp:p<(g.ports.getD v []).length):0<=(ybm g v p).1/\(ybm g v p).1<g.ports.length/\1<=(ybm g v p).2/\(ybm g v p).2<=15:=by
 have e:g.ports.getD v []=g.ports[v]:=by simp[zS,hv]
 have h1:=hg.2.2.2.2.2.1 ⟨v,hv⟩;rw[e]at hp;have hm:(g.ports[v])[p]∈g.ports[v]:=zN hp;have h2:=h1.1 _ hm;unfold yhy at h2;have e2:Go.Proofs.YtiejahgklcjhkaaGreatDoor.ybm g v p=(g.ports[v])[p]:=by unfold Go.Proofs.YtiejahgklcjhkaaGreatDoor.ybm;rw[e];simp[zS,hp]
 rw[e2];omega
theorem yw.deg_lt{g:Gr}(hg:yw g){v:Nat}:(g.ports.getD v []).length<24:=by
 by_cases hv:v<g.ports.length
 ·have h1:=hg.2.2.2.2.2.1 ⟨v,hv⟩;have:=yuo hv h1;have e:g.ports.getD v []=g.ports[v]:=by simp[zS,hv]
  rw[e];have:=hg.2.1;have h3:g.ports[(⟨v,hv⟩:Fin g.ports.length)].length=g.ports[v].length:=rfl;omega
 ·rw[zK,zAG (by omega)]
  simp
theorem yw.id_in{g:Gr}(hg:yw g)(v:Nat):0<=g.ids.getD v 0/\g.ids.getD v 0<=255:=by
 rw[zK];cases h:g.ids[v]? with
 |none=>simp
 |some x=>exact hg.2.2.2.1 x (zT h)
theorem ycbd{g:Gr}{c:Conf}{n nv:Nat}(hg:yw g)(hn:g.ports.length=n)(hc:ConfIn n nv c){op arg:Int}{bnd:Bool}(ho:(Ex.leaf op arg).ok nv bnd=true){v:Nat}(hv:v<n){p:Int}(hp:bnd=true->0<=p/\p<(g.ports.getD v []).length)(hpi:InB p):InB (yut g c op arg v p):=by
 subst hn;have h24:=hg.2.1;have hd:=hg.deg_lt (v:=v);unfold yut;simp only[Ex.ok,zF,decide_eq_true_eq]at ho;obtain⟨⟨ho1,ho2⟩,ho3⟩:=ho;split
 ·rename_i h;rw[if_pos h]at ho2;simp at ho2;unfold InB;omega
 split;· unfold InB;omega
 split;· unfold InB;omega
 split;· unfold InB;omega
 split;· exact(hc.at_ hv).2 _
 split
 ·rename_i h
  rw[if_pos (by omega)]at ho3
  obtain⟨q1,q2⟩:=hp ho3;have hl:=hg.ybm hv (p:=p.toNat) (by omega)
  exact(hc.at_ (v:=(ybm g v p.toNat).1.toNat) (by omega)).2 _
 ·unfold ymw;split;· rw[hg.2.2.1];unfold InB;omega
  split;· have:=ytp hg;unfold InB;omega
  split;· have:=hg.id_in v;unfold InB;omega
  split;· unfold InB;omega
  split;· exact yfv _
  split;· exact hpi
  rename_i h6 h7 h8 h9 h10 h11
  rw[if_pos (by omega)]at ho3
  obtain⟨q1,q2⟩:=hp ho3;have hl:=hg.ybm hv (p:=p.toNat) (by omega)
  simp only;split;· have:=hg.id_in (ybm g v p.toNat).1.toNat;unfold InB;omega
  split;· have:=hg.deg_lt (v:=(ybm g v p.toNat).1.toNat);unfold InB;omega
  split;· exact yfv _
  split;· unfold InB;omega
  ·unfold yie;rw[zK,List.getElem?_map];cases hk:(g.ports.getD v [])[p.toNat]? with
   |none=>simp;unfold InB;omega
   | some l =>
     simp;have hd2:=hg.deg_lt (v:=l.1.toNat);rcases ymc (ls:=g.ports.getD l.1.toNat []) (u:=(v:Int))with e|⟨k,e,hk⟩
     ·simp at e;rw[e];unfold InB;omega
     ·simp at e hk hd2;rw[e];unfold InB;omega
theorem yhg{g:Gr}{c:Conf}{n nv:Nat}(hg:yw g)(hn:g.ports.length=n)(hc:ConfIn n nv c){v:Nat}(hv:v<n):∀(x:Ex) {bnd:Bool}{p:Int},x.ok nv bnd=true->(bnd=true->0<=p/\p<(g.ports.getD v []).length)->InB p->InB (ydh g c v x p)
 |.leaf op arg,bnd,p,h,hp,hpi=>ycbd hg hn hc h hv hp hpi
 | .un op a,bnd,p,h,hp,hpi=>by
   simp only[Ex.ok,zF]at h;exact ydmh (yhg hg hn hc hv a h.2 hp hpi)
 | .agg op a,bnd,p,h,hp,hpi=>by
   simp only[Ex.ok,zF]at h;have:=hg.deg_lt (v:=v);refine ycgm (by simp;simp at this;omega) fun x hx=>?_
   obtain⟨q,hq,rfl⟩:=List.mem_map.1 hx;have hq:=List.mem_range.1 hq;exact yhg hg hn hc hv a h.2 (fun _=>by omega) (by unfold InB;omega)
 |.bin op a b,bnd,p,h,hp,hpi=>ydaq _ _ _
 | .ite x a b,bnd,p,h,hp,hpi=>by
   simp only[Ex.ok,zF]at h;unfold ydh;split
   ·exact yhg hg hn hc hv a h.1.2 hp hpi
   ·exact yhg hg hn hc hv b h.2 hp hpi
end
section
namespace Sh
open Go Ev
theorem mulB{a b:Int}(ha:InB a)(hb:InB b):-1152921504606846976<=a*b/\a*b<=1152921504606846976:=by
 unfold InB at *
 have h:(a*b).natAbs<=1073741824*1073741824:=by
  rw[zAT];exact zAU (by omega) (by omega)
 omega
theorem yei(b:Bool):Returns zH 256 [.b b] (.i .i64 (ybr b)):=by
 refine Returns.of (ydej _ _ ?_);simp only[c256,ycuo,ycko,ycjq,ycqj,yba,ybr,go_sem,↓reduceIte,reduceCtorEq];cases b<;>simp
theorem ydz(a:Int):Returns zH 258 [.i .i64 a] (.i .i64 (satP a)):=by
 refine Returns.of (ydbt _ _ ?_);simp only[c258,ycxh,ycru,yba,satP,go_sem,zA,zB,↓reduceIte,reduceCtorEq]
theorem ydoj{a b:Int}(ha:InB a):-1073741824<=a.tdiv b/\a.tdiv b<=1073741824:=by
 have h1:(a.tdiv b).natAbs=a.natAbs/b.natAbs:=Int.natAbs_tdiv a b;have h2:a.natAbs/b.natAbs<=a.natAbs:=Nat.div_le_self _ _;rw[<-h1]at h2;unfold InB at ha;omega
theorem yccv{a b:Int}(ha:InB a):-1073741825<=yuy a b/\yuy a b<=1073741824:=by
 have:=ydoj (b:=b) ha;unfold yuy;split
 ·omega
 ·split<;>omega
theorem ybqg{a b:Int}(ha:InB a)(hb:InB b):-1152921505680588800<=b*yuy a b/\b*yuy a b<=1152921505680588800:=by
 have h1:=yccv (b:=b) ha
 have h:(b*yuy a b).natAbs<=1073741824*1073741825:=by
  unfold InB at *;rw[zAT];exact zAU (by omega) (by omega)
 omega
theorem ybsr(op a:Int)(ha:InB a):Returns zH 237 [.i .i64 op,.i .i64 a] (.i .i64 (unP op a)):=by
 refine Returns.of (ydbk _ _ ?_);simp only[c237,yckl,ycrv,ycjg,yctj,yba,unP,IntKind.signed,go_sem,zA,zB,↓reduceIte,reduceCtorEq];unfold InB at ha;refine⟨fun h=>⟨ikw (by omega) (by omega),by rw[if_pos h];omega⟩,fun h=>(yei _).use ?_⟩
 simp only[ybf,yba,go_sem,zA,zB,↓reduceIte,reduceCtorEq];rw[if_neg h]
theorem yqy(a b:Int)(ha:InB a):Returns zH 259 [.i .i64 a,.i .i64 b] (.i .i64 (yuy a b)):=by
 refine Returns.of (ydbb _ _ ?_);simp only[c259,yckn,ycix,ychi,ycwg,ycrx,yckt,yctz,yba,yuy,go_sem,zA,zB,↓reduceIte,reduceCtorEq];have:=ydoj (b:=b) ha;refine⟨fun h=>by rw[if_pos h],fun h=>⟨⟨h,ikw (by omega) (by omega)⟩,h,fun h1=>⟨fun h2=>⟨ikw (by omega) (by omega),?_⟩,fun h2=>?_⟩,fun h1=>?_⟩⟩
 ·rw[if_neg h,if_pos ⟨h1,h2⟩]
 ·rw[if_neg h,if_neg (fun q=>q.2 h2)]
 ·rw[if_neg h,if_neg (fun q=>q.1 h1)]
theorem ybdt(op a b:Int):Returns zH 260 [.i .i64 op,.i .i64 a,.i .i64 b] (.b (cmpP op a b)):=by
 refine Returns.of (ycyb _ _ ?_);simp only[c260,ycsn,ycse,ycul,ycmk,ycnx,ycpm,ycsu,ycrh,ycss,ycnu,ybvn,ybvd,ycam,ykz,cmpP,go_sem,zA,zB,↓reduceIte,reduceCtorEq];refine⟨fun h=>by rw[if_pos h],fun h35=>⟨fun h=>by rw[if_neg h35,if_pos h],fun h36=>⟨fun h=>by rw[if_neg h35,if_neg h36,if_pos h],fun h37=>⟨fun h=>by rw[if_neg h35,if_neg h36,if_neg h37,if_pos h],fun h38=>⟨fun h=>by rw[if_neg h35,if_neg h36,if_neg h37,if_neg h38,if_pos h],fun h39=>by rw[if_neg h35,if_neg h36,if_neg h37,if_neg h38,if_neg h39]⟩⟩⟩⟩⟩
theorem ybmh(op a b:Int)(ha:InB a)(hb:InB b):Returns zH 239 [.i .i64 op,.i .i64 a,.i .i64 b] (.i .i64 (binP op a b)):=by
 refine Returns.of (ydaj _ _ ?_);simp only[c239,ycht,ycsb,yckp,ycvi,ycwu,ycmv,ycwt,ycld,ycsa,ycrm,ybwa,ybpu,ybrj,ycau,ybuf,ybyw,ybzq,ybsw,ybrg,yba,go_sem,zA,zB,↓reduceIte,reduceCtorEq];have hm:=mulB ha hb;have hq:=ybqg ha hb;have hA:=ha;have hB:=hb;unfold InB at hA hB;refine⟨fun h=>⟨ikw (by omega) (by omega),(ydz _).use ?_⟩,fun h30=>⟨fun h=>(yqy a b ha).use ?_,fun h31=>⟨fun h=>⟨fun h0=>?_,fun h0=>(yqy a b ha).use ?_⟩,fun h32=>⟨fun h=>⟨ikw (by omega) (by omega),(ydz _).use ?_⟩,fun h33=>⟨fun h=>⟨ikw (by omega) (by omega),(ydz _).use ?_⟩,fun h34=>?_⟩⟩⟩⟩⟩
 ·simp only[ybf,yba,go_sem,zA,zB,↓reduceIte,reduceCtorEq];simp[binP,h]
 ·simp only[ybf,go_sem,zA,zB,↓reduceIte,reduceCtorEq];refine(ydz _).use ?_;simp only[yba,go_sem];simp[binP,h]
 ·simp[binP,h,h0]
 ·simp only[ybf,go_sem,zA,zB,↓reduceIte,reduceCtorEq];refine⟨ikw (by omega) (by omega),ikw (by omega) (by omega),(ydz _).use ?_⟩
  simp only[yba,go_sem];simp[binP,h,h0]
 ·simp only[ybf,yba,go_sem,zA,zB,↓reduceIte,reduceCtorEq];simp[binP,h]
 ·simp only[ybf,yba,go_sem,zA,zB,↓reduceIte,reduceCtorEq];simp[binP,h]
 ·refine⟨fun h=>?_,fun h41=>⟨fun h=>?_,fun h42=>?_⟩⟩
  ·refine⟨fun h1=>(yei _).use ?_,fun h1=>(yei _).use ?_⟩
   ·simp only[ybf,yba,go_sem,zA,zB,↓reduceIte,reduceCtorEq];simp[binP,h];rw[show(a != 0)=true by simpa using h1];simp
   ·simp only[ybf,yba,go_sem,zA,zB,↓reduceIte,reduceCtorEq];simp[binP,h,h1]
  ·refine⟨fun h1=>(yei _).use ?_,fun h1=>(yei _).use ?_⟩
   ·simp only[ybf,yba,go_sem,zA,zB,↓reduceIte,reduceCtorEq];simp[binP,h,h1]
   ·simp only[ybf,yba,go_sem,zA,zB,↓reduceIte,reduceCtorEq];simp[binP,h];rw[show(a != 0)=true by simpa using h1];simp
  ·refine(ybdt op a b).use ?_;simp only[ybf,go_sem,zA,zB,↓reduceIte,reduceCtorEq];refine(yei _).use ?_;simp only[yba,go_sem];simp[binP,h30,h31,h32,h33,h34,h41,h42]
end Sh
end
section
namespace Sh
open Go Ev
theorem ysx{l:List Int}{k:Nat}(h:k<l.length):countP (l.take (k+1))=countP (l.take k)+(if l.getD k 0≠0 then 1 else 0):=by
 unfold countP;rw[zG h,List.filter_append,zAC,getD_at h]
 by_cases q:l[k]=0
 ·simp[q]
 ·simp[q]
theorem ybgo{l:List Int}(k:Nat):0<=countP (l.take k)/\countP (l.take k)<=k:=by
 have:=countP_le (l.take k);simp only[zAN]at this;omega
theorem ybpt(l:List Int)(hl:l.length<=1000):Returns zH 266 [yu l] (.i .i64 (countP l)):=by
 refine Returns.of (ydag _ _ ?_);simp only[c266,ycln,ycva,ycod,yu,go_sem,zB,↓reduceIte,reduceCtorEq];refine ybj (σ:=Nat) (fun k=>⟨[(8,.i .i64 k),(3,.i .i64 (countP (l.take k))),(6,yu l),(7,.i .i64 l.length)],[]⟩) (fun k=>k<=l.length) (fun k=>l.length-k) 0 (zZ _) ?_ ?_
 ·refine yh [] [] [] ?_;simp only[yu,allQ,live,yc,yba,zJ,go_sem,zA,↓reduceIte,reduceCtorEq];simp[countP]
 ·intro k hk;simp only[ycpl,ycmg,ycsj,ycns,ycom,yckg,yu,yba,go_sem,zA,zB,↓reduceIte,reduceCtorEq];have hb:=ybgo (l:=l) k;refine⟨fun hlt=>⟨by omega,fun h0=>⟨ikw (by omega) (by omega),ikw (by omega) (by omega),?_⟩,fun h0=>⟨ikw (by omega) (by omega),?_⟩⟩,fun hlt=>?_⟩
  ·have hk':k<l.length:=by omega
   refine yj (k+1) (by omega) (by omega) ?_
   refine yh [] [] [] ?_;simp only[ysx hk',if_pos h0,allQ,live,yc,yba,go_sem,zA,↓reduceIte,reduceCtorEq];simp
  ·have hk':k<l.length:=by omega
   refine yj (k+1) (by omega) (by omega) ?_
   refine yh [] [] [] ?_;simp only[ysx hk',if_neg (not_not_intro h0),allQ,live,yc,yba,go_sem,zA,↓reduceIte,reduceCtorEq];simp
  ·rw[zO (by omega)]
theorem yqt{l:List Int}{k:Nat}(h:k<l.length):yef (l.take (k+1))=(if l.getD k 0>(yef (l.take k)).1 then(l.getD k 0,(yef (l.take k)).1)else((yef (l.take k)).1,max (yef (l.take k)).2 (l.getD k 0))):=by
 unfold yef;rw[zG h,zL,getD_at h];rfl
theorem yuw(l:List Int)(hl:l.length<=1000):Returns zH 269 [yu l] (.tp [.i .i64 (yef l).1,.i .i64 (yef l).2]):=by
 refine Returns.of (ycxv _ _ ?_);simp only[c269,ycpq,ycii,ycrq,yu,go_sem,zB,↓reduceIte,reduceCtorEq];refine ybj (σ:=Nat) (fun k=>⟨[(8,.i .i64 k),(2,.i .i64 (yef (l.take k)).1),(3,.i .i64 (yef (l.take k)).2),(6,yu l),(7,.i .i64 l.length)],[]⟩) (fun k=>k<=l.length) (fun k=>l.length-k) 0 (zZ _) ?_ ?_
 ·refine yh [] [] [] ?_;simp only[yu,allQ,live,yc,yba,zJ,go_sem,zA,↓reduceIte,reduceCtorEq];simp[yef]
 ·intro k hk;simp only[ycpb,ycka,ycmr,yckq,ycoc,ycqq,ychq,yu,go_sem,zA,zB,↓reduceIte,reduceCtorEq];refine⟨fun hlt=>⟨by omega,fun h0=>⟨ikw (by omega) (by omega),?_⟩,fun h0=>⟨ikw (by omega) (by omega),?_⟩⟩,fun hlt=>?_⟩
  ·have hk':k<l.length:=by omega
   refine yj (k+1) (by omega) (by omega) ?_
   refine yh [] [] [] ?_;simp only[yqt hk',if_pos h0,allQ,live,yc,yba,go_sem,zA,↓reduceIte,reduceCtorEq];simp
  ·have hk':k<l.length:=by omega
   refine yj (k+1) (by omega) (by omega) ?_
   refine yh [] [] [] ?_;simp only[yqt hk',if_neg h0,allQ,live,yc,yba,go_sem,zA,↓reduceIte,reduceCtorEq];simp
  ·rw[zO (by omega)]
   exact Sim.refl _
theorem ybcu(l:List Int)(x:Int)(hl:l.length<=100000):Returns zH 274 [yu l,.i .i64 x] (.b (l.elem x)):=by
 refine Returns.of (ydef _ _ ?_);simp only[c274,yctp,ycjh,yu,go_sem,zA,zB,↓reduceIte,reduceCtorEq];refine(ybuq l x hl).use ?_;simp only[ybf,ykz,go_sem,zA,zB,↓reduceIte,reduceCtorEq];unfold idxP;cases h:l.findIdx? (fun y=>x==y)with
 | none =>
   rw[zU]at h
   have:l.elem x=false:=by
    rw[zAP,decide_eq_false_iff_not];intro hm;have:=h x hm;simp at this
   rw[this];simp
 | some i =>
   obtain⟨h1,h2,_⟩:=List.findIdx?_eq_some_iff_getElem.1 h
   have:l.elem x=true:=by
    rw[zAP,decide_eq_true_eq];have:x=l[i]:=by simpa using h2
    rw[this];exact zN h1
   rw[this];simp
theorem ybng{l:List Int}{n:Nat}{r:Int}(h:l.elem r=true):yvb l (n+1) r=yvb l n (r+1):=by
 show(if l.elem r then _ else _)=_;rw[if_pos h]
theorem ybnq{l:List Int}{n:Nat}{r:Int}(h:l.elem r=false):yvb l n r=r:=by
 cases n with
 |zero=>rfl
 |succ n=>show(if l.elem r then _ else _)=_;rw[if_neg (by rw[h];simp)]
theorem ybcb{l:List Int}{k:Nat}(h:∀j:Nat,j<k->l.elem (j:Int)=true):k<=l.length:=by
 have h1:((zM k).map fun(j:Nat)=>(j:Int)).Nodup:=by
  rw[List.Nodup,zAL];exact List.nodup_range.imp fun {a b} hab e=>hab (by omega)
 have h2:((zM k).map fun(j:Nat)=>(j:Int)) ⊆ l:=fun x hx=>by
  obtain⟨j,hj,rfl⟩:=List.mem_map.1 hx;have:=h j (List.mem_range.1 hj)
  simpa using this
 have:=List.Nodup.length_le_of_subset h1 h2
 simpa using this
theorem ydcy(l:List Int)(hl:l.length<=1000):Returns zH 270 [yu l] (.i .i64 (mexP l)):=by
 refine Returns.of (ydbw _ _ ?_);simp only[c270,ycpr,ycok,yu,go_sem];refine ybj (σ:=Nat) (fun k=>⟨[(3,.i .i64 k),(0,yu l)],[]⟩) (fun k=>(∀j:Nat,j<k->l.elem (j:Int)=true)/\mexP l=yvb l (l.length+1-k) k) (fun k=>l.length+1-k) 0 ⟨fun j h=>absurd h (Nat.not_lt_zero _),rfl⟩ ?_ ?_
 ·refine yh [] [] [] ?_;simp only[yu,allQ,live,yc,zJ,go_sem,↓reduceIte,reduceCtorEq]
 ·intro k ⟨hk,he⟩;have hb:=ybcb hk;simp only[ycrz,ycnz,ycib,yu,go_sem,zA,zB,↓reduceIte,reduceCtorEq];refine(ybcu l k (by omega)).use ?_
  simp only[ybf,yba,go_sem,zA,zB,↓reduceIte,reduceCtorEq];refine⟨fun h=>⟨ikw (by omega) (by omega),?_⟩,fun h=>?_⟩
  ·have hk2:∀j:Nat,j<k+1->l.elem (j:Int)=true:=fun j hj=>by
    by_cases q:j<k
    ·exact hk j q
    ·obtain rfl:j=k:=by omega
     exact h
   have hb2:=ybcb hk2;refine yj (k+1) ⟨hk2,?_⟩ (by omega) ?_
   ·rw[he,show l.length+1-k=(l.length+1-(k+1))+1 by omega,ybng h];simp
   ·refine yh [] [] [] ?_;simp only[allQ,live,yc,yba,go_sem,↓reduceIte,reduceCtorEq];simp
  ·rw[he,ybnq h]
theorem ybva(x:Int):Returns zH 268 [.i .i64 x] (.b (x != 0)):=by
 refine Returns.of (yczd _ _ ?_);simp only[c268,ycvc,yctv,ykz,go_sem,zA,zB,↓reduceIte,reduceCtorEq]
theorem yyq(l:List Int)(hl:l.length<=1000):Returns zH 267 [yu l,.fn 268 [] []] (.i .i64 (yeh l)):=by
 refine Returns.of (ydcx _ _ ?_);simp only[c267,ycqp,ycrr,yu,go_sem,zB,↓reduceIte,reduceCtorEq];refine ybj (σ:=Nat) (fun k=>⟨[(8,.i .i64 k),(0,yu l),(1,.fn 268 [] []),(7,.i .i64 l.length)],[]⟩) (fun k=>k<=l.length/\(l.take k).findIdx? (· != 0)=none) (fun k=>l.length-k) 0 ⟨zZ _,by simp⟩ ?_ ?_
 ·refine yh [] [] [] ?_;simp only[yu,allQ,live,yc,zJ,go_sem,zA,↓reduceIte,reduceCtorEq]
 ·intro k ⟨hk,hno⟩;simp only[ycit,ycir,ycxd,ycpd,ycmd,ycto,yu,yba,go_sem,zA,zB,↓reduceIte,reduceCtorEq];refine⟨fun hlt=>⟨by omega,(ybva _).use ?_⟩,fun hlt=>?_⟩
  ·have hlt:k<l.length:=by omega
   simp only[ybf,yba,go_sem,zA,zB,↓reduceIte,reduceCtorEq];rw[getD_at hlt];refine⟨fun ha=>?_,fun ha=>⟨ikw (by omega) (by omega),?_⟩⟩
   ·have:l.findIdx? (· != 0)=some k:=by
     rw[zY];refine⟨hlt,by simpa using ha,fun j hj=>?_⟩
     rw[zU]at hno;have:=hno l[j] (List.mem_take_iff_getElem.2 ⟨j,by omega,rfl⟩)
     simpa using this
    unfold yeh;rw[this]
   ·refine yj (k+1) ⟨by omega,?_⟩ (by omega) ?_
    ·rw[zG hlt,zAH,hno];simp[ha]
    ·refine yh [] [] [] ?_;simp only[allQ,live,yc,yba,go_sem,zA,↓reduceIte,reduceCtorEq];simp
  ·obtain rfl:k=l.length:=by omega
   rw[zAO]at hno;unfold yeh;rw[hno]
end Sh
end
section
namespace Sh
open Go Ev
theorem ybfr{l:List Int}{k:Nat}(h:k<l.length):yqk (l.take (k+1))=min (yqk (l.take k)) (l.getD k 0):=by
 unfold yqk;rw[zG h,zL,getD_at h];rfl
theorem yyc{l:List Int}{k:Nat}(h:k<l.length):(l.take (k+1)).sum=(l.take k).sum+l.getD k 0:=by
 rw[zG h,List.sum_append,getD_at h];simp
theorem ybto{l:List Int}(h:∀x∈l,InB x):∀k,k<=l.length -> -1073741824*(k:Int)<=(l.take k).sum/\(l.take k).sum<=1073741824*(k:Int)
 |0,_=>by simp
 | k+1,hk=>by
   have ih:=ybto h k (by omega)
   rw[yyc (by omega)]
   have:=h l[k] (zN (by omega))
   rw[<-getD_at (d:=0) (show k<l.length by omega)]at this
   unfold InB at this;omega
theorem ycbp(op:Int)(l:List Int)(hl:l.length<=24)(hb:∀x∈l,InB x):Returns zH 257 [.i .i64 op,yu l] (.i .i64 (yhd op l)):=by
 refine Returns.of (ydbn _ _ ?_);have hin:∀k,k<l.length->InB (l.getD k 0):=fun k hk=>by rw[getD_at hk];exact hb _ (zN hk)
 obtain⟨L,hL⟩:∃L,yu l=L:=⟨_,rfl⟩;have hLs:L = .sl 1 l.length (fun k=>[.i .i64 (l.getD k 0)]):=hL.symm;simp only[c257,yclv,ycqg,yctn,yclp,ycoy,ycui,ycxa,ycrp,ychp,ycrd,ybwf,ybyh,ybxz,ybqc,ybqz,ybth,ybxc,ybpw,ybwh,ybwq,ybzy,ybrb,ybyv,ybtz,ybxl,ybsq,ybvf,ybyc,ybwj,ybrq,ybxv,ybwc,ybya,ybvr,ybxe,ybss,ycap,yu,go_sem,zAS,zA,zB,↓reduceIte,reduceCtorEq];have hcount:=ybpt l (by omega)
 have htwo:=yuw l (by omega)
 simp only[yu]at hcount htwo;refine⟨fun h20=>hcount.use ?_,fun h20=>⟨fun h21=>hcount.use ?_,fun h21=>⟨fun h22=>hcount.use ?_,fun h22=>⟨fun h23=>?_,fun h23=>⟨fun h24=>?_,fun h24=>⟨fun h25=>htwo.use ?_,fun h25=>⟨fun h26=>?_,fun h26=>⟨fun h27=>?_,fun h27=>⟨fun h28=>htwo.use ?_,fun h28=>?_⟩⟩⟩⟩⟩⟩⟩⟩⟩
 ·simp only[ybf,go_sem,zA,zB,↓reduceIte,reduceCtorEq];refine(yei _).use ?_;simp only[yba,go_sem];simp[yhd,h20]
 ·simp only[ybf,go_sem,zA,zB,↓reduceIte,reduceCtorEq];refine(yei _).use ?_;simp only[yba,go_sem];simp[yhd,h21]
 ·simp only[ybf,yba,go_sem,zA,zB,↓reduceIte,reduceCtorEq];simp[yhd,h22]
 ·have:=yyq l (by omega)
  simp only[yu]at this;refine this.use ?_;simp only[ybf,yba,go_sem,zA,zB,↓reduceIte,reduceCtorEq];simp[yhd,h23]
 ·refine ybj (σ:=Nat) (fun k=>⟨[(42,.i .i64 k),(5,.i .i64 (yqk (l.take k))),(40,yu l),(41,.i .i64 l.length)],[]⟩) (fun k=>k<=l.length) (fun k=>l.length-k) 0 (zZ _) ?_ ?_
  ·refine yh [] [] [] ?_;simp only[yu,allQ,live,yc,yba,zJ,go_sem,zA,↓reduceIte,reduceCtorEq];simp[yqk]
  ·intro k hk;simp only[yu,yba,go_sem,zA,zB,↓reduceIte,reduceCtorEq];refine⟨fun hlt=>⟨by omega,ikw (by omega) (by omega),?_⟩,fun hlt=>?_⟩
   ·have hk':k<l.length:=by omega
    refine yj (k+1) (by omega) (by omega) ?_
    refine yh [] [] [] ?_;simp only[ybfr hk',allQ,live,yc,yba,go_sem,zA,↓reduceIte,reduceCtorEq];simp
   ·rw[zO (by omega)]
    simp[yhd,h24]
 ·simp only[ybf,yba,go_sem,zA,zB,↓reduceIte,reduceCtorEq];simp[yhd,h25]
 ·refine ybj (σ:=Nat) (fun k=>⟨[(63,.i .i64 k),(10,.i .i64 (l.take k).sum),(61,yu l),(62,.i .i64 l.length)],[]⟩) (fun k=>k<=l.length) (fun k=>l.length-k) 0 (zZ _) ?_ ?_
  ·refine yh [] [] [] ?_;simp only[yu,allQ,live,yc,yba,zJ,go_sem,zA,↓reduceIte,reduceCtorEq];simp
  ·intro k hk;simp only[yu,go_sem,zA,zB,↓reduceIte,reduceCtorEq];have hs:=ybto hb k hk;refine⟨fun hlt=>?_,fun hlt=>(ydz _).use ?_⟩
   ·have hk':k<l.length:=by omega
    have hs2:=ybto hb (k+1) hk';rw[yyc hk']at hs2;refine⟨by omega,ikw (by omega) (by omega),ikw (by omega) (by omega),?_⟩
    refine yj (k+1) (by omega) (by omega) ?_
    refine yh [] [] [] ?_;simp only[yyc hk',allQ,live,yc,yba,go_sem,zA,↓reduceIte,reduceCtorEq];simp
   ·simp only[ybf,yba,go_sem,zA,zB,↓reduceIte,reduceCtorEq];rw[zO (by omega)]
    simp[yhd,h26]
 ·have:=ydcy l (by omega)
  simp only[yu]at this;refine this.use ?_;simp only[ybf,yba,go_sem,zA,zB,↓reduceIte,reduceCtorEq];simp[yhd,h27]
 ·simp only[ybf,yba,go_sem,zA,zB,↓reduceIte,reduceCtorEq];simp[yhd,h28]
 ·refine⟨fun h0=>?_,fun h0=>⟨by omega,?_⟩⟩
  ·simp only[yba,go_sem];have:l=[]:=zQ (by omega)
   simp[yhd,h20,h21,h22,h23,h24,h25,h26,h27,h28,this]
  ·cases l with
   |nil=>simp at h0
   | cons x l=>
     simp only[yba,go_sem];simp[yhd,h20,h21,h22,h23,h24,h25,h26,h27,h28]
end Sh
end
section
def Ex.shp:Ex->Bool
 |.leaf op _=>decide (1<=op/\op<=17)
 |.un op a=>decide (18<=op/\op<=29)&&a.shp
 |.agg op a=>decide (18<=op/\op<=29)&&a.shp
 |.bin op a b=>decide (30<=op/\op<=42)&&a.shp&&b.shp
 |.ite x a b=>x.shp&&a.shp&&b.shp
theorem Ex.ok_shp{nv:Int}:∀(x:Ex) {bnd:Bool},x.ok nv bnd=true->x.shp=true
 | .leaf op arg,bnd,h=>by
   simp only[Ex.ok,zF]at h;exact h.1.1
 | .un op a,bnd,h=>by
   simp only[Ex.ok,zF,decide_eq_true_eq]at h;simp only[Ex.shp,zF,decide_eq_true_eq];exact⟨by omega,Ex.ok_shp a h.2⟩
 | .agg op a,bnd,h=>by
   simp only[Ex.ok,zF,decide_eq_true_eq]at h;simp only[Ex.shp,zF,decide_eq_true_eq];exact⟨by omega,Ex.ok_shp a h.2⟩
 | .bin op a b,bnd,h=>by
   simp only[Ex.ok,zF,decide_eq_true_eq]at h;simp only[Ex.shp,zF,decide_eq_true_eq];exact⟨⟨h.1.1,Ex.ok_shp a h.1.2⟩,Ex.ok_shp b h.2⟩
 | .ite x a b,bnd,h=>by
   simp only[Ex.ok,zF]at h;simp only[Ex.shp,zF];exact⟨⟨Ex.ok_shp x h.1.1,Ex.ok_shp a h.1.2⟩,Ex.ok_shp b h.2⟩
def ylc(op:Int):Int:=if op<1\/op>43 then -1 else if op<=17 then 0 else if op<=29 then 1 else if op<=42 then 2 else 3
def serL(ts:List Ex):List Tm:=(ts.map Ex.ser).flatten
def Ex.head:Ex->Tm
 |.leaf op arg=>(op,arg)
 |.un op _=>(op,0)
 |.agg op _=>(op,0)
 |.bin op _ _=>(op,0)
 |.ite _ _ _=>(43,0)
def Ex.subs:Ex->List Ex
 |.leaf _ _=>[]
 |.un _ a=>[a]
 |.agg _ a=>[a]
 |.bin _ a b=>[a,b]
 |.ite x a b=>[x,a,b]
theorem Ex.ser_eq(x:Ex):x.ser=x.head::serL x.subs:=by
 cases x<;>simp[Ex.ser,Ex.head,Ex.subs,serL]
theorem ycgt{op:Int}(h:1<=op/\op<=17):ylc op=0:=by
 unfold ylc;rw[if_neg (by omega),if_pos (by omega)]
theorem ybkv{op:Int}(h:18<=op/\op<=29):ylc op=1:=by
 unfold ylc;rw[if_neg (by omega),if_neg (by omega),if_pos (by omega)]
theorem yccj{op:Int}(h:30<=op/\op<=42):ylc op=2:=by
 unfold ylc;rw[if_neg (by omega),if_neg (by omega),if_neg (by omega),if_pos (by omega)]
theorem Ex.arity(x:Ex)(h:x.shp=true):ylc x.head.1=x.subs.length:=by
 cases x with
 |leaf op arg=>simp only[Ex.shp,decide_eq_true_eq]at h;exact ycgt h
 |un op a=>simp only[Ex.shp,zF,decide_eq_true_eq]at h;exact ybkv h.1
 |agg op a=>simp only[Ex.shp,zF,decide_eq_true_eq]at h;exact ybkv h.1
 |bin op a b=>simp only[Ex.shp,zF,decide_eq_true_eq]at h;exact yccj h.1.1
 |ite x a b=>simp[Ex.head,Ex.subs,ylc]
theorem Ex.subs_shp(x:Ex)(h:x.shp=true):∀y∈x.subs,y.shp=true:=by
 cases x with
 |leaf op arg=>intro y hy;cases hy
 |un op a=>simp only[Ex.shp,zF]at h;intro y hy;simp[Ex.subs]at hy;subst hy;exact h.2
 |agg op a=>simp only[Ex.shp,zF]at h;intro y hy;simp[Ex.subs]at hy;subst hy;exact h.2
 |bin op a b=>simp only[Ex.shp,zF]at h;intro y hy;simp[Ex.subs]at hy;rcases hy with rfl|rfl<;>first|exact h.1.2|exact h.2
 |ite x a b=>simp only[Ex.shp,zF]at h;intro y hy;simp[Ex.subs]at hy;rcases hy with rfl|rfl|rfl<;>first|exact h.1.1|exact h.1.2|exact h.2
theorem yfd{e:List Tm}{at_:Nat}{t:Tm}{r:List Tm}(h:e.drop at_=t::r):at_<e.length/\e.getD at_ (0,0)=t/\e.drop (at_+1)=r:=by
 have hlt:at_<e.length:=by
  refine zAV fun hc=>?_;rw[List.drop_of_length_le (by omega)]at h;cases h
 refine⟨hlt,?_,?_⟩
 ·rw[zAE hlt]at h;simp only[List.cons.injEq]at h;simp[zS,hlt,h.1]
 ·rw[zAE hlt]at h;simp only[List.cons.injEq]at h;exact h.2
namespace Sh
open Go Ev
theorem ybqe(op:Int):Returns zH 247 [.i .i64 op] (.i .i64 (ylc op)):=by
 refine Returns.of (ydcv _ _ ?_);simp only[c247,yctr,ycxi,ycmj,ycqy,ychz,yclz,ycuj,ycua,ycnn,ycwv,yba,ylc,go_sem,zA,zB,↓reduceIte,reduceCtorEq];refine⟨fun h1=>⟨fun h=>by rw[if_pos (.inr h)],fun h2=>⟨fun h=>by rw[if_neg (by omega),if_pos h],fun h3=>⟨fun h=>by rw[if_neg (by omega),if_neg h3,if_pos h],fun h4=>⟨fun h=>by rw[if_neg (by omega),if_neg h3,if_neg h4,if_pos h],fun h5=>by rw[if_neg (by omega),if_neg h3,if_neg h4,if_neg h5]⟩⟩⟩⟩,fun h=>by rw[if_pos (.inl h)]⟩
theorem ycyd(e:List Tm)(x:Ex)(at_:Nat)(rest:List Tm)(hx:x.shp=true)(he:e.drop at_=x.ser++rest)(hl:e.length<=1000):Returns zH 231 [ybc e,.i .i64 at_] (.i .i64 ((at_+x.ser.length:Nat):Int)):=by
 refine Returns.of (ydca _ _ ?_)
 have h0:at_<e.length:=by
  rw[x.ser_eq]at he;exact(yfd he).1
 simp only[c231,ycmf,ycux,ycsm,ycwz,ybc,yba,go_sem,zA,zB,↓reduceIte,reduceCtorEq];refine⟨fun _=>⟨fun h=>by omega,fun _=>?_⟩,fun h=>by omega⟩
 refine ybj (σ:=Nat×List Ex) (fun p=>⟨[(1,.i .i64 p.1),(5,.i .i64 p.2.length),(0,ybc e)],[]⟩)
  (fun p=>e.drop p.1=serL p.2++rest/\p.2≠[]/\(∀y∈p.2,y.shp=true)/\p.1+(serL p.2).length=at_+x.ser.length/\p.2.length<=3*p.1+1) (fun p=>e.length-p.1) (at_,[x]) ⟨by simpa[serL]using he,by simp,by simpa using hx,by simp[serL],by simp⟩ ?_ ?_
 ·refine yh [] [] [] ?_;simp only[ybc,allQ,live,yc,yba,go_sem,zA,↓reduceIte,reduceCtorEq];simp
 ·rintro⟨k,ts⟩ ⟨hk,hne,hsh,hlen,hb⟩;cases ts with
  |nil=>exact absurd rfl hne
  | cons y ts =>
    dsimp only at hk hlen hb ⊢
    have hser:serL (y::ts)=y.head::(serL y.subs++serL ts):=by
     show(y.ser++serL ts)=_;rw[y.ser_eq];rfl
    rw[hser]at hk hlen;obtain⟨d1,d2,d3⟩:=yfd hk;have hy:=hsh y zV;have har:=y.arity hy;have hsub:y.subs.length<=3:=by cases y<;>simp[Ex.subs]
    simp only[List.length_cons]at hb hlen;simp only[ycqc,ycsf,ycum,yctb,ycun,ycnb,ybyb,ybtk,ybzz,ybc,yba,go_sem,zA,zB,Nat.reduceLeDiff,↓reduceIte,reduceCtorEq];refine⟨fun hlt=>⟨by omega,(ybqe _).use ?_⟩,fun hlt=>by omega⟩
    rw[d2,har];simp only[ybf,yba,go_sem,zA,zB,↓reduceIte,reduceCtorEq];refine⟨fun h=>by omega,fun _=>⟨ikw (by omega) (by omega),ikw (by simp;omega) (by simp;omega),fun h=>⟨ikw (by omega) (by omega),?_⟩,fun h=>⟨ikw (by omega) (by omega),?_⟩⟩⟩
    ·have h1:ts=[]:=zQ (by omega)
     have h2:y.subs=[]:=zQ (by omega)
     subst h1;rw[h2]at hlen;simp[serL]at hlen;omega
    ·have hpos:y.subs++ts≠[]:=fun q=>by
      have q1:=congrArg zAW q;simp only[zAC,zAR]at q1;omega
     refine yj (k+1,y.subs++ts) ⟨?_,hpos,?_,?_,?_⟩ (by dsimp only;omega) ?_
     ·dsimp only
      rw[d3];simp[serL]
     ·intro z hz;rcases List.mem_append.1 hz with q|q
      ·exact y.subs_shp hy z q
      ·exact hsh z (zAA _ q)
     ·dsimp only
      have:(serL (y.subs++ts)).length=(serL y.subs++serL ts).length:=by simp[serL]
      rw[this];omega
     ·dsimp only
      simp only[zAC];omega
     ·refine yh [] [] [] ?_;simp only[allQ,live,yc,yba,go_sem,zA,↓reduceIte,reduceCtorEq];simp;omega
end Sh
end
section
namespace Sh
open Go Ev
def varC(x:VarR):List SV:=[.a (.string x.name),.i .i64 x.kind,.i .i64 x.lo,.i .i64 x.hi,.i .i64 x.perNode,.i .i64 x.perID]
def ydl(l:List VarR):SV:=.sl 6 l.length (fun k=>varC (l.getD k default))
def yij(l:List SetR):SV:=.sl 2 l.length (fun k=>[.i .i64 (l.getD k default).var,ybc (l.getD k default).val])
def ycy(l:List RuleR):SV:=.sl 3 l.length (fun k=>[.a (.string (l.getD k default).name),ybc (l.getD k default).guard,yij (l.getD k default).sets])
def ynu(p:ProgR):List SV:=[.a (.string p.name),ydl p.vars,ycy p.rules]
def ydy(g:Gr):SV:=.sl 1 g.ports.length (fun v=>[yu (yie g v)])
def yft(p:ProgR)(g:Gr):List SV:=[.a (.string p.name),ydl p.vars,ycy p.rules,yu g.ids,ybb g.ports,.i .i64 (ybez g),ydy g]
def yjd(p:ProgR)(g:Gr)(c:Conf)(v:Nat)(e:List Tm):List SV:=[.rf (yft p g),ybk c,.i .i64 v,ybc e]
theorem ybmg(l:List Int):one1 (yu l)=true:=rfl
theorem ybho{n:Nat}(l:List Int):owned (n+1) (yu l)=false:=rfl
theorem ybdb{n:Nat}(l:List Int):scalar (n+1) (yu l)=false:=rfl
theorem ybni{n:Nat}(o:Own)(l:List Int):view o (n+1) (yu l)=yu l:=rfl
theorem ybtu{n:Nat}(o:Own)(l:List Int):vok o (n+1) (yu l)=True:=rfl
theorem ycav{n:Nat}(h:Nm->Nm)(l:List Int):ren h (n+1) (yu l)=yu l:=rfl
theorem ybun{n:Nat}(L:Nm->Bool)(l:List Int):cln L (n+1) (yu l)=true:=rfl
theorem ybid(l:List (Int×Int)):one1 (ybc l)=true:=rfl
theorem ybai{n:Nat}(l:List (Int×Int)):owned (n+1) (ybc l)=false:=rfl
theorem yzt{n:Nat}(l:List (Int×Int)):scalar (n+1) (ybc l)=false:=rfl
theorem ybgt{n:Nat}(o:Own)(l:List (Int×Int)):view o (n+1) (ybc l)=ybc l:=rfl
theorem yboi{n:Nat}(o:Own)(l:List (Int×Int)):vok o (n+1) (ybc l)=True:=rfl
theorem ybot{n:Nat}(h:Nm->Nm)(l:List (Int×Int)):ren h (n+1) (ybc l)=ybc l:=rfl
theorem ybon{n:Nat}(L:Nm->Bool)(l:List (Int×Int)):cln L (n+1) (ybc l)=true:=rfl
theorem ybhw(l:List (List (Int×Int))):one1 (ybb l)=true:=rfl
theorem ybda{n:Nat}(l:List (List (Int×Int))):owned (n+1) (ybb l)=false:=rfl
theorem yyi{n:Nat}(l:List (List (Int×Int))):scalar (n+1) (ybb l)=false:=rfl
theorem ybhi{n:Nat}(o:Own)(l:List (List (Int×Int))):view o (n+1) (ybb l)=ybb l:=rfl
theorem ybnu{n:Nat}(o:Own)(l:List (List (Int×Int))):vok o (n+1) (ybb l)=True:=rfl
theorem ybmx{n:Nat}(h:Nm->Nm)(l:List (List (Int×Int))):ren h (n+1) (ybb l)=ybb l:=rfl
theorem ybno{n:Nat}(L:Nm->Bool)(l:List (List (Int×Int))):cln L (n+1) (ybb l)=true:=rfl
theorem ybmi(l:List (List Int)):one1 (ybk l)=true:=rfl
theorem ybgw{n:Nat}(l:List (List Int)):owned (n+1) (ybk l)=false:=rfl
theorem ybbh{n:Nat}(l:List (List Int)):scalar (n+1) (ybk l)=false:=rfl
theorem ybnx{n:Nat}(o:Own)(l:List (List Int)):view o (n+1) (ybk l)=ybk l:=rfl
theorem ybsl{n:Nat}(o:Own)(l:List (List Int)):vok o (n+1) (ybk l)=True:=rfl
theorem ybuv{n:Nat}(h:Nm->Nm)(l:List (List Int)):ren h (n+1) (ybk l)=ybk l:=rfl
theorem ybta{n:Nat}(L:Nm->Bool)(l:List (List Int)):cln L (n+1) (ybk l)=true:=rfl
theorem ybop(l:List VarR):one1 (ydl l)=true:=rfl
theorem ybgz{n:Nat}(l:List VarR):owned (n+1) (ydl l)=false:=rfl
theorem ybcv{n:Nat}(l:List VarR):scalar (n+1) (ydl l)=false:=rfl
theorem ybml{n:Nat}(o:Own)(l:List VarR):view o (n+1) (ydl l)=ydl l:=rfl
theorem ybxr{n:Nat}(o:Own)(l:List VarR):vok o (n+1) (ydl l)=True:=rfl
theorem ybse{n:Nat}(h:Nm->Nm)(l:List VarR):ren h (n+1) (ydl l)=ydl l:=rfl
theorem ybsy{n:Nat}(L:Nm->Bool)(l:List VarR):cln L (n+1) (ydl l)=true:=rfl
theorem ybnk(l:List SetR):one1 (yij l)=true:=rfl
theorem ybfd{n:Nat}(l:List SetR):owned (n+1) (yij l)=false:=rfl
theorem yban{n:Nat}(l:List SetR):scalar (n+1) (yij l)=false:=rfl
theorem ybob{n:Nat}(o:Own)(l:List SetR):view o (n+1) (yij l)=yij l:=rfl
theorem ybyt{n:Nat}(o:Own)(l:List SetR):vok o (n+1) (yij l)=True:=rfl
theorem ybyx{n:Nat}(h:Nm->Nm)(l:List SetR):ren h (n+1) (yij l)=yij l:=rfl
theorem ybvu{n:Nat}(L:Nm->Bool)(l:List SetR):cln L (n+1) (yij l)=true:=rfl
theorem ybhq(l:List RuleR):one1 (ycy l)=true:=rfl
theorem ybbv{n:Nat}(l:List RuleR):owned (n+1) (ycy l)=false:=rfl
theorem yyf{n:Nat}(l:List RuleR):scalar (n+1) (ycy l)=false:=rfl
theorem ybff{n:Nat}(o:Own)(l:List RuleR):view o (n+1) (ycy l)=ycy l:=rfl
theorem ybmt{n:Nat}(o:Own)(l:List RuleR):vok o (n+1) (ycy l)=True:=rfl
theorem ybov{n:Nat}(h:Nm->Nm)(l:List RuleR):ren h (n+1) (ycy l)=ycy l:=rfl
theorem ybmr{n:Nat}(L:Nm->Bool)(l:List RuleR):cln L (n+1) (ycy l)=true:=rfl
theorem ybgj(l:Gr):one1 (ydy l)=true:=rfl
theorem ybbr{n:Nat}(l:Gr):owned (n+1) (ydy l)=false:=rfl
theorem yxy{n:Nat}(l:Gr):scalar (n+1) (ydy l)=false:=rfl
theorem ybhc{n:Nat}(o:Own)(l:Gr):view o (n+1) (ydy l)=ydy l:=rfl
theorem ybnc{n:Nat}(o:Own)(l:Gr):vok o (n+1) (ydy l)=True:=rfl
theorem ybnr{n:Nat}(h:Nm->Nm)(l:Gr):ren h (n+1) (ydy l)=ydy l:=rfl
theorem ybpq{n:Nat}(L:Nm->Bool)(l:Gr):cln L (n+1) (ydy l)=true:=rfl
theorem ybgp{n:Nat}(fr:List Nm)(o:Own)(l:List Int):ydj fr o (n+1) (yu l)=yu l:=rfl
theorem ybqi{n:Nat}(fr:List Nm)(o:Own)(l:List Int):pok fr o (n+1) (yu l)=True:=rfl
theorem ybdw{n:Nat}(fr:List Nm)(o:Own)(l:List (Int×Int)):ydj fr o (n+1) (ybc l)=ybc l:=rfl
theorem ybmw{n:Nat}(fr:List Nm)(o:Own)(l:List (Int×Int)):pok fr o (n+1) (ybc l)=True:=rfl
theorem ybdc{n:Nat}(fr:List Nm)(o:Own)(l:List (List (Int×Int))):ydj fr o (n+1) (ybb l)=ybb l:=rfl
theorem ybpa{n:Nat}(fr:List Nm)(o:Own)(l:List (List (Int×Int))):pok fr o (n+1) (ybb l)=True:=rfl
theorem ybfz{n:Nat}(fr:List Nm)(o:Own)(l:List (List Int)):ydj fr o (n+1) (ybk l)=ybk l:=rfl
theorem ybyo{n:Nat}(fr:List Nm)(o:Own)(l:List (List Int)):pok fr o (n+1) (ybk l)=True:=rfl
theorem ybio{n:Nat}(fr:List Nm)(o:Own)(l:List VarR):ydj fr o (n+1) (ydl l)=ydl l:=rfl
theorem ybww{n:Nat}(fr:List Nm)(o:Own)(l:List VarR):pok fr o (n+1) (ydl l)=True:=rfl
theorem ybfy{n:Nat}(fr:List Nm)(o:Own)(l:List SetR):ydj fr o (n+1) (yij l)=yij l:=rfl
theorem ybte{n:Nat}(fr:List Nm)(o:Own)(l:List SetR):pok fr o (n+1) (yij l)=True:=rfl
theorem ybeq{n:Nat}(fr:List Nm)(o:Own)(l:List RuleR):ydj fr o (n+1) (ycy l)=ycy l:=rfl
theorem ybpj{n:Nat}(fr:List Nm)(o:Own)(l:List RuleR):pok fr o (n+1) (ycy l)=True:=rfl
theorem ybbq{n:Nat}(fr:List Nm)(o:Own)(l:Gr):ydj fr o (n+1) (ydy l)=ydy l:=rfl
theorem ybph{n:Nat}(fr:List Nm)(o:Own)(l:Gr):pok fr o (n+1) (ydy l)=True:=rfl
theorem ybhg(l:List Int):SV.cells (yu l)=[yu l]:=rfl
theorem ybef(l:List (Int×Int)):SV.cells (ybc l)=[ybc l]:=rfl
theorem ybck(l:List (List (Int×Int))):SV.cells (ybb l)=[ybb l]:=rfl
theorem ybim(l:List (List Int)):SV.cells (ybk l)=[ybk l]:=rfl
theorem ybfx(l:List VarR):SV.cells (ydl l)=[ydl l]:=rfl
theorem ybgq(l:List SetR):SV.cells (yij l)=[yij l]:=rfl
theorem ybdv(l:List RuleR):SV.cells (ycy l)=[ycy l]:=rfl
theorem ybdg(l:Gr):SV.cells (ydy l)=[ydy l]:=rfl
attribute [go_sem] ybmg ybho ybdb ybni ybtu ycav ybun ybid ybai yzt ybgt yboi ybot ybon
attribute [go_sem] ybhw ybda yyi ybhi ybnu ybmx ybno ybmi ybgw ybbh ybnx ybsl ybuv
attribute [go_sem] ybta ybop ybgz ybcv ybml ybxr ybse ybsy ybnk ybfd yban ybob ybyt ybyx
attribute [go_sem] ybvu ybhq ybbv yyf ybff ybmt ybov ybmr ybgj ybbr yxy ybhc ybnc
attribute [go_sem] ybnr ybpq ybgp ybqi ybdw ybmw ybdc ybpa ybfz ybyo ybio ybww ybfy ybte
attribute [go_sem] ybeq ybpj ybbq ybph ybhg ybef ybck ybim ybfx ybgq ybdv ybdg
end Sh
end
end Go.Proofs.YtiejahgklcjhkaaGreatDoor
