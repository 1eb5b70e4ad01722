/- Joined. -/
import Derived.Test.YtiejahgklcjhkaaGreatPkY13
set_option linter.unusedSimpArgs false
set_option linter.unusedVariables false
set_option maxRecDepth 8000
open Nat renaming reduceEqDiff→zA,reduceAdd→zB,reduceLT→zC,reduceLeDiff→zD,add_comm→zG,reduceBEq→zH,zero_add→zJ,le_refl→zL,not_lt_zero→zO,zero_le→zS,pow_lt_pow_right→zAF,reduceMul→zAH,testBit_two_pow→zAJ,sub_self→zAK,lt_of_lt_of_le→zAL,lt_or_ge→zAT,le_succ→zAU
open List renaming getElem?_eq_getElem→zF,not_mem_nil→zI,getElem_of_mem→zN,getElem_map→zT,getElem_mem→zU,getD→zV,mem_cons_of_mem→zW,mem_cons_self→zX,length_append→zY,getD_eq_getElem?_getD→zZ,range→zAA,length_cons→zAB,length_map→zAC,length_pos_of_mem→zAD,length_singleton→zAE,getD_cons_zero→zAI,pairwise_map→zAN,foldl_cons→zAP,take→zAR,drop→zAS,length→zAV
open Go.Proofs.Tryz renaming prog→zK
open Int renaming natCast_zero→zM,eq_ofNat_of_zero_le→zQ,reduceToNat→zAQ
open Bool renaming true_and→zAG,and_eq_true→zAO
open And renaming intro→zAM
open Go
namespace Go.Proofs.YtiejahgklcjhkaaGreat
section
abbrev ybhx:Ex:=.leaf 4 0
abbrev eVar(k:Int):Ex:=.leaf 5 k
abbrev eQ(k:Int):Ex:=.leaf 12 k
theorem yvc{α:Type}(g:Gr)(v:Nat)(f:Int×Int->α)(h:Nat->α)(e:∀q,q<(g.ports.getD v []).length->h q=f ((g.ports.getD v []).getD q (0,0))):(zAA (g.ports.getD v []).length).map h=(g.ports.getD v []).map f:=by
 refine List.ext_getElem (by simp) fun i h1 h2=>?_
 have hi:i<(g.ports.getD v []).length:=by simpa using h1
 rw[zT,List.getElem_range,zT,e i hi];congr 1;rw[zZ,zF hi];rfl
def endP(c:Conf)(k:Nat)(l:Int×Int):Int:=(c.getD l.1.toNat []).getD k 0
theorem yom(b:Bool):(yeh b != 0)=b:=by cases b<;>rfl
section
variable {nm nd np nt nl:ByteArray}{g:Gr}{c:Conf}{v:Nat}
theorem bT1{x:ByteArray}:ybh g v ⟨x,1,0,0,1,0⟩=(0,0+1*(g.ids.length:Int)+0*maxI g.ids):=by
 show(if (1:Int)=1 then _ else _)=_
 rw[if_pos rfl]
end
end
section
section
variable {g:Gr}{a v:Nat}
theorem yfr(hg:ybc g)(hc:yng g=true)(ha:a<g.ports.length)(hv:v<g.ports.length):∃k:Nat,(yds g a).getD v 0=k/\Walk g a k v/\(∀j,j<k->¬Walk g a j v)/\k<g.ports.length:=by
 have h0:0<g.ports.length:=by omega
 have hall:(yds g a).all (fun x=>decide (0<=x))=true:=ybsn hg h0 ha ((zAO _ _▸hc).2);have hl:=yya hg ha;have hvl:v<(yds g a).length:=by rw[hl];exact hv
 have e:(yds g a).getD v 0=(yds g a)[v]:=by simp[zV,hvl]
 have hpos:0<=(yds g a)[v]:=by simpa using List.all_eq_true.1 hall _ (zU hvl)
 rcases(yim hg ha).2 v _ (zF hvl)with⟨h,_⟩|⟨k,h1,h2,h3⟩
 ·omega
 ·exact⟨k,by rw[e,h1],h2,h3,ybmn hg ha h2 h3⟩
theorem ychx{k:Nat}(hg:ybc g)(hc:yng g=true)(ha:a<g.ports.length)(hv:v<g.ports.length)(h1:Walk g a k v)(h2:∀j,j<k->¬Walk g a j v):(yds g a).getD v 0=k:=by
 obtain⟨j,e,h3,h4,_⟩:=yfr hg hc ha hv;rcases Nat.lt_trichotomy j k with h|h|h
 ·exact absurd h3 (h2 j h)
 ·rw[e,h]
 ·exact absurd h1 (h4 k h)
theorem ybih(hg:ybc g)(hc:yng g=true)(ha:a<g.ports.length):(yds g a).getD a 0=0:=ychx hg hc ha ha (k:=0) rfl fun j hj=>by omega
theorem ycif(hg:ybc g)(hc:yng g=true)(ha:a<g.ports.length)(hv:v<g.ports.length):0<=(yds g a).getD v 0/\(yds g a).getD v 0<g.ports.length:=by
 obtain⟨k,e,_,_,h⟩:=yfr hg hc ha hv;omega
theorem ybqe(hg:ybc g)(hc:yng g=true)(ha:a<g.ports.length)(hv:v<g.ports.length)(hne:v≠a):1<=(yds g a).getD v 0:=by
 obtain⟨k,e,h1,_,_⟩:=yfr hg hc ha hv;cases k with
 |zero=>exact absurd h1 hne
 |succ k=>omega
theorem ybtt(hg:ybc g)(hc:yng g=true)(ha:a<g.ports.length){u:Nat}(h:adj g u v):(yds g a).getD v 0<=(yds g a).getD u 0+1:=by
 obtain⟨hu,hv⟩:=hg.adj_lt h;obtain⟨k,e,h1,_,_⟩:=yfr hg hc ha hu;obtain⟨j,e',_,h3,_⟩:=yfr hg hc ha hv;rw[e,e'];rcases zAT (k+1) j with q|q
 ·exact absurd ⟨u,h1,h⟩ (h3 (k+1) q)
 ·omega
theorem ybpu(hg:ybc g)(hc:yng g=true)(ha:a<g.ports.length)(hv:v<g.ports.length)(hne:v≠a):∃u,adj g v u/\(yds g a).getD u 0=(yds g a).getD v 0-1:=by
 obtain⟨k,e,h1,h2,_⟩:=yfr hg hc ha hv;cases k with
 |zero=>exact absurd h1 hne
 | succ k =>
   obtain⟨u,h3,h4⟩:=h1;refine⟨u,hg.adj_symm h4,?_⟩;have h5:=ybtt hg hc ha h4;obtain⟨hu,_⟩:=hg.adj_lt h4;obtain⟨j,e',_,h6,_⟩:=yfr hg hc ha hu;rw[e,e']at h5;rcases zAT k j with q|q
   ·exact absurd h3 (h6 k q)
   ·rw[e,e'];omega
theorem ylc{l:Int×Int}(hg:ybc g)(hv:v<g.ports.length)(hl:l∈g.ports.getD v []):0<=l.1/\l.1.toNat<g.ports.length/\adj g v l.1.toNat/\1<=l.2/\l.2<=15:=by
 have e:g.ports[v]?=some (g.ports.getD v []):=by simp[zV,hv]
 have h:=hg.link e hl;exact⟨h.1,by omega,⟨_,e,l,hl,by omega⟩,h.2.2.2.1,h.2.2.2.2⟩
theorem yys{u:Nat}(h:adj g v u):∃l∈g.ports.getD v [],l.1.toNat=u:=by
 obtain⟨l,hl,e⟩:=yik.1 h;exact⟨l,hl,by rw[e];simp⟩
end
section
variable {nm nd np nt nl:ByteArray}{g:Gr}
end
end
section
open Ev
theorem yws:∀(ps:List (List (Int×Int))) (v:Nat) (x:El),x∈flatAt v ps->v<=x.v/\x.v<v+ps.length/\(x.a,x.b)∈ps.getD (x.v-v) []
 |[],_,_,h=>absurd h zI
 | ls::l,v,x,h=>by
   rcases List.mem_append.1 h with h|h
   ·obtain⟨y,hy,rfl⟩:=List.mem_map.1 h;refine⟨zL _,by simp,?_⟩
    simp only[zAK,zAI];exact hy
   ·obtain⟨h1,h2,h3⟩:=yws l (v+1) x h;refine⟨by omega,by simp only[zAB];omega,?_⟩
    have e:x.v-v=(x.v-(v+1))+1:=by omega
    rw[e,List.getD_cons_succ];exact h3
theorem ypl{g:Gr}(hg:ybc g){k:Nat}(hk:k<(flatAt 0 g.ports).length):(Sh.ydi g.ports k).v<g.ports.length/\((Sh.ydi g.ports k).a,(Sh.ydi g.ports k).b)∈g.ports.getD (Sh.ydi g.ports k).v []:=by
 have hm:Sh.ydi g.ports k∈flatAt 0 g.ports:=by unfold Sh.ydi;rw[Sh.getD_at hk];exact zU hk
 obtain⟨_,h2,h3⟩:=yws _ _ _ hm;exact⟨by omega,by simpa using h3⟩
theorem ybjh{α:Type}{g:Gr}(f:α->El->α)(a:α){k:Nat}(hk:k<(flatAt 0 g.ports).length):((flatAt 0 g.ports).take (k+1)).foldl f a=f (((flatAt 0 g.ports).take k).foldl f a) (Sh.ydi g.ports k):=by
 rw[List.take_succ_eq_append_getElem hk,List.foldl_append];unfold Sh.ydi;rw[Sh.getD_at hk];rfl
theorem ybmz{g:Gr}(hg:ybc g):∀ls∈g.ports,∀l∈ls,I64 l.1/\I64 l.2:=fun ls hls l hl=>by
 obtain⟨v,hv,e⟩:=zN hls;have h24:=hg.2.1;have:g.ports.getD v []=ls:=by simp[zV,hv,e]
 obtain⟨h1,h2,_,h4,h5⟩:=ylc hg hv (by rw[this];exact hl)
 exact⟨Sh.yeq (by omega),Sh.yeq (by omega)⟩
end
section
namespace Sh
open Ev Go.RowKit
theorem ybmy{g:Gr}:Returns zK 68 [grV g] (.fn 107 [] [.rf [yj g.ids,ybf g.ports]]):=by
 refine Returns.of (yclr _ _ ?_);simp only[c68,ycpt,ycof,grV,clash,go_sem,zA,zB,zD,zC,↓reduceIte,reduceCtorEq];exact Sim.refl _
end Sh
end
section
namespace Sh
section
variable {nm nd np nt nl:ByteArray}{g:Gr}
end
end Sh
end
section
def ycrw(g:Gr)(s:Nat):Prop:=∀u v,adj g u v->s.testBit u=true->s.testBit v=false
def ResD(D:Nat->Prop)(res:Nat->Nat->Nat):Prop:=∀e w,e≠0->res e w≠0/\subB (res e w) e/\D (res e w)
theorem Sys.run_allD{S:Sys}{D:Nat->Prop}{res:Nat->Nat->Nat}(hr:ResD D res){J:Conf->Cnt->Prop}(hstep:∀c k s,J c k->s≠0->subB s (S.en c)->D s->J (S.mv c s) (addP k s (S.en (S.mv c s)))) :
 ∀(ws:List Nat) (c:Conf) (k:Cnt),J c k->∀p∈S.run res ws c k,J p.1 p.2
 |[],c,k,_,p,hp=>by cases hp
 | w :: ws,c,k,hJ,p,hp=>by
   unfold Sys.run at hp;split at hp
   ·cases hp
   ·rename_i h0
    obtain⟨r1,r2,r3⟩:=hr _ w h0;have hJ':=hstep c k _ hJ r1 r2 r3;rcases List.mem_cons.1 hp with e|e
    ·rw[e];exact hJ'
    ·exact Sys.run_allD hr hstep ws _ _ hJ' p e
theorem Sys.runs_allD{S:Sys}{D:Nat->Prop}{res:Nat->Nat->Nat}(hr:ResD D res){J:Conf->Cnt->Prop}(hstep:∀c k s,J c k->s≠0->subB s (S.en c)->D s->J (S.mv c s) (addP k s (S.en (S.mv c s)))){ws:List Nat}{c:Conf}(h:J c (ygc (S.en c))):∀p∈S.runs res ws c,J p.1 p.2:=fun p hp=>by
 rcases List.mem_cons.1 hp with e|e
 ·rw[e];exact h
 ·exact Sys.run_allD hr hstep ws _ _ h p e
theorem ResD.ok{D:Nat->Prop}{res:Nat->Nat->Nat}(h:ResD D res):ybua res:=fun e w h0=>⟨(h e w h0).1,(h e w h0).2.1⟩
structure ByRoundsC(S:Sys)(V:Conf->Prop)(D:Nat->Prop)(P:Nat->Nat->Conf->Prop):Prop where
 valid:∀c s,V c->s≠0->subB s (S.en c)->D s->V (S.mv c s)
 stay:∀c s v r r',r<=r'->r'<=r+1->V c->v<S.n->s.testBit v=false->subB s (S.en c)->D s->(∀u,u<S.n->P r u c)->P r' v c->P r' v (S.mv c s)
 move:∀c s v r,V c->v<S.n->s.testBit v=true->subB s (S.en c)->D s->(∀u,u<S.n->P r u c)->P (r+1) v (S.mv c s)
 rest:∀c v r,V c->v<S.n->(S.en c).testBit v=false->(∀u,u<S.n->P r u c)->P (r+1) v c
 less:∀r v c,P (r+1) v c->P r v c
structure RInvC(S:Sys)(V:Conf->Prop)(P:Nat->Nat->Conf->Prop)(c:Conf)(k:Cnt):Prop where
 valid:V c
 all:∀v,v<S.n->P k.rounds v c
 done:∀v,v<S.n->k.pend.testBit v=false->P (k.rounds+1) v c
 begun:k.begun<=k.rounds+1
section
variable {S:Sys}{V:Conf->Prop}{D:Nat->Prop}{P:Nat->Nat->Conf->Prop}
theorem ByRoundsC.start(h:ByRoundsC S V D P){c:Conf}(hv:V c)(h0:∀v,v<S.n->P 0 v c):RInvC S V P c (ygc (S.en c)) :=
 ⟨hv,h0,fun v hn hb=>h.rest c v 0 hv hn hb h0,by simp[ygc]⟩
theorem ByRoundsC.step(h:ByRoundsC S V D P)(c:Conf)(k:Cnt)(s:Nat)(hi:RInvC S V P c k)(h0:s≠0)(hs:subB s (S.en c))(hD:D s):RInvC S V P (S.mv c s) (addP k s (S.en (S.mv c s))):=by
 obtain⟨i1,i2,i3,i4⟩:=hi;have hv:=h.valid c s i1 h0 hs hD
 have hall:∀v,v<S.n->P k.rounds v (S.mv c s):=fun v hn=>by
  cases hb:s.testBit v with
  |true=>exact h.less _ _ _ (h.move c s v _ i1 hn hb hs hD i2)
  |false=>exact h.stay c s v _ _ (zL _) (zAU _) i1 hn hb hs hD i2 (i2 v hn)
 have hnext:∀v,v<S.n->(difB k.pend s&&&S.en (S.mv c s)).testBit v=false->P (k.rounds+1) v (S.mv c s):=fun v hn hb=>by
  rw[Nat.testBit_and,ykh]at hb;cases hb1:s.testBit v with
  |true=>exact h.move c s v _ i1 hn hb1 hs hD i2
  | false =>
    cases hb2:k.pend.testBit v with
    |false=>exact h.stay c s v _ _ (zAU _) (zL _) i1 hn hb1 hs hD i2 (i3 v hn hb2)
    | true =>
      rw[hb1,hb2]at hb;exact h.rest _ v _ hv hn (by simpa using hb) hall
 unfold addP;simp only
 by_cases hp:difB k.pend s&&&S.en (S.mv c s)=0
 ·simp only[if_pos hp];have hall':∀v,v<S.n->P (k.rounds+1) v (S.mv c s):=fun v hn=>hnext v hn (by rw[hp];simp)
  exact⟨hv,hall',fun v hn hb=>h.rest _ v _ hv hn hb hall',by show k.rounds+1<=_;simp⟩
 ·simp only[if_neg hp];exact⟨hv,hall,hnext,zL _⟩
theorem ByRoundsC.runs(h:ByRoundsC S V D P){res:Nat->Nat->Nat}(hr:ResD D res){ws:List Nat}{c:Conf}(hv:V c)(h0:∀v,v<S.n->P 0 v c):∀p∈S.runs res ws c,RInvC S V P p.1 p.2 :=
 Sys.runs_allD hr (fun c k s=>h.step c k s) (h.start hv h0)
end
end
section
theorem yoz{α:Type}[DecidableEq α]:∀{l1 l2:List α},l1.Nodup->(∀x∈l1,x∈l2)->l1.length<=l2.length
 |[],_,_,_=>zS _
 | a::t,l2,hn,hs=>by
   have hn:=List.nodup_cons.1 hn;have h1:=hs a zX;have:=yoz (l1:=t) (l2:=l2.erase a) hn.2 fun y hy=>(List.mem_erase_of_ne fun e=>hn.1 (by rw[<-e];exact hy)).2 (hs y (zW _ hy))
   rw[List.length_erase_of_mem h1]at this;have:=zAD h1;simp only[zAB];omega
theorem ybrc{l:List Int}{k:Nat}(h:∀j:Nat,j<k->(j:Int)∈l):k<=l.length:=by
 have hn:((zAA k).map fun j:Nat=>(j:Int)).Nodup:=by
  rw[List.Nodup,zAN];exact List.nodup_range.imp fun h e=>h (by omega)
 have:=yoz hn (l2:=l) fun x hx=>by
  obtain⟨j,hj,rfl⟩:=List.mem_map.1 hx;exact h j (List.mem_range.1 hj)
 simpa using this
theorem yre(l:List Int):∀(n k:Nat),(∀j:Nat,j<k->(j:Int)∈l)->∃m:Nat,yni l n (k:Int)=m/\(∀j:Nat,j<m->(j:Int)∈l)/\((m:Int)∉l\/m=k+n)
 |0,k,h=>⟨k,rfl,h,.inr rfl⟩
 | n + 1,k,h=>by
   unfold yni
   by_cases hk:(k:Int)∈l
   ·rw[if_pos (List.elem_iff.2 hk)]
    obtain⟨m,e,h1,h2⟩:=yre l n (k+1) fun j hj=>by
     by_cases q:j=k
     ·rw[q];exact hk
     ·exact h j (by omega)
    refine⟨m,?_,h1,?_⟩
    ·rw[<-e];congr 1
    ·rcases h2 with q|q
     ·exact .inl q
     ·exact .inr (by omega)
   ·rw[if_neg (fun q=>hk (List.elem_iff.1 q))];exact⟨k,rfl,h,.inl hk⟩
theorem ybki(l:List Int):0<=mexP l/\mexP l<=l.length/\mexP l∉l:=by
 obtain⟨m,e,h1,h2⟩:=yre l (l.length+1) 0 fun j hj=>absurd hj (zO j);have e:mexP l=m:=e;have h3:=ybrc h1;rw[e];refine⟨by omega,by omega,?_⟩
 rcases h2 with q|q
 ·exact q
 ·omega
def kcEx:Ex:=.agg 21 (.bin 35 (eQ 0) (eVar 0))
def ybq(nm c r:ByteArray):ProgT:=⟨nm,[⟨c,1,0,0,1,0⟩],[⟨r,kcEx,[(0,.agg 27 (eQ 0))]⟩]⟩
def yci(c:Conf)(v:Nat):Int:=(c.getD v []).getD 0 0
def yhb(g:Gr)(c:Conf)(v:Nat):Prop:=∃u,adj g v u/\yci c u=yci c v
def ybaw(g:Gr)(c:Conf)(v:Nat):Int:=mexP ((g.ports.getD v []).map (endP c 0))
structure KcC(g:Gr)(c:Conf):Prop where
 len:c.length=g.ids.length
 row:∀v,v<g.ids.length->(c.getD v []).length=1/\(0<=yci c v/\yci c v<=g.ids.length)
section
variable {nm nc nr:ByteArray}{g:Gr}{c:Conf}{u v s:Nat}
theorem ytd(hc:yhs (ybq nm nc nr) g c=true):KcC g c:=by
 have h:=(ydz _ _ _).1 hc;refine⟨h.1,fun v hv=>?_⟩;have hlt:v<c.length:=by rw[h.1];exact hv
 have e:c.getD v []=c[v]:=by simp[zV,hlt]
 have h2:=h.2 v _ (zF hlt);unfold yci;rw[e];have hl:c[v].length=1:=h2.1;have a0:(ybh g v ⟨nc,1,0,0,1,0⟩).1<=c[v][0]/\c[v][0]<=(ybh g v ⟨nc,1,0,0,1,0⟩).2:=h2.2 0 _ _ rfl (zF (by omega))
 have e0:c[v].getD 0 0=c[v][0]:=by simp[zV,hl]
 rw[e0];rw[bT1]at a0;simp only at a0;exact⟨hl,by omega,by omega⟩
theorem ybcb(hg:ybc g)(hv:v<g.ports.length):0<=ybaw g c v/\ybaw g c v<=(g.ports.getD v []).length/\∀u,adj g v u->yci c u≠ybaw g c v:=by
 obtain⟨h1,h2,h3⟩:=ybki ((g.ports.getD v []).map (endP c 0));refine⟨h1,by rw[zAC]at h2;exact h2,fun u hu e=>h3 ?_⟩
 obtain⟨l,hl,el⟩:=yys hu;refine List.mem_map.2 ⟨l,hl,?_⟩;unfold endP;rw[el];exact e
theorem ycne(hg:ybc g)(hv:v<g.ports.length):(g.ports.getD v []).length<g.ports.length:=by
 have hn:((g.ports.getD v []).map (·.1)).Nodup:=by
  have h:=(hg.2.2.2.2.2.1 ⟨v,hv⟩).2;have e0:g.ports[v]=g.ports.getD v []:=by rw[Sh.getD_at hv]
  have h:((g.ports[v]).map (·.1)).Nodup:=h
  rwa [e0]at h
 have h2:((v:Int)::(g.ports.getD v []).map (·.1)).Nodup:=by
  refine List.nodup_cons.2 ⟨fun hm=>?_,hn⟩;obtain⟨l,hl,e⟩:=List.mem_map.1 hm;have e3:g.ports[v]?=some (g.ports.getD v []):=by simp[zV,hv]
  exact(hg.link e3 hl).2.2.1 e
 have:=yoz h2 (l2:=(zAA g.ports.length).map fun j:Nat=>(j:Int)) fun x hx=>by
  rcases List.mem_cons.1 hx with rfl|hx
  ·exact List.mem_map.2 ⟨v,List.mem_range.2 hv,rfl⟩
  ·obtain⟨l,hl,rfl⟩:=List.mem_map.1 hx;obtain⟨h1,h3,_⟩:=ylc hg hv hl;exact List.mem_map.2 ⟨l.1.toNat,List.mem_range.2 h3,by omega⟩
 rw[zAB,zAC,zAC,List.length_range]at this;omega
theorem ybrf(hg:ybc g)(hv:v<g.ids.length):ykb g c v ⟨nr,kcEx,[(0,.agg 27 (eQ 0))]⟩=true↔yhb g c v:=by
 have hvp:v<g.ports.length:=by have:=hg.2.2.1;omega
 show(yha 21 _ != 0)=true↔_;have e:((zAA (g.ports.getD v []).length).map fun(q:Nat)=>yfa g c v (.bin 35 (eQ 0) (eVar 0)) (q:Int))=(g.ports.getD v []).map fun l=>yeh (endP c 0 l==yci c v):=yvc g v _ _ fun q hq=>rfl;rw[e];show(yeh (decide (countP _>0))!=0)=true↔_;rw[yom,decide_eq_true_iff];unfold countP yhb;constructor
 ·intro h;obtain⟨x,hx⟩:=List.exists_mem_of_length_pos (show 0<(((g.ports.getD v []).map fun l=>yeh (endP c 0 l==yci c v)).filter (· != 0)).length by omega)
  obtain⟨h1,h2⟩:=List.mem_filter.1 hx;obtain⟨l,hl,rfl⟩:=List.mem_map.1 h1;rw[yom,beq_iff_eq]at h2;exact⟨_,(ylc hg hvp hl).2.2.1,h2⟩
 ·rintro⟨u,hu,q⟩;obtain⟨l,hl,el⟩:=yys hu
  have:yeh (endP c 0 l==yci c v)∈((g.ports.getD v []).map fun l=>yeh (endP c 0 l==yci c v)).filter (· != 0):=by
   refine List.mem_filter.2 ⟨List.mem_map.2 ⟨l,hl,rfl⟩,?_⟩;rw[yom,beq_iff_eq];unfold endP;rw[el];exact q
  have:=zAD this;omega
theorem ybhd(hg:ybc g)(hv:v<g.ids.length):(yhb g c v->yfv (ybq nm nc nr) g c v=0)/\(¬yhb g c v->yfv (ybq nm nc nr) g c v = -1):=by
 have h:=ybrf (nr:=nr) (c:=c) hg hv;unfold yfv ybq;simp only[List.findIdx?_cons,List.findIdx?_nil];constructor
 ·intro q;rw[h.2 q];rfl
 ·intro q;rw[Bool.eq_false_iff.2 fun e=>q (h.1 e)];rfl
theorem ybne(hg:ybc g):Sh.yvw (ybq nm nc nr) g=true:=by
 have h1:=hg.1;have h2:=hg.2.1;have h3:=hg.2.2.1;simp[Sh.yvw,ybq,ybh];omega
theorem ycuj:(ybq nm nc nr).ok=true:=by kernel_rfl
theorem ybql(hg:ybc g)(hv:v<g.ids.length):(ybu (ybq nm nc nr) g c).testBit v=true↔yhb g c v:=by
 obtain⟨h1,h2⟩:=ybhd (nm:=nm) (nc:=nc) (nr:=nr) (c:=c) hg hv;unfold ybu;rw[ykv,decide_eq_true hv,zAG,decide_eq_true_iff]
 by_cases q:yhb g c v
 ·rw[h1 q];exact⟨fun _=>q,fun _=>by omega⟩
 ·rw[h2 q];exact⟨fun h=>by omega,fun h=>absurd h q⟩
theorem yue(h:KcC g c)(hv:v<g.ids.length)(hb:s.testBit v=false):yci (yia (ybq nm nc nr) g c s) v=yci c v:=by
 unfold yci;rw[Sh.ykj _ g c s (by rw[h.len];exact hv),hb]
 rfl
theorem ybin(hg:ybc g)(h:KcC g c)(hv:v<g.ids.length)(hb:s.testBit v=true)(hcf:yhb g c v):(yia (ybq nm nc nr) g c s).getD v []=[ybaw g c v]:=by
 have hpl:=hg.2.2.1;rw[Sh.ykj _ g c s (by rw[h.len];exact hv),hb,if_pos rfl,(ybhd hg hv).1 hcf]
 obtain⟨x,hx⟩:∃x,c.getD v []=[x]:=by
  have:=(h.row v hv).1
  match hq:c.getD v [],this with
  |[x],_=>exact⟨x,rfl⟩
 obtain⟨b1,b2,_⟩:=ybcb (c:=c) hg (v:=v) (by omega)
 have b3:=ycne hg (v:=v) (by omega)
 unfold yyt ymk;rw[hx]
 have e:yfa g c v (.agg 27 (eQ 0)) (-1)=ybaw g c v:=by
  show yha 27 _=_;unfold yha ybaw;rw[if_neg (by decide),if_neg (by decide),if_neg (by decide),if_neg (by decide),if_neg (by decide),if_neg (by decide),if_neg (by decide),if_pos rfl]
  congr 1;exact yvc g v _ _ fun q hq=>rfl
 show[yji 1 (ybh g v ⟨nc,1,0,0,1,0⟩) (yfa g c v (.agg 27 (eQ 0)) (-1))]=_;rw[e];congr 1;unfold yji;rw[bT1,if_pos (by simp only;omega)]
theorem ybkd(hg:ybc g)(h:KcC g c)(hs:subB s (ybu (ybq nm nc nr) g c))(hD:ycrw g s)(hv:v<g.ids.length) :
 (s.testBit v=true->¬yhb g (yia (ybq nm nc nr) g c s) v)/\(¬yhb g c v->¬yhb g (yia (ybq nm nc nr) g c s) v):=by
 have hpl:=hg.2.2.1;have cf:∀u,u<g.ids.length->s.testBit u=true->yhb g c u:=fun u hu hb=>(ybql hg hu).1 (hs u hb)
 have new:∀u,u<g.ids.length->s.testBit u=true->yci (yia (ybq nm nc nr) g c s) u=ybaw g c u:=fun u hu hb=>by
  show((yia _ g c s).getD u []).getD 0 0=_;rw[ybin hg h hu hb (cf u hu hb)];rfl
 constructor
 ·rintro hb ⟨u,hu,e⟩;have hun:u<g.ids.length:=by have:=(hg.adj_lt hu).2;omega
  rw[new v hv hb,yue h hun (hD v u hu hb)]at e;exact(ybcb hg (by omega)).2.2 u hu e
 ·rintro hn ⟨u,hu,e⟩;have hun:u<g.ids.length:=by have:=(hg.adj_lt hu).2;omega
  have hbv:s.testBit v=false:=by
   cases q:s.testBit v with
   |false=>rfl
   |true=>exact absurd (cf v hv q) hn
  rw[yue h hv hbv]at e;cases q:s.testBit u with
  | false =>
    rw[yue h hun q]at e;exact hn ⟨u,hu,e⟩
  | true =>
    rw[new u hun q]at e;exact(ybcb hg (by omega)).2.2 v (hg.adj_symm hu) e.symm
def kcR(g:Gr)(r v:Nat)(c:Conf):Prop:=1<=r->¬yhb g c v
structure KcJ(nm nc nr:ByteArray)(g:Gr)(c:Conf)(k:Cnt):Prop where
 inv:RInvC (ychd (ybq nm nc nr) g) (fun c=>yhs (ybq nm nc nr) g c=true) (kcR g) c k
 moves:k.moves+popP (ybu (ybq nm nc nr) g c)<=g.ids.length
def ysy(g:Gr)(c:Conf):Prop:=∀v,v<g.ids.length->¬yhb g c v
end
end
section
def ydu(nm nc nr:ByteArray)(g:Gr)(c:Conf)(v:Nat):Conf:=if (ybu (ybq nm nc nr) g c).testBit v=true then yia (ybq nm nc nr) g c (1<<<v)else c
section
variable {nm nc nr:ByteArray}{g:Gr}{c:Conf}{u v s:Nat}
theorem yur{i:Nat}:(1<<<v).testBit i=true↔i=v:=by
 rw[Nat.one_shiftLeft,zAJ,decide_eq_true_iff];exact eq_comm
theorem ybkn(hg:ybc g):ycrw g (1<<<v):=fun a b hab ha=>by
 cases q:(1<<<v).testBit b with
 |false=>rfl
 | true =>
   rw[yur]at ha q;subst ha;subst q
   exact absurd hab fun h=>by
    obtain⟨hu,_⟩:=hg.adj_lt h;obtain⟨l,hl,e⟩:=yik.1 h;have e3:g.ports[b]?=some (g.ports.getD b []):=by simp[zV,hu]
    exact(hg.link e3 hl).2.2.1 e
theorem ycep(hg:ybc g)(hV:yhs (ybq nm nc nr) g c=true)(hv:v<g.ids.length) :
 yhs (ybq nm nc nr) g (ydu nm nc nr g c v)=true/\(∀w,w<g.ids.length->¬yhb g c w->¬yhb g (ydu nm nc nr g c v) w)/\¬yhb g (ydu nm nc nr g c v) v /\
  ∀w,w<g.ids.length->yci (ydu nm nc nr g c v) w=yci c w\/(0<=yci (ydu nm nc nr g c v) w/\yci (ydu nm nc nr g c v) w<=(g.ports.getD w []).length):=by
 have h:=ytd hV;have hpl:=hg.2.2.1;unfold ydu
 by_cases q:(ybu (ybq nm nc nr) g c).testBit v=true
 ·rw[if_pos q];have hs:subB (1<<<v) (ybu (ybq nm nc nr) g c):=fun i hi=>by rw[yur.1 hi];exact q
  have hD:=ybkn (v:=v) hg;refine⟨Sh.ybdz hg ycuj (ybne hg) hV _,fun w hw=>(ybkd hg h hs hD hw).2,(ybkd hg h hs hD hv).1 (yur.2 rfl),fun w hw=>?_⟩;cases hb:(1<<<v).testBit w with
  |false=>exact .inl (yue h hw hb)
  | true =>
    right
    have hm:=ybin (nm:=nm) (nc:=nc) (nr:=nr) hg h hw hb ((ybql hg hw).1 (hs w hb));unfold yci;rw[hm];obtain⟨h1,h2,_⟩:=ybcb (c:=c) hg (v:=w) (by omega)
    exact⟨h1,h2⟩
 ·rw[if_neg q];exact⟨hV,fun w hw hn=>hn,fun hc=>q ((ybql hg hv).2 hc),fun w hw=>.inl rfl⟩
theorem yss(hg:ybc g):∀(vs:List Nat) (c:Conf),yhs (ybq nm nc nr) g c=true->(∀v∈vs,v<g.ids.length) ->
 yhs (ybq nm nc nr) g (vs.foldl (ydu nm nc nr g) c)=true/\(∀w,w<g.ids.length->¬yhb g c w->¬yhb g (vs.foldl (ydu nm nc nr g) c) w)/\(∀v∈vs,¬yhb g (vs.foldl (ydu nm nc nr g) c) v) /\
  ∀w,w<g.ids.length->yci (vs.foldl (ydu nm nc nr g) c) w=yci c w\/(0<=yci (vs.foldl (ydu nm nc nr g) c) w/\yci (vs.foldl (ydu nm nc nr g) c) w<=(g.ports.getD w []).length)
 |[],c,hV,_=>⟨hV,fun _ _ h=>h,fun _ h=>(nomatch h),fun _ _=>.inl rfl⟩
 | v :: vs,c,hV,hl=>by
   have hv:=hl v zX;obtain⟨a1,a2,a3,a4⟩:=ycep hg hV hv;obtain⟨b1,b2,b3,b4⟩:=yss hg vs (ydu nm nc nr g c v) a1 fun w hw=>hl w (zW _ hw);rw[zAP];refine⟨b1,fun w hw hn=>b2 w hw (a2 w hw hn),fun w hw=>?_,fun w hw=>?_⟩
   ·rcases List.mem_cons.1 hw with e|hw
    ·rw[e];exact b2 v hv a3
    ·exact b3 w hw
   ·rcases b4 w hw with q|q
    ·rw[q];exact a4 w hw
    ·exact .inr q
theorem ybns(hg:ybc g){vs:List Nat}{k:Int}(hV:yhs (ybq nm nc nr) g c=true)(hl:∀v∈vs,v<g.ids.length)(hk:∀v,v<g.ids.length->yci c v=k) :
 (∀w,w<g.ids.length->yci (vs.foldl (ydu nm nc nr g) c) w=k\/(0<=yci (vs.foldl (ydu nm nc nr g) c) w/\yci (vs.foldl (ydu nm nc nr g) c) w<=(g.ports.getD w []).length))/\((∀v,v<g.ids.length->v∈vs)->ysy g (vs.foldl (ydu nm nc nr g) c)):=by
 obtain⟨_,_,b3,b4⟩:=yss hg vs c hV hl;refine⟨fun w hw=>?_,fun h v hv=>b3 v (h v hv)⟩;have:=b4 w hw
 rwa [hk w hw]at this
end
end
section
namespace Sh
open Go Ev
def yclq:LO:=[o3 (.mv (.const (.string (ByteArray.mk #[])))) 0 0]
def ycpl:LO:=[o3 (.mv (.const (.string (ByteArray.mk #[112,114,111,103,114,97,109,32,99,111,108,111,117,114,105,110,103,59,10,118,97,114,32,99,32,58,32,48,32,46,46,32,110,59,10,114,117,108,101,32,102,105,120,58,32,115,111,109,101,40,113,46,99,32,61,61,32,99,41,32,45,62,32,99,32,58,61,32,109,101,120,40,113,46,99,41,59,10])))) 0 0]
def c19:SC:=(.seq (.reg false yclq) (.seq (.reg false ycpl) .ret))
theorem ycnt:Fn 19 c19 [.t 0]:=fn_0 Tryz.func19 (by kernel_rfl) (by kernel_rfl)
def yckv:LO:=[o3 (.box 25 (.tmp 0)) 1 0,o3 (.mv (.const (.bool false))) 2 0]
def ycnr:LO:=[ld' true 2 1 3 0,cl' 64 [3] 4 1,mv' 4 2 3]
def c93:SC:=(.seq (.reg false yckv) (.seq (.reg false ycnr) .ret))
theorem ycmd:Fn 93 c93 [.t 2]:=fn_0 Tryz.func93 (by kernel_rfl) (by kernel_rfl)
def ycgx:LO:=[o3 (.box 25 (.tmp 0)) 2 0,o3 (.mv (.const (.bool false))) 4 0]
def ycia:LO:=[ld' true 2 2 5 0,cl' 93 [5] 6 1,mv' 6 7 3,⟨.load true 2 (.tmp 2),some 8,some (7,true),7⟩,⟨.mv (.tmp 1),some 9,some (7,true),7⟩,⟨.faddr 0 1 (.tmp 2),some 10,some (7,true),7⟩,⟨.load false 1 (.tmp 10),some 11,some (7,true),39⟩,⟨.len (.tmp 11),some 12,some (7,true),103⟩,⟨.bslice 3 1 1 [.i .i64 0] [(0,1,(.tmp 12))],some 13,some (7,true),231⟩,⟨.call (.func 41) [(.tmp 8),(.tmp 9),(.tmp 13)],some 14,some (7,true),511⟩,o3 (.pick (.tmp 7) (.tmp 14) (.const (.bool false))) 15 1023,mv' 15 4 2047]
def c57:SC:=(.seq (.reg false ycgx) (.seq (.reg false ycia) .ret))
theorem yckz:Fn 57 c57 [.t 4]:=fn_0 Tryz.func57 (by kernel_rfl) (by kernel_rfl)
def ycmi:LO:=[o3 (.box 25 (.tmp 0)) 2 0,o3 (.box 26 (.tmp 1)) 3 0,o3 (.mv (.const (.int .u32 0))) 4 0]
def ycsn:LO:=[o3 (.alloc 46 1 [.i .u32 0]) 5 0,o0 (.store 1 (.tmp 5) (.const (.int .u32 0))) 1]
def ycmo:LO:=[ld' true 2 2 8 0,cl' 68 [8] 9 1]
def ycki:LO:=[mv' 10 6 0]
def ycfh:LO:=[o3 (.alloc 81 1 [.i .i64 0,.i .i64 0]) 7 0,o0 (.store 2 (.tmp 7) (.tmp 11)) 1]
def yceu:LO:=[ld' false 1 3 12 0,mv' 6 13 0,ix' 1 12 13 14 3,ld' false 1 14 15 7,o3 (.idx 1 (.tmp 15) (ci' 0)) 16 15,ld' false 1 16 17 31,ld' false 1 3 18 0,fa' 0 1 7 19 0,ld' false 1 19 20 128,ix' 1 18 20 21 448,ld' false 1 21 22 960,o3 (.idx 1 (.tmp 22) (ci' 0)) 23 1984,ld' false 1 23 24 4032,bn' .eql 17 24 25 8191]
def ycio:LO:=[ld' false 1 5 26 0,mv' 6 27 0,o3 (.bin .shl (.const (.int .u32 1)) (.tmp 27)) 28 2,bn' .or 26 28 29 7,o0 (.store 1 (.tmp 5) (.tmp 29)) 15]
def ycmk:LO:=[ld' false 1 5 30 0,mv' 30 4 1]
def c58:SC:=(.seq (.reg false ycmi) (.seq (.reg false ycsn) (.seq (.seq (.reg false ycmo) (.block 0 (.range (.tmp 9) [10,11] (.seq (.reg false ycki) (.reg false ycfh)) (.block 1 (.seq (.reg true yceu) (.cond (.tmp 25) (.reg true ycio) .skip)))))) (.seq (.reg false ycmk) .ret))))
theorem ycqs:Fn 58 c58 [.t 4]:=fn_0 Tryz.func58 (by kernel_rfl) (by kernel_rfl)
def yciu:LO:=[o3 (.box 25 (.tmp 0)) 2 0,o3 (.mv (.const (.int .u32 0))) 4 0]
def yckd:LO:=[ld' true 2 2 5 0,mv' 1 6 0,cl' 57 [5,6] 7 3,o3 (.un .not (.tmp 7)) 8 7]
def ycqe:LO:=[o3 (.mv (.const (.int .u32 0))) 4 0]
def ycqy:LO:=[ld' true 2 2 9 0,mv' 1 10 0,cl' 58 [9,10] 11 3,mv' 11 4 7]
def c21:SC:=(.seq (.reg false yciu) (.seq (.seq (.reg false yckd) (.cond (.tmp 8) (.seq (.reg false ycqe) .ret) .skip)) (.seq (.reg false ycqy) .ret)))
theorem ycqf:Fn 21 c21 [.t 4]:=fn_0 Tryz.func21 (by kernel_rfl) (by kernel_rfl)
def yciq:LO:=[o3 (.box 25 (.tmp 0)) 2 0,o3 (.mv (.const (.bool false))) 4 0]
def ycjd:LO:=[ld' true 2 2 5 0,mv' 1 6 0,cl' 57 [5,6] 7 3,mv' 7 8 7,⟨.load true 2 (.tmp 2),some 9,some (8,true),15⟩,⟨.mv (.tmp 1),some 10,some (8,true),15⟩,⟨.call (.func 58) [(.tmp 9),(.tmp 10)],some 11,some (8,true),63⟩,⟨.bin .eql (.tmp 11) (.const (.int .u32 0)),some 12,some (8,true),127⟩,o3 (.pick (.tmp 8) (.tmp 12) (.const (.bool false))) 13 255,mv' 13 4 511]
def c24:SC:=(.seq (.reg false yciq) (.seq (.reg false ycjd) .ret))
theorem ycoc:Fn 24 c24 [.t 4]:=fn_0 Tryz.func24 (by kernel_rfl) (by kernel_rfl)
def c4_0:LO:=[o3 (.box 35 (.tmp 0)) 3 0,o3 (.mv (.const (.bool false))) 6 0]
def c4_1:LO:=[ld' true 6 3 18 0,o3 (.call (.func 16) [(.tmp 18),(ci' 9)]) 19 1,o3 (.alloc 25 1 [.a (.slice none 0 0),.a (.slice none 0 0)]) 7 0,o0 (.store 2 (.tmp 7) (.tmp 19)) 7]
def c4_2:LO:=[fa' 1 1 7 20 0,ld' false 1 20 21 1,ln' 21 22 3,mv' 22 8 7]
def c4_3:LO:=[mv' 1 23 0,mv' 8 24 0,o3 (.bin .add (.tmp 24) (ci' 1)) 25 2,cl' 17 [23,25] 26 7,mv' 26 1 15]
def c4_4:LO:=[o3 (.bslice 22 1 0 [] []) 27 0,o3 (.mv (ci' 0)) 9 0,mv' 27 10 3]
def c4_5:LO:=[o3 (.mv (ci' 0)) 11 0]
def c4_6:LO:=[mv' 11 28 0,mv' 8 29 0,bn' .lss 28 29 30 3]
def c4_8:LO:=[mv' 9 33 0,fa' 1 1 7 34 0,ld' false 1 34 35 2,mv' 11 36 0,ix' 1 35 36 37 14,ld' false 1 37 38 30,ln' 38 39 62,o3 (.mm true (.tmp 33) (.tmp 39)) 40 127,mv' 40 9 255]
def c4_9:LO:=[mv' 10 41 0,mv' 1 42 0,o3 (.bslice 3 1 1 [.i .i64 0] [(0,1,(.tmp 42))]) 43 2,o3 (.bslice 22 1 1 [.a (.slice none 0 0)] [(0,1,(.tmp 43))]) 44 6,o3 (.app 22 1 24 (.tmp 41) (.tmp 44)) 45 15,mv' 45 10 31]
def c4_7:LO:=[mv' 11 31 0,o3 (.bin .add (.tmp 31) (ci' 1)) 32 1,mv' 32 11 3]
def ycqp:LO:=[cl' 19 [] 46 0,cl' 18 [46] 47 1,o3 (.alloc 42 1 [.a (.string (ByteArray.mk #[])),.a (.slice none 0 0),.a (.slice none 0 0)]) 12 0,o0 (.store 3 (.tmp 12) (.tmp 47)) 7]
def ycpi:LO:=[o3 (.mv (ci' 0)) 13 0]
def ybor:LO:=[mv' 13 48 0,mv' 2 49 0,ln' 49 50 2,mv' 8 51 0,o3 (.wadd (.tmp 50) (.tmp 51)) 52 14,bn' .lss 48 52 53 31,mv' 53 54 63,⟨.mv (.tmp 13),some 55,some (54,true),127⟩,⟨.bin .lss (.tmp 55) (ci' 40),some 56,some (54,true),255⟩,o3 (.pick (.tmp 54) (.tmp 56) (.const (.bool false))) 57 511]
def ycfs:LO:=[mv' 13 60 0,mv' 2 61 0,ln' 61 62 2,bn' .sub 60 62 63 7,mv' 8 64 0,cl' 17 [63,64] 65 31,mv' 65 14 63]
def ycis:LO:=[mv' 13 66 0,mv' 2 67 0,ln' 67 68 2,bn' .lss 66 68 69 7]
def ycsx:LO:=[mv' 2 70 0,mv' 13 71 0,ix' 1 70 71 72 3,ld' false 1 72 73 7,mv' 8 74 0,cl' 17 [73,74] 75 31,mv' 75 14 63]
def ychk:LO:=[ld' true 2 7 76 0,mv' 10 77 0,cl' 21 [76,77] 78 3,mv' 14 79 0,cl' 20 [78,79] 80 15]
def ycjw:LO:=[ld' true 3 12 82 0,ld' true 2 7 83 0,mv' 10 84 0,mv' 14 85 0,o3 (.conv .u64 (.tmp 85)) 86 8,o3 (.bin .shl (.const (.int .u32 1)) (.tmp 86)) 87 24,cl' 22 [82,83,84,87] 88 63,mv' 88 81 127,xt' 81 0 89 255,xt' 81 1 90 255,mv' 89 15 511,mv' 90 16 2047]
def ycip:LO:=[mv' 16 91 0,o3 (.bin .neq (.tmp 91) (ci' 0)) 92 1,mv' 92 93 3,⟨.mv (.tmp 15),some 94,some (93,false),7⟩,⟨.len (.tmp 94),some 95,some (93,false),15⟩,⟨.mv (.tmp 8),some 96,some (93,false),7⟩,⟨.bin .neq (.tmp 95) (.tmp 96),some 97,some (93,false),63⟩,o3 (.pick (.tmp 93) (.const (.bool true)) (.tmp 97)) 98 127]
def yctt:LO:=[o3 (.mv (.const (.bool false))) 6 0]
def ycfk:LO:=[mv' 15 99 0,mv' 99 10 1]
def ybpn:LO:=[mv' 13 58 0,o3 (.bin .add (.tmp 58) (ci' 1)) 59 1,mv' 59 13 3]
def ycgu:LO:=[o3 (.mv (ci' 0)) 17 0]
def ysv:LO:=[mv' 17 100 0,mv' 8 101 0,bn' .lss 100 101 102 3]
def yblo:LO:=[mv' 10 105 0,mv' 17 106 0,ix' 1 105 106 107 3,ld' false 1 107 108 7,ln' 108 109 15,o3 (.bin .neq (.tmp 109) (ci' 1)) 110 31,mv' 110 111 63,⟨.mv (.tmp 10),some 112,some (111,false),127⟩,⟨.mv (.tmp 17),some 113,some (111,false),127⟩,⟨.idx 1 (.tmp 112) (.tmp 113),some 114,some (111,false),511⟩,⟨.load false 1 (.tmp 114),some 115,some (111,false),1023⟩,⟨.idx 1 (.tmp 115) (ci' 0),some 116,some (111,false),2047⟩,⟨.load false 1 (.tmp 116),some 117,some (111,false),4095⟩,⟨.mv (.tmp 1),some 118,some (111,false),127⟩,⟨.bin .neq (.tmp 117) (.tmp 118),some 119,some (111,false),16383⟩,⟨.mv (.tmp 119),some 120,some (111,false),32767⟩,⟨.mv (.tmp 10),some 121,some (120,true),65535⟩,⟨.mv (.tmp 17),some 122,some (120,true),65535⟩,⟨.idx 1 (.tmp 121) (.tmp 122),some 123,some (120,true),262143⟩,⟨.load false 1 (.tmp 123),some 124,some (120,true),524287⟩,⟨.idx 1 (.tmp 124) (ci' 0),some 125,some (120,true),1048575⟩,⟨.load false 1 (.tmp 125),some 126,some (120,true),2097151⟩,⟨.mv (.tmp 9),some 127,some (120,true),65535⟩,⟨.bin .gtr (.tmp 126) (.tmp 127),some 128,some (120,true),8388607⟩,⟨.pick (.tmp 120) (.tmp 128) (.const (.bool false)),some 129,some (111,false),16777215⟩,o3 (.pick (.tmp 111) (.const (.bool true)) (.tmp 129)) 130 33554431]
def yctl:LO:=[o3 (.mv (.const (.bool false))) 6 0]
def ybjq:LO:=[mv' 17 103 0,o3 (.bin .add (.tmp 103) (ci' 1)) 104 1,mv' 104 17 3]
def ybny:LO:=[cl' 23 [] 131 0,mv' 131 132 1,⟨.mv (.tmp 2),some 133,some (132,true),3⟩,⟨.len (.tmp 133),some 134,some (132,true),7⟩,⟨.bin .gtr (.tmp 134) (ci' 30),some 135,some (132,true),15⟩,⟨.mv (.tmp 135),some 136,some (132,true),31⟩,⟨.load true 2 (.tmp 7),some 137,some (136,false),63⟩,⟨.mv (.tmp 10),some 138,some (136,false),63⟩,⟨.call (.func 24) [(.tmp 137),(.tmp 138)],some 139,some (136,false),255⟩,⟨.pick (.tmp 136) (.const (.bool true)) (.tmp 139),some 140,some (132,true),511⟩,o3 (.pick (.tmp 132) (.tmp 140) (.const (.bool false))) 141 1023,mv' 141 6 2047]
def c4:SC:=(.seq (.reg false c4_0) (.seq (.reg false c4_1) (.seq (.reg false c4_2) (.seq (.reg false c4_3) (.seq (.reg false c4_4) (.seq (.seq (.reg false c4_5) (.block 0 (.loop (.seq (.seq (.reg false c4_6) (.cond (.tmp 30) .skip (.exit 0))) (.seq (.block 1 (.seq (.reg false c4_8) (.reg false c4_9))) (.reg false c4_7)))))) (.seq (.reg false ycqp) (.seq (.seq (.reg false ycpi) (.block 2 (.loop (.seq (.seq (.reg false ybor) (.cond (.tmp 57) .skip (.exit 2))) (.seq (.block 3 (.seq (.reg false ycfs) (.seq (.seq (.reg false ycis) (.cond (.tmp 69) (.reg false ycsx) .skip)) (.seq (.reg false ychk) (.cond (.tmp 80) (.seq (.reg false ycjw) (.seq (.seq (.reg false ycip) (.cond (.tmp 98) (.seq (.reg false yctt) .ret) .skip)) (.reg false ycfk))) .skip))))) (.reg false ybpn)))))) (.seq (.seq (.reg false ycgu) (.block 4 (.loop (.seq (.seq (.reg false ysv) (.cond (.tmp 102) .skip (.exit 4))) (.seq (.block 5 (.seq (.reg false yblo) (.cond (.tmp 130) (.seq (.reg false yctl) .ret) .skip))) (.reg false ybjq)))))) (.seq (.reg false ybny) .ret))))))))))
theorem ycts:Fn 4 c4 [.t 6]:=fn_0 Tryz.func4 (by kernel_rfl) (by kernel_rfl)
end Sh
end
section
def ygk(g:Gr)(c:Conf):Bool:=ygf g&&ynk g.ports.length (ydk g [(g.ids.length:Int)]) c
def kcEl(c:Conf)(s:Nat)(e:Ev.El):Nat:=if yci c e.v=yci c e.a.toNat then s|||2^e.v else s
def kcTo(g:Gr)(c:Conf)(k:Nat):Nat:=((Ev.flatAt 0 g.ports).take k).foldl (kcEl c) 0
def ylk(g:Gr)(c:Conf):Nat:=(Ev.flatAt 0 g.ports).foldl (kcEl c) 0
theorem yvv{g:Gr}{c:Conf}{k:Nat}(hk:k<(Ev.flatAt 0 g.ports).length):kcTo g c (k+1)=kcEl c (kcTo g c k) (Sh.ydi g.ports k):=ybjh (kcEl c) 0 hk
theorem ybqf(g:Gr)(c:Conf):kcTo g c (Ev.flatAt 0 g.ports).length=ylk g c:=by unfold kcTo ylk;rw[List.take_length]
theorem yblv{g:Gr}(hg:ybc g)(c:Conf):∀k,k<=(Ev.flatAt 0 g.ports).length->kcTo g c k<2^24
 |0,_=>Nat.two_pow_pos 24
 | k+1,hk=>by
   rw[yvv (by omega)]
   have h:=yblv hg c k (by omega)
   have h2:=(ypl hg (k:=k) (by omega)).1
   have:=hg.2.1;unfold kcEl;split
   ·exact Nat.or_lt_two_pow h (zAF (by omega) (by omega))
   ·exact h
theorem ybpc(c:Conf):∀(l:List Ev.El) (s i:Nat),(l.foldl (kcEl c) s).testBit i=true↔s.testBit i=true\/∃e∈l,e.v=i/\yci c e.v=yci c e.a.toNat
 |[],s,i=>⟨.inl,fun h=>h.resolve_right fun⟨_,h,_⟩=>nomatch h⟩
 | x :: l,s,i=>by
   rw[zAP,ybpc c l]
   have hb:(kcEl c s x).testBit i=true↔s.testBit i=true\/(x.v=i/\yci c x.v=yci c x.a.toNat):=by
    unfold kcEl;split
    ·rename_i q
     rw[Nat.testBit_or,Bool.or_eq_true,zAJ,decide_eq_true_iff];exact or_congr Iff.rfl ⟨fun h=>⟨h,q⟩,fun h=>h.1⟩
    ·rename_i q
     exact⟨.inl,fun h=>h.resolve_right fun h=>q h.2⟩
   rw[hb];constructor
   ·rintro((h|h)|⟨e,he,h⟩)
    ·exact .inl h
    ·exact .inr ⟨x,zX,h⟩
    ·exact .inr ⟨e,zW _ he,h⟩
   ·rintro(h|⟨e,he,h⟩)
    ·exact .inl (.inl h)
    ·rcases List.mem_cons.1 he with r|r
     ·rw[r]at h;exact .inl (.inr h)
     ·exact .inr ⟨e,r,h⟩
theorem ybuw{ps:List (List (Int×Int))}{v:Nat}{l:Int×Int}(hv:v<ps.length)(hl:l∈ps.getD v []):(⟨v,l.1,l.2⟩:Ev.El)∈Ev.flatAt 0 ps:=by
 have key:∀(ps:List (List (Int×Int))) (b v:Nat),v<ps.length->l∈ps.getD v []->(⟨b+v,l.1,l.2⟩:Ev.El)∈Ev.flatAt b ps:=by
  intro ps
  induction ps with
  |nil=>intro b v h;simp at h
  | cons x ps ih =>
    intro b v h hl;show _∈(x.map fun y=>(⟨b,y.1,y.2⟩:Ev.El))++Ev.flatAt (b+1) ps;rw[List.mem_append];cases v with
    |zero=>exact .inl (List.mem_map.2 ⟨l,hl,rfl⟩)
    | succ v =>
      right
      have:=ih (b+1) v (by simpa using h) hl
      rwa [show b+1+v=b+(v+1)by omega]at this
 have:=key ps 0 v hv hl
 rwa [zJ]at this
theorem ykd{g:Gr}(hg:ybc g){c:Conf}{v:Nat}:(ylk g c).testBit v=true↔v<g.ports.length/\yhb g c v:=by
 unfold ylk;rw[ybpc];constructor
 ·rintro(h|⟨e,he,rfl,hq⟩)
  ·simp at h
  ·obtain⟨k,hk,rfl⟩:=zN he;obtain⟨h1,h2⟩:=ypl hg hk;have e0:Sh.ydi g.ports k=(Ev.flatAt 0 g.ports)[k]:=by unfold Sh.ydi;rw[Sh.getD_at hk]
   rw[e0]at h1 h2;exact⟨h1,_,(ylc hg h1 h2).2.2.1,hq.symm⟩
 ·rintro⟨hv,u,hu,e⟩;obtain⟨l,hl,rfl⟩:=yys hu;exact .inr ⟨_,ybuw hv hl,rfl,e.symm⟩
def yte(g:Gr)(c:Conf):Nat:=if ygk g c=true then ylk g c else 0
def yiu(g:Gr)(c:Conf):Bool:=ygk g c&&decide (ylk g c=0)
theorem ywf{g:Gr}{c:Conf}(h:ygk g c=true):ybc g/\c.length=g.ports.length/\∀v,v<c.length->(c.getD v []).length=1:=by
 unfold ygk at h;rw[zAO]at h;have hck:=(ydz _ _ _).1 h.2;refine⟨(ygu g).1 h.1,hck.1,fun v hv=>?_⟩;rw[Sh.getD_at hv];have:=(hck.2 v _ (zF hv)).1
 simpa[ydk]using this
namespace Sh
open Ev Go.RowKit
theorem ybro{g:Gr}(hI:GrI g):Returns zK 93 [grV g] (.b (ygf g)):=by
 refine Returns.of (ycmd _ _ ?_);have hC:=yrh hI;simp only[grV]at hC;simp only[c93,yckv,ycnr,grV,go_sem,zA,zB,zC,↓reduceIte];refine hC.use ?_;simp only[ybe,yer,go_sem,zA,zB,↓reduceIte,reduceCtorEq]
theorem yxn{g:Gr}(hI:GrI g){c:Conf}(hR:ybes c):Returns zK 57 [grV g,ybk c] (.b (ygk g c)):=by
 refine Returns.of (yckz _ _ ?_);have hF:=ybro hI;unfold ygk;cases ht:ygf g with
 | false =>
   rw[ht]at hF;simp only[grV]at hF;simp only[c57,ycgx,ycia,grV,clash,go_sem,zA,zB,zC,↓reduceIte];refine hF.use ?_;simp only[ybe,clash,go_sem,zA,zB,↓reduceIte,reduceCtorEq];exact Sim.refl _
 | true =>
   have hg:=(ygu g).1 ht;have h24:=hg.2.1;have hpl:=hg.2.2.1
   have hC:=ybsk hg hR (G:=[(g.ids.length:Int)]) (fun x hx=>by
    simp at hx;subst hx;exact yeq (by omega))
   rw[ht]at hF;simp only[grV]at hF;simp only[c57,ycgx,ycia,grV,clash,go_sem,zA,zB,zC,↓reduceIte];refine hF.use ?_;simp only[ybe,yj,splice,clash,go_sem,zA,zB,zD,zC,↓reduceIte,reduceCtorEq];have one:∀{q:Nat},q<1->q=0:=fun {q} h=>by omega
   refine .inl ⟨fun q hq=>by obtain rfl:=one hq;simp only[go_sem],hC.useS ?_ ?_⟩
   ·refine⟨Sim.refl (grV g),Sim.refl _,?_,trivial⟩;refine yil fun q hq=>?_;obtain rfl:=one hq;simp only[zAI,go_sem];exact⟨Sim.refl _,trivial⟩
   simp only[go_sem];exact Sim.refl _
set_option maxHeartbeats 1000000 in
theorem yxa{g:Gr}(hg:ybc g){c:Conf}(hl:c.length=g.ports.length)(h1:∀v,v<c.length->(c.getD v []).length=1):Returns zK 58 [grV g,ybk c] (.i .u32 (ylk g c)):=by
 refine Returns.of (ycqs _ _ ?_);have hLk:=ybmy (g:=g);have h24:=hg.2.1;have hs0:kcTo g c 0=0:=rfl;simp only[grV]at hLk;simp only[c58,ycmi,ycsn,ycmo,grV,splice,clash,go_sem,zA,zB,zC,↓reduceIte,reduceCtorEq];refine hLk.use ?_;simp only[ybe,clash,go_sem]
 refine ybsj (ybuu (ybmz hg)) [(2,0),(3,0),(5,0)] (fun i (_:Unit)=>⟨[(9,.fn 107 [] [.rf [yj g.ids,ybf g.ports]]),(2,.pt (2,0) 0 0),(3,.pt (3,0) 0 0),(5,.pt (5,0) 0 0)],
  [(2,.one (some ⟨25,true,2,1,fun _=>[yj g.ids,ybf g.ports]⟩)),(3,.one (some ⟨26,true,1,1,fun _=>[ybk c]⟩)),(5,.one (some ⟨46,true,1,1,fun _=>[.i .u32 (kcTo g c i:Nat)]⟩))]⟩) (fun i _=>i<=(flatAt 0 g.ports).length) () (zS _) ⟨fun _ h=>absurd h zI,fun _ h=>absurd h zI⟩ ?_ (fun _=>rfl) ?_ ?_ ?_
 ·refine yh [] [] [] ?_;simp only[hs0,allQ,live,yg,zM,go_sem,zA,↓reduceIte,reduceCtorEq]
 ·intro i _ hi _;refine⟨trivial,?_⟩;simp only[go_sem,allQ,go_sem,zA]
 ·intro i _ hi hlti;have hlti:i<(flatAt 0 g.ports).length:=hlti;obtain⟨e1,e2⟩:=ypl hg hlti;have hs:=yvv (c:=c) hlti;have hb:=yblv hg c i hi;obtain⟨E,hE⟩:∃E,ydi g.ports i=E:=⟨_,rfl⟩;rw[hE]at hs e1 e2;obtain⟨a1,a2,_⟩:=ylc hg e1 e2;have a1:0<=E.a:=a1;have a2:E.a.toNat<g.ports.length:=a2;have l1:=h1 E.v (by omega)
  have l2:=h1 E.a.toNat (by omega)
  obtain⟨a,ha⟩:∃a,kcTo g c i=a:=⟨_,rfl⟩;rw[ha]at hs hb;obtain⟨cl,hcl⟩:∃m,c.length=m:=⟨_,rfl⟩;rw[hcl]at hl;refine⟨_,rfl,?_⟩;simp only[ybpl];obtain⟨x,hx⟩:∃x,(c.getD E.v []).getD 0 0=x:=⟨_,rfl⟩;obtain⟨y,hy⟩:∃y,(c.getD E.a.toNat []).getD 0 0=y:=⟨_,rfl⟩;have hxy:kcEl c a E=if x=y then a|||2^E.v else a:=by unfold kcEl yci;rw[hx,hy]
  rw[hxy]at hs
  by_cases q:x=y
  ·have z1:(x==y)=true:=by rw[beq_iff_eq];exact q
   have sh:=ysx (v:=E.v) (by omega)
   have ov:=u32_or (a:=a) (b:=2^E.v) (by omega) (zAF (by omega) (by omega))
   rw[if_pos q]at hs;simp only[IntKind.bits,Int.toNat_natCast]at sh ov;simp(maxSteps:=5000000) only [ycki,ycfh,yceu,ycio,ybk,yj,ha,hE,hcl,l1,l2,hx,hy,z1,sh,ov,splice,clash,go_sem,zAQ,zA,zB,zD,zC,↓reduceIte,reduceCtorEq]
   repeat (first|refine⟨by omega,?_⟩|refine⟨by decide,?_⟩)
   refine yyg [] [] [] ?_;simp only[hs,allQ,live,yg,go_sem,zA,↓reduceIte,reduceCtorEq]
  ·have z1:(x==y)=false:=by rw[beq_eq_false_iff_ne];exact q
   rw[if_neg q]at hs;simp(maxSteps:=5000000) only [ycki,ycfh,yceu,ycio,ybk,yj,ha,hE,hcl,l1,l2,hx,hy,z1,splice,clash,go_sem,zAQ,zA,zB,zD,zC,↓reduceIte,reduceCtorEq]
   repeat (first|refine⟨by omega,?_⟩|refine⟨by decide,?_⟩)
   refine yyg [] [] [] ?_;simp only[hs,allQ,live,yg,go_sem,zA,↓reduceIte,reduceCtorEq]
 ·intro _ _;have e:=ybqf g c;simp only[ycmk,ybpl,e,clash,go_sem,zA,zB,↓reduceIte,reduceCtorEq];exact Sim.refl _
theorem yqp{g:Gr}(hI:GrI g){c:Conf}(hR:ybes c):Returns zK 21 [grV g,ybk c] (.i .u32 (yte g c)):=by
 refine Returns.of (ycqf _ _ ?_);have hC:=yxn hI hR;unfold yte;cases hcf:ygk g c with
 | false =>
   rw[hcf]at hC;simp only[grV]at hC;simp only[c21,yciu,yckd,ycqe,grV,clash,go_sem,zA,zB,zC,↓reduceIte,reduceCtorEq];refine hC.use ?_;simp only[ybe,clash,go_sem,zB,↓reduceIte];exact Sim.refl _
 | true =>
   obtain⟨hg,hl,h1⟩:=ywf hcf;have hK:=yxa hg hl h1;rw[hcf]at hC;rw[if_pos rfl];simp only[grV]at hC hK;simp only[c21,yciu,yckd,ycqy,grV,clash,go_sem,zA,zB,zC,↓reduceIte,reduceCtorEq];refine hC.use ?_;simp only[ybe,clash,go_sem,zA,zB,↓reduceIte,reduceCtorEq];refine hK.use ?_;simp only[go_sem];exact Sim.refl _
theorem ybfc{g:Gr}(hI:GrI g){c:Conf}(hR:ybes c):Returns zK 24 [grV g,ybk c] (.b (yiu g c)):=by
 refine Returns.of (ycoc _ _ ?_);have hC:=yxn hI hR;unfold yiu;cases hcf:ygk g c with
 | false =>
   rw[hcf]at hC;simp only[grV]at hC;simp only[c24,yciq,ycjd,grV,clash,go_sem,zA,zB,zC,↓reduceIte,reduceCtorEq];refine hC.use ?_;simp only[ybe,clash,go_sem,zA,zB,↓reduceIte,reduceCtorEq];exact Sim.refl _
 | true =>
   obtain⟨hg,hl,h1⟩:=ywf hcf;have hK:=yxa hg hl h1;have e:(((ylk g c:Nat):Int)==0)=decide (ylk g c=0):=by rw[Bool.eq_iff_iff,beq_iff_eq,decide_eq_true_iff];omega
   rw[hcf]at hC;rw[zAG,<-e];simp only[grV]at hC hK;simp only[c24,yciq,ycjd,grV,clash,go_sem,zA,zB,zC,↓reduceIte,reduceCtorEq];refine hC.use ?_;simp only[ybe,clash,go_sem,zA,zB,↓reduceIte,reduceCtorEq];refine hK.use ?_;simp only[go_sem,↓reduceIte];exact Sim.refl _
end Sh
end
section
def yju(ls:List (Int×Int))(b:Int):Bool:=ls.any fun l=>decide (l.1=b)
namespace Sh
open Ev Go.RowKit
theorem ybgn{ids:List Int}{ports:List (List (Int×Int))}{a b:Nat}(ha:a<ports.length)(hl:(ports.getD a []).length<=100000) :
 Returns zK 110 [.ag [yj ids,ybf ports],.i .i64 a,.i .i64 b] (.b (yju (ports.getD a []) b)):=by
 refine Returns.of (ycgz _ _ ?_);obtain⟨n,hn⟩:∃n,ports.length=n:=⟨_,rfl⟩;obtain⟨L,hL⟩:∃L,ports.getD a []=L:=⟨_,rfl⟩;rw[hL]at hl ⊢;obtain⟨m,hm⟩:∃m,L.length=m:=⟨_,rfl⟩;simp only[c110,yced,ybwj,go_sem,zB,zC,↓reduceIte];refine ybj (σ:=Nat) (fun k=>⟨[(7,.i .i64 k),(3,.pt (3,0) 0 0),(1,.i .i64 a),(2,.i .i64 b)],[(3,.one (some ⟨25,true,2,1,fun _=>[yj ids,ybf ports]⟩))]⟩) (fun k=>k<=m/\∀j,j<k->(L.getD j (0,0)).1≠b) (fun k=>m-k) 0 ⟨zS _,fun j hj=>absurd hj (zO j)⟩ ?_ ?_
 ·refine yh [] [] [] ?_;simp only[go_sem,allQ,live,yg,zM,go_sem,zA,↓reduceIte,reduceCtorEq]
 ·rintro k ⟨hk,hno⟩;simp only[ycdg,ybyg,yccn,ybxh,ybvu,ybf,ybd,hn,hL,hm,go_sem,zA,zB,zD,↓reduceIte,reduceCtorEq];refine⟨⟨by omega,by omega⟩,fun hlt=>⟨⟨by omega,by omega⟩,⟨by omega,by omega⟩,fun he=>?_,fun hne=>⟨ikw (by omega) (by omega),?_⟩⟩,fun hge=>?_⟩
  ·have hk':k<L.length:=by omega
   have:yju L b=true:=List.any_eq_true.2 ⟨L[k],zU _,by rw[getD_at hk']at he;exact decide_eq_true he⟩
   rw[this];exact Sim.refl _
  ·refine yu (k+1) ⟨by omega,fun j hj=>?_⟩ (by omega) ?_
   ·by_cases q:j=k
    ·rw[q];exact hne
    ·exact hno j (by omega)
   refine yh [] [] [] ?_;simp only[allQ,live,yg,ybb,go_sem,zA,↓reduceIte,reduceCtorEq];omega
  ·have:yju L b=false:=List.any_eq_false.2 fun l hl he=>by
    obtain⟨j,hj,rfl⟩:=zN hl;have:=hno j (by omega)
    rw[getD_at hj]at this;exact this (of_decide_eq_true he)
   rw[this];exact Sim.refl _
end Sh
end
section
namespace Sh
open Go Ev
theorem Cm.ct{P:Program}{g:FuncId}{args:List SV}{Q:SV->Own->Prop}{R:SV->Prop}(h:Cm P g [] [] args Q)(hq:∀r o',Q r o'->vok o' 5 r/\R (view o' 5 r)):Ct P g args R:=by
 intro G m us hw hle hargs
 have hc0:Conc m.next G om0 ⟨[],[]⟩ ⟨0,.leaf⟩ (enterM m) :=
  ⟨hw,zL _,zL _,hle,fun β b h=>(by cases h),fun β _=>rfl,fun β γ k z k' z' h=>(by cases h),fun β k z h=>(by cases h),fun t v hv=>(by cases hv)⟩
 obtain⟨v,m1,r,o',F',ω',s0,t2,hrv,l1,l2,_,_,hQ⟩:=h m.next G om0 ⟨0,.leaf⟩ (enterM m) us hc0 hargs
 obtain⟨r3,r4⟩:=hq r o' hQ
 have hs0:ybl P (.call g us m) (.call v m1):=by
  obtain⟨n,b,l⟩:=m;exact ybl.relow s0
 have hm1:m.next<=m1.low:=t2.low
 have hold:∀{i x},m.b.get i=some x->i<m.next:=fun {i x} q=>hw i x q
 have hview:∀H:AM,Le F' H->(∀β k z,ω' β=some (some (k,z))->∀b,m1.b.get k=some b->H k=some b)->RV H om0 (view o' 5 r) v:=fun H h1 h2=>yhd t2 h1 h2 hrv r3
 have hs1:ybl P (.call g us m) (.call v ⟨m1.next,yfu m.b m1.b,m1.low⟩):=by
  intro hwm;obtain⟨ext,hcall⟩:=hs0 hwm
  have hget:∀{i x},(yfu m.b m1.b).get i=some x->m.b.get i=some x\/m1.b.get i=some x:=fun {i x} q=>by
   rw[yco]at q;split at q
   ·rename_i y hy;cases q;exact .inl hy
   ·exact .inr q
  refine⟨⟨ext.next,fun i b hq=>?_,fun i b h1 h2 hq=>?_,fun i b hq=>?_⟩,fun φ M w args' hR hs ha hf=>?_⟩
  ·rcases hget hq with q|q
   ·exact .inl ⟨b,q⟩
   ·exact ext.dom i b q
  ·rcases hget hq with q|q
   ·exact q
   ·exact ext.old i b h1 h2 q
  ·rcases hget hq with q|q
   ·exact zAL (hold q) ext.next
   ·exact ext.wf i b q
  ·refine(hcall φ M w args' hR hs ha hf).mono ?_;rintro e' w' ⟨v',rfl,φ',M',hgd,hv⟩;refine⟨v',rfl,φ',M',⟨hgd.le,hgd.out,hgd.rel,fun i b hq=>?_,hgd.frame,hgd.wg⟩,hv⟩;rcases hget hq with q|q
   ·have hi:=hold q;rw[hgd.frame i (fun z=>by omega) (.inr (zAL hi hm1))]
    exact hs i b q
   ·exact hgd.sub i b q
 have hnone:∀{i},m.next<=i->m.b.get i=none:=fun {i} q=>by
  cases hh:m.b.get i with
  |none=>rfl
  |some x=>have:=hold hh;omega
 refine⟨_,_,view o' 5 r,hs1,hm1,fun i b hq=>?_,r4,hview _ (fun i b hq=>?_) (fun β k z hk b hq=>?_)⟩
 ·show(yfu m.b m1.b).get i=some b;rw[yco,hq]
 ·unfold frsh;rcases l2 i b hq with q|q
  ·rw[if_neg (by have:=hold (hle i b q);omega)];exact q
  ·rw[if_pos q];show(yfu m.b m1.b).get i=some b;rw[yco,hnone q];exact t2.sub i b hq
 ·unfold frsh;have:=(t2.apart β k z hk).2.1;rw[if_pos this];show(yfu m.b m1.b).get k=some b;rw[yco,hnone this];exact hq
theorem Cm.weak {P:Program}{g:FuncId}{o:Own}{args:List SV}{Q R:SV->Own->Prop}(h:Cm P g [] o args Q)
 (hq:∀r o',Q r o'->∃r2 o2,Weak [] ⟨[(0,r)],o'⟩ ⟨[(0,r2)],o2⟩/\(cln (live o2) 5 r2=true/\allQ (fun p=>ydh (live o2) p.2) o2)/\R r2 o2):Cm P g [] o args R:=by
 intro lo G ω f m us hc hargs;obtain⟨v,m1,r,o',F',ω',s0,t2,hrv,l1,l2,_,_,hQ⟩:=h lo G ω f m us hc hargs;obtain⟨r2,o2,hw,hcl,hR⟩:=hq r o' hQ
 have t3:Conc lo F' ω' ⟨[(0,r)],o'⟩ ⟨1,tOf [v]⟩ m1:=⟨t2.wf,t2.low,t2.nxt,t2.sub,t2.own,t2.dom,t2.inj,t2.apart,fun t x hx=>by
  unfold look at hx;split at hx
  ·rename_i e
   cases hx
   exact⟨v,by rw[ych];simp[<-e],hrv⟩
  ·cases hx⟩
 obtain⟨ω2,F2,k1,k2,k3,_⟩:=hw lo F' ω' _ m1 t3;obtain⟨u,q1,q2⟩:=k3.fr 0 r2 rfl
 have e:u=v:=by
  rw[ych]at q1
  simpa using q1.symm
 subst e
 exact⟨u,m1,r2,o2,F2,ω2,s0,⟨k3.wf,k3.low,k3.nxt,k3.sub,k3.own,k3.dom,k3.inj,k3.apart,fun t x hx=>(by cases hx)⟩,q2,fun x b hx=>k1 x b (l1 x b hx),fun x b hx=>by
  rcases k2 x b hx with z|z
  ·exact l2 x b z
  ·exact .inr z,fun β hβ=>absurd hβ zI,⟨hcl.1,hcl.2,trivial⟩,hR⟩
end Sh
end
section
structure NetR where
 n:Int
 links:List Int
 weights:List Int
 ids:List Int
 apart:Bool
 back:Bool
def NetR.ok(x:NetR):Prop:=Sh.inK .i64 x.n/\(∀k,Sh.inK .i64 (x.links.getD k 0))/\(∀k,Sh.inK .i64 (x.weights.getD k 0))/\(∀k,Sh.inK .i64 (x.ids.getD k 0))
theorem yyo(a r:Nat)(hr:r<=256):((zAA r).map fun i=>(((a+i)%256:Nat):Int)).Nodup:=by
 unfold List.Nodup;rw[zAN];refine List.Pairwise.imp_of_mem (R:=(· < ·)) (fun {i j} hi hj h=>?_) List.pairwise_lt_range;have hi:=List.mem_range.1 hi;have hj:=List.mem_range.1 hj;intro e;omega
theorem ybbs{a r:Nat}{l:List Int}(hr:r<=256)(h:∀i,i<r->(((a+i)%256:Nat):Int)∈l):r<=l.length:=by
 have:=List.Nodup.length_le_of_subset (yyo a r hr) (l₂:=l) fun x hx=>by
  obtain⟨i,hi,rfl⟩:=List.mem_map.1 hx;exact h i (List.mem_range.1 hi)
 simpa using this
namespace Sh
open Ev Go.RowKit
def netC(x:NetR):List SV:=[.i .i64 x.n,yj x.links,yj x.weights,yj x.ids,.b x.apart,.b x.back]
theorem wrap64_in(z:Int):inK .i64 (IntKind.wrap .i64 z):=by
 unfold inK;have e1:IntKind.i64.min = -9223372036854775808:=rfl;have e2:IntKind.i64.max=9223372036854775807:=rfl;have h1:=Int.emod_nonneg z (show(18446744073709551616:Int)≠0 by decide)
 have h2:=Int.emod_lt_of_pos z (show(0:Int)<18446744073709551616 by decide)
 rw[e1,e2]
 have e:IntKind.wrap .i64 z=if z%18446744073709551616>=9223372036854775808 then z%18446744073709551616-18446744073709551616 else z%18446744073709551616:=by
  show(if (true&&decide (z%18446744073709551616>=9223372036854775808))=true then z%18446744073709551616-18446744073709551616 else z%18446744073709551616)=_
  simp only[zAG,decide_eq_true_eq]
 rw[e];split<;>omega
theorem ybhv{x:NetR}(hx:x.ok){most:Nat}(hm:1<=most/\most<=24) :
 Cm zK 55 [] [] [.ag (netC x),.i .i64 most] fun r o=>∃ids:List Int,(1<=ids.length/\ids.length<=most/\(ids.length:Int)=1+ybp (IntKind.wrap .i64 (x.n-1)) most)/\(∀y∈ids,0<=y/\y<=255)/\ids.Nodup/\r = .ag [.os (148,0) 0 ids.length true,.os (17,0) 0 ids.length true] /\
  o=[(17,.one (some ⟨38,false,1,ids.length,fun _=>[.a (.slice none 0 0)]⟩)),(148,.one (some ⟨3,false,1,ids.length,fun k=>[.i .i64 (ids.getD k 0)]⟩))]:=by
 refine yckf [] [] _ _ _ ?_;obtain⟨hx1,hx2,hx3,hx4⟩:=hx;have hin:=ydf (v:=IntKind.wrap .i64 (x.n-1)) (m:=(most:Int)) (by omega)
 obtain⟨k,hk⟩:∃k:Nat,ybp (IntKind.wrap .i64 (x.n-1)) most=k:=zQ hin.1;have hW:=ycw (IntKind.wrap .i64 (x.n-1)) most (by omega) (wrap64_in _)
 rw[hk]at hW hin;obtain⟨n,hn⟩:∃n:Nat,(1:Int)+(k:Int)=(n:Int):=⟨1+k,by omega⟩
 have hn1:1<=n/\n<=most/\(n:Int)=1+ybp (IntKind.wrap .i64 (x.n-1)) most:=by omega
 simp only[c55,ycom,ycqh,netC,go_sem,zA,zB,zD,zC,↓reduceIte,reduceCtorEq];refine hW.use ?_;simp only[ybe,yclp,yclt,hn,clash,go_sem,zA,zB,zC,↓reduceIte,reduceCtorEq];refine⟨ikw (by omega) (by omega),⟨by omega,by omega,by omega⟩,?_⟩
 refine ybj (σ:=List Int) (fun l=>⟨[(7,.i .i64 l.length),(5,.i .i64 n),(2,.pt (2,0) 0 0),(6,.pt (6,0) 0 0),(4,.pt (4,0) 0 0)],
  [(2,.one (some ⟨35,true,6,1,fun _=>netC x⟩)),(4,.one (some ⟨25,true,2,1,fun _=>[.a (.slice none 0 0),.a (.slice none 0 0)]⟩)),
   (6,.one (some ⟨25,true,2,1,fun _=>[.os (148,0) 0 l.length true,.os (17,0) 0 n true]⟩)),(17,.one (some ⟨38,false,1,n,fun _=>[.a (.slice none 0 0)]⟩)),
   (148,.one (some ⟨3,false,1,l.length,fun k=>[.i .i64 (l.getD k 0)]⟩))]⟩)
  (fun l=>l.length<=n/\(∀y∈l,0<=y/\y<=255)/\l.Nodup) (fun l=>n-l.length) [] ⟨zS _,fun y hy=>(zI hy).elim,List.nodup_nil⟩ ?_ ?_
 ·refine yh [] [148] [] ?_;simp only[netC,allQ,live,yg,zM,go_sem,zA,zH,↓reduceIte,reduceCtorEq];exact fun i _=>⟨(148,0),rfl,rfl,rfl⟩
 ·rintro l ⟨hl,hl2,hl3⟩;obtain⟨v,hv⟩:∃v,l.length=v:=⟨_,rfl⟩;rw[hv]at hl;have hA:=at_ret x.ids v;have hi2:=ydf (v:=atP x.ids v) (m:=256) (by omega)
  obtain⟨a,ha⟩:∃a:Nat,ybp (atP x.ids v) 256=a:=zQ hi2.1;have hW2:=ycw (atP x.ids v) 256 (by omega) (hx4 v)
  rw[ha]at hW2 hi2;simp only[ycoy,ycsp,yclj,ybwr,netC,hv,splice,clash,go_sem,zA,zB,zD,↓reduceIte,reduceCtorEq];refine⟨fun hlt=>?_,fun hge=>?_⟩
  ·refine hA.use ?_;simp only[ybe,clash,go_sem,zA,zB,↓reduceIte,reduceCtorEq];refine hW2.use ?_
   refine ybj (σ:=Nat×Nat) (fun q=>⟨[(9,.i .i64 q.2),(8,.i .i64 ((a+q.1)%256:Nat)),(7,.i .i64 v),(5,.i .i64 n),(2,.pt (2,0) 0 0),(6,.pt (6,0) 0 0),(4,.pt (4,0) 0 0)],
    [(2,.one (some ⟨35,true,6,1,fun _=>netC x⟩)),(4,.one (some ⟨25,true,2,1,fun _=>[.a (.slice none 0 0),.a (.slice none 0 0)]⟩)),
     (6,.one (some ⟨25,true,2,1,fun _=>[.os (148,0) 0 v true,.os (17,0) 0 n true]⟩)),(17,.one (some ⟨38,false,1,n,fun _=>[.a (.slice none 0 0)]⟩)),
     (148,.one (some ⟨3,false,1,v,fun k=>[.i .i64 (l.getD k 0)]⟩))]⟩)
    (fun q=>q.2<=v/\(∀i,i<q.1->(((a+i)%256:Nat):Int)∈l)/\q.1<=256/\∀j,j<q.2->l.getD j 0≠(((a+q.1)%256:Nat):Int)) (fun q=>(v-q.1)*(v+2)+(v-q.2)) (0,0) ⟨zS _,fun i hi=>absurd hi (zO i),by omega,fun j hj=>absurd hj (zO j)⟩ ?_ ?_
   ·refine yh [] [] [] ?_;simp only[netC,allQ,live,yg,ybb,zM,go_sem,zA,↓reduceIte,reduceCtorEq];rw[Nat.mod_eq_of_lt (by omega)]
   ·rintro⟨r,u⟩ ⟨hu,hr,hr256,hno⟩;obtain⟨b,hb⟩:∃b,(a+r)%256=b:=⟨_,rfl⟩;have hb256:b<256:=by omega
    simp only[ycsr,ycmf,ybwa,ybwt,yccq,ycsy,netC,hb,splice,clash,go_sem,zA,zB,zD,zC,↓reduceIte,reduceCtorEq];have hu:u<=v:=hu;have hr:∀i,i<r->(((a+i)%256:Nat):Int)∈l:=hr;have hr256:r<=256:=hr256;have hno:∀j,j<u->l.getD j 0≠(b:Int):=fun j hj=>by rw[<-hb];exact hno j hj
    have hrv:r<=v:=by rw[<-hv];exact ybbs hr256 hr
    refine⟨fun hlt2=>⟨⟨by omega,by omega⟩,by omega,fun he=>⟨ikw (by omega) (by omega),by decide,ikw (by omega) (by omega),?_⟩,fun hne=>⟨ikw (by omega) (by omega),?_⟩⟩,fun hge2=>?_⟩
    ·have hmem:(b:Int)∈l:=by
      rw[<-he,getD_at (show u<l.length by omega)]
      exact zU _
     have hr':∀i,i<r+1->(((a+i)%256:Nat):Int)∈l:=fun i hi=>by
      by_cases q:i=r
      ·rw[q,hb];exact hmem
      ·exact hr i (by omega)
     have hrv':r+1<=v:=by rw[<-hv];exact ybbs (by omega) hr'
     refine yu (r+1,0) ⟨zS _,hr',by show r+1<=256;omega,fun j hj=>absurd hj (zO j)⟩ ?_ ?_
     ·show(v-(r+1))*(v+2)+(v-0)<(v-r)*(v+2)+(v-u);obtain⟨m,hm⟩:∃m,v-r=m+1:=⟨v-r-1,by omega⟩
      rw[show v-(r+1)=m by omega,hm,Nat.succ_mul]
      generalize m*(v+2)=z
      omega
     ·refine yh [] [] [] ?_;simp only[allQ,live,yg,ybb,zM,go_sem,zA,↓reduceIte,reduceCtorEq];refine⟨by omega,?_⟩
      rw[Int.tmod_eq_emod_of_nonneg (by omega)]
      omega
    ·refine yu (r,u+1) ⟨by show u+1<=v;omega,hr,hr256,fun j hj=>?_⟩ ?_ ?_
     ·show l.getD j 0≠(((a+r)%256:Nat):Int);rw[hb]
      by_cases q:j=u
      ·rw[q];exact hne
      ·exact hno j (by have:j<u+1:=hj;omega)
     ·show(v-r)*(v+2)+(v-(u+1))<(v-r)*(v+2)+(v-u)
      generalize (v-r)*(v+2)=z
      omega
     ·refine yh [] [] [] ?_;simp only[hb,allQ,live,yg,ybb,go_sem,zA,↓reduceIte,reduceCtorEq];omega
    ·obtain rfl:u=v:=by omega
     refine⟨⟨by omega,by omega⟩,ikw (by omega) (by omega),?_⟩
     have hno':(b:Int)∉l:=fun hm=>by
      obtain⟨j,hj,e⟩:=zN hm;exact hno j (by omega) (by rw[getD_at hj,e])
     refine yu (l++[(b:Int)]) ⟨by rw[zY,zAE];omega,fun y hy=>?_,?_⟩ (by rw[zY,zAE];omega) ?_
     ·rcases List.mem_append.1 hy with hy|hy
      ·exact hl2 y hy
      ·rw[List.mem_singleton.1 hy];omega
     ·rw[List.nodup_append];exact⟨hl3,by simp,fun y hy z hz=>by rw[List.mem_singleton.1 hz];exact fun e=>hno' (e▸hy)⟩
     refine yh [(148,fun i=>(48,i))] [] [] ?_;simp only[zY,hv,allQ,live,yg,ybb,go_sem,zA,↓reduceIte,reduceCtorEq];refine⟨by omega,fun i hi=>?_⟩
     rw[yclm,hv]
     by_cases q:i<u
     ·simp only[if_pos q];simp only[live,yg,go_sem,reduceCtorEq]
     ·obtain rfl:i=u:=by omega
      simp only[if_neg q,zAK];simp only[live,yg,go_sem,↓reduceIte,reduceCtorEq]
  ·obtain rfl:v=n:=by omega
   simp only[yic,go_sem];refine⟨.ag [.os (148,0) 0 v true,.os (17,0) 0 v true],[(17,.one (some ⟨38,false,1,v,fun _=>[.a (.slice none 0 0)]⟩)),(148,.one (some ⟨3,false,1,v,fun k=>[.i .i64 (l.getD k 0)]⟩))],?_,?_,l,by rw[hv];exact hn1,hl2,hl3,by rw[hv],by rw[hv]⟩
   ·refine yh [] [] [] ?_;simp only[allQ,live,yg,go_sem,zA,↓reduceIte,reduceCtorEq]
   ·simp only[ydh,yho,allQ,live,go_sem,zA,↓reduceIte]
theorem ybdr{x:NetR}(hx:x.ok){most:Nat}(hm:1<=most/\most<=24) :
 Cm zK 55 [] [] [.ag (netC x),.i .i64 most] fun r o=>∃ids:List Int,(1<=ids.length/\ids.length<=most/\(ids.length:Int)=1+ybp (IntKind.wrap .i64 (x.n-1)) most)/\(∀y∈ids,0<=y/\y<=255)/\ids.Nodup/\r = .ag [yj ids,.os (17,0) 0 ids.length true] /\
  o=[(17,.one (some ⟨38,false,1,ids.length,fun _=>[.a (.slice none 0 0)]⟩))] :=
 (ybhv hx hm).weak fun r o' ⟨ids,h1,h2,h3,e1,e2⟩=>by
   subst e1 e2;obtain⟨v,hv⟩:∃v,ids.length=v:=⟨_,rfl⟩;refine⟨.ag [yj ids,.os (17,0) 0 ids.length true],[(17,.one (some ⟨38,false,1,ids.length,fun _=>[.a (.slice none 0 0)]⟩))],?_,?_,ids,h1,h2,h3,rfl,rfl⟩
   ·refine yh [] [] [(148,0)] ?_;simp only[yj,hv,allQ,live,yg,go_sem,zA,↓reduceIte,reduceCtorEq]
   ·simp only[ydh,yho,allQ,live,go_sem,↓reduceIte]
end Sh
end
section
def ygn(back:Bool)(g:Gr)(a b:Nat)(w:Int):Gr:=if a=b\/yju (g.ports.getD a []) b=true then g else ybx back g a b w
namespace Sh
open Ev Go.RowKit
def rowO(l:List (Int×Int)):OB:=⟨81,false,2,l.length,fun k=>[.i .i64 (l.getD k (0,0)).1,.i .i64 (l.getD k (0,0)).2]⟩
def ybw(ports:List (List (Int×Int))):Own:=[(211,.one (some ⟨38,false,1,ports.length,fun v=>[.os (212,v) 0 (ports.getD v []).length true]⟩)),
 (212,.many fun v=>if v<ports.length then some (rowO (ports.getD v []))else none)]
def yef(g:Gr):SV:=.ag [yj g.ids,.os (211,0) 0 g.ports.length true]
theorem yca{i n:Nat}{x b:OB}(h:(if i<n then some x else none)=some b):i<n/\b=x:=by
 split at h
 ·cases h;exact⟨by assumption,rfl⟩
 ·cases h
theorem ybo(back:Bool)(L:List (Int×Int))(x:Int×Int):(addL back L x).length=L.length+1:=by
 unfold addL;cases back<;>simp
theorem yxg(L:List (Int×Int))(x:Int×Int){k:Nat}(hk:k<L.length+1):(if k<L.length then[SV.i .i64 (L.getD k (0,0)).1,SV.i .i64 (L.getD k (0,0)).2]else zAR 2 (zAS ((k-L.length)*2) [SV.i .i64 x.1,SV.i .i64 x.2]))=[SV.i .i64 ((addL false L x).getD k (0,0)).1,SV.i .i64 ((addL false L x).getD k (0,0)).2]:=by
 show _=[SV.i .i64 ((L++[x]).getD k (0,0)).1,SV.i .i64 ((L++[x]).getD k (0,0)).2];rw[yclm]
 by_cases h:k<L.length
 ·rw[if_pos h,if_pos h]
 ·obtain rfl:k=L.length:=by omega
  rw[if_neg h,if_neg h,if_pos rfl,zAK];rfl
theorem ykg(L:List (Int×Int))(x:Int×Int)(k:Nat):(if k<1 then zAR 2 (zAS (k*2) [SV.i .i64 x.1,SV.i .i64 x.2])else[SV.i .i64 (L.getD (k-1) (0,0)).1,SV.i .i64 (L.getD (k-1) (0,0)).2])=[SV.i .i64 ((addL true L x).getD k (0,0)).1,SV.i .i64 ((addL true L x).getD k (0,0)).2]:=by
 show _=[SV.i .i64 ((x::L).getD k (0,0)).1,SV.i .i64 ((x::L).getD k (0,0)).2];cases k with
 |zero=>rfl
 |succ k=>rw[if_neg (by omega)];rfl
theorem cells_one(L:List (Int×Int))(h:L.length=0)(x:Int×Int){k:Nat}(hk:k<1):zAR 2 (zAS (k*2) [SV.i .i64 x.1,SV.i .i64 x.2])=[SV.i .i64 ((addL true L x).getD k (0,0)).1,SV.i .i64 ((addL true L x).getD k (0,0)).2]:=by
 obtain rfl:k=0:=by omega
 rfl
theorem yhr {n:Nat}{o:Own}{P':List (List (Int×Int))}(hl:P'.length=n) (A:Nat->Nm) {R:Nat->List SV}(h11:lookO o (211,0)=some ⟨38,false,1,n,R⟩) (hR:∀v,v<n->R v=[.os (A v) 0 (P'.getD v []).length true])
 (hA:∀v,v<n->∃q,lookO o (A v)=some ⟨81,false,2,(P'.getD v []).length,q⟩/\∀k,k<(P'.getD v []).length->q k=[.i .i64 ((P'.getD v []).getD k (0,0)).1,.i .i64 ((P'.getD v []).getD k (0,0)).2])
 (hi:∀u v,u<n->v<n->A u=A v->u=v) (h0:∀v,v<n->A v≠(211,0)) :
 ∃r o',Weak [(211,0)] ⟨[(0,.tp [])],o⟩ ⟨[(0,r)],o'⟩/\(cln (live o') 5 r=true/\allQ (fun p=>ydh (live o') p.2) o'/\allQ (fun β=>live o' β=true) [(211,0)])/\r = .tp []/\o'=ybw P':=by
 subst hl
 have hsome:∀i,(if i<P'.length then some (rowO (P'.getD i []))else none).isSome=true->i<P'.length:=fun i h=>by
  by_cases q:i<P'.length
  ·exact q
  ·rw[if_neg q]at h;cases h
 have hlive:∀i,i<P'.length->live (ybw P') (212,i)=true:=fun i hi=>by
  show(if i<P'.length then some (rowO (P'.getD i []))else none).isSome=true
  rw[if_pos hi];rfl
 refine⟨.tp [],ybw P',ybar [(212,A)] [] [] trivial ⟨.inr ⟨.inr fun e=>⟨rfl,rfl⟩,.inr fun j hj e=>?_,trivial⟩,.inr ⟨.inr fun i hi' e=>?_,.inr fun i hi' j hj e=>⟨rfl,?_⟩,trivial⟩,trivial⟩ ⟨?_,trivial⟩ ⟨?_,fun i b hb=>?_,trivial⟩ ⟨⟨rfl,rfl,rfl⟩,trivial⟩,⟨rfl,⟨?_,?_,trivial⟩,rfl,trivial⟩,rfl,rfl⟩
 ·exact absurd e.symm (h0 j (hsome j hj))
 ·exact absurd e (h0 i (hsome i hi'))
 ·exact hi i j (hsome i hi') (hsome j hj) e
 ·exact⟨_,rfl,.inl ⟨trivial,Sim.refl _,rfl⟩⟩
 ·refine⟨_,h11,⟨rfl,rfl,rfl,rfl,rfl⟩,fun i hi'=>?_⟩;have hi':i<P'.length:=hi';show telL _ _ _ _ _ (R i) _;rw[hR i hi'];refine⟨.inl ⟨by simp only[go_sem],Sim.refl _,?_⟩,rfl,trivial⟩
  show(live (ybw P') (212,i) && !(List.elem 212 []))=true;rw[hlive i hi'];rfl
 ·obtain⟨hi',rfl⟩:=yca hb;obtain⟨q,q1,q2⟩:=hA i hi';refine⟨_,q1,⟨rfl,rfl,rfl,rfl,rfl⟩,fun k hk=>?_⟩;show telL _ _ _ _ _ (q k) _;rw[q2 k hk];exact⟨.inl ⟨trivial,Sim.refl _,rfl⟩,rfl,.inl ⟨trivial,Sim.refl _,rfl⟩,rfl,trivial⟩
 ·intro k hk;have:live (ybw P') (212,k)=true:=hlive k hk;simp only[ybw,List.all_cons,List.all_nil,Bool.and_true]at this ⊢;exact this
 ·intro i b hb k hk;obtain⟨hi',rfl⟩:=yca hb;rfl
section
variable {x:NetR}{g:Gr}{a b:Nat}{w:Int}
theorem ybju (ha:a<g.ports.length)(hb:b<g.ports.length)(hn:g.ports.length<=24)(hd:∀v,(g.ports.getD v []).length<=1000) :
 Cm zK 73 [(211,0)] (ybw g.ports) [.ag (netC x),yef g,.i .i64 a,.i .i64 b,.i .i64 w] fun r o=>r = .tp []/\o=ybw (ygn x.back g a b w).ports:=by
 refine ycex [(211,0)] [] _ _ _ ?_;obtain⟨O2,hO2⟩:∃O,ybw (ygn x.back g a b w).ports=O:=⟨_,rfl⟩;rw[hO2]
 by_cases hab:a=b
 ·subst hab;have hP:ygn x.back g a a w=g:=if_pos (.inl rfl);rw[hP]at hO2;simp only[c73,yciy,ycgw,netC,yef,ybw,yic,go_sem,zA,zB,zC,↓reduceIte,reduceCtorEq];subst hO2;exact yhr rfl (fun v=>(212,v)) rfl (fun v hv=>rfl) (fun v hv=>⟨_,if_pos hv,fun k hk=>rfl⟩) (fun u v _ _ e=>congrArg Prod.snd e) (fun v _ e=>by cases e)
 ·have hne:((a:Int)==(b:Int))=false:=by rw[beq_eq_false_iff_ne];omega
  have hL:=ybgn (ids:=g.ids) (ports:=g.ports) (b:=b) ha (by have:=hd a;omega)
  simp only[c73,yciy,ycgw,netC,yef,ybw,hne,clash,go_sem,zA,zB,zC,↓reduceIte,reduceCtorEq];refine .inl ⟨fun q hq=>by rw[if_pos hq];exact⟨zL _,fun k hk=>by simp only[rowO,go_sem]⟩,hL.useS ?_ ?_⟩
  ·refine⟨yyi ⟨Sim.refl _,?_,trivial⟩,Sim.refl _,Sim.refl _,trivial⟩;refine yil fun q hq=>?_;rw[if_pos hq];simp only[rowO,ybd,go_sem];exact⟨Sim.refl _,trivial⟩
  cases hlk:yju (g.ports.getD a []) b with
  | true =>
    have hP:ygn x.back g a b w=g:=if_pos (.inr hlk);rw[hP]at hO2;simp only[ybe,clash,yic,go_sem,zA,zB,↓reduceIte];subst hO2;exact yhr rfl (fun v=>(212,v)) rfl (fun v hv=>rfl) (fun v hv=>⟨_,if_pos hv,fun k hk=>rfl⟩) (fun u v _ _ e=>congrArg Prod.snd e) (fun v _ e=>by cases e)
  | false =>
    have hP:ygn x.back g a b w=ybx x.back g a b w:=if_neg (fun q=>by rcases q with q|q;exact hab q;rw[hlk]at q;cases q)
    rw[hP]at hO2;subst hO2;have hba:¬b=a:=fun e=>hab e.symm;have hlen:(ybx x.back g a b w).ports.length=g.ports.length:=by simp[ybx]
    have hat:=ydg x.back g w ha hb;obtain⟨G',hG'⟩:∃G,(ybx x.back g a b w).ports=G:=⟨_,rfl⟩;rw[hG']at hlen ⊢;have hat:∀v,G'.getD v []=if v=b then addL x.back (g.ports.getD b []) (a,w)else if v=a then addL x.back (g.ports.getD a []) (b,w)else g.ports.getD v []:=fun v=>by rw[<-hG'];exact hat v
    clear hG' hP
    obtain⟨x1,x2,x3,x4,x5,back⟩:=x;have hda:=hd a;have hdb:=hd b;cases back with
    | false =>
      simp only[ybe,clash,ybgp,ybet,yctc,rowO,if_pos ha,if_pos hb,hab,hba,yic,and_false,go_sem,zA,zB,zD,zC,↓reduceIte,reduceCtorEq];refine⟨⟨by omega,by omega⟩,by omega,⟨by omega,by omega⟩,by decide,⟨by omega,by omega⟩,by omega,⟨by omega,by omega⟩,by decide,⟨by omega,by omega⟩,by omega,by decide,⟨by omega,by omega⟩,by omega,by decide,?_⟩
      refine yhr hlen (fun v=>if v=b then(74,0)else if v=a then(66,0)else(212,v)) rfl (fun v hv=>?_) (fun v hv=>?_) (fun u v _ _ e=>?_) (fun v _ e=>?_)
      ·rw[hat v]
       by_cases q:v=b
       ·simp only[if_pos q,ybo]
       ·by_cases q2:v=a
        ·simp only[if_neg q,if_pos q2,ybo]
        ·simp only[if_neg q,if_neg q2]
      ·rw[hat v]
       by_cases q:v=b
       ·simp only[if_pos q,ybo];exact⟨_,rfl,fun k hk=>yxg _ (_,_) hk⟩
       ·by_cases q2:v=a
        ·simp only[if_neg q,if_pos q2,ybo];exact⟨_,rfl,fun k hk=>yxg _ (_,_) hk⟩
        ·simp only[if_neg q,if_neg q2];refine⟨fun k=>[.i .i64 ((g.ports.getD v []).getD k (0,0)).1,.i .i64 ((g.ports.getD v []).getD k (0,0)).2],?_,fun k hk=>rfl⟩;show(if v=b then none else if v=a then none else if v<g.ports.length then some _ else none)=some _
         rw[if_neg q,if_neg q2,if_pos hv]
      ·by_cases q:u=b<;>by_cases q2:u=a<;>by_cases q3:v=b<;>by_cases q4:v=a<;>simp[q,q2,q3,q4,hab]at e ⊢<;>omega
      ·by_cases q:v=b<;>by_cases q2:v=a<;>simp[q,q2,hab]at e
    | true =>
      by_cases hza:(g.ports.getD a []).length=0
      ·by_cases hzb:(g.ports.getD b []).length=0
       ·simp only[ybe,clash,ybgp,ybet,ybii,ybpg,rowO,if_pos ha,if_pos hb,hba,yic,and_false,hza,hzb,go_sem,zA,zB,zD,zC,zAH,↓reduceIte,reduceCtorEq]
        repeat' apply zAM
        all_goals first|omega|decide|skip
        refine yhr hlen (fun v=>if v=b then(45,0)else if v=a then(33,0)else(212,v)) rfl (fun v hv=>?_) (fun v hv=>?_) (fun u v _ _ e=>?_) (fun v _ e=>?_)
        ·rw[hat v]
         by_cases q:v=b
         ·simp only[if_pos q,ybo,hzb,zJ]
         ·by_cases q2:v=a
          ·simp only[if_neg q,if_pos q2,ybo,hza,zJ]
          ·simp only[if_neg q,if_neg q2]
        ·rw[hat v]
         by_cases q:v=b
         ·simp only[if_pos q,ybo,hzb,zJ];exact⟨_,rfl,fun k hk=>cells_one _ hzb (_,_) hk⟩
         ·by_cases q2:v=a
          ·simp only[if_neg q,if_pos q2,ybo,hza,zJ];exact⟨_,rfl,fun k hk=>cells_one _ hza (_,_) hk⟩
          ·simp only[if_neg q,if_neg q2];refine⟨fun k=>[.i .i64 ((g.ports.getD v []).getD k (0,0)).1,.i .i64 ((g.ports.getD v []).getD k (0,0)).2],?_,fun k hk=>rfl⟩;show(if v<g.ports.length then some _ else none)=some _
           rw[if_pos hv]
        ·by_cases q:u=b<;>by_cases q2:u=a<;>by_cases q3:v=b<;>by_cases q4:v=a<;>simp[q,q2,q3,q4,hab]at e ⊢<;>omega
        ·by_cases q:v=b<;>by_cases q2:v=a<;>simp[q,q2,hab]at e
       ·simp only[ybe,clash,ybgp,ybet,ybii,ybpg,rowO,if_pos ha,if_pos hb,hba,yic,and_false,hza,hzb,go_sem,zA,zB,zD,zC,zAH,↓reduceIte,reduceCtorEq]
        repeat' apply zAM
        all_goals first|omega|decide|skip
        refine yhr hlen (fun v=>if v=b then(51,0)else if v=a then(33,0)else(212,v)) rfl (fun v hv=>?_) (fun v hv=>?_) (fun u v _ _ e=>?_) (fun v _ e=>?_)
        ·rw[hat v]
         by_cases q:v=b
         ·simp only[if_pos q,ybo,zG]
         ·by_cases q2:v=a
          ·simp only[if_neg q,if_pos q2,ybo,hza,zJ,zG]
          ·simp only[if_neg q,if_neg q2]
        ·rw[hat v]
         by_cases q:v=b
         ·simp only[if_pos q,ybo];exact⟨_,congrArg some (congrArg (fun n=>OB.mk _ _ _ n _) (zG _ _)),fun k hk=>ykg _ (_,_) k⟩
         ·by_cases q2:v=a
          ·simp only[if_neg q,if_pos q2,ybo,hza,zJ];exact⟨_,rfl,fun k hk=>cells_one _ hza (_,_) hk⟩
          ·simp only[if_neg q,if_neg q2];refine⟨fun k=>[.i .i64 ((g.ports.getD v []).getD k (0,0)).1,.i .i64 ((g.ports.getD v []).getD k (0,0)).2],?_,fun k hk=>rfl⟩;show(if v<g.ports.length then some _ else none)=some _
           rw[if_pos hv]
        ·by_cases q:u=b<;>by_cases q2:u=a<;>by_cases q3:v=b<;>by_cases q4:v=a<;>simp[q,q2,q3,q4,hab]at e ⊢<;>omega
        ·by_cases q:v=b<;>by_cases q2:v=a<;>simp[q,q2,hab]at e
      ·by_cases hzb:(g.ports.getD b []).length=0
       ·simp only[ybe,clash,ybgp,ybet,ybii,ybpg,rowO,if_pos ha,if_pos hb,hba,yic,and_false,hza,hzb,go_sem,zA,zB,zD,zC,zAH,↓reduceIte,reduceCtorEq]
        repeat' apply zAM
        all_goals first|omega|decide|skip
        refine yhr hlen (fun v=>if v=b then(45,0)else if v=a then(39,0)else(212,v)) rfl (fun v hv=>?_) (fun v hv=>?_) (fun u v _ _ e=>?_) (fun v _ e=>?_)
        ·rw[hat v]
         by_cases q:v=b
         ·simp only[if_pos q,ybo,hzb,zJ,zG]
         ·by_cases q2:v=a
          ·simp only[if_neg q,if_pos q2,ybo,zG]
          ·simp only[if_neg q,if_neg q2]
        ·rw[hat v]
         by_cases q:v=b
         ·simp only[if_pos q,ybo,hzb,zJ];exact⟨_,rfl,fun k hk=>cells_one _ hzb (_,_) hk⟩
         ·by_cases q2:v=a
          ·simp only[if_neg q,if_pos q2,ybo];exact⟨_,congrArg some (congrArg (fun n=>OB.mk _ _ _ n _) (zG _ _)),fun k hk=>ykg _ (_,_) k⟩
          ·simp only[if_neg q,if_neg q2];refine⟨fun k=>[.i .i64 ((g.ports.getD v []).getD k (0,0)).1,.i .i64 ((g.ports.getD v []).getD k (0,0)).2],?_,fun k hk=>rfl⟩;show(if v<g.ports.length then some _ else none)=some _
           rw[if_pos hv]
        ·by_cases q:u=b<;>by_cases q2:u=a<;>by_cases q3:v=b<;>by_cases q4:v=a<;>simp[q,q2,q3,q4,hab]at e ⊢<;>omega
        ·by_cases q:v=b<;>by_cases q2:v=a<;>simp[q,q2,hab]at e
       ·simp only[ybe,clash,ybgp,ybet,ybii,ybpg,rowO,if_pos ha,if_pos hb,hba,yic,and_false,hza,hzb,go_sem,zA,zB,zD,zC,↓reduceIte,reduceCtorEq]
        repeat' apply zAM
        all_goals first|omega|decide|skip
        refine yhr hlen (fun v=>if v=b then(51,0)else if v=a then(39,0)else(212,v)) rfl (fun v hv=>?_) (fun v hv=>?_) (fun u v _ _ e=>?_) (fun v _ e=>?_)
        ·rw[hat v]
         by_cases q:v=b
         ·simp only[if_pos q,ybo,zG]
         ·by_cases q2:v=a
          ·simp only[if_neg q,if_pos q2,ybo,zG]
          ·simp only[if_neg q,if_neg q2]
        ·rw[hat v]
         by_cases q:v=b
         ·simp only[if_pos q,ybo];exact⟨_,congrArg some (congrArg (fun n=>OB.mk _ _ _ n _) (zG _ _)),fun k hk=>ykg _ (_,_) k⟩
         ·by_cases q2:v=a
          ·simp only[if_neg q,if_pos q2,ybo];exact⟨_,congrArg some (congrArg (fun n=>OB.mk _ _ _ n _) (zG _ _)),fun k hk=>ykg _ (_,_) k⟩
          ·simp only[if_neg q,if_neg q2];refine⟨fun k=>[.i .i64 ((g.ports.getD v []).getD k (0,0)).1,.i .i64 ((g.ports.getD v []).getD k (0,0)).2],?_,fun k hk=>rfl⟩;show(if v<g.ports.length then some _ else none)=some _
           rw[if_pos hv]
        ·by_cases q:u=b<;>by_cases q2:u=a<;>by_cases q3:v=b<;>by_cases q4:v=a<;>simp[q,q2,q3,q4,hab]at e ⊢<;>omega
        ·by_cases q:v=b<;>by_cases q2:v=a<;>simp[q,q2,hab]at e
end
end Sh
end
section
theorem yrm{back:Bool}{g:Gr}{a b:Nat}{w:Int}(hg:ybc g)(ha:a<g.ports.length)(hb:b<g.ports.length)(hw:1<=w/\w<=15):ybc (ygn back g a b w)/\(ygn back g a b w).ids=g.ids/\(ygn back g a b w).ports.length=g.ports.length:=by
 unfold ygn
 by_cases h:a=b\/yju (g.ports.getD a []) b=true
 ·rw[if_pos h];exact⟨hg,rfl,rfl⟩
 ·rw[if_neg h];refine⟨ywi hg ha hb (fun e=>h (.inl e)) hw fun l hl e=>h (.inr (List.any_eq_true.2 ⟨l,hl,decide_eq_true e⟩)),rfl,by simp[ybx]⟩
theorem ywc{back:Bool}{g:Gr}{a b:Nat}{w:Int}(ha:a<g.ports.length)(hb:b<g.ports.length){m:Nat}(h:Tre g m):Tre (ygn back g a b w) m:=by
 unfold ygn;split
 ·exact h
 ·exact h.add ha hb
theorem ybhz{back:Bool}{g:Gr}{a b:Nat}{w:Int}(ha:a<g.ports.length)(hb:b<g.ports.length)(hab:a≠b):adj (ygn back g a b w) a b:=by
 unfold ygn;split
 ·rename_i h
  rcases h with h|h
  ·exact absurd h hab
  ·obtain⟨l,hl,e⟩:=List.any_eq_true.1 h;exact yik.2 ⟨l,hl,of_decide_eq_true e⟩
 ·exact ybay ha hb hab
theorem yzc:∀(l:List Nat) (i x:Nat) (h:i<l.length),(l.set i x).sum+l[i]=l.sum+x
 |a::l,0,x,_=>by simp;omega
 | a::l,i+1,x,h=>by
   have:=yzc l i x (by simpa using h)
   simp only[List.set_cons_succ,List.sum_cons,List.getElem_cons_succ];omega
theorem ybfb{back:Bool}{g:Gr}{a b:Nat}{w:Int}(ha:a<g.ports.length)(hb:b<g.ports.length)(hab:a≠b):ype (ybx back g a b w)=ype g+2:=by
 unfold ype ybx;simp only[List.map_set,Sh.ybo];have h1:=yzc (g.ports.map zAV) a ((g.ports.getD a []).length+1) (by simpa using ha)
 have h2:=yzc ((g.ports.map zAV).set a ((g.ports.getD a []).length+1)) b ((g.ports.getD b []).length+1) (by simpa using hb)
 rw[List.getElem_set_ne hab,zT,<-Sh.getD_at hb (d:=[])]at h2;rw[zT,<-Sh.getD_at ha (d:=[])]at h1;omega
def WtF(x:NetR)(g:Gr):Prop:=∀v l,l∈g.ports.getD v []->∃i,l.2=1+ybp (atP x.weights i) 15
theorem ybdo{x:NetR}{back:Bool}{g:Gr}{a b:Nat}{w:Int}(ha:a<g.ports.length)(hb:b<g.ports.length)(hw:∃i,w=1+ybp (atP x.weights i) 15)(h:WtF x g):WtF x (ygn back g a b w):=by
 unfold ygn;split
 ·exact h
 ·intro v l hl;rw[ydg back g w ha hb]at hl;split at hl
  ·rcases ydq.1 hl with rfl|hl
   ·exact hw
   ·exact h _ _ hl
  ·split at hl
   ·rcases ydq.1 hl with rfl|hl
    ·exact hw
    ·exact h _ _ hl
   ·exact h _ _ hl
structure TreeTo(x:NetR)(v:Nat)(g:Gr):Prop where
 tre:Tre g v
 wt:WtF x g
 none_:∀u,v<=u->g.ports.getD u []=[]
 count:ype g+2=2*v
theorem yio(ids:List Int)(v:Nat):(bare ids).ports.getD v []=[]:=by
 unfold bare;rw[zZ,List.getElem?_replicate];split<;>rfl
theorem TreeTo.zero(x:NetR)(ids:List Int):TreeTo x 1 (bare ids):=by
 refine⟨fun v h0 h1=>by omega,fun v l hl=>?_,fun u _=>yio ids u,?_⟩
 ·rw[yio]at hl;exact absurd hl zI
 ·have:ype (bare ids)=0:=by
   unfold ype bare;simp
  omega
theorem TreeTo.succ{x:NetR}{v:Nat}{g:Gr}(hg:ybc g)(h:TreeTo x v g)(hv:v<g.ports.length)(h1:1<=v){a:Nat}(ha:a<v){w:Int}(hw:∃i,w=1+ybp (atP x.weights i) 15):TreeTo x (v+1) (ygn x.back g a v w):=by
 have hadj:=ybhz (back:=x.back) (g:=g) (a:=a) (b:=v) (w:=w) (by omega) (by omega) (by omega)
 have hno:¬(a=v\/yju (g.ports.getD a []) v=true):=by
  rintro(e|e)
  ·omega
  ·obtain⟨l,hl,e⟩:=List.any_eq_true.1 e;have e:=of_decide_eq_true e;have:adj g v a:=hg.adj_symm (yik.2 ⟨l,hl,e⟩);obtain⟨l',hl',_⟩:=yik.1 this;rw[h.none_ v (zL _)]at hl';exact absurd hl' zI
 have e:ygn x.back g a v w=ybx x.back g a v w:=by unfold ygn;rw[if_neg hno]
 refine⟨fun u h0 hu=>?_,ybdo (by omega) hv hw h.wt,fun u hu=>?_,?_⟩
 ·by_cases q:u=v
  ·subst q;exact⟨a,ha,hadj⟩
  ·exact ywc (by omega) hv h.tre u h0 (by omega)
 ·rw[e,ydg x.back g w (by omega) hv,if_neg (by omega),if_neg (by omega)]
  exact h.none_ u (by omega)
 ·rw[e,ybfb (by omega) hv (by omega)]
  have:=h.count;omega
namespace Sh
open Ev Go.RowKit
theorem ynx{n:Nat}{P:List (List (Int×Int))}{f:SV->SV}(hf:∀k z,f (.i k z) = .i k z){i:Nat}(hi:i<n):(match (if i<n then some (rowO (P.getD i []))else none)with|some b=>some (⟨b.e,b.bx,b.z,b.n,fun k=>(b.g k).map f⟩:OB)|none=>none)=some (rowO (P.getD i [])):=by
 rw[if_pos hi];simp[rowO,hf]
theorem yckj{x:NetR}(hx:x.ok){most:Nat}(hm:1<=most/\most<=24) :
 Cm zK 36 [] [] [.ag (netC x),.i .i64 most] fun r o=>∃g,ybc g/\TreeTo x g.ports.length g/\(g.ports.length<=most/\(g.ports.length:Int)=1+ybp (IntKind.wrap .i64 (x.n-1)) most)/\r=yef g/\o=ybw g.ports:=by
 refine ycge [] [55,73] _ _ _ ?_;have hN:=ybdr hx hm;obtain⟨hx1,hx2,hx3,hx4⟩:=hx;simp only[netC]at hN;simp only[c36,ycnm,ycob,netC,go_sem,zA,zB,zC,↓reduceIte,reduceCtorEq];refine yga hN [(17,117)] 0 [2,4] [2,4] ?_ ?_
 ·simp only[okN,ydh,yho,yey,yeg,allQ,live,yg,go_sem,zA,zB,zH,↓reduceIte,reduceCtorEq]
 rintro r o' ⟨ids,h1,h2,h3,rfl,rfl⟩;obtain⟨n,hn⟩:∃n,ids.length=n:=⟨_,rfl⟩;rw[hn]at h1;simp only[hn,yqj,ynl,nuF,nu,difN,yey,yeg,Fam.ren,OB.ren,dim,ycso,yqw,yla,go_sem,zA,zB,zC,zH,↓reduceIte];simp only[ycpz,go_sem]
 refine ybj (σ:=Nat×Gr) (fun q=>⟨[(6,.i .i64 q.1),(5,.pt (5,0) 0 0),(2,.pt (2,0) 0 0),(4,.pt (4,0) 0 0)],
  (5,.one (some ⟨25,true,2,1,fun _=>[yj q.2.ids,.os (211,0) 0 n true]⟩))::(2,.one (some ⟨35,true,6,1,fun _=>netC x⟩))::(4,.one (some ⟨25,true,2,1,fun _=>[.a (.slice none 0 0),.a (.slice none 0 0)]⟩))::ybw q.2.ports⟩)
  (fun q=>ybc q.2/\q.2.ports.length=n/\TreeTo x q.1 q.2/\1<=q.1/\q.1<=n) (fun q=>n-q.1) (1,bare ids) ⟨yvr (by omega) (by omega) h2 h3,by simp[bare,hn],TreeTo.zero x ids,by omega,by omega⟩ ?_ ?_
 ·refine yh [(211,fun i=>(117,i))] [212] [] ?_;have b1:(bare ids).ids=ids:=rfl;have b2:(bare ids).ports.length=n:=by simp[bare,hn]
  have b3:∀v,(bare ids).ports.getD v []=[]:=yio ids;simp only[netC,ybw,rowO,b1,b2,b3,List.length_nil,allQ,live,yg,ybb,go_sem,zA,zH,↓reduceIte,reduceCtorEq];refine⟨rfl,fun i hi=>⟨(212,i),rfl,rfl,by simp[hi]⟩,fun i b hb=>?_⟩
  obtain⟨_,rfl⟩:=yca hb;exact⟨rfl,rfl⟩
 ·rintro⟨v,g⟩ ⟨hg,hgn,htr,hv1,hvn⟩;have hg:ybc g:=hg;have hgn:g.ports.length=n:=hgn;have htr:TreeTo x v g:=htr;have hv1:1<=v:=hv1;have hvn:v<=n:=hvn
  by_cases hlt:v<n
  ·have ht:decide ((v:Int)<(n:Int))=true:=decide_eq_true (by omega)
   have hv2:(v:Int)-1=((v-1:Nat):Int):=by omega
   have hA1:=at_ret x.links (v-1);have hA2:=at_ret x.weights (v-1);have hi1:=ydf (v:=atP x.links (v-1)) (m:=(v:Int)) (by omega)
   have hi2:=ydf (v:=atP x.weights (v-1)) (m:=15) (by omega)
   have hW1:=ycw (atP x.links (v-1)) v (by omega) (hx2 _)
   have hW2:=ycw (atP x.weights (v-1)) 15 (by omega) (hx3 _)
   obtain⟨a,ha⟩:∃a:Nat,ybp (atP x.links (v-1)) v=a:=zQ hi1.1;obtain⟨w,hw⟩:∃w:Int,ybp (atP x.weights (v-1)) 15=w:=⟨_,rfl⟩;rw[ha]at hW1 hi1;rw[hw]at hW2 hi2;have hL:=ybju (x:=x) (g:=g) (a:=a) (b:=v) (w:=1+w) (by omega) (by omega) (by omega) (fun u=>by have:=hg.deg_lt (v:=u);omega)
   simp only[ychr,ycsa,ycqx,netC,ybw,ht,hv2,clash,go_sem,zA,zB,zD,zH,↓reduceIte,reduceCtorEq];refine⟨ikw (by omega) (by omega),hA1.use ?_⟩
   simp only[ybe,clash,go_sem,zA,zB,zD,zH,↓reduceIte,reduceCtorEq];refine hW1.use ?_;simp only[hv2,go_sem];refine⟨ikw (by omega) (by omega),hA2.use ?_⟩
   simp only[go_sem,↓reduceIte];refine hW2.use ?_;simp only[go_sem,zA,zH,↓reduceIte];refine⟨ikw (by omega) (by omega),yga hL [(211,211),(212,212)] 0 [2,4,5,6] [2,4,5] ?_ ?_⟩
   ·simp only[netC,yef,ybw,hgn,to1,okN,ydh,yho,yey,yeg,allQ,live,yg,go_sem,zA,zB,zH,↓reduceIte,reduceCtorEq];refine⟨⟨fun i _ j _ e=>e,fun i hi=>by rw[if_pos hi],fun i b hb=>?_⟩,by decide⟩
    obtain⟨hi,rfl⟩:=yca hb;exact⟨_,if_pos hi,⟨rfl,rfl,rfl,rfl⟩,fun k hk=>by simp only[rowO,live,yg,go_sem,reduceCtorEq]⟩
   ·rintro r o' ⟨rfl,rfl⟩;simp only[ybw,yqj,ynl,nuF,nu,difN,yey,yeg,Fam.ren,OB.ren,dim,ybkf,yla,go_sem,zA,zB,zH,↓reduceIte,reduceCtorEq];obtain⟨gg1,gg2,gg3⟩:=yrm (back:=x.back) (a:=a) (b:=v) (w:=1+w) hg (by omega) (by omega) (by omega)
    have gg4:=htr.succ hg (by omega) hv1 (a:=a) (by omega) (w:=1+w) ⟨v-1,by rw[hw]⟩
    obtain⟨G,hG⟩:∃G,ygn x.back g a v (1+w)=G:=⟨_,rfl⟩;rw[hG]at gg1 gg2 gg3 gg4 ⊢;rw[hgn]at gg3;refine⟨ikw (by omega) (by omega),yu (v+1,G) ⟨gg1,gg3,gg4,by omega,by omega⟩ (by show n-(v+1)<n-v;omega) ?_⟩
    ·refine yh [] [] [] ?_;simp only[gg3,gg2,allQ,live,yg,ybb,go_sem,zA,↓reduceIte,reduceCtorEq];refine⟨fun i _ j _ e=>e,by omega,fun i hi=>by rw[if_pos hi],fun i b hb=>?_⟩
     obtain⟨hi,rfl⟩:=yca hb;refine⟨_,ynx (f:=ren (nu [(211,211),(212,212)] 0) 5) (fun _ _=>rfl) hi,⟨rfl,rfl,rfl,rfl⟩,fun k hk=>?_⟩;simp only[rowO,live,yg,go_sem,reduceCtorEq]
  ·obtain rfl:v=n:=by omega
   have ht:decide ((v:Int)<(v:Int))=false:=decide_eq_false (by omega)
   simp only[ychr,ycpq,netC,ybw,ht,clash,splice,yic,go_sem,zA,zB,↓reduceIte,reduceCtorEq];refine⟨yef g,ybw g.ports,?_,?_,g,hg,by rw[hgn];exact htr,by omega,rfl,rfl⟩
   ·refine yh [] [] [] ?_;simp only[ybw,yef,hgn,allQ,live,yg,go_sem,zA,↓reduceIte,reduceCtorEq];refine⟨fun i _ j _ e=>e,fun i hi=>by rw[if_pos hi],fun i b hb=>?_⟩
    obtain⟨hi,rfl⟩:=yca hb;exact⟨_,if_pos hi,⟨rfl,rfl,rfl,rfl⟩,fun k hk=>by simp only[rowO,live,yg,go_sem,reduceCtorEq]⟩
   ·simp only[ybw,yef,ydh,yho,allQ,live,go_sem,zA,↓reduceIte];refine⟨fun i hi=>by rw[if_pos hi],fun i b hb k hk=>?_⟩
    obtain⟨hi,rfl⟩:=yca hb;simp only[rowO,go_sem]
end Sh
end
end Go.Proofs.YtiejahgklcjhkaaGreat
