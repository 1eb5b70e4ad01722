/- Lemmas, joined: PlainC PlainD PlainF PlainG RefA RefB Small PlainH LdP SgA PlainI Pm SgE SgF SgG. -/
import Derived.Test.YtpngeppkgoaimaaGreatDoorPkLp8
import Derived.Test.YtpngeppkgoaimaaGreatDoorPkLp9
set_option linter.unusedSimpArgs false
set_option linter.unusedVariables false
namespace Go.Proofs.YtpngeppkgoaimaaGreatDoor

def adj(g:Gr)(u v:Nat):Prop:=∃ ls,g.ports[u]? = some ls /\ ∃ l ∈ ls,l.1=(v:Int)
def Walk(g:Gr)(a:Nat):Nat->Nat->Prop
 | 0,v=>v=a
 | k+1,v=>∃ u,Walk g a k u/\adj g u v
def yyl(g:Gr)(a v:Nat)(x:Int):Prop:=(x = -1 /\ ∀ k,¬ Walk g a k v) \/ ∃ k:Nat,x=k/\Walk g a k v /\ ∀ j,j<k -> ¬ Walk g a j v
def yts(g:Gr)(a:Nat)(D:List Int):Prop:=D.length=g.ports.length /\ ∀ v x,D[v]? = some x->yyl g a v x

theorem yyl.unique{g:Gr}{a v:Nat}{x y:Int}(h:yyl g a v x)(h':yyl g a v y):x=y:=by
 rcases h with⟨rfl,h1⟩ | ⟨k,rfl,h1,h2⟩<;>rcases h' with⟨rfl,h3⟩ | ⟨j,rfl,h3,h4⟩
 ·rfl
 ·exact absurd h3 (h1 j)
 ·exact absurd h1 (h3 k)
 ·rcases Nat.lt_trichotomy k j with h | h | h
  ·exact absurd h1 (h4 k h)
  ·rw[h]
  ·exact absurd h3 (h2 j h)
theorem yts.unique{g:Gr}{a:Nat}{D D':List Int}(h:yts g a D)(h':yts g a D'):D=D':=by
 apply List.ext_getElem (by rw[h.1,h'.1])
 intro i h1 h2;exact(h.2 i _ (List.getElem?_eq_getElem h1)).unique (h'.2 i _ (List.getElem?_eq_getElem h2))

theorem yba.link{g:Gr}(h:yba g){v:Nat}{ls:List (Int × Int)}(hv:g.ports[v]? = some ls){l:Int × Int}(hl:l ∈ ls):0<=l.1/\l.1<g.ports.length/\l.1 ≠ v/\1<=l.2/\l.2<=15:=by
 obtain⟨hlt,e⟩:=List.getElem?_eq_some_iff.1 hv;have:=(h.2.2.2.2.2.1 ⟨v,hlt⟩).1 l (by simp only[Fin.getElem_fin,e];exact hl)
 unfold yis at this;simp only at this;omega
theorem yba.adj_lt{g:Gr}(h:yba g){u v:Nat}(ha:adj g u v):u<g.ports.length/\v<g.ports.length:=by
 obtain⟨ls,h1,l,hl,e⟩:=ha;have:=h.link h1 hl;exact⟨(List.getElem?_eq_some_iff.1 h1).1,by omega⟩
theorem yba.adj_symm{g:Gr}(h:yba g){u v:Nat}(ha:adj g u v):adj g v u:=by
 obtain⟨hu,hv⟩:=h.adj_lt ha;obtain⟨ls,h1,l,hl,e⟩:=ha;obtain⟨hlt,e1⟩:=List.getElem?_eq_some_iff.1 h1;have:=h.2.2.2.2.2.2 ⟨u,hlt⟩ l (by simp only[Fin.getElem_fin,e1];exact hl)
 rw[e,Int.toNat_natCast]at this;simp only[List.getD,List.getElem?_eq_getElem hv,Option.getD_some]at this;exact⟨_,List.getElem?_eq_getElem hv,_,this,rfl⟩

structure BfsInv(g:Gr)(a:Nat)(R:List Int)(Q:List Nat):Prop where
 len:R.length=g.ports.length
 src:R[a]? = some 0
 val:∀ (v:Nat) (x:Int),R[v]? = some x->x = -1 \/ ∃ k:Nat,x=k/\Walk g a k v /\ ∀ j,j<k -> ¬ Walk g a j v
 qin:∀ q ∈ Q,∃ k:Nat,R[q]? = some (k:Int)
 sorted:Q.Pairwise (fun p q=>∀ x y,R[p]? = some x->R[q]? = some y->x<=y/\y<=x+1)
 done:∀ (v k:Nat),R[v]? = some (k:Int)->v ∉ Q -> ∀ u,adj g v u -> ∃ j:Nat,R[u]? = some (j:Int)

structure BfsIn(g:Gr)(a v d:Nat)(ls:List (Int × Int))(i:Nat)(R:List Int)(Q:List Nat):Prop where
 len:R.length=g.ports.length
 src:R[a]? = some 0
 val:∀ (v:Nat) (x:Int),R[v]? = some x->x = -1 \/ ∃ k:Nat,x=k/\Walk g a k v /\ ∀ j,j<k -> ¬ Walk g a j v
 qin:∀ q ∈ Q,∃ k:Nat,R[q]? = some (k:Int)
 sorted:Q.Pairwise (fun p q=>∀ x y,R[p]? = some x->R[q]? = some y->x<=y/\y<=x+1)
 rv:R[v]? = some (d:Int)
 low:∀ q ∈ Q,∀ y,R[q]? = some y->(d:Int)<=y/\y<=d+1
 done:∀ (u k:Nat),R[u]? = some (k:Int)->u ∉ Q->u ≠ v -> ∀ t,adj g u t -> ∃ j:Nat,R[t]? = some (j:Int)
 part:∀ l ∈ ls.take i,∃ j:Nat,R[l.1.toNat]? = some (j:Int)

theorem BfsInv.start{g:Gr}{a:Nat}(ha:a<g.ports.length):BfsInv g a ((List.replicate g.ports.length (-1)).set a 0) [a] where
 len:=by simp
 src:=by simp[ha]
 val:=by
  intro v x h;rw[List.getElem?_set]at h;split at h
  ·rename_i e
   subst e;simp[ha]at h;subst h;exact .inr ⟨0,rfl,rfl,fun j hj=>absurd hj (by omega)⟩
  ·rw[List.getElem?_replicate]at h;split at h
   ·cases h;exact .inl rfl
   ·cases h
 qin:=by
  intro q hq;obtain rfl:q=a:=by simpa using hq
  exact⟨0,by simp[ha]⟩
 sorted:=by simp
 done:=by
  intro v k h hv u _;rw[List.getElem?_set]at h;split at h
  ·rename_i e
   exact absurd (by simp[e]) hv
  ·rw[List.getElem?_replicate]at h;split at h
   ·cases h
   ·cases h

theorem BfsInv.pop{g:Gr}{a:Nat}{R:List Int}{v:Nat}{Q:List Nat}(h:BfsInv g a R (v :: Q)){d:Nat}(hd:R[v]? = some (d:Int))(ls:List (Int × Int)):BfsIn g a v d ls 0 R Q where
 len:=h.len
 src:=h.src
 val:=h.val
 qin:=fun q hq=>h.qin q (List.mem_cons_of_mem _ hq)
 sorted:=(List.pairwise_cons.1 h.sorted).2
 rv:=hd
 low:=fun q hq y hy=>(List.pairwise_cons.1 h.sorted).1 q hq _ y hd hy
 done:=fun u k hu hq hv t ht=>h.done u k hu (by simp[hq,hv]) t ht
 part:=by simp

theorem BfsIn.finish{g:Gr}{a v d:Nat}{ls:List (Int × Int)}{R:List Int}{Q:List Nat}(h:BfsIn g a v d ls ls.length R Q)(hls:g.ports[v]? = some ls):BfsInv g a R Q where
 len:=h.len
 src:=h.src
 val:=h.val
 qin:=h.qin
 sorted:=h.sorted
 done:=by
  intro u k hu hq t ht
  by_cases e:u=v
  ·subst e;obtain⟨ls',h1,l,hl,e2⟩:=ht;rw[hls]at h1;cases h1
   have:=h.part l (by rw[List.take_length];exact hl)
   rwa [e2,Int.toNat_natCast]at this
  ·exact h.done u k hu hq e t ht

theorem BfsIn.skip{g:Gr}{a v d:Nat}{ls:List (Int × Int)}{i:Nat}{R:List Int}{Q:List Nat}(h:BfsIn g a v d ls i R Q)(hi:i<ls.length){j:Nat}(hj:R[ls[i].1.toNat]? = some (j:Int)):BfsIn g a v d ls (i+1) R Q :=
 ⟨h.len,h.src,h.val,h.qin,h.sorted,h.rv,h.low,h.done,by
   intro l hl;rw[take_snoc ls i hi]at hl;rcases List.mem_append.1 hl with hl | hl
   ·exact h.part l hl
   ·obtain rfl:l=ls[i]:=by simpa using hl
    exact⟨j,hj⟩⟩

theorem BfsIn.found{g:Gr}{a v d:Nat}{ls:List (Int × Int)}{i:Nat}{R:List Int}{Q:List Nat}(h:BfsIn g a v d ls i R Q) :
  ∀ k,k<=d -> ∀ t,Walk g a k t -> ∃ j:Nat,R[t]? = some (j:Int):=by
 intro k
 induction k with
 | zero=>intro _ t ht;obtain rfl:t=a:=ht;exact⟨0,h.src⟩
 | succ k ih =>
  intro hk t ⟨p,hp,hpt⟩;obtain⟨j,hj⟩:=ih (by omega) p hp
  have hjk:j<=k:=by
   rcases h.val p _ hj with e | ⟨k',e,_,hmin⟩
   ·omega
   ·have:j=k':=by omega
    subst this;rcases Nat.lt_or_ge k j with hlt | hge
    ·exact absurd hp (hmin k hlt)
    ·exact hge
  refine h.done p j hj ?_ ?_ t hpt
  ·intro hq;have:=(h.low p hq _ hj).1;omega
  ·rintro rfl;have e1:=h.rv;rw[hj]at e1;have e2:=Option.some.inj e1;omega

theorem BfsIn.discover{g:Gr}{a v d:Nat}{ls:List (Int × Int)}{i:Nat}{R:List Int}{Q:List Nat}(h:BfsIn g a v d ls i R Q)(hls:g.ports[v]? = some ls)(hi:i<ls.length){u:Nat}(hu:ls[i].1=(u:Int))(hR:R[u]? = some (-1)) :
  BfsIn g a v d ls (i+1) (R.set u ((d:Int)+1)) (Q ++ [u]):=by
 have hul:u<R.length:=(List.getElem?_eq_some_iff.1 hR).1
 have hne:∀ t (k:Nat),R[t]? = some (k:Int)->t ≠ u:=by
  rintro t k ht rfl;rw[hR]at ht;have:=Option.some.inj ht;omega
 have hset:∀ t,t ≠ u->(R.set u ((d:Int)+1))[t]? = R[t]?:=fun t ht=>by rw[List.getElem?_set,if_neg (by omega)]
 have hsu:(R.set u ((d:Int)+1))[u]? = some ((d:Int)+1):=by rw[List.getElem?_set,if_pos rfl,if_pos hul]
 have keep:∀ t:Nat,(∃ j:Nat,R[t]? = some (j:Int)) -> ∃ j:Nat,(R.set u ((d:Int)+1))[t]? = some (j:Int):=by
  rintro t ⟨j,hj⟩;exact⟨j,by rw[hset t (hne t j hj)];exact hj⟩
 have hadj:adj g v u:=⟨ls,hls,ls[i],List.getElem_mem hi,hu⟩
 have hnq:u ∉ Q:=fun hq=>by
  obtain⟨k,hk⟩:=h.qin u hq;exact hne u k hk rfl
 refine⟨by simp[h.len],?_,?_,?_,?_,?_,?_,?_,?_⟩
 ·rw[hset a (hne a 0 h.src)];exact h.src
 ·intro t x hx
  by_cases e:t=u
  ·subst e;rw[hsu]at hx;cases hx
   refine .inr ⟨d+1,by omega,?_,?_⟩
   ·rcases h.val v _ h.rv with e | ⟨k,e,hk,_⟩
    ·omega
    ·have:d=k:=by omega
     subst this;exact⟨v,hk,hadj⟩
   ·intro j hj hw;obtain⟨k,hk⟩:=h.found j (by omega) t hw
    exact hne t k hk rfl
  ·rw[hset t e]at hx;exact h.val t x hx
 ·intro q hq;rcases List.mem_append.1 hq with hq | hq
  ·exact keep q (h.qin q hq)
  ·obtain rfl:q=u:=by simpa using hq
   exact⟨d+1,by rw[hsu];rfl⟩
 ·rw[List.pairwise_append];refine⟨?_,by simp,?_⟩
  ·refine(List.Pairwise.and_mem.1 h.sorted).imp ?_;rintro p q ⟨hp,hq,hpq⟩ x y hx hy;rw[hset p (fun e=>hnq (e ▸ hp))]at hx;rw[hset q (fun e=>hnq (e ▸ hq))]at hy;exact hpq x y hx hy
  ·intro p hp q hq x y hx hy;obtain rfl:q=u:=by simpa using hq
   rw[hset p (fun e=>hnq (e ▸ hp))]at hx;rw[hsu]at hy;cases hy
   have:=h.low p hp x hx;omega
 ·rw[hset v (hne v d h.rv)];exact h.rv
 ·intro q hq y hy;rcases List.mem_append.1 hq with hq | hq
  ·rw[hset q (fun e=>hnq (e ▸ hq))]at hy;exact h.low q hq y hy
  ·obtain rfl:q=u:=by simpa using hq
   rw[hsu]at hy;cases hy
   omega
 ·intro t k ht hq hv s hs;have htu:t ≠ u:=fun e=>hq (by simp[e])
  rw[hset t htu]at ht;exact keep s (h.done t k ht (fun hh=>hq (List.mem_append_left _ hh)) hv s hs)
 ·intro l hl;rw[take_snoc ls i hi]at hl;rcases List.mem_append.1 hl with hl | hl
  ·exact keep _ (h.part l hl)
  ·obtain rfl:l=ls[i]:=by simpa using hl
   rw[hu,Int.toNat_natCast];exact⟨d+1,by rw[hsu];rfl⟩

theorem BfsInv.isDist{g:Gr}{a:Nat}{R:List Int}(h:BfsInv g a R []):yts g a R:=by
 have found:∀ k t,Walk g a k t -> ∃ j:Nat,R[t]? = some (j:Int):=by
  intro k
  induction k with
  | zero=>intro t ht;obtain rfl:t=a:=ht;exact⟨0,h.src⟩
  | succ k ih =>
   intro t ⟨p,hp,hpt⟩;obtain⟨j,hj⟩:=ih p hp;exact h.done p j hj (by simp) t hpt
 refine⟨h.len,fun v x hx=>?_⟩;rcases h.val v x hx with rfl | h1
 ·refine .inl ⟨rfl,fun k hk=>?_⟩;obtain⟨j,hj⟩:=found k v hk;rw[hx]at hj;have:=Option.some.inj hj;omega
 ·exact .inr h1

def yck(R:List Int):Nat:=R.countP (fun x=>decide (x<0))
theorem ytr{R:List Int}{u:Nat}{x:Int}(hR:R[u]? = some (-1))(hx:0<=x):yck (R.set u x)+1=yck R:=by
 obtain⟨hlt,e⟩:=List.getElem?_eq_some_iff.1 hR;have h1:R=R.take u ++ R[u] :: R.drop (u+1):=by rw[List.getElem_cons_drop,List.take_append_drop]
 have h2:R.set u x=R.take u ++ x :: R.drop (u+1):=by rw[List.set_eq_take_append_cons_drop,if_pos hlt]
 have hx':decide (x<0)=false:=by simp;omega
 unfold yck;rw[h2]
 conv=>rhs;rw[h1]
 rw[List.countP_append,List.countP_append,List.countP_cons,List.countP_cons,e,hx'];simp;omega
end Go.Proofs.YtpngeppkgoaimaaGreatDoor

namespace Go.Proofs.YtpngeppkgoaimaaGreatDoor

def ylc(R:List Int)(x:Int)(ls:List (Int × Int)):Bool:=ls.any (fun l=>decide (R[l.1.toNat]? = some x))
def yqs(g:Gr)(d:Int)(R:List Int)(v:Nat):List Int :=
 if decide (R.getD v 0<0) && ylc R (d - 1) (g.ports.getD v [])then R.set v d else R
def stepD(g:Gr)(R:List Int)(d:Nat):List Int:=(List.range g.ports.length).foldl (yqs g d) R
def start(g:Gr)(a:Nat):List Int:=(List.replicate g.ports.length (-1)).set a 0
def ybu(g:Gr)(a:Nat):List Int:=(List.range (g.ports.length - 1)).foldl (fun R d=>stepD g R (d+1)) (start g a)

def Upto(g:Gr)(a d v:Nat)(x:Int):Prop:=(x = -1 /\ ∀ k,k<=d -> ¬ Walk g a k v) \/ ∃ k:Nat,k<=d/\x=k/\Walk g a k v /\ ∀ j,j<k -> ¬ Walk g a j v

theorem Upto.eq{g:Gr}{a d v:Nat}{x:Int}(h:Upto g a d v x){k:Nat}(hk:k<=d):x=k ↔ Walk g a k v /\ ∀ j,j<k -> ¬ Walk g a j v:=by
 rcases h with⟨rfl,h1⟩ | ⟨i,hi,rfl,h1,h2⟩
 ·exact⟨fun e=>by omega,fun e=>absurd e.1 (h1 k hk)⟩
 ·constructor
  ·intro e;obtain rfl:i=k:=by omega
   exact⟨h1,h2⟩
  ·rintro⟨h3,h4⟩;rcases Nat.lt_trichotomy i k with h | h | h
   ·exact absurd h1 (h4 i h)
   ·omega
   ·exact absurd h3 (h2 k h)

theorem Upto.more{g:Gr}{a d v:Nat}{x:Int}(h:Upto g a d v x)(hx:0<=x):Upto g a (d+1) v x:=by
 rcases h with⟨rfl,h1⟩ | ⟨i,hi,rfl,h1,h2⟩
 ·omega
 ·exact .inr ⟨i,by omega,rfl,h1,h2⟩

structure LayerInv(g:Gr)(a d v:Nat)(R:List Int):Prop where
 len:R.length=g.ports.length
 new:∀ (u:Nat) (x:Int),R[u]? = some x->u<v->Upto g a (d+1) u x
 old:∀ (u:Nat) (x:Int),R[u]? = some x->v<=u->Upto g a d u x

theorem LayerInv.at_{g:Gr}{a d v:Nat}{R:List Int}(h:LayerInv g a d v R){u:Nat}(hu:u<g.ports.length):R[u]? = some (d:Int) ↔ Walk g a d u /\ ∀ j,j<d -> ¬ Walk g a j u:=by
 have hl:=h.len;have e:R[u]? = some R[u]:=List.getElem?_eq_getElem (by omega)
 have hx:R[u]=(d:Int) ↔ Walk g a d u /\ ∀ j,j<d -> ¬ Walk g a j u:=by
  by_cases hv:u<v
  ·exact(h.new u _ e hv).eq (by omega)
  ·exact(h.old u _ e (by omega)).eq (by omega)
 rw[e]
 simpa using hx

theorem LayerInv.step{g:Gr}(hg:yba g){a d v:Nat}{R:List Int}(h:LayerInv g a d v R)(hv:v<g.ports.length):LayerInv g a d (v+1) (yqs g ((d:Int)+1) R v):=by
 have hlen:=h.len;have ev:R[v]? = some R[v]:=List.getElem?_eq_getElem (by omega)
 have eg:R.getD v 0=R[v]:=by simp[List.getD,ev]
 have ep:g.ports.getD v []=g.ports[v]:=by simp[List.getD,List.getElem?_eq_getElem hv]
 have hhas:ylc R ((d:Int)+1 - 1) g.ports[v]=true ↔ ∃ u,adj g u v/\Walk g a d u /\ ∀ j,j<d -> ¬ Walk g a j u:=by
  unfold ylc;rw[List.any_eq_true];constructor
  ·rintro⟨l,hl,h1⟩;have hlk:=hg.link (List.getElem?_eq_getElem hv) hl;have h1:=of_decide_eq_true h1;rw[show(d:Int)+1 - 1=d by omega]at h1
   refine⟨l.1.toNat,hg.adj_symm ⟨_,List.getElem?_eq_getElem hv,l,hl,by omega⟩,?_⟩
   exact(h.at_ (by omega)).1 h1
  ·rintro⟨u,hu,hw⟩;obtain⟨hu1,_⟩:=hg.adj_lt hu;obtain⟨ls,h1,l,hl,e⟩:=hg.adj_symm hu;rw[List.getElem?_eq_getElem hv]at h1;cases h1
   refine⟨l,hl,decide_eq_true ?_⟩;rw[e,Int.toNat_natCast,show(d:Int)+1 - 1=d by omega]
   exact(h.at_ hu1).2 hw
 have hov:=h.old v _ ev (Nat.le_refl _);unfold yqs;rw[eg,ep]
 by_cases c1:R[v]<0
 ·have hx:R[v] = -1 /\ ∀ k,k<=d -> ¬ Walk g a k v:=by
   rcases hov with h1 | ⟨k,_,e,_⟩
   ·exact h1
   ·omega
  by_cases c2:ylc R ((d:Int)+1 - 1) g.ports[v]=true
  ·rw[if_pos (by rw[Bool.and_eq_true];exact⟨decide_eq_true c1,c2⟩)]
   obtain⟨p,hp,hw,_⟩:=hhas.1 c2;have hset:∀ t,t ≠ v->(R.set v ((d:Int)+1))[t]? = R[t]?:=fun t ht=>by rw[List.getElem?_set,if_neg (by omega)]
   refine⟨by simp[hlen],fun u x hu huv=>?_,fun u x hu huv=>?_⟩
   ·by_cases e:u=v
    ·subst e;rw[List.getElem?_set,if_pos rfl,if_pos (by omega)]at hu
     cases hu
     exact .inr ⟨d+1,Nat.le_refl _,by omega,⟨p,hw,hp⟩,fun j hj=>hx.2 j (by omega)⟩
    ·rw[hset u e]at hu;exact h.new u x hu (by omega)
   ·rw[hset u (by omega)]at hu
    exact h.old u x hu (by omega)
  ·rw[if_neg (fun e=>c2 (Bool.and_eq_true _ _ ▸ e).2)];refine⟨hlen,fun u x hu huv=>?_,fun u x hu huv=>h.old u x hu (by omega)⟩
   by_cases e:u=v
   ·subst e;rw[ev]at hu;cases hu
    refine .inl ⟨hx.1,fun k hk hw=>?_⟩;rcases Nat.lt_or_ge d k with hlt | hge
    ·obtain rfl:k=d+1:=by omega
     obtain⟨p,hp,hpv⟩:=hw;refine c2 (hhas.2 ⟨p,hpv,hp,fun j hj hw'=>hx.2 (j+1) (by omega) ⟨p,hw',hpv⟩⟩)
    ·exact hx.2 k hge hw
   ·exact h.new u x hu (by omega)
 ·rw[if_neg (by simp[c1])]
  refine⟨hlen,fun u x hu huv=>?_,fun u x hu huv=>h.old u x hu (by omega)⟩
  by_cases e:u=v
  ·subst e;exact(h.old u x hu (Nat.le_refl _)).more (by rw[ev]at hu;cases hu;omega)
  ·exact h.new u x hu (by omega)

theorem ywp{g:Gr}(hg:yba g){a d:Nat}{R:List Int}(h:LayerInv g a d 0 R):∀ v,v<=g.ports.length->LayerInv g a d v ((List.range v).foldl (yqs g ((d:Int)+1)) R)
 | 0,_=>h
 | v+1,hv=>by
  rw[List.range_succ,List.foldl_append];exact(ywp hg h v (by omega)).step hg (by omega)

def yxq(g:Gr)(a d:Nat)(R:List Int):Prop:=R.length=g.ports.length /\ ∀ (u:Nat) (x:Int),R[u]? = some x->Upto g a d u x

theorem yboi{g:Gr}{a:Nat}(ha:a<g.ports.length):yxq g a 0 (start g a):=by
 refine⟨by simp[start],fun u x hu=>?_⟩
 unfold start at hu;rw[List.getElem?_set]at hu;split at hu
 ·rename_i e
  subst e;simp[ha]at hu;subst hu;exact .inr ⟨0,Nat.le_refl _,rfl,rfl,fun j hj=>absurd hj (by omega)⟩
 ·rename_i e
  rw[List.getElem?_replicate]at hu;split at hu
  ·cases hu
   refine .inl ⟨rfl,fun k hk hw=>?_⟩;obtain rfl:k=0:=by omega
   exact e hw.symm
  ·cases hu

theorem ybol{g:Gr}(hg:yba g){a d:Nat}{R:List Int}(h:yxq g a d R):yxq g a (d+1) (stepD g R (d+1)):=by
 have h0:LayerInv g a d 0 R:=⟨h.1,fun _ _ _ hu=>absurd hu (by omega),fun u x hu _=>h.2 u x hu⟩
 have h1:=ywp hg h0 g.ports.length (Nat.le_refl _);unfold stepD;rw[show((d+1:Nat):Int)=(d:Int)+1 by omega]
 exact⟨h1.len,fun u x hu=>h1.new u x hu (by rw[<- h1.len];exact(List.getElem?_eq_some_iff.1 hu).1)⟩

theorem ysw{g:Gr}(hg:yba g){a:Nat}(ha:a<g.ports.length):∀ d,yxq g a d ((List.range d).foldl (fun R d=>stepD g R (d+1)) (start g a))
 | 0=>yboi ha
 | d+1=>by rw[List.range_succ,List.foldl_append];exact ybol hg (ysw hg ha d)

theorem chain {g : Gr} {a : Nat} : ∀ k v, Walk g a k v -> (∀ j, j < k -> ¬ Walk g a j v) -> ∃ f : Nat -> Nat, ∀ j, j <= k -> Walk g a j (f j) /\ ∀ i, i < j -> ¬ Walk g a i (f j)
  | 0, v, h, _ => ⟨fun _ => v, fun j hj => by obtain rfl : j = 0 := by omega
                                              exact ⟨h, fun i hi => absurd hi (by omega)⟩⟩
  | k + 1, v, h, hm => by
    obtain ⟨p, hp, hpv⟩ := h
    obtain ⟨f, hf⟩ := chain k p hp (fun j hj hw => hm (j + 1) (by omega) ⟨p, hw, hpv⟩)
    refine ⟨fun j => if j <= k then f j else v, fun j hj => ?_⟩
    by_cases hjk : j <= k
    · simp only [if_pos hjk]; exact hf j hjk
    · obtain rfl : j = k + 1 := by omega
      simp only [if_neg hjk]
      exact ⟨⟨p, hp, hpv⟩, hm⟩

theorem walk_lt{g:Gr}(hg:yba g){a:Nat}(ha:a<g.ports.length):∀ k v,Walk g a k v->v<g.ports.length
 | 0,v,h=>by obtain rfl:v=a:=h;exact ha
 | k+1,v,h=>by obtain⟨u,_,hu⟩:=h;exact(hg.adj_lt hu).2

theorem least_walk{g:Gr}{a v:Nat}:∀ k,Walk g a k v -> ∃ j,j<=k/\Walk g a j v /\ ∀ i,i<j -> ¬ Walk g a i v:=by
 intro k
 induction k using Nat.strongRecOn with
 | _ k ih =>
  intro hw
  by_cases h:∃ j,j<k/\Walk g a j v
  ·obtain⟨j,hj,hwj⟩:=h;obtain⟨i,hi,r⟩:=ih j hj hwj;exact⟨i,by omega,r⟩
  ·exact⟨k,Nat.le_refl _,hw,fun i hi hwi=>h ⟨i,hi,hwi⟩⟩

theorem ysi{g:Gr}(hg:yba g){a v k:Nat}(ha:a<g.ports.length)(h:Walk g a k v)(hm:∀ j,j<k -> ¬ Walk g a j v):k<g.ports.length:=by
 obtain⟨f,hf⟩:=chain k v h hm;have hinj:∀ i j,i<j->j<=k->f i ≠ f j:=fun i j hij hj e=>(hf j hj).2 i hij (by rw[<- e];exact(hf i (by omega)).1)
 have h1:((List.range (k+1)).map f).Nodup:=by
  rw[List.Nodup,List.pairwise_map];refine(List.Pairwise.and_mem.1 List.pairwise_lt_range).imp ?_;rintro i j ⟨_,hj,hij⟩;exact hinj i j hij (by simp at hj;omega)
 have h2:(List.range (k+1)).map f ⊆ List.range g.ports.length:=by
  intro x hx;obtain⟨j,hj,rfl⟩:=List.mem_map.1 hx;simp only[List.mem_range]at hj ⊢;exact walk_lt hg ha j _ (hf j (by omega)).1
 have:=List.Nodup.length_le_of_subset h1 h2;simp at this;omega

theorem ycd{g:Gr}(hg:yba g){a:Nat}(ha:a<g.ports.length):yts g a (ybu g a):=by
 obtain⟨h1,h2⟩:=ysw hg ha (g.ports.length - 1);refine⟨h1,fun v x hx=>?_⟩;rcases h2 v x hx with⟨rfl,h3⟩ | ⟨k,_,r⟩
 ·refine .inl ⟨rfl,fun k hk=>?_⟩;obtain⟨j,_,hj,hm⟩:=least_walk k hk;have:=ysi hg ha hj hm;exact h3 j (by omega) hj
 ·exact .inr ⟨k,r⟩

theorem yts.bound{g:Gr}(hg:yba g){a:Nat}(ha:a<g.ports.length){D:List Int}(h:yts g a D):∀ x ∈ D,-1<=x/\x<=24:=by
 intro x hx;obtain⟨v,hv,rfl⟩:=List.mem_iff_getElem.1 hx;rcases h.2 v _ (List.getElem?_eq_getElem hv)with⟨e,_⟩ | ⟨k,e,h1,h2⟩
 ·omega
 ·have:=ysi hg ha h1 h2;have:=hg.2.1;omega
end Go.Proofs.YtpngeppkgoaimaaGreatDoor

namespace Go.Proofs.YtpngeppkgoaimaaGreatDoor

def yby(g:Gr):Bool:=ycs g && (ybu g 0).all (fun x=>decide (0<=x))
def ybs(D:List Int):Int:=D.foldl max (-1)
def ypu(g:Gr)(v:Int):List Int:=if ycs g=true/\0<=v/\v<g.ports.length then ybu g v.toNat else[]
def eccP(g:Gr)(v:Int):Int:=if yby g=true/\0<=v/\v<g.ports.length then ybs (ybu g v.toNat)else -1
def ycy(D:List Int):Int:=if D.all (fun x=>decide (0<=x))=true then ybs D else -1

theorem yez(D:List Int):∀ m:Int,m<=D.foldl max m:=by
 induction D with
 | nil=>intro m;exact Int.le_refl _
 | cons x D ih=>intro m;exact Int.le_trans (Int.le_max_left m x) (ih _)
theorem yll(D:List Int)(k:Nat)(hk:k<D.length):ybs (D.take (k+1))=max (ybs (D.take k)) D[k]:=by
 unfold ybs;rw[take_snoc D k hk,List.foldl_append];rfl
theorem yjq(D:List Int)(m:Int)(hm:-1<=m)(h:∀ x ∈ D,x<=m):ybs D<=m:=by
 unfold ybs
 suffices ∀ a:Int,a<=m->D.foldl max a<=m from this _ hm
 induction D with
 | nil=>intro a ha;exact ha
 | cons x D ih=>intro a ha;exact ih (fun y hy=>h y (by simp[hy])) _ (Int.max_le.2 ⟨ha,h x (by simp)⟩)
theorem yqn(D:List Int):∀ x ∈ D,x<=ybs D:=by
 unfold ybs
 suffices ∀ a:Int,∀ x ∈ D,x<=D.foldl max a from this _
 induction D with
 | nil=>intro a x hx;simp at hx
 | cons y D ih =>
  intro a x hx;rcases List.mem_cons.1 hx with rfl | hx
  ·exact Int.le_trans (Int.le_max_right a x) (yez D _)
  ·exact ih _ x hx
theorem yit(D:List Int):-1<=ybs D:=yez D _

theorem yfv{g:Gr}(hg:yba g){a:Nat}(ha:a<g.ports.length):(ybu g a).length=g.ports.length:=(ycd hg ha).1

theorem Walk.trans{g:Gr}{a b:Nat}:∀ {j:Nat} {c:Nat} {k:Nat},Walk g a k b->Walk g b j c->Walk g a (k+j) c
 | 0,c,k,h1,h2=>by obtain rfl:c=b:=h2;exact h1
 | j+1,c,k,h1,h2=>by
  obtain⟨u,hu,huc⟩:=h2;exact⟨u,Walk.trans h1 hu,huc⟩
theorem Walk.one{g:Gr}{a b:Nat}(h:adj g a b):Walk g a 1 b:=⟨a,rfl,h⟩
theorem Walk.symm{g:Gr}(hg:yba g){a:Nat}:∀ {k:Nat} {b:Nat},Walk g a k b->Walk g b k a
 | 0,b,h=>by obtain rfl:b=a:=h;exact rfl
 | k+1,b,h=>by
  obtain⟨u,hu,hub⟩:=h;have:=Walk.trans (Walk.one (hg.adj_symm hub)) (Walk.symm hg hu)
  rwa [Nat.add_comm]at this

theorem ybfa{g:Gr}(hg:yba g){a:Nat}(ha:a<g.ports.length):(ybu g a).all (fun x=>decide (0<=x))=true ↔ ∀ v,v<g.ports.length -> ∃ k,Walk g a k v:=by
 have hd:=ycd hg ha;rw[List.all_eq_true];constructor
 ·intro h v hv;have hv':v<(ybu g a).length:=by rw[hd.1];exact hv
  rcases hd.2 v _ (List.getElem?_eq_getElem hv')with⟨e,_⟩ | ⟨k,_,hk,_⟩
  ·have:=of_decide_eq_true (h _ (List.getElem_mem hv'));omega
  ·exact⟨k,hk⟩
 ·intro h x hx;obtain⟨v,hv,rfl⟩:=List.mem_iff_getElem.1 hx;obtain⟨k,hk⟩:=h v (by rw[<- hd.1];exact hv)
  rcases hd.2 v _ (List.getElem?_eq_getElem hv)with⟨e,h1⟩ | ⟨k,e,_⟩
  ·exact absurd hk (h1 k)
  ·rw[e];simp

theorem yym{g:Gr}(hg:yba g){a b:Nat}(ha:a<g.ports.length)(hb:b<g.ports.length)(h:(ybu g a).all (fun x=>decide (0<=x))=true):(ybu g b).all (fun x=>decide (0<=x))=true:=by
 rw[ybfa hg ha]at h;rw[ybfa hg hb];intro v hv;obtain⟨k,hk⟩:=h v hv;obtain⟨j,hj⟩:=h b hb;exact⟨_,Walk.trans (Walk.symm hg hj) hk⟩

theorem ysg{g:Gr}(hv:ycs g=true){v:Int}(h1:0<=v)(h2:v<g.ports.length):ypu g v=ybu g v.toNat:=if_pos ⟨hv,h1,h2⟩
theorem ykw{g:Gr}{v:Int}(h:¬ (ycs g=true/\0<=v/\v<g.ports.length)):ypu g v = []:=if_neg h
theorem yju:ycy [] = -1:=rfl
theorem yblm(g:Gr):decide (0<=ycy (ypu g 0))=yby g:=by
 unfold yby;cases hv:ycs g with
 | false =>
  rw[ykw (by simp[hv]),yju]
  rfl
 | true =>
  have hg:=(ycg g).1 hv;have hn:=hg.1;rw[ysg hv (by omega) (by omega)]
  unfold ycy;simp only[Int.toNat_zero];cases ha:(ybu g 0).all (fun x=>decide (0<=x))with
  | false=>simp
  | true =>
   have hl:=yfv hg (a:=0) (by omega)
   have h0:(0:Int)<=ybs (ybu g 0):=by
    have hm:(ybu g 0)[0]'(by omega) ∈ ybu g 0:=List.getElem_mem _
    exact Int.le_trans (of_decide_eq_true (List.all_eq_true.1 ha _ hm)) (yqn _ _ hm)
   simp[h0]
theorem ybzl(g:Gr)(v:Int):ycy (ypu g v)=eccP g v:=by
 unfold eccP yby
 by_cases hr:ycs g=true/\0<=v/\v<g.ports.length
 ·obtain⟨hv,h1,h2⟩:=hr;have hg:=(ycg g).1 hv;rw[ysg hv h1 h2,hv];unfold ycy;cases ha:(ybu g v.toNat).all (fun x=>decide (0<=x))with
  | true =>
   have:=yym hg (a:=v.toNat) (b:=0) (by omega) (by omega) ha
   simp[this,h1,h2]
  | false =>
   have:(ybu g 0).all (fun x=>decide (0<=x))=false:=by
    cases h0:(ybu g 0).all (fun x=>decide (0<=x))with
    | false=>rfl
    | true =>
     have:=yym hg (a:=0) (b:=v.toNat) (by omega) (by omega) h0
     rw[ha]at this;cases this
   simp[this]
 ·rw[ykw hr,yju,if_neg];intro h;exact hr ⟨(Bool.and_eq_true _ _ ▸ h.1).1,h.2⟩
end Go.Proofs.YtpngeppkgoaimaaGreatDoor

namespace Go.Proofs.YtpngeppkgoaimaaGreatDoor

abbrev Conf:=List (List Int)
abbrev Bounds:=List (Int × Int)

def ysb(bs:Bounds)(s:List Int):Bool:=decide (s.length=bs.length) && (bs.zip s).all (fun p=>decide (p.1.1<=p.2) && decide (p.2<=p.1.2))
def ynx(n:Nat)(bs:Nat->Bounds)(c:Conf):Bool:=decide (c.length=n) && c.zipIdx.all (fun p=>ysb (bs p.2) p.1)

def yex(bs:Bounds)(s:List Int):Prop:=s.length=bs.length /\ ∀ (i:Nat) b x,bs[i]? = some b->s[i]? = some x->b.1<=x/\x<=b.2
def yble(n:Nat)(bs:Nat->Bounds)(c:Conf):Prop:=c.length=n /\ ∀ (v:Nat) s,c[v]? = some s->yex (bs v) s

theorem yfq(bs:Bounds)(s:List Int):ysb bs s=true ↔ yex bs s:=by
 unfold ysb yex;rw[Bool.and_eq_true,decide_eq_true_iff,List.all_eq_true];refine and_congr_right fun _=>⟨fun h i b x hb hx=>?_,fun h p hp=>?_⟩
 ·have:=h (b,x) (List.mem_of_getElem? (i:=i) (by simp[List.getElem?_zip_eq_some,hb,hx]))
  simpa using this
 ·obtain⟨i,hi⟩:=List.mem_iff_getElem?.1 hp;obtain⟨b,x⟩:=p;rw[List.getElem?_zip_eq_some]at hi
  simpa using h i b x hi.1 hi.2
theorem yep(n:Nat)(bs:Nat->Bounds)(c:Conf):ynx n bs c=true ↔ yble n bs c:=by
 unfold ynx yble;rw[Bool.and_eq_true,decide_eq_true_iff,List.all_eq_true];refine and_congr_right fun _=>⟨fun h v s hs=>?_,fun h p hp=>?_⟩
 ·refine(yfq _ _).1 (h (s,v) ?_);rw[List.mem_zipIdx_iff_getElem?];exact hs
 ·rw[List.mem_zipIdx_iff_getElem?]at hp;exact(yfq _ _).2 (h p.2 p.1 hp)
theorem yjb{n:Nat}{bs:Nat->Bounds}{c:Conf}(h:¬ yble n bs c):ynx n bs c=false:=by
 cases hb:ynx n bs c with
 | false=>rfl
 | true=>exact absurd ((yep n bs c).1 hb) h
theorem ywz{n:Nat}{bs:Nat->Bounds}{c:Conf}(h:yble n bs c):ynx n bs c=true:=(yep n bs c).2 h
def ybsm(g:Gr)(v:Nat):Nat:=(g.ports.getD v []).length
def ydm(g:Gr)(G:List Int)(v:Nat):Bounds:=G.map (fun h=>if h = -1 then(-1,(ybsm g v:Int) - 1)else(0,h))
def yjo(g:Gr):Int:=g.ids.foldl max 0
end Go.Proofs.YtpngeppkgoaimaaGreatDoor

namespace Go.Proofs.YtpngeppkgoaimaaGreatDoor
open Go.RowKit

theorem In_t(v lo hi:Int)(w:World)(h1:lo<=v)(h2:v<=hi) :
  Calls Tryz.prog 54 #[.int .i64 v,.int .i64 lo,.int .i64 hi] w fun e w'=>e = .returned (.bool true)/\w=w':=by
 go_enter Tryz.func54,Tryz.ntmps54
 go_wp2
 go_ret
 exact⟨rfl,rfl⟩

theorem In_f(v lo hi:Int)(w:World)(h:v<lo\/hi<v) :
  Calls Tryz.prog 54 #[.int .i64 v,.int .i64 lo,.int .i64 hi] w fun e w'=>e = .returned (.bool false)/\w=w':=by
 by_cases h1:lo<=v
 ·have h2:hi<v:=by omega
  go_enter Tryz.func54,Tryz.ntmps54
  go_wp2
  go_ret
  exact⟨ybi (by simp;omega),rfl⟩
 ·go_enter Tryz.func54,Tryz.ntmps54
  go_wp2
  go_ret
  exact⟨rfl,rfl⟩

theorem yys(gv:Value)(g:Gr)(v:Nat)(ls:List (Int × Int))(u:Int)(w:World)(hg:GrAt w gv g)(hv:g.ports[v]? = some ls) :
  Calls Tryz.prog 95 #[gv,.int .i64 v,.int .i64 u] w fun e w'=>e = .returned (.int .i64 (ygw ls u))/\Below w.heap.size w w':=by
 obtain⟨i,p,rfl,_,A,c,rfl,hc1,hc2,hp⟩:=hg;have hvlt:v<g.ports.length:=(List.getElem?_eq_some_iff.1 hv).1;obtain⟨b,off,rfl,hb,hP⟩:=hp (by omega)
 obtain⟨lv,hcell,A2,c2,rfl,hl1,hl2,hL⟩:=hP v ls hv;simp only[Nat.mul_one]at hcell;have HL:=Lib.hid hL;have HP:=Lib.hid hP;have Hv:=Lib.hid hv
 clear hL hP hv hp
 go_enter Tryz.func95,Tryz.ntmps95
 go_wp2
 go_loop [7] (fun t=>∃ k:Nat,k<=ls.length/\t = .int .i64 k/\Hid ((ls.take k).findIdx? (fun l=>l.1 == u)=none)) (fun t=>ls.length - (intOf t).toNat)
 case atStart=>exact⟨0,by omega,rfl,Lib.hid (by simp)⟩
 case round =>
  obtain⟨k,hk,rfl,hnone⟩:=hrel
  by_cases hlt:k<ls.length
  ·obtain⟨b2,off2,rfl,hb2,hE⟩:=HL.out (by omega)
   obtain⟨e1,e2,hw1,hw2⟩:=hE k ls[k] (List.getElem?_eq_getElem hlt);have HE:=Lib.hid hE
   clear hE
   by_cases heq:ls[k].1=u
   ·have heq':(ls[k].1 == u)=true:=by simp[heq]
    have Hr:=Lib.hid (ype ls u k hlt heq hnone.out)
    clear heq
    go_wp2
    go_ret
    exact⟨yhz Hr.out.symm,(Below.refl _ _).alloc (Nat.le_refl _) _⟩
   ·have heq':(ls[k].1 == u)=false:=by simp[heq]
    have Hr:=Lib.hid (yqm ls u k hlt heq hnone.out)
    clear heq
    go_wp2
    go_round
    case rel=>exact⟨k+1,by omega,by go_num,Hr⟩
    case measure=>simp[intOf];omega
  ·have hkl:k=ls.length:=by omega
   subst hkl;have Hr:=Lib.hid (yst ls u hnone.out)
   go_wp2
   go_ret
   exact⟨yhz Hr.out.symm,(Below.refl _ _).alloc (Nat.le_refl _) _⟩


theorem yhx(lv:Value)(ls:List (Int × Int))(v n:Int)(w:World)(hl:ybev w lv ls)(hn:0<=n/\n<=1000) :
  Calls Tryz.prog 94 #[lv,.int .i64 v,.int .i64 n] w fun e w'=>e = .returned (.bool (ynl ls v n)) /\ ∃ m,w'=w.drewN m:=by
 obtain⟨hn1,hn2⟩:=hn;obtain⟨A,c,rfl,hc1,hc2,hL⟩:=hl;have HL:=Lib.hid hL
 clear hL
 go_enter Tryz.func94,Tryz.ntmps94
 go_wp2
 go_loopw [7] (fun t wr=>∃ k m:Nat,k<=ls.length/\t = .int .i64 k/\wr=w.drewN m/\Hid (ycc (ls.take k) v n)) (fun t _=>ls.length - (intOf t).toNat)
 case atStart=>exact⟨0,0,by omega,rfl,rfl,Lib.hid ⟨by simp,by simp⟩⟩
 case round =>
  obtain⟨k,m,hk,rfl,rfl,hok⟩:=hrel
  by_cases hlt:k<ls.length
  ·obtain⟨b2,off2,rfl,hb2,hE⟩:=HL.out (by omega)
   obtain⟨e1,e2,⟨hw1,hw1'⟩,⟨hw2,hw2'⟩⟩:=hE k ls[k] (List.getElem?_eq_getElem hlt);have HE:=Lib.hid hE
   clear hE
   have Hsn:=Lib.hid (ypt ls v n k hlt);have Hbad:=Lib.hid (fun h=>yte ls v n (k+1) h)
   by_cases c1:0<=ls[k].1/\ls[k].1<=n - 1
   ·obtain⟨c1a,c1b⟩:=c1
    by_cases c2:ls[k].1=v
    ·have c2':(ls[k].1 == v)=true:=by simp[c2]
     have Hf:=Lib.hid (Hbad.out (fun h=>((Hsn.out.1 h).2.1).2.2.1 c2))
     clear c2
     go_wp2_with (first | (go_at_call 54;refine(In_t _ _ _ _ (by omega) (by omega)).mono ?_;rintro e w' ⟨rfl,rfl⟩))
     go_ret
     exact⟨ybi Hf.out.symm,m,rfl⟩
    ·have c2':(ls[k].1 == v)=false:=by simp[c2]
     by_cases c3:1<=ls[k].2/\ls[k].2<=15
     ·obtain⟨c3a,c3b⟩:=c3;have Hlk:=Lib.hid (show yis v n ls[k]from⟨c1a,c1b,c2,c3a,c3b⟩)
      clear c2
      go_wp2_with (first | (go_at_call 54;refine(In_t _ _ _ _ (by omega) (by omega)).mono ?_;rintro e w' ⟨rfl,rfl⟩))
      go_loopw [8] (fun t wr=>∃ j m2:Nat,j<=k/\t = .int .i64 j/\wr=w.drewN m2/\Hid (∀ i (hi:i<j) (hj:j<=k),ls[i].1 ≠ ls[k].1)) (fun t _=>k - (intOf t).toNat)
      case atStart=>exact⟨0,m,by omega,rfl,rfl,Lib.hid (fun i hi=>absurd hi (by omega))⟩
      case round =>
       obtain⟨j,m2,hj,rfl,rfl,hne⟩:=hrel
       by_cases hjk:j<k
       ·obtain⟨f1,f2,_,_⟩:=HE.out j ls[j] (List.getElem?_eq_getElem (by omega))
        by_cases c4:ls[j].1=ls[k].1
        ·have c4':(ls[j].1 == ls[k].1)=true:=by simp[c4]
         have Hf:=Lib.hid (Hbad.out (fun h=>(Hsn.out.1 h).2.2 j hjk c4))
         clear c4
         go_wp2
         go_quiet (fail)
         go_wp2
         go_ret
         exact⟨ybi Hf.out.symm,_,World.drewN_drewN _ _ _⟩
        ·have c4':(ls[j].1 == ls[k].1)=false:=by simp[c4]
         have Hc4:=Lib.hid c4
         clear c4
         go_wp2
         go_quiet (fail)
         go_wp2
         go_roundw
         case rel =>
          refine⟨j+1,_,by omega,by go_num,rfl,Lib.hid (fun i hi hj'=>?_)⟩
          by_cases hij:i<j
          ·exact hne.out i hij hj
          ·obtain rfl:i=j:=by omega
           exact Hc4.out
         case measure=>simp[intOf];omega
       ·obtain rfl:j=k:=by omega
        go_wp2
        go_roundw
        case rel=>exact⟨j+1,_,by omega,by go_num,rfl,Lib.hid (Hsn.out.2 ⟨hok.out,Hlk.out,fun i hi=>hne.out i hi (Nat.le_refl _)⟩)⟩
        case measure=>simp[intOf];omega
     ·have Hf:=Lib.hid (Hbad.out (fun h=>c3 ⟨((Hsn.out.1 h).2.1).2.2.2.1,((Hsn.out.1 h).2.1).2.2.2.2⟩))
      clear c2
      have c3':ls[k].2<1\/15<ls[k].2:=by omega
      clear c3
      go_wp2_with (first | (go_at_call 54;refine(In_t _ _ _ _ (by omega) (by omega)).mono ?_;rintro e w' ⟨rfl,rfl⟩) | (go_at_call 54;refine(In_f _ _ _ _ (by omega)).mono ?_;rintro e w' ⟨rfl,rfl⟩))
      go_ret
      exact⟨ybi Hf.out.symm,m,rfl⟩
   ·have Hf:=Lib.hid (Hbad.out (fun h=>c1 ⟨((Hsn.out.1 h).2.1).1,((Hsn.out.1 h).2.1).2.1⟩));have c1':ls[k].1<0\/n - 1<ls[k].1:=by omega
    clear c1
    go_wp2_with (first | (go_at_call 54;refine(In_f _ _ _ _ (by omega)).mono ?_;rintro e w' ⟨rfl,rfl⟩))
    go_ret
    exact⟨ybi Hf.out.symm,m,rfl⟩
  ·obtain rfl:k=ls.length:=by omega
   have Ht:=Lib.hid (yux ls v n hok.out)
   go_wp2
   go_ret
   exact⟨ybi Ht.out.symm,m,rfl⟩

end Go.Proofs.YtpngeppkgoaimaaGreatDoor

namespace Go.Proofs.YtpngeppkgoaimaaGreatDoor
open Go.RowKit

set_option maxHeartbeats 2000000 in
theorem yhi(gv:Value)(g:Gr)(w:World)(hg:GrAt w gv g) :
  Calls Tryz.prog 53 #[gv] w fun e w'=>e = .returned (.bool (ycs g))/\Below w.heap.size w w':=by
 have hg0:=Lib.hid hg;obtain⟨i,p,rfl,hi,hp⟩:=hg;obtain⟨A,c,rfl,hA1,hA2⟩:=ybl hi;obtain⟨A2,c2,rfl,hB1,hB2⟩:=ybl hp;have Hi:=Lib.hid hi;have Hp:=Lib.hid hp
 clear hi hp
 by_cases n1:1<=g.ports.length/\g.ports.length<=24
 ·obtain⟨n1a,n1b⟩:=n1
  by_cases n2:g.ids.length=g.ports.length
  ·have n2':((g.ids.length:Int) != (g.ports.length:Int))=false:=by simp[n2]
   have Hn2:=Lib.hid n2;have n2a:g.ids.length<=g.ports.length:=by omega
   have n2b:g.ports.length<=g.ids.length:=by omega
   clear n2
   go_enter Tryz.func53,Tryz.ntmps53
   go_wp2_with (first | (go_at_call 54;refine(In_t _ _ _ _ (by omega) (by omega)).mono ?_;rintro e w' ⟨rfl,rfl⟩))
   go_loopw [4] (fun t wr=>∃ k:Nat,k<=g.ports.length/\t = .int .i64 k/\Hid (Below (w.heap.size+1) (w.alloc (.cells #[.slice A g.ids.length c,.slice A2 g.ports.length c2] 28)) wr)/\Hid (∀ v,v<k->V2 g v)) (fun t _=>g.ports.length - (intOf t).toNat)
   case atStart=>exact⟨0,by omega,rfl,Lib.hid (Below.refl _ _),Lib.hid (fun v hv=>absurd hv (by omega))⟩
   case round =>
    obtain⟨k,hk,rfl,hbel,hv2⟩:=hrel;obtain⟨q0,q1,hbw,hsz⟩:=box2 hbel.out;have Hbw:=Lib.hid hbw
    clear hbw
    by_cases hlt:k<g.ports.length
    ·obtain⟨b,off,rfl,hb,hcid,hr⟩:=yfj (Hi.out.below Stable.int Hbw.out) (show k<g.ids.length by omega)
     obtain⟨b2,off2,lv,rfl,hb2,hcl,hls⟩:=yfw (Hp.out.below (Stable.sl Stable.link) Hbw.out) (List.getElem?_eq_getElem hlt);obtain⟨A3,c3,rfl,hl1,hl2⟩:=ybl hls;have Hls:=Lib.hid hls
     clear hls
     obtain⟨x,hx⟩:∃ x,g.ids[k]? = some x:=⟨_,List.getElem?_eq_getElem (by omega)⟩
     have hxe:g.ids[k]=x:=by have:=List.getElem?_eq_getElem (l:=g.ids) (i:=k) (by omega);rw[hx]at this;exact(Option.some.inj this).symm
     simp only[hxe]at hcid hr;obtain⟨ls,hle⟩:∃ ls,g.ports[k]=ls:=⟨_,rfl⟩;have hlp:g.ports[k]? = some ls:=by rw[List.getElem?_eq_getElem hlt,hle]
     simp only[hle]at hcl hl1 Hls;have Hx:=Lib.hid hx;have Hlp:=Lib.hid hlp
     clear hx hxe hle hlp
     obtain⟨hr1,hr2⟩:=hr;have Hbad:=Lib.hid (fun h=>ysk (g:=g) (v:=k) hlt h)
     by_cases c1:0<=x/\x<=255
     ·obtain⟨c1a,c1b⟩:=c1
      by_cases c2:ls.length<g.ports.length
      ·have c2d:decide (g.ports.length<=ls.length)=false:=by simp;omega
       by_cases c3:ynl ls (k:Int) (g.ports.length:Int)=true
       ·go_wp2_with (first | (go_at_call 54;refine(In_t _ _ _ _ (by omega) (by omega)).mono ?_;rintro e w' ⟨rfl,rfl⟩) | (go_at_call 94;refine(yhx _ ls _ _ _ Hls.out ⟨by omega,by omega⟩).mono ?_;rintro e w' ⟨rfl,m,rfl⟩))
        obtain⟨w2,hw2⟩:∃ w2,w2=wr.drewN m:=⟨_,rfl⟩;rw[<- hw2];have Hb2:=Lib.hid (yva hbel.out hw2)
        clear hw2
        go_loopw [5] (fun t wq=>∃ j m2:Nat,j<=k/\t = .int .i64 j/\wq=w2.drewN m2/\Hid (∀ u y,u<j->g.ids[u]? = some y->y ≠ x)) (fun t _=>k - (intOf t).toNat)
        case atStart=>exact⟨0,0,by omega,rfl,rfl,Lib.hid (fun u y hu=>absurd hu (by omega))⟩
        case round =>
         obtain⟨j,m2,hj,rfl,rfl,hne⟩:=hrel;obtain⟨q0,q1,hbw,hsz⟩:=box2 Hb2.out;have Hbw2:=Lib.hid hbw;obtain⟨b',off',e',hb',hcid,_⟩:=yfj (Hi.out.below Stable.int Hbw2.out) (show k<g.ids.length by omega)
         cases e'
         clear hbw
         have hkx:g.ids[k]=x:=by have:=List.getElem?_eq_getElem (l:=g.ids) (i:=k) (by omega);rw[Hx.out]at this;exact(Option.some.inj this).symm
         rw[hkx]at hcid
         clear hkx
         by_cases hjk:j<k
         ·obtain⟨b',off',e',hb',hcj,_⟩:=yfj (Hi.out.below Stable.int Hbw2.out) (show j<g.ids.length by omega)
          cases e'
          by_cases c4:g.ids[j]=x
          ·have c4':(g.ids[j] == x)=true:=by simp[c4]
           have Hf:=Lib.hid (Hbad.out (fun h=>(h x ls Hx.out Hlp.out).2.2.2 j _ hjk (List.getElem?_eq_getElem (by omega)) c4))
           clear c4
           go_wp2
           go_quiet (fail)
           go_wp2
           go_ret
           exact⟨ybi Hf.out.symm,below_drewN (below_drewN (box2 Hb2.out).2.2.1 _) _⟩
          ·have c4':(g.ids[j] == x)=false:=by simp[c4]
           have Hc4:=Lib.hid c4
           clear c4
           go_wp2
           go_quiet (fail)
           go_wp2
           go_roundw
           case rel =>
            refine⟨j+1,_,by omega,by go_num,rfl,Lib.hid (fun u y hu hy=>?_)⟩
            by_cases huj:u<j
            ·exact hne.out u y huj hy
            ·obtain rfl:u=j:=by omega
             rw[List.getElem?_eq_getElem (by omega)]at hy
             cases hy
             exact Hc4.out
           case measure=>simp[intOf];omega
         ·obtain rfl:j=k:=by omega
          go_wp2
          go_roundw
          case rel =>
           refine⟨j+1,by omega,by go_num,Lib.hid (below_drewN Hb2.out _),Lib.hid (fun v hv=>?_)⟩
           by_cases hvj:v<j
           ·exact hv2.out v hvj
           ·obtain rfl:v=j:=by omega
            intro x' ls' hx' hls';rw[Hx.out]at hx';rw[Hlp.out]at hls';cases hx'
            cases hls'
            exact⟨⟨c1a,c1b⟩,c2,c3,hne.out⟩
          case measure=>simp[intOf];omega
       ·have c3':ynl ls (k:Int) (g.ports.length:Int)=false:=by simpa using c3
        have Hf:=Lib.hid (Hbad.out (fun h=>c3 (h x ls Hx.out Hlp.out).2.2.1))
        clear c3
        go_wp2_with (first | (go_at_call 54;refine(In_t _ _ _ _ (by omega) (by omega)).mono ?_;rintro e w' ⟨rfl,rfl⟩) | (go_at_call 94;refine(yhx _ ls _ _ _ Hls.out ⟨by omega,by omega⟩).mono ?_;rintro e w' ⟨rfl,m,rfl⟩))
        go_ret
        exact⟨ybi Hf.out.symm,below_drewN Hbw.out _⟩
      ·have c2d:decide (g.ports.length<=ls.length)=true:=by simp;omega
       have Hf:=Lib.hid (Hbad.out (fun h=>c2 (h x ls Hx.out Hlp.out).2.1))
       go_wp2_with (first | (go_at_call 54;refine(In_t _ _ _ _ (by omega) (by omega)).mono ?_;rintro e w' ⟨rfl,rfl⟩) | (go_at_call 94;refine(yhx _ ls _ _ _ Hls.out ⟨by omega,by omega⟩).mono ?_;rintro e w' ⟨rfl,m,rfl⟩))
       go_ret
       exact⟨ybi Hf.out.symm,Hbw.out⟩
     ·have Hf:=Lib.hid (Hbad.out (fun h=>c1 (h x ls Hx.out Hlp.out).1));have c1':x<0\/255<x:=by omega
      clear c1
      go_wp2_with (first | (go_at_call 54;refine(In_f _ _ _ _ (by omega)).mono ?_;rintro e w' ⟨rfl,rfl⟩))
      go_ret
      exact⟨ybi Hf.out.symm,Hbw.out⟩
    ·obtain rfl:k=g.ports.length:=by omega
     go_wp2
     go_loopw [6] (fun t wr=>∃ k:Nat,k<=g.ports.length/\t = .int .i64 k/\Hid (Below (w.heap.size+1) (w.alloc (.cells #[.slice A g.ids.length c,.slice A2 g.ports.length c2] 28)) wr)/\Hid (∀ v i,v<k->V3 g v i)) (fun t _=>g.ports.length - (intOf t).toNat)
     case atStart=>exact⟨0,by omega,rfl,hbel,Lib.hid (fun v i hv=>absurd hv (by omega))⟩
     case round =>
      clear hbel Hbw q0 q1 hsz
      obtain⟨k,hk,rfl,hbel,hv3⟩:=hrel;obtain⟨q0,q1,hbw,hsz⟩:=box2 hbel.out;have Hbw:=Lib.hid hbw
      clear hbw
      by_cases hlt:k<g.ports.length
      ·obtain⟨ls,hle⟩:∃ ls,g.ports[k]=ls:=⟨_,rfl⟩;have hlp:g.ports[k]? = some ls:=by rw[List.getElem?_eq_getElem hlt,hle]
       have Hlp:=Lib.hid hlp
       clear hle hlp
       have Hlk:=Lib.hid (show ∀ l ∈ ls,yis k g.ports.length l by
        have:=(hv2.out k hlt _ ls (List.getElem?_eq_getElem (by omega)) Hlp.out).2.2.1
        exact fun l hl=>(of_decide_eq_true this).1 l hl)
       have Hbad:=Lib.hid (fun i h=>ysc (g:=g) (v:=k) (i:=i) hlt h)
       go_wp2
       go_loopw [7] (fun t wr=>∃ i:Nat,i<=ls.length/\t = .int .i64 i/\Hid (Below (w.heap.size+1) (w.alloc (.cells #[.slice A g.ids.length c,.slice A2 g.ports.length c2] 28)) wr)/\Hid (∀ j,j<i->V3 g k j)) (fun t _=>ls.length - (intOf t).toNat)
       case atStart=>exact⟨0,by omega,rfl,hbel,Lib.hid (fun j hj=>absurd hj (by omega))⟩
       case round =>
        clear hbel Hbw q0 q1 hsz
        obtain⟨i,hi,rfl,hbel,hv3'⟩:=hrel;obtain⟨q0,q1,hbw,hsz⟩:=box2 hbel.out;have Hbw:=Lib.hid hbw;obtain⟨b2,off2,lv,rfl,hb2,hcl,hls⟩:=yfw (Hp.out.below (Stable.sl Stable.link) Hbw.out) Hlp.out;obtain⟨A3,c3,rfl,hl1,hl2⟩:=ybl hls
        by_cases hil:i<ls.length
        ·obtain⟨A4,c4,e4,_,_,hE⟩:=hls;cases e4
         obtain⟨b3,off3,rfl,hb3,hE⟩:=hE (by omega)
         obtain⟨⟨l1,wt⟩,hle⟩:∃ l,ls[i]=l:=⟨_,rfl⟩;have hl?:ls[i]? = some (l1,wt):=by rw[List.getElem?_eq_getElem hil,hle]
         obtain⟨hx1,hx2,⟨hr1,hr2⟩,⟨hr3,hr4⟩⟩:=hE i _ hl?;have hlk:=Hlk.out (l1,wt) (List.mem_of_getElem? hl?);unfold yis at hlk;obtain⟨k1,k2,k3,k4,k5⟩:=hlk;simp only at k1 k2 k3 k4 k5 hx1 hx2 hr1 hr2 hr3 hr4;obtain⟨t,rfl⟩:=Int.eq_ofNat_of_zero_le k1;have htl:t<g.ports.length:=by omega
         obtain⟨b',off',lv',e',hb',hcl',hls'⟩:=yfw (Hp.out.below (Stable.sl Stable.link) Hbw.out) (List.getElem?_eq_getElem htl);cases e'
         obtain⟨A5,c5,rfl,hm1,hm2⟩:=ybl hls';obtain⟨ls',hle'⟩:∃ ls',g.ports[t]=ls':=⟨_,rfl⟩;have Hlp':=Lib.hid (show g.ports[t]? = some ls' by rw[List.getElem?_eq_getElem htl,hle'])
         rw[hle']at hls' hcl' hm1;have Hl?:=Lib.hid hl?;have HE:=Lib.hid hE;have Hls':=Lib.hid hls';have Hbb:=Lib.hid (Hbad.out i)
         clear hle hle' hl? hE hls' k1 k3 hbw
         have Hgr:=Lib.hid (hg0.out.below Hbw.out);rcases ymo (ls:=ls') (u:=(k:Int))with hpt | ⟨q,hpt,hq⟩
         ·have Hpt:=Lib.hid hpt
          clear hpt
          have Hf:=Lib.hid (Hbb.out (fun h=>by
           obtain⟨ls2,q2,l2,f1,f2,_⟩:=h ls _ Hlp.out Hl?.out;rw[Int.toNat_natCast,Hlp'.out]at f1;cases f1
           rw[Hpt.out]at f2;omega))
          go_wp2_with fail
          refine(yys _ g t ls' k _ (Hgr.out.below ((Below.refl _ _).alloc (Nat.le_refl _) _)) Hlp'.out).mono ?_;rintro e w3 ⟨rfl,hb3w⟩;rw[Hpt.out];have d0:=keepA hb3w _ _ q0;have d1:=keepA hb3w _ _ q1;have d2:=keepA hb3w _ _ hcl';obtain⟨d3,d4⟩:=yyt hb3w;have Hb3:=Lib.hid (yhl hb3w);have hz3:wr.heap.size<w3.heap.size:=by have:=hb3w.size;simp at this;omega
          clear hb3w
          go_wp2
          go_quiet (fail)
          go_wp2
          go_ret
          exact⟨ybi Hf.out.symm,below_drewN (Hbw.out.trans (Hb3.out.mono Hbw.out.size)) _⟩
         ·have Hpt:=Lib.hid hpt
          clear hpt
          obtain⟨A6,c6,e6,_,_,hE6⟩:=Hls'.out;cases e6
          obtain⟨b6,off6,rfl,hb6,hE6⟩:=hE6 (by omega)
          obtain⟨⟨y1,y2⟩,hqe⟩:∃ l,ls'[q]=l:=⟨_,rfl⟩;have hq?:ls'[q]? = some (y1,y2):=by rw[List.getElem?_eq_getElem hq,hqe]
          obtain⟨_,hx4,_,_⟩:=hE6 q _ hq?;simp only at hx4;have Hq?:=Lib.hid hq?
          clear hqe hq? hE6
          by_cases c7:y2=wt
          ·have c7':(y2 != wt)=false:=by simp[c7]
           have Hv:=Lib.hid (show V3 g k i from fun ls2 l2 f1 f2=>by
            rw[Hlp.out]at f1;cases f1
            rw[Hl?.out]at f2;cases f2
            exact⟨ls',q,(y1,y2),by rw[Int.toNat_natCast];exact Hlp'.out,Hpt.out,Hq?.out,c7⟩)
           clear c7
           go_wp2_with fail
           refine(yys _ g t ls' k _ (Hgr.out.below ((Below.refl _ _).alloc (Nat.le_refl _) _)) Hlp'.out).mono ?_;rintro e w3 ⟨rfl,hb3w⟩;rw[Hpt.out];have d0:=keepA hb3w _ _ q0;have d1:=keepA hb3w _ _ q1;have d2:=keepA hb3w _ _ hcl';obtain⟨d3,d4⟩:=yyt hb3w;have Hb3:=Lib.hid (yhl hb3w);have hz3:wr.heap.size<w3.heap.size:=by have:=hb3w.size;simp at this;omega
           clear hb3w
           have d5:=(Hb3.out.cell hb6).trans hx4
           go_wp2
           go_quiet (fail)
           go_wp2
           go_roundw
           case rel =>
            refine⟨i+1,by omega,by go_num,Lib.hid (below_drewN (hbel.out.trans (Hb3.out.mono (by have:=hbel.out.size;simp at this;omega))) _),Lib.hid (fun j hj=>?_)⟩
            by_cases hji:j<i
            ·exact hv3'.out j hji
            ·obtain rfl:j=i:=by omega
             exact Hv.out
           case measure=>simp[intOf];omega
          ·have c7':(y2 != wt)=true:=by simp[c7]
           have Hf:=Lib.hid (Hbb.out (fun h=>by
            obtain⟨ls2,q2,l2,f1,f2,f3,f4⟩:=h ls _ Hlp.out Hl?.out;rw[Int.toNat_natCast,Hlp'.out]at f1;cases f1
            rw[Hpt.out]at f2;obtain rfl:q=q2:=by omega
            rw[Hq?.out]at f3;cases f3
            exact c7 f4))
           clear c7
           go_wp2_with fail
           refine(yys _ g t ls' k _ (Hgr.out.below ((Below.refl _ _).alloc (Nat.le_refl _) _)) Hlp'.out).mono ?_;rintro e w3 ⟨rfl,hb3w⟩;rw[Hpt.out];have d0:=keepA hb3w _ _ q0;have d1:=keepA hb3w _ _ q1;have d2:=keepA hb3w _ _ hcl';obtain⟨d3,d4⟩:=yyt hb3w;have Hb3:=Lib.hid (yhl hb3w);have hz3:wr.heap.size<w3.heap.size:=by have:=hb3w.size;simp at this;omega
           clear hb3w
           have d5:=(Hb3.out.cell hb6).trans hx4
           go_wp2
           go_quiet (fail)
           go_wp2
           go_ret
           exact⟨ybi Hf.out.symm,below_drewN (Hbw.out.trans (Hb3.out.mono Hbw.out.size)) _⟩
        ·obtain rfl:i=ls.length:=by omega
         have HE:=Lib.hid hls
         clear hls hbw
         go_wp2
         go_roundw
         case rel =>
          refine⟨k+1,by omega,by go_num,hbel,Lib.hid (fun v j hv=>?_)⟩
          by_cases hvk:v<k
          ·exact hv3.out v j hvk
          ·obtain rfl:v=k:=by omega
           by_cases hj:j<ls.length
           ·exact hv3'.out j hj
           ·intro ls2 l2 f1 f2;rw[Hlp.out]at f1;cases f1
            rw[List.getElem?_eq_none (by omega)]at f2
            cases f2
         case measure=>simp[intOf];omega
      ·obtain rfl:k=g.ports.length:=by omega
       have Ht:=Lib.hid (show ycs g=true from decide_eq_true (yba.of n1a n1b Hn2.out hv2.out (fun v i hv=>hv3.out v i hv)))
       go_wp2
       go_ret
       exact⟨ybi Ht.out.symm,Hbw.out⟩
  ·have n2':((g.ids.length:Int) != (g.ports.length:Int))=true:=by simp;omega
   have Hf:=Lib.hid (yek (g:=g) (fun h=>n2 h.2.2))
   clear n2
   go_enter Tryz.func53,Tryz.ntmps53
   go_wp2_with (first | (go_at_call 54;refine(In_t _ _ _ _ (by omega) (by omega)).mono ?_;rintro e w' ⟨rfl,rfl⟩))
   go_ret
   exact⟨ybi Hf.out.symm,(Below.refl _ _).alloc (Nat.le_refl _) _⟩
 ·have Hf:=Lib.hid (yek (g:=g) (fun h=>n1 ⟨h.1,h.2.1⟩));have n1':g.ports.length<1\/24<g.ports.length:=by omega
  clear n1
  go_enter Tryz.func53,Tryz.ntmps53
  go_wp2_with (first | (go_at_call 54;refine(In_f _ _ _ _ (by omega)).mono ?_;rintro e w' ⟨rfl,rfl⟩))
  go_ret
  exact⟨ybi Hf.out.symm,(Below.refl _ _).alloc (Nat.le_refl _) _⟩
end Go.Proofs.YtpngeppkgoaimaaGreatDoor

namespace Go.Proofs.YtpngeppkgoaimaaGreatDoor
open Go.RowKit

def yey(acc:Int × Int->Bool)(ls:List (Int × Int)):Int:=match ls.findIdx? acc with | some i=>i | none=>-1
end Go.Proofs.YtpngeppkgoaimaaGreatDoor

namespace Go.Proofs.YtpngeppkgoaimaaGreatDoor

def yoq(D:List Int)(v:Nat)(l:Int × Int):Bool:=D.getD l.1.toNat 0 == D.getD v 0 - 1
def wayP(g:Gr)(D:List Int)(v:Nat):Int:=yey (yoq D v) (g.ports.getD v [])
end Go.Proofs.YtpngeppkgoaimaaGreatDoor

namespace Go.Proofs.YtpngeppkgoaimaaGreatDoor

def ybbo(ids:List Int)(k:Nat):Int:=(ids.take k).tail.foldl max (ids.headD 0)
def ybag(ids:List Int)(k:Nat):Int:=(ids.take k).tail.foldl min (ids.headD 0)
abbrev maxI(ids:List Int):Int:=ybbo ids ids.length
abbrev minI(ids:List Int):Int:=ybag ids ids.length
theorem ybbg{ids:List Int}{k:Nat}(h1:1<=k)(hk:k<ids.length):(ids.take (k+1)).tail=(ids.take k).tail ++ [ids[k]]:=by
 rw[List.take_succ_eq_append_getElem hk,List.tail_append_of_ne_nil];intro h;have:=congrArg List.length h;rw[List.length_take,List.length_nil]at this;omega
theorem ybzx(ids:List Int):ybbo ids 1=ids.headD 0:=by cases ids<;>simp[ybbo]
theorem ybda(ids:List Int):ybag ids 1=ids.headD 0:=by cases ids<;>simp[ybag]
theorem ybmw{ids:List Int}{k:Nat}(h1:1<=k)(hk:k<ids.length):ybbo ids (k+1)=max (ybbo ids k) ids[k]:=by
 unfold ybbo;rw[ybbg h1 hk,List.foldl_append];rfl
theorem ywc{ids:List Int}{k:Nat}(h1:1<=k)(hk:k<ids.length):ybag ids (k+1)=min (ybag ids k) ids[k]:=by
 unfold ybag;rw[ybbg h1 hk,List.foldl_append];rfl
theorem yro{ids:List Int}(h0:0<ids.length)(h:∀ x ∈ ids,0<=x):maxI ids=ids.foldl max 0:=by
 cases ids with
 | nil=>simp at h0
 | cons x l =>
  have hx:max 0 x=x:=Int.max_eq_right (h x (by simp))
  simp[maxI,ybbo,hx]

def ycj(ids:List Int):Nat->Nat
 | 0=>0
 | k+1=>if ids.getD k 0<ids.getD (ycj ids k) 0 then k else ycj ids k
abbrev ybp(ids:List Int):Nat:=ycj ids ids.length
theorem ylq(ids:List Int):ycj ids 1=0:=by simp[ycj]
theorem yfo(ids:List Int):∀ k,1<=k->k<=ids.length->ycj ids k<k/\(∀ j,j<k->ids.getD (ycj ids k) 0<=ids.getD j 0)/\(∀ j,j<ycj ids k->ids.getD (ycj ids k) 0<ids.getD j 0):=by
 intro k
 induction k with
 | zero=>intro h;omega
 | succ k ih =>
  intro _ hk;rcases Nat.eq_zero_or_pos k with rfl | hpos
  ·rw[ylq];refine⟨by omega,fun j hj=>?_,fun j hj=>absurd hj (by omega)⟩
   obtain rfl:j=0:=by omega
   exact Int.le_refl _
  ·obtain⟨h1,h2,h3⟩:=ih hpos (by omega)
   unfold ycj;split
   ·rename_i hlt
    refine⟨by omega,fun j hj=>?_,fun j hj=>?_⟩
    ·rcases Nat.lt_or_ge j k with q | q
     ·have:=h2 j q;omega
     ·obtain rfl:j=k:=by omega
      exact Int.le_refl _
    ·have:=h2 j hj;omega
   ·rename_i hnl
    refine⟨by omega,fun j hj=>?_,h3⟩
    rcases Nat.lt_or_ge j k with q | q
    ·exact h2 j q
    ·obtain rfl:j=k:=by omega
     omega
theorem ybew(ids:List Int):∀ k,1<=k->k<=ids.length->ybag ids k=ids.getD (ycj ids k) 0:=by
 intro k
 induction k with
 | zero=>intro h;omega
 | succ k ih =>
  intro _ hk;rcases Nat.eq_zero_or_pos k with rfl | hpos
  ·rw[ybda,ylq];cases ids<;>simp
  ·rw[ywc hpos (by omega),ih hpos (by omega)]
   have e:ids[k]=ids.getD k 0:=by simp[List.getD,List.getElem?_eq_getElem (show k<ids.length by omega)]
   rw[e];show _=ids.getD (if ids.getD k 0<ids.getD (ycj ids k) 0 then k else ycj ids k) 0
   split<;>omega
def idxP(ids:List Int)(x:Int):Int:=match ids.findIdx? (fun y=>x == y)with
 | some i=>i
 | none=>-1
theorem ybnp{ids:List Int}(h0:0<ids.length):idxP ids (minI ids)=ybp ids:=by
 have h1:ybp ids<ids.length:=(yfo ids ids.length h0 (Nat.le_refl _)).1;have h3:∀ j,j<ybp ids->ids.getD (ybp ids) 0<ids.getD j 0:=(yfo ids ids.length h0 (Nat.le_refl _)).2.2;have hm:minI ids=ids.getD (ybp ids) 0:=ybew ids ids.length h0 (Nat.le_refl _)
 have:ids.findIdx? (fun y=>minI ids == y)=some (ybp ids):=by
  rw[List.findIdx?_eq_some_iff_getElem];refine⟨h1,?_,fun j hj=>?_⟩
  ·have e:ids[ybp ids]=ids.getD (ybp ids) 0:=by simp[List.getD,List.getElem?_eq_getElem h1]
   rw[e,<- hm];simp
  ·have hjl:j<ids.length:=by omega
   have e:ids[j]=ids.getD j 0:=by simp[List.getD,List.getElem?_eq_getElem hjl]
   have:=h3 j hj;rw[e,hm];intro q;have q:=eq_of_beq q;omega
 unfold idxP;rw[this]
theorem ycep{ids:List Int}{x:Int}{k:Nat}(hk:k<ids.length)(h:x=ids[k])(hn:(ids.take k).findIdx? (fun y=>x == y)=none):idxP ids x=k:=by
 unfold idxP
 have:ids.findIdx? (fun y=>x == y)=some k:=by
  rw[List.findIdx?_eq_some_iff_getElem];refine⟨hk,by simp[h],fun j hj=>?_⟩
  rw[List.findIdx?_eq_none_iff]at hn;simp[hn ids[j] (List.mem_take_iff_getElem.2 ⟨j,by omega,rfl⟩)]
 rw[this]
theorem ybvs{ids:List Int}{x:Int}(hn:(ids.take ids.length).findIdx? (fun y=>x == y)=none):idxP ids x = -1:=by
 rw[List.take_length]at hn;unfold idxP;rw[hn]
theorem ycfd{ids:List Int}{x:Int}{k:Nat}(hk:k<ids.length)(h:x ≠ ids[k])(hn:(ids.take k).findIdx? (fun y=>x == y)=none):(ids.take (k+1)).findIdx? (fun y=>x == y)=none:=by
 rw[List.take_succ_eq_append_getElem hk,List.findIdx?_append,hn];simp[h]
end Go.Proofs.YtpngeppkgoaimaaGreatDoor

namespace Go.Proofs.YtpngeppkgoaimaaGreatDoor
namespace Sh
open Go Ev

def yu(l:List Int):SV:=.sl 1 l.length (fun k=>[.i .i64 (l.getD k 0)])
def ybc(ls:List (Int × Int)):SV:=.sl 2 ls.length (fun j=>[.i .i64 (ls.getD j (0,0)).1,.i .i64 (ls.getD j (0,0)).2])
def yx(ps:List (List (Int × Int))):SV:=.sl 1 ps.length (fun v=>[ybc (ps.getD v [])])
def ybg(c:List (List Int)):SV:=.sl 1 c.length (fun v=>[yu (c.getD v [])])
def grV(g:Gr):SV:=.ag [yu g.ids,yx g.ports]
theorem ik{n:Int}(h1:-1000000000000<=n)(h2:n<=1000000000000):inK .i64 n:=by
 unfold inK;simp[IntKind.min,IntKind.max,IntKind.bits,IntKind.signed];omega
theorem ikw{n:Int}(h1:-4611686018427387904<=n)(h2:n<=4611686018427387904):inK .i64 n:=by
 unfold inK;simp[IntKind.min,IntKind.max,IntKind.bits,IntKind.signed];omega
theorem getD_at{α:Type}{l:List α}{k:Nat}{d:α}(h:k<l.length):l.getD k d=l[k]:=by simp[List.getD,h]
theorem yhu{l:List Int}{i k:Nat}{x:Int}(h:i<l.length):(l.set i x).getD k 0=if k=i then x else l.getD k 0:=by
 simp only[List.getD,List.getElem?_set]
 by_cases q:i=k
 ·subst q;simp[h]
 ·rw[if_neg q,if_neg (Ne.symm q)]

set_option maxRecDepth 8000

theorem ybae(l:List Int)(x:Int)(hl:l.length<=100000):Returns Tryz.prog 111 [yu l,.i .i64 x] (.i .i64 (idxP l x)):=by
 refine Returns.of (ydcc _ _ ?_);simp only[c111,ycua,ycmh,yu,go_sem,Nat.reduceAdd,↓reduceIte,reduceCtorEq];refine ybd (σ:=Nat) (fun k=>⟨[(8,.i .i64 k),(0,yu l),(1,.i .i64 x),(7,.i .i64 l.length)],[]⟩) (fun k=>k<=l.length/\(l.take k).findIdx? (fun y=>x == y)=none) (fun k=>l.length - k) 0 ⟨Nat.zero_le _,by simp⟩ ?_ ?_
 ·refine yh [] [] [] ?_;simp only[yu,allQ,live,yg,Int.natCast_zero,go_sem,Nat.reduceEqDiff,↓reduceIte,reduceCtorEq]
 ·intro k ⟨hk,hno⟩;simp only[yctp,ycoi,ycjl,ycqm,ycjp,ycmw,yu,ybb,go_sem,Nat.reduceEqDiff,Nat.reduceAdd,↓reduceIte,reduceCtorEq];refine⟨fun h=>⟨by omega,fun he=>?_,fun he=>⟨ik (by omega) (by omega),?_⟩⟩,fun h=>?_⟩
  ·have hlt:k<l.length:=by omega
   rw[ycep hlt (by rw[he,getD_at hlt]) hno]
  ·have hlt:k<l.length:=by omega
   refine yj (k+1) ⟨by omega,ycfd hlt (by rw[<- getD_at (d:=0) hlt];exact he) hno⟩ (by omega) ?_
   refine yh [] [] [] ?_;simp only[allQ,live,yg,ybb,go_sem,Nat.reduceEqDiff,↓reduceIte,reduceCtorEq];simp
  ·obtain rfl:k=l.length:=by omega
   rw[ybvs hno]
theorem ybgr(l:List Int)(h0:0<l.length)(hl:l.length<=100000):Returns Tryz.prog 62 [yu l] (.i .i64 (maxI l)):=by
 refine Returns.of (ydqp _ _ ?_);simp only[c62,ydnf,ydih,ydje,ydnp,ydlp,yu,go_sem,Int.reduceToNat,Nat.reduceEqDiff,Nat.reduceAdd,↓reduceIte,reduceCtorEq];refine⟨fun h=>by omega,fun _=>⟨by omega,?_⟩⟩
 refine ybd (σ:=Nat) (fun k=>⟨[(4,.i .i64 k),(3,.i .i64 (ybbo l k)),(0,yu l)],[]⟩) (fun k=>1<=k/\k<=l.length) (fun k=>l.length - k) 1 ⟨by omega,by omega⟩ ?_ ?_
 ·refine yh [] [] [] ?_;simp only[yu,ybzx,allQ,live,yg,ybb,go_sem,Nat.reduceEqDiff,↓reduceIte,reduceCtorEq];cases l<;>simp at h0 ⊢
 ·intro k ⟨hk1,hk⟩;simp only[ydjp,ydta,ydtb,ydip,yu,ybb,go_sem,Nat.reduceEqDiff,Nat.reduceAdd,↓reduceIte,reduceCtorEq];refine⟨fun h=>⟨by omega,ik (by omega) (by omega),?_⟩,fun h=>?_⟩
  ·refine yj (k+1) ⟨by omega,by omega⟩ (by omega) ?_
   refine yh [] [] [] ?_;have hlt:k<l.length:=by omega
   simp only[ybmw hk1 hlt,getD_at hlt,allQ,live,yg,ybb,go_sem,Nat.reduceEqDiff,↓reduceIte,reduceCtorEq];simp
  ·obtain rfl:k=l.length:=by omega
   rfl
theorem ybxq(a b:List Int)(hl:a.length<=100000):Returns Tryz.prog 81 [yu a,yu b] (.b (decide (a=b))):=by
 refine Returns.of (ydjw _ _ ?_);simp only[c81,ydun,ydog,ydqn,ydgg,yu,sim_b,go_sem,Nat.reduceEqDiff,Nat.reduceAdd,↓reduceIte,reduceCtorEq];refine⟨fun h=>?_,fun h=>?_⟩
 ·have:a ≠ b:=fun e=>h (by rw[e])
  simp[this]
 have hlen:a.length=b.length:=by omega
 refine ybd (σ:=Nat) (fun k=>⟨[(13,.i .i64 k),(0,yu a),(1,yu b),(12,.i .i64 a.length)],[]⟩) (fun k=>k<=a.length /\ ∀ j,j<k->a.getD j 0=b.getD j 0) (fun k=>a.length - k) 0 ⟨Nat.zero_le _,fun j h=>absurd h (Nat.not_lt_zero _)⟩ ?_ ?_
 ·refine yh [] [] [] ?_;simp only[yu,allQ,live,yg,Int.natCast_zero,go_sem,Nat.reduceEqDiff,↓reduceIte,reduceCtorEq]
 ·intro k ⟨hk,hno⟩;simp only[ydoc,ydpi,ydut,ydop,yduy,ydtr,yu,sim_b,clash,go_sem,Nat.reduceEqDiff,Nat.reduceAdd,↓reduceIte,reduceCtorEq];refine⟨fun h=>⟨by omega,by omega,fun he=>?_,fun he=>⟨ik (by omega) (by omega),?_⟩⟩,fun h=>?_⟩
  ·have:a ≠ b:=fun e=>he (by rw[e])
   simp[this]
  ·refine yj (k+1) ⟨by omega,fun j hj=>?_⟩ (by omega) ?_
   ·by_cases q:j<k
    ·exact hno j q
    ·obtain rfl:j=k:=by omega
     exact he
   ·refine yh [] [] [] ?_;simp only[allQ,live,yg,ybb,go_sem,Nat.reduceEqDiff,↓reduceIte,reduceCtorEq];simp
  ·have:a=b:=by
    refine List.ext_getElem hlen fun j h1 h2=>?_;have:=hno j (by omega)
    rwa [getD_at h1,getD_at h2]at this
   simp[this]
theorem ynu (g:Gr) (v:Nat) (hv:v<g.ports.length) (h:FuncId) (cp:List SV) (acc:Int × Int->Bool) (hcp4:cp.any (owned 4)=false) (hl:(g.ports.getD v []).length<=100000)
  (hacc:∀ l ∈ g.ports.getD v [],Returns Tryz.prog h (.ag [.i .i64 l.1,.i .i64 l.2] :: cp) (.b (acc l))):Returns Tryz.prog 57 [grV g,.i .i64 v,.fn h [] cp] (.i .i64 (yey acc (g.ports.getD v []))):=by
 refine Returns.of (ydpj _ _ ?_);have hcp:=yli hcp4;simp only[c57,ydla,ydua,grV,yx,ybc,yu,go_sem,Nat.reduceEqDiff,Nat.reduceAdd,Nat.reduceLT,↓reduceIte,reduceCtorEq];refine⟨by omega,?_⟩
 obtain⟨ls,hls⟩:∃ ls,g.ports.getD v []=ls:=⟨_,rfl⟩;rw[hls]at hl hacc ⊢;refine ybd (σ:=Nat) (fun k=>⟨[(15,.i .i64 k),(13,ybc ls),(14,.i .i64 ls.length),(2,.fn h [] cp)],[]⟩) (fun k=>k<=ls.length/\(ls.take k).findIdx? acc=none) (fun k=>ls.length - k) 0 ⟨Nat.zero_le _,by simp⟩ ?_ ?_
 ·refine yh [] [] [] ?_;simp only[ybc,yfi _ hcp4,yfc _ hcp4,allQ,live,yg,Int.natCast_zero,go_sem,Nat.reduceEqDiff,↓reduceIte,reduceCtorEq]
 ·intro k ⟨hk,hno⟩;simp only[ydnu,ydsd,ydoz,ydob,ydmj,ydkc,ybc,ybb,hcp,List.any_cons,go_sem,Nat.reduceEqDiff,Nat.reduceAdd,Nat.reduceLT,↓reduceIte,reduceCtorEq];refine⟨fun hlt=>⟨by omega,?_⟩,fun hlt=>?_⟩
  ·have hlt:k<ls.length:=by omega
   have hm:ls.getD k (0,0) ∈ ls:=by rw[getD_at hlt];exact List.getElem_mem hlt
   refine(hacc _ hm).use ?_;simp only[thenO,ybb,go_sem,Nat.reduceEqDiff,Nat.reduceAdd,↓reduceIte,reduceCtorEq];refine⟨fun ha=>?_,fun ha=>⟨ik (by omega) (by omega),?_⟩⟩
   ·rw[getD_at hlt]at ha
    have:ls.findIdx? acc=some k:=by
     rw[List.findIdx?_eq_some_iff_getElem];refine⟨hlt,ha,fun j hj=>?_⟩;rw[List.findIdx?_eq_none_iff]at hno;simp[hno ls[j] (List.mem_take_iff_getElem.2 ⟨j,by omega,rfl⟩)]
    unfold yey;rw[this]
   ·rw[getD_at hlt]at ha;refine yj (k+1) ⟨by omega,?_⟩ (by omega) ?_
    ·rw[List.take_succ_eq_append_getElem hlt,List.findIdx?_append,hno];simp[ha]
    ·refine yh [] [] [] ?_;simp only[yfi _ hcp4,yfc _ hcp4,allQ,live,yg,ybb,go_sem,Nat.reduceEqDiff,↓reduceIte,reduceCtorEq];simp
  ·obtain rfl:k=ls.length:=by omega
   rw[List.take_length]at hno;unfold yey;rw[hno]
end Sh
end Go.Proofs.YtpngeppkgoaimaaGreatDoor

namespace Go.Proofs.YtpngeppkgoaimaaGreatDoor

structure VarR where
 name:ByteArray
 kind:Int
 lo:Int
 hi:Int
 perNode:Int
 perID:Int

def varE:Elem VarR:=fun w b o x=>w.cell? ⟨b,o,none⟩=some (.string x.name)/\w.cell? ⟨b,o+1,none⟩=some (.int .i64 x.kind)/\w.cell? ⟨b,o+2,none⟩=some (.int .i64 x.lo)/\w.cell? ⟨b,o+3,none⟩=some (.int .i64 x.hi) /\
 w.cell? ⟨b,o+4,none⟩=some (.int .i64 x.perNode)/\w.cell? ⟨b,o+5,none⟩=some (.int .i64 x.perID)
theorem Stable.var:Stable varE:=fun _ _ _ _ _ h _ hx=>⟨h _ _ hx.1,h _ _ hx.2.1,h _ _ hx.2.2.1,h _ _ hx.2.2.2.1,h _ _ hx.2.2.2.2.1,h _ _ hx.2.2.2.2.2⟩
theorem ybnf(ids:List Int)(k:Nat)(hk:k<ids.length):(ids.take (k+1)).foldl max 0=max ((ids.take k).foldl max 0) ids[k]:=by
 rw[take_snoc ids k hk,List.foldl_append];rfl
theorem ypy(D:List Int)(m:Int)(h:∀ x ∈ D,x<=m):∀ a:Int,a<=m->D.foldl max a<=m:=by
 induction D with
 | nil=>intro a ha;exact ha
 | cons x D ih=>intro a ha;exact ih (fun y hy=>h y (by simp[hy])) _ (Int.max_le.2 ⟨ha,h x (by simp)⟩)
theorem yda{g:Gr}(hg:yba g):0<=yjo g/\yjo g<=255:=⟨yez _ _,ypy _ _ (fun x hx=>(hg.2.2.2.1 x hx).2) _ (by omega)⟩
end Go.Proofs.YtpngeppkgoaimaaGreatDoor

namespace Go.Proofs.YtpngeppkgoaimaaGreatDoor

abbrev Tm:=Int × Int
structure SetR where
 var:Int
 val:List Tm
structure RuleR where
 name:ByteArray
 guard:List Tm
 sets:List SetR
structure ProgR where
 name:ByteArray
 vars:List VarR
 rules:List RuleR
instance:Inhabited VarR:=⟨⟨.empty,0,0,0,0,0⟩⟩
instance:Inhabited SetR:=⟨⟨0,[]⟩⟩
instance:Inhabited RuleR:=⟨⟨.empty,[],[]⟩⟩

inductive Ex where
 | leaf (op arg:Int)
 | un (op:Int) (a:Ex)
 | agg (op:Int) (a:Ex)
 | bin (op:Int) (a b:Ex)
 | ite (c a b:Ex)
def Ex.ser:Ex->List Tm
 | .leaf op arg=>[(op,arg)]
 | .un op a=>(op,0) :: a.ser
 | .agg op a=>(op,0) :: a.ser
 | .bin op a b=>(op,0) :: (a.ser ++ b.ser)
 | .ite c a b=>(43,0) :: (c.ser ++ (a.ser ++ b.ser))

def satP(a:Int):Int:=max (-1073741824) (min a 1073741824)
def ybr(b:Bool):Int:=if b then 1 else 0
def ymk(a b:Int):Int:=if b=0 then 0 else if a.tmod b ≠ 0/\(decide (a<0) ≠ decide (b<0))then a.tdiv b - 1 else a.tdiv b
def unP(op a:Int):Int:=if op=18 then -a else ybr (a == 0)
def cmpP(op a b:Int):Bool:=if op=35 then a == b else if op=36 then a != b else if op=37 then decide (a<b)else if op=38 then decide (a<=b)else if op=39 then decide (a > b)else decide (a >= b)
def binP(op a b:Int):Int :=
 if op=30 then satP (a * b)else if op=31 then satP (ymk a b)else if op=32 then(if b=0 then 0 else satP (a - b * ymk a b))else if op=33 then satP (a+b)else if op=34 then satP (a - b)
 else if op=41 then ybr (a != 0 && b != 0)else if op=42 then ybr (a != 0 || b != 0)else ybr (cmpP op a b)
def countP(l:List Int):Int:=((l.filter (· != 0)).length:Int)
def ygi(l:List Int):Int:=l.foldl min 1073741824
def yeb(l:List Int):Int × Int:=l.foldl (fun p a=>if a > p.1 then(a,p.1)else(p.1,max p.2 a)) (-1073741824,-1073741824)
def yup(l:List Int):Nat->Int->Int
 | 0,r=>r
 | n+1,r=>if l.elem r then yup l n (r+1)else r
def mexP(l:List Int):Int:=yup l (l.length+1) 0
def yem(l:List Int):Int:=match l.findIdx? (· != 0)with | some i=>i | none=>-1
def ygg(op:Int)(l:List Int):Int :=
 if op=20 then ybr (countP l == l.length)else if op=21 then ybr (decide (countP l > 0))else if op=22 then countP l else if op=23 then yem l else if op=24 then ygi l else if op=25 then(yeb l).1
 else if op=26 then satP l.sum else if op=27 then mexP l else if op=28 then(yeb l).2 else l.headD 0

structure Sc where
 g:Gr
 c:Conf
def ybo(g:Gr)(v port:Nat):Int × Int:=(g.ports.getD v []).getD port (0,0)
def yka(g:Gr)(v:Nat):List Int:=(g.ports.getD v []).map fun l=>ygw (g.ports.getD l.1.toNat []) v
def ymq(g:Gr)(op:Int)(v:Nat)(port:Int):Int :=
 if op=6 then g.ids.length else if op=7 then yjo g else if op=8 then g.ids.getD v 0 else if op=9 then((g.ports.getD v []).length:Int)else if op=10 then ybr ((v:Int) == 0)else if op=11 then port
 else(let l:=ybo g v port.toNat
  if op=13 then g.ids.getD l.1.toNat 0 else if op=14 then((g.ports.getD l.1.toNat []).length:Int)else if op=15 then ybr (l.1 == 0)else if op=16 then l.2 else(yka g v).getD port.toNat 0)
def yui(g:Gr)(c:Conf)(op arg:Int)(v:Nat)(port:Int):Int :=
 if op=1 then arg else if op=2 then 1 else if op=3 then 0 else if op=4 then -1 else if op=5 then(c.getD v []).getD arg.toNat 0 else if op=12 then(c.getD (ybo g v port.toNat).1.toNat []).getD arg.toNat 0
 else ymq g op v port
def ybm(g:Gr)(c:Conf)(v:Nat):Ex->Int->Int
 | .leaf op arg,p=>yui g c op arg v p
 | .un op a,p=>unP op (ybm g c v a p)
 | .agg op a,_=>ygg op ((List.range (g.ports.getD v []).length).map fun(q:Nat)=>ybm g c v a (q:Int))
 | .bin op a b,p=>binP op (ybm g c v a p) (ybm g c v b p)
 | .ite x a b,p=>if ybm g c v x p ≠ 0 then ybm g c v a p else ybm g c v b p

def Ex.ok(nv:Int)(bnd:Bool):Ex->Bool
 | .leaf op arg=>decide (1<=op/\op<=17) && (if op=1 then decide (0<=arg/\arg<=1073741824)else if op=5\/op=12 then decide (0<=arg/\arg<nv)else true) && (if 11<=op then bnd else true)
 | .un op a=>decide (op=18\/op=19) && a.ok nv bnd
 | .agg op a=>decide (20<=op/\op<=29) && a.ok nv true
 | .bin op a b=>decide (30<=op/\op<=42) && a.ok nv bnd && b.ok nv bnd
 | .ite x a b=>x.ok nv bnd && a.ok nv bnd && b.ok nv bnd

def InB(x:Int):Prop:=-1073741824<=x/\x<=1073741824
theorem yoh(a:Int):InB (satP a):=by unfold InB satP;omega
theorem ygb(b:Bool):InB (ybr b):=by unfold InB ybr;cases b<;>simp
theorem ydng{op a:Int}(h:InB a):InB (unP op a):=by
 unfold unP;split
 ·unfold InB at *;omega
 ·exact ygb _
theorem ycye(op a b:Int):InB (binP op a b):=by
 unfold binP;split;· exact yoh _
 split;· exact yoh _
 split
 ·split
  ·unfold InB;omega
  ·exact yoh _
 split;· exact yoh _
 split;· exact yoh _
 split;· exact ygb _
 split;· exact ygb _
 exact ygb _
theorem countP_le(l:List Int):0<=countP l/\countP l<=l.length:=by
 unfold countP;have:=List.length_filter_le (· != 0) l;omega
theorem ybxo(l:List Int)(h:∀ x ∈ l,InB x):InB (ygi l):=by
 unfold ygi
 have:∀ (l:List Int) (a:Int),InB a->(∀ x ∈ l,InB x)->InB (l.foldl min a):=by
  intro l
  induction l with
  | nil=>intro a ha _;exact ha
  | cons x l ih =>
   intro a ha hl;refine ih _ ?_ fun y hy=>hl y (List.mem_cons_of_mem _ hy);have:=hl x List.mem_cons_self;unfold InB at *;omega
 exact this l _ (by unfold InB;omega) h
theorem yxb(l:List Int)(h:∀ x ∈ l,InB x):InB (yeb l).1/\InB (yeb l).2:=by
 unfold yeb
 have:∀ (l:List Int) (p:Int × Int),InB p.1/\InB p.2->(∀ x ∈ l,InB x)->InB (l.foldl (fun p a=>if a > p.1 then(a,p.1)else(p.1,max p.2 a)) p).1/\InB (l.foldl (fun p a=>if a > p.1 then(a,p.1)else(p.1,max p.2 a)) p).2:=by
  intro l
  induction l with
  | nil=>intro p hp _;exact hp
  | cons x l ih =>
   intro p hp hl;refine ih _ ?_ fun y hy=>hl y (List.mem_cons_of_mem _ hy);have:=hl x List.mem_cons_self;unfold InB at *
   dsimp only
   split<;>dsimp only<;>omega
 exact this l _ (by unfold InB;simp) h
theorem ybks(l:List Int):∀ (n:Nat) (r:Int),r<=yup l n r/\yup l n r<=r+n
 | 0,r=>by unfold yup;omega
 | n+1,r=>by
  unfold yup;have:=ybks l n (r+1);split<;>omega
theorem ybco(l:List Int):-1<=yem l/\yem l<l.length\/yem l = -1:=by
 unfold yem;split
 ·rename_i i hi
  obtain⟨h,_⟩:=List.findIdx?_eq_some_iff_getElem.1 hi;left;omega
 ·exact .inr rfl
theorem yccz{op:Int}{l:List Int}(hl:l.length<=1000)(h:∀ x ∈ l,InB x):InB (ygg op l):=by
 have hc:=countP_le l;unfold ygg;split;· exact ygb _
 split;· exact ygb _
 split;· unfold InB;omega
 split;· have:=ybco l;unfold InB;omega
 split;· exact ybxo l h
 split;· exact(yxb l h).1
 split;· exact yoh _
 split;· have:=ybks l (l.length+1) 0;unfold mexP InB;omega
 split;· exact(yxb l h).2
 cases l with
 | nil=>unfold InB;simp
 | cons x l=>exact h x List.mem_cons_self

structure ConfIn(n nv:Nat)(c:Conf):Prop where
 len:c.length=n
 row:∀ s ∈ c,s.length=nv /\ ∀ x ∈ s,InB x

theorem ConfIn.at_{n nv:Nat}{c:Conf}(h:ConfIn n nv c){v:Nat}(hv:v<n):(c.getD v []).length=nv /\ ∀ k,InB ((c.getD v []).getD k 0):=by
 have hlt:v<c.length:=by rw[h.len];exact hv
 have e:c.getD v []=c[v]:=by simp[List.getD,hlt]
 obtain⟨h1,h2⟩:=h.row c[v] (List.getElem_mem hlt);rw[e];refine⟨h1,fun k=>?_⟩;rw[List.getD_eq_getElem?_getD];cases hk:c[v][k]? with
 | none=>simp;unfold InB;omega
 | some x=>simp;exact h2 x (List.mem_of_getElem? hk)
theorem yba.ybo{g:Gr}(hg:yba g){v p:Nat}(hv:v<g.ports.length)(hp:p<(g.ports.getD v []).length):0<=(ybo g v p).1/\(ybo g v p).1<g.ports.length/\1<=(ybo g v p).2/\(ybo g v p).2<=15:=by
 have e:g.ports.getD v []=g.ports[v]:=by simp[List.getD,hv]
 have h1:=hg.2.2.2.2.2.1 ⟨v,hv⟩;rw[e]at hp;have hm:(g.ports[v])[p] ∈ g.ports[v]:=List.getElem_mem hp;have h2:=h1.1 _ hm;unfold yis at h2;have e2:Go.Proofs.YtpngeppkgoaimaaGreatDoor.ybo g v p=(g.ports[v])[p]:=by unfold Go.Proofs.YtpngeppkgoaimaaGreatDoor.ybo;rw[e];simp[List.getD,hp]
 rw[e2];omega
theorem yba.deg_lt{g:Gr}(hg:yba g){v:Nat}:(g.ports.getD v []).length<24:=by
 by_cases hv:v<g.ports.length
 ·have h1:=hg.2.2.2.2.2.1 ⟨v,hv⟩;have:=ysn hv h1;have e:g.ports.getD v []=g.ports[v]:=by simp[List.getD,hv]
  rw[e];have:=hg.2.1;have h3:g.ports[(⟨v,hv⟩:Fin g.ports.length)].length=g.ports[v].length:=rfl;omega
 ·rw[List.getD_eq_getElem?_getD,List.getElem?_eq_none (by omega)]
  simp
theorem yba.id_in{g:Gr}(hg:yba g)(v:Nat):0<=g.ids.getD v 0/\g.ids.getD v 0<=255:=by
 rw[List.getD_eq_getElem?_getD];cases h:g.ids[v]? with
 | none=>simp
 | some x=>exact hg.2.2.2.1 x (List.mem_of_getElem? h)
theorem ycdi{g:Gr}{c:Conf}{n nv:Nat}(hg:yba g)(hn:g.ports.length=n)(hc:ConfIn n nv c){op arg:Int}{bnd:Bool}(ho:(Ex.leaf op arg).ok nv bnd=true){v:Nat}(hv:v<n){p:Int}(hp:bnd=true->0<=p/\p<(g.ports.getD v []).length)(hpi:InB p):InB (yui g c op arg v p):=by
 subst hn;have h24:=hg.2.1;have hd:=hg.deg_lt (v:=v);unfold yui;simp only[Ex.ok,Bool.and_eq_true,decide_eq_true_eq]at ho;obtain⟨⟨ho1,ho2⟩,ho3⟩:=ho;split
 ·rename_i h;rw[if_pos h]at ho2;simp at ho2;unfold InB;omega
 split;· unfold InB;omega
 split;· unfold InB;omega
 split;· unfold InB;omega
 split;· exact(hc.at_ hv).2 _
 split
 ·rename_i h
  rw[if_pos (by omega)]at ho3
  obtain⟨q1,q2⟩:=hp ho3;have hl:=hg.ybo hv (p:=p.toNat) (by omega)
  exact(hc.at_ (v:=(ybo g v p.toNat).1.toNat) (by omega)).2 _
 ·unfold ymq;split;· rw[hg.2.2.1];unfold InB;omega
  split;· have:=yda hg;unfold InB;omega
  split;· have:=hg.id_in v;unfold InB;omega
  split;· unfold InB;omega
  split;· exact ygb _
  split;· exact hpi
  rename_i h6 h7 h8 h9 h10 h11
  rw[if_pos (by omega)]at ho3
  obtain⟨q1,q2⟩:=hp ho3;have hl:=hg.ybo hv (p:=p.toNat) (by omega)
  simp only;split;· have:=hg.id_in (ybo g v p.toNat).1.toNat;unfold InB;omega
  split;· have:=hg.deg_lt (v:=(ybo g v p.toNat).1.toNat);unfold InB;omega
  split;· exact ygb _
  split;· unfold InB;omega
  ·unfold yka;rw[List.getD_eq_getElem?_getD,List.getElem?_map];cases hk:(g.ports.getD v [])[p.toNat]? with
   | none=>simp;unfold InB;omega
   | some l =>
    simp;have hd2:=hg.deg_lt (v:=l.1.toNat);rcases ymo (ls:=g.ports.getD l.1.toNat []) (u:=(v:Int))with e | ⟨k,e,hk⟩
    ·simp at e;rw[e];unfold InB;omega
    ·simp at e hk hd2;rw[e];unfold InB;omega
theorem yhq{g:Gr}{c:Conf}{n nv:Nat}(hg:yba g)(hn:g.ports.length=n)(hc:ConfIn n nv c){v:Nat}(hv:v<n):∀ (x:Ex) {bnd:Bool} {p:Int},x.ok nv bnd=true->(bnd=true->0<=p/\p<(g.ports.getD v []).length)->InB p->InB (ybm g c v x p)
 | .leaf op arg,bnd,p,h,hp,hpi=>ycdi hg hn hc h hv hp hpi
 | .un op a,bnd,p,h,hp,hpi=>by
  simp only[Ex.ok,Bool.and_eq_true]at h;exact ydng (yhq hg hn hc hv a h.2 hp hpi)
 | .agg op a,bnd,p,h,hp,hpi=>by
  simp only[Ex.ok,Bool.and_eq_true]at h;have:=hg.deg_lt (v:=v);refine yccz (by simp;simp at this;omega) fun x hx=>?_
  obtain⟨q,hq,rfl⟩:=List.mem_map.1 hx;have hq:=List.mem_range.1 hq;exact yhq hg hn hc hv a h.2 (fun _=>by omega) (by unfold InB;omega)
 | .bin op a b,bnd,p,h,hp,hpi=>ycye _ _ _
 | .ite x a b,bnd,p,h,hp,hpi=>by
  simp only[Ex.ok,Bool.and_eq_true]at h;unfold ybm;split
  ·exact yhq hg hn hc hv a h.1.2 hp hpi
  ·exact yhq hg hn hc hv b h.2 hp hpi
end Go.Proofs.YtpngeppkgoaimaaGreatDoor

namespace Go.Proofs.YtpngeppkgoaimaaGreatDoor
namespace Sh
open Go Ev
theorem mulB{a b:Int}(ha:InB a)(hb:InB b):-1152921504606846976<=a * b/\a * b<=1152921504606846976:=by
 unfold InB at *
 have h:(a * b).natAbs<=1073741824 * 1073741824:=by
  rw[Int.natAbs_mul];exact Nat.mul_le_mul (by omega) (by omega)
 omega
set_option maxRecDepth 8000

theorem yef(b:Bool):Returns Tryz.prog 221 [.b b] (.i .i64 (ybr b)):=by
 refine Returns.of (ycyj _ _ ?_);simp only[c221,ycle,ycwb,ycub,ycws,ybb,ybr,go_sem,↓reduceIte,reduceCtorEq];cases b<;>simp
theorem ydy(a:Int):Returns Tryz.prog 223 [.i .i64 a] (.i .i64 (satP a)):=by
 refine Returns.of (ydcn _ _ ?_);simp only[c223,ycjo,ycvl,ybb,satP,go_sem,Nat.reduceEqDiff,Nat.reduceAdd,↓reduceIte,reduceCtorEq]
theorem ydrb{a b:Int}(ha:InB a):-1073741824<=a.tdiv b/\a.tdiv b<=1073741824:=by
 have h1:(a.tdiv b).natAbs=a.natAbs / b.natAbs:=Int.natAbs_tdiv a b;have h2:a.natAbs / b.natAbs<=a.natAbs:=Nat.div_le_self _ _;rw[<- h1]at h2;unfold InB at ha;omega
theorem ycfq{a b:Int}(ha:InB a):-1073741825<=ymk a b/\ymk a b<=1073741824:=by
 have:=ydrb (b:=b) ha;unfold ymk;split
 ·omega
 ·split<;>omega
theorem ybsd{a b:Int}(ha:InB a)(hb:InB b):-1152921505680588800<=b * ymk a b/\b * ymk a b<=1152921505680588800:=by
 have h1:=ycfq (b:=b) ha
 have h:(b * ymk a b).natAbs<=1073741824 * 1073741825:=by
  unfold InB at *;rw[Int.natAbs_mul];exact Nat.mul_le_mul (by omega) (by omega)
 omega
theorem ybzi(op a:Int)(ha:InB a):Returns Tryz.prog 212 [.i .i64 op,.i .i64 a] (.i .i64 (unP op a)):=by
 refine Returns.of (ydbr _ _ ?_);simp only[c212,ycwu,ycum,ycmf,ycut,ybb,unP,IntKind.signed,go_sem,Nat.reduceEqDiff,Nat.reduceAdd,↓reduceIte,reduceCtorEq];unfold InB at ha;refine⟨fun h=>⟨ikw (by omega) (by omega),by rw[if_pos h];omega⟩,fun h=>(yef _).use ?_⟩
 simp only[thenO,ybb,go_sem,Nat.reduceEqDiff,Nat.reduceAdd,↓reduceIte,reduceCtorEq];rw[if_neg h]
theorem ypx(a b:Int)(ha:InB a):Returns Tryz.prog 224 [.i .i64 a,.i .i64 b] (.i .i64 (ymk a b)):=by
 refine Returns.of (ydfb _ _ ?_);simp only[c224,ycrn,ycjv,ycsi,ycik,yctf,ycuw,ycjr,ybb,ymk,go_sem,Nat.reduceEqDiff,Nat.reduceAdd,↓reduceIte,reduceCtorEq];have:=ydrb (b:=b) ha;refine⟨fun h=>by rw[if_pos h],fun h=>⟨⟨h,ikw (by omega) (by omega)⟩,h,fun h1=>⟨fun h2=>⟨ikw (by omega) (by omega),?_⟩,fun h2=>?_⟩,fun h1=>?_⟩⟩
 ·rw[if_neg h,if_pos ⟨h1,h2⟩]
 ·rw[if_neg h,if_neg (fun q=>q.2 h2)]
 ·rw[if_neg h,if_neg (fun q=>q.1 h1)]
theorem ybak(op a b:Int):Returns Tryz.prog 225 [.i .i64 op,.i .i64 a,.i .i64 b] (.b (cmpP op a b)):=by
 refine Returns.of (ydbg _ _ ?_);simp only[c225,ycij,ycoq,ycrw,ycqf,yclx,ycts,ycqt,ycim,ycky,yckq,ybst,ybud,ybvd,sim_b,cmpP,go_sem,Nat.reduceEqDiff,Nat.reduceAdd,↓reduceIte,reduceCtorEq];refine⟨fun h=>by rw[if_pos h],fun h35=>⟨fun h=>by rw[if_neg h35,if_pos h],fun h36=>⟨fun h=>by rw[if_neg h35,if_neg h36,if_pos h],fun h37=>⟨fun h=>by rw[if_neg h35,if_neg h36,if_neg h37,if_pos h],fun h38=>⟨fun h=>by rw[if_neg h35,if_neg h36,if_neg h37,if_neg h38,if_pos h],fun h39=>by rw[if_neg h35,if_neg h36,if_neg h37,if_neg h38,if_neg h39]⟩⟩⟩⟩⟩
theorem ybob(op a b:Int)(ha:InB a)(hb:InB b):Returns Tryz.prog 214 [.i .i64 op,.i .i64 a,.i .i64 b] (.i .i64 (binP op a b)):=by
 refine Returns.of (ydfm _ _ ?_);simp only[c214,ycsf,ycpv,yckn,ycul,ycrq,ycvy,ycwf,ycvb,ycog,ycoz,ybqm,ybrs,ybyl,ybpo,ybtw,ybwi,ybzg,ybvf,ybso,ybb,go_sem,Nat.reduceEqDiff,Nat.reduceAdd,↓reduceIte,reduceCtorEq];have hm:=mulB ha hb;have hq:=ybsd ha hb;have hA:=ha;have hB:=hb;unfold InB at hA hB;refine⟨fun h=>⟨ikw (by omega) (by omega),(ydy _).use ?_⟩,fun h30=>⟨fun h=>(ypx a b ha).use ?_,fun h31=>⟨fun h=>⟨fun h0=>?_,fun h0=>(ypx a b ha).use ?_⟩,fun h32=>⟨fun h=>⟨ikw (by omega) (by omega),(ydy _).use ?_⟩,fun h33=>⟨fun h=>⟨ikw (by omega) (by omega),(ydy _).use ?_⟩,fun h34=>?_⟩⟩⟩⟩⟩
 ·simp only[thenO,ybb,go_sem,Nat.reduceEqDiff,Nat.reduceAdd,↓reduceIte,reduceCtorEq];simp[binP,h]
 ·simp only[thenO,go_sem,Nat.reduceEqDiff,Nat.reduceAdd,↓reduceIte,reduceCtorEq];refine(ydy _).use ?_;simp only[ybb,go_sem];simp[binP,h]
 ·simp[binP,h,h0]
 ·simp only[thenO,go_sem,Nat.reduceEqDiff,Nat.reduceAdd,↓reduceIte,reduceCtorEq];refine⟨ikw (by omega) (by omega),ikw (by omega) (by omega),(ydy _).use ?_⟩
  simp only[ybb,go_sem];simp[binP,h,h0]
 ·simp only[thenO,ybb,go_sem,Nat.reduceEqDiff,Nat.reduceAdd,↓reduceIte,reduceCtorEq];simp[binP,h]
 ·simp only[thenO,ybb,go_sem,Nat.reduceEqDiff,Nat.reduceAdd,↓reduceIte,reduceCtorEq];simp[binP,h]
 ·refine⟨fun h=>?_,fun h41=>⟨fun h=>?_,fun h42=>?_⟩⟩
  ·refine⟨fun h1=>(yef _).use ?_,fun h1=>(yef _).use ?_⟩
   ·simp only[thenO,ybb,go_sem,Nat.reduceEqDiff,Nat.reduceAdd,↓reduceIte,reduceCtorEq];simp[binP,h];rw[show(a != 0)=true by simpa using h1];simp
   ·simp only[thenO,ybb,go_sem,Nat.reduceEqDiff,Nat.reduceAdd,↓reduceIte,reduceCtorEq];simp[binP,h,h1]
  ·refine⟨fun h1=>(yef _).use ?_,fun h1=>(yef _).use ?_⟩
   ·simp only[thenO,ybb,go_sem,Nat.reduceEqDiff,Nat.reduceAdd,↓reduceIte,reduceCtorEq];simp[binP,h,h1]
   ·simp only[thenO,ybb,go_sem,Nat.reduceEqDiff,Nat.reduceAdd,↓reduceIte,reduceCtorEq];simp[binP,h];rw[show(a != 0)=true by simpa using h1];simp
  ·refine(ybak op a b).use ?_;simp only[thenO,go_sem,Nat.reduceEqDiff,Nat.reduceAdd,↓reduceIte,reduceCtorEq];refine(yef _).use ?_;simp only[ybb,go_sem];simp[binP,h30,h31,h32,h33,h34,h41,h42]
end Sh
end Go.Proofs.YtpngeppkgoaimaaGreatDoor

namespace Go.Proofs.YtpngeppkgoaimaaGreatDoor
namespace Sh
open Go Ev
set_option maxRecDepth 8000

theorem ysj{l:List Int}{k:Nat}(h:k<l.length):countP (l.take (k+1))=countP (l.take k)+(if l.getD k 0 ≠ 0 then 1 else 0):=by
 unfold countP;rw[List.take_succ_eq_append_getElem h,List.filter_append,List.length_append,getD_at h]
 by_cases q:l[k]=0
 ·simp[q]
 ·simp[q]
theorem ybgt{l:List Int}(k:Nat):0<=countP (l.take k)/\countP (l.take k)<=k:=by
 have:=countP_le (l.take k);simp only[List.length_take]at this;omega
theorem ycaj(l:List Int)(hl:l.length<=1000):Returns Tryz.prog 229 [yu l] (.i .i64 (countP l)):=by
 refine Returns.of (ycyd _ _ ?_);simp only[c229,ycxg,ycqg,ycrk,yu,go_sem,Nat.reduceAdd,↓reduceIte,reduceCtorEq];refine ybd (σ:=Nat) (fun k=>⟨[(8,.i .i64 k),(3,.i .i64 (countP (l.take k))),(6,yu l),(7,.i .i64 l.length)],[]⟩) (fun k=>k<=l.length) (fun k=>l.length - k) 0 (Nat.zero_le _) ?_ ?_
 ·refine yh [] [] [] ?_;simp only[yu,allQ,live,yg,ybb,Int.natCast_zero,go_sem,Nat.reduceEqDiff,↓reduceIte,reduceCtorEq];simp[countP]
 ·intro k hk;simp only[yclo,ycng,ycwk,yctv,ycux,ycix,yu,ybb,go_sem,Nat.reduceEqDiff,Nat.reduceAdd,↓reduceIte,reduceCtorEq];have hb:=ybgt (l:=l) k;refine⟨fun hlt=>⟨by omega,fun h0=>⟨ikw (by omega) (by omega),ikw (by omega) (by omega),?_⟩,fun h0=>⟨ikw (by omega) (by omega),?_⟩⟩,fun hlt=>?_⟩
  ·have hk':k<l.length:=by omega
   refine yj (k+1) (by omega) (by omega) ?_
   refine yh [] [] [] ?_;simp only[ysj hk',if_pos h0,allQ,live,yg,ybb,go_sem,Nat.reduceEqDiff,↓reduceIte,reduceCtorEq];simp
  ·have hk':k<l.length:=by omega
   refine yj (k+1) (by omega) (by omega) ?_
   refine yh [] [] [] ?_;simp only[ysj hk',if_neg (not_not_intro h0),allQ,live,yg,ybb,go_sem,Nat.reduceEqDiff,↓reduceIte,reduceCtorEq];simp
  ·rw[List.take_of_length_le (by omega)]
theorem yqe{l:List Int}{k:Nat}(h:k<l.length):yeb (l.take (k+1))=(if l.getD k 0 > (yeb (l.take k)).1 then(l.getD k 0,(yeb (l.take k)).1)else((yeb (l.take k)).1,max (yeb (l.take k)).2 (l.getD k 0))):=by
 unfold yeb;rw[List.take_succ_eq_append_getElem h,List.foldl_append,getD_at h];rfl
theorem ysq(l:List Int)(hl:l.length<=1000):Returns Tryz.prog 232 [yu l] (.tp [.i .i64 (yeb l).1,.i .i64 (yeb l).2]):=by
 refine Returns.of (ycya _ _ ?_);simp only[c232,ycor,ycxc,ycnf,yu,go_sem,Nat.reduceAdd,↓reduceIte,reduceCtorEq];refine ybd (σ:=Nat) (fun k=>⟨[(8,.i .i64 k),(2,.i .i64 (yeb (l.take k)).1),(3,.i .i64 (yeb (l.take k)).2),(6,yu l),(7,.i .i64 l.length)],[]⟩) (fun k=>k<=l.length) (fun k=>l.length - k) 0 (Nat.zero_le _) ?_ ?_
 ·refine yh [] [] [] ?_;simp only[yu,allQ,live,yg,ybb,Int.natCast_zero,go_sem,Nat.reduceEqDiff,↓reduceIte,reduceCtorEq];simp[yeb]
 ·intro k hk;simp only[yclv,ycry,ycql,ycne,ycjy,ycsx,ycnd,yu,go_sem,Nat.reduceEqDiff,Nat.reduceAdd,↓reduceIte,reduceCtorEq];refine⟨fun hlt=>⟨by omega,fun h0=>⟨ikw (by omega) (by omega),?_⟩,fun h0=>⟨ikw (by omega) (by omega),?_⟩⟩,fun hlt=>?_⟩
  ·have hk':k<l.length:=by omega
   refine yj (k+1) (by omega) (by omega) ?_
   refine yh [] [] [] ?_;simp only[yqe hk',if_pos h0,allQ,live,yg,ybb,go_sem,Nat.reduceEqDiff,↓reduceIte,reduceCtorEq];simp
  ·have hk':k<l.length:=by omega
   refine yj (k+1) (by omega) (by omega) ?_
   refine yh [] [] [] ?_;simp only[yqe hk',if_neg h0,allQ,live,yg,ybb,go_sem,Nat.reduceEqDiff,↓reduceIte,reduceCtorEq];simp
  ·rw[List.take_of_length_le (by omega)]
   exact Sim.refl _
theorem ybav(l:List Int)(x:Int)(hl:l.length<=100000):Returns Tryz.prog 237 [yu l,.i .i64 x] (.b (l.elem x)):=by
 refine Returns.of (ycyr _ _ ?_);simp only[c237,ycol,ycqx,yu,go_sem,Nat.reduceEqDiff,Nat.reduceAdd,↓reduceIte,reduceCtorEq];refine(ybae l x hl).use ?_;simp only[thenO,sim_b,go_sem,Nat.reduceEqDiff,Nat.reduceAdd,↓reduceIte,reduceCtorEq];unfold idxP;cases h:l.findIdx? (fun y=>x == y)with
 | none =>
  rw[List.findIdx?_eq_none_iff]at h
  have:l.elem x=false:=by
   rw[List.elem_eq_mem,decide_eq_false_iff_not];intro hm;have:=h x hm;simp at this
  rw[this];simp
 | some i =>
  obtain⟨h1,h2,_⟩:=List.findIdx?_eq_some_iff_getElem.1 h
  have:l.elem x=true:=by
   rw[List.elem_eq_mem,decide_eq_true_eq];have:x=l[i]:=by simpa using h2
   rw[this];exact List.getElem_mem h1
  rw[this];simp
theorem ybns{l:List Int}{n:Nat}{r:Int}(h:l.elem r=true):yup l (n+1) r=yup l n (r+1):=by
 show(if l.elem r then _ else _)=_;rw[if_pos h]
theorem ybly{l:List Int}{n:Nat}{r:Int}(h:l.elem r=false):yup l n r=r:=by
 cases n with
 | zero=>rfl
 | succ n=>show(if l.elem r then _ else _)=_;rw[if_neg (by rw[h];simp)]
theorem ybay{l:List Int}{k:Nat}(h:∀ j:Nat,j<k->l.elem (j:Int)=true):k<=l.length:=by
 have h1:((List.range k).map fun(j:Nat)=>(j:Int)).Nodup:=by
  rw[List.Nodup,List.pairwise_map];exact List.nodup_range.imp fun {a b} hab e=>hab (by omega)
 have h2:((List.range k).map fun(j:Nat)=>(j:Int)) ⊆ l:=fun x hx=>by
  obtain⟨j,hj,rfl⟩:=List.mem_map.1 hx;have:=h j (List.mem_range.1 hj)
  simpa using this
 have:=List.Nodup.length_le_of_subset h1 h2
 simpa using this
theorem ycyq(l:List Int)(hl:l.length<=1000):Returns Tryz.prog 233 [yu l] (.i .i64 (mexP l)):=by
 refine Returns.of (ycze _ _ ?_);simp only[c233,ycvj,ycqv,yu,go_sem];refine ybd (σ:=Nat) (fun k=>⟨[(3,.i .i64 k),(0,yu l)],[]⟩) (fun k=>(∀ j:Nat,j<k->l.elem (j:Int)=true)/\mexP l=yup l (l.length+1 - k) k) (fun k=>l.length+1 - k) 0 ⟨fun j h=>absurd h (Nat.not_lt_zero _),rfl⟩ ?_ ?_
 ·refine yh [] [] [] ?_;simp only[yu,allQ,live,yg,Int.natCast_zero,go_sem,↓reduceIte,reduceCtorEq]
 ·intro k ⟨hk,he⟩;have hb:=ybay hk;simp only[ycus,ycny,ycjg,yu,go_sem,Nat.reduceEqDiff,Nat.reduceAdd,↓reduceIte,reduceCtorEq];refine(ybav l k (by omega)).use ?_
  simp only[thenO,ybb,go_sem,Nat.reduceEqDiff,Nat.reduceAdd,↓reduceIte,reduceCtorEq];refine⟨fun h=>⟨ikw (by omega) (by omega),?_⟩,fun h=>?_⟩
  ·have hk2:∀ j:Nat,j<k+1->l.elem (j:Int)=true:=fun j hj=>by
    by_cases q:j<k
    ·exact hk j q
    ·obtain rfl:j=k:=by omega
     exact h
   have hb2:=ybay hk2;refine yj (k+1) ⟨hk2,?_⟩ (by omega) ?_
   ·rw[he,show l.length+1 - k=(l.length+1 - (k+1))+1 by omega,ybns h];simp
   ·refine yh [] [] [] ?_;simp only[allQ,live,yg,ybb,go_sem,↓reduceIte,reduceCtorEq];simp
  ·rw[he,ybly h]
theorem ybra(x:Int):Returns Tryz.prog 231 [.i .i64 x] (.b (x != 0)):=by
 refine Returns.of (ydfi _ _ ?_);simp only[c231,ycpc,ycqi,sim_b,go_sem,Nat.reduceEqDiff,Nat.reduceAdd,↓reduceIte,reduceCtorEq]
theorem yxt(l:List Int)(hl:l.length<=1000):Returns Tryz.prog 230 [yu l,.fn 231 [] []] (.i .i64 (yem l)):=by
 refine Returns.of (ydex _ _ ?_);simp only[c230,ycqj,ycmy,yu,go_sem,Nat.reduceAdd,↓reduceIte,reduceCtorEq];refine ybd (σ:=Nat) (fun k=>⟨[(8,.i .i64 k),(0,yu l),(1,.fn 231 [] []),(7,.i .i64 l.length)],[]⟩) (fun k=>k<=l.length/\(l.take k).findIdx? (· != 0)=none) (fun k=>l.length - k) 0 ⟨Nat.zero_le _,by simp⟩ ?_ ?_
 ·refine yh [] [] [] ?_;simp only[yu,allQ,live,yg,Int.natCast_zero,go_sem,Nat.reduceEqDiff,↓reduceIte,reduceCtorEq]
 ·intro k ⟨hk,hno⟩;simp only[ycss,ycmk,yclu,ycrl,ycoa,ycoe,yu,ybb,go_sem,Nat.reduceEqDiff,Nat.reduceAdd,↓reduceIte,reduceCtorEq];refine⟨fun hlt=>⟨by omega,(ybra _).use ?_⟩,fun hlt=>?_⟩
  ·have hlt:k<l.length:=by omega
   simp only[thenO,ybb,go_sem,Nat.reduceEqDiff,Nat.reduceAdd,↓reduceIte,reduceCtorEq];rw[getD_at hlt];refine⟨fun ha=>?_,fun ha=>⟨ikw (by omega) (by omega),?_⟩⟩
   ·have:l.findIdx? (· != 0)=some k:=by
     rw[List.findIdx?_eq_some_iff_getElem];refine⟨hlt,by simpa using ha,fun j hj=>?_⟩
     rw[List.findIdx?_eq_none_iff]at hno;have:=hno l[j] (List.mem_take_iff_getElem.2 ⟨j,by omega,rfl⟩)
     simpa using this
    unfold yem;rw[this]
   ·refine yj (k+1) ⟨by omega,?_⟩ (by omega) ?_
    ·rw[List.take_succ_eq_append_getElem hlt,List.findIdx?_append,hno];simp[ha]
    ·refine yh [] [] [] ?_;simp only[allQ,live,yg,ybb,go_sem,Nat.reduceEqDiff,↓reduceIte,reduceCtorEq];simp
  ·obtain rfl:k=l.length:=by omega
   rw[List.take_length]at hno;unfold yem;rw[hno]
end Sh
end Go.Proofs.YtpngeppkgoaimaaGreatDoor

namespace Go.Proofs.YtpngeppkgoaimaaGreatDoor
namespace Sh
open Go Ev
set_option maxRecDepth 8000

theorem ybgb{l:List Int}{k:Nat}(h:k<l.length):ygi (l.take (k+1))=min (ygi (l.take k)) (l.getD k 0):=by
 unfold ygi;rw[List.take_succ_eq_append_getElem h,List.foldl_append,getD_at h];rfl
theorem yxy{l:List Int}{k:Nat}(h:k<l.length):(l.take (k+1)).sum=(l.take k).sum+l.getD k 0:=by
 rw[List.take_succ_eq_append_getElem h,List.sum_append,getD_at h];simp
theorem ycag{l:List Int}(h:∀ x ∈ l,InB x):∀ k,k<=l.length -> -1073741824 * (k:Int)<=(l.take k).sum/\(l.take k).sum<=1073741824 * (k:Int)
 | 0,_=>by simp
 | k+1,hk=>by
  have ih:=ycag h k (by omega)
  rw[yxy (by omega)]
  have:=h l[k] (List.getElem_mem (by omega))
  rw[<- getD_at (d:=0) (show k<l.length by omega)]at this
  unfold InB at this;omega
theorem ychq(op:Int)(l:List Int)(hl:l.length<=24)(hb:∀ x ∈ l,InB x):Returns Tryz.prog 222 [.i .i64 op,yu l] (.i .i64 (ygg op l)):=by
 refine Returns.of (ydfu _ _ ?_);have hin:∀ k,k<l.length->InB (l.getD k 0):=fun k hk=>by rw[getD_at hk];exact hb _ (List.getElem_mem hk)
 obtain⟨L,hL⟩:∃ L,yu l=L:=⟨_,rfl⟩;have hLs:L = .sl 1 l.length (fun k=>[.i .i64 (l.getD k 0)]):=hL.symm;simp only[c222,ycuk,ycig,ycwp,ycmc,yclk,ycva,ycnl,ycio,ycnv,ycll,ybqg,ybsq,ybvg,ycao,ybyn,ybue,ycbi,ybuj,ybxt,ycbw,ybui,ybti,ybxm,ybyb,ybuz,ybwx,ybyu,ybvx,ybrz,ybvj,ybxj,ybrv,ycat,ybxa,ycai,ycck,ybrb,yu,go_sem,Int.reduceToNat,Nat.reduceEqDiff,Nat.reduceAdd,↓reduceIte,reduceCtorEq]
 have hcount:=ycaj l (by omega)
 have htwo:=ysq l (by omega)
 simp only[yu]at hcount htwo;refine⟨fun h20=>hcount.use ?_,fun h20=>⟨fun h21=>hcount.use ?_,fun h21=>⟨fun h22=>hcount.use ?_,fun h22=>⟨fun h23=>?_,fun h23=>⟨fun h24=>?_,fun h24=>⟨fun h25=>htwo.use ?_,fun h25=>⟨fun h26=>?_,fun h26=>⟨fun h27=>?_,fun h27=>⟨fun h28=>htwo.use ?_,fun h28=>?_⟩⟩⟩⟩⟩⟩⟩⟩⟩
 ·simp only[thenO,go_sem,Nat.reduceEqDiff,Nat.reduceAdd,↓reduceIte,reduceCtorEq];refine(yef _).use ?_;simp only[ybb,go_sem];simp[ygg,h20]
 ·simp only[thenO,go_sem,Nat.reduceEqDiff,Nat.reduceAdd,↓reduceIte,reduceCtorEq];refine(yef _).use ?_;simp only[ybb,go_sem];simp[ygg,h21]
 ·simp only[thenO,ybb,go_sem,Nat.reduceEqDiff,Nat.reduceAdd,↓reduceIte,reduceCtorEq];simp[ygg,h22]
 ·have:=yxt l (by omega)
  simp only[yu]at this;refine this.use ?_;simp only[thenO,ybb,go_sem,Nat.reduceEqDiff,Nat.reduceAdd,↓reduceIte,reduceCtorEq];simp[ygg,h23]
 ·refine ybd (σ:=Nat) (fun k=>⟨[(42,.i .i64 k),(5,.i .i64 (ygi (l.take k))),(40,yu l),(41,.i .i64 l.length)],[]⟩) (fun k=>k<=l.length) (fun k=>l.length - k) 0 (Nat.zero_le _) ?_ ?_
  ·refine yh [] [] [] ?_;simp only[yu,allQ,live,yg,ybb,Int.natCast_zero,go_sem,Nat.reduceEqDiff,↓reduceIte,reduceCtorEq];simp[ygi]
  ·intro k hk;simp only[yu,ybb,go_sem,Nat.reduceEqDiff,Nat.reduceAdd,↓reduceIte,reduceCtorEq];refine⟨fun hlt=>⟨by omega,ikw (by omega) (by omega),?_⟩,fun hlt=>?_⟩
   ·have hk':k<l.length:=by omega
    refine yj (k+1) (by omega) (by omega) ?_
    refine yh [] [] [] ?_;simp only[ybgb hk',allQ,live,yg,ybb,go_sem,Nat.reduceEqDiff,↓reduceIte,reduceCtorEq];simp
   ·rw[List.take_of_length_le (by omega)]
    simp[ygg,h24]
 ·simp only[thenO,ybb,go_sem,Nat.reduceEqDiff,Nat.reduceAdd,↓reduceIte,reduceCtorEq];simp[ygg,h25]
 ·refine ybd (σ:=Nat) (fun k=>⟨[(63,.i .i64 k),(10,.i .i64 (l.take k).sum),(61,yu l),(62,.i .i64 l.length)],[]⟩) (fun k=>k<=l.length) (fun k=>l.length - k) 0 (Nat.zero_le _) ?_ ?_
  ·refine yh [] [] [] ?_;simp only[yu,allQ,live,yg,ybb,Int.natCast_zero,go_sem,Nat.reduceEqDiff,↓reduceIte,reduceCtorEq];simp
  ·intro k hk;simp only[yu,go_sem,Nat.reduceEqDiff,Nat.reduceAdd,↓reduceIte,reduceCtorEq];have hs:=ycag hb k hk;refine⟨fun hlt=>?_,fun hlt=>(ydy _).use ?_⟩
   ·have hk':k<l.length:=by omega
    have hs2:=ycag hb (k+1) hk';rw[yxy hk']at hs2;refine⟨by omega,ikw (by omega) (by omega),ikw (by omega) (by omega),?_⟩
    refine yj (k+1) (by omega) (by omega) ?_
    refine yh [] [] [] ?_;simp only[yxy hk',allQ,live,yg,ybb,go_sem,Nat.reduceEqDiff,↓reduceIte,reduceCtorEq];simp
   ·simp only[thenO,ybb,go_sem,Nat.reduceEqDiff,Nat.reduceAdd,↓reduceIte,reduceCtorEq];rw[List.take_of_length_le (by omega)]
    simp[ygg,h26]
 ·have:=ycyq l (by omega)
  simp only[yu]at this;refine this.use ?_;simp only[thenO,ybb,go_sem,Nat.reduceEqDiff,Nat.reduceAdd,↓reduceIte,reduceCtorEq];simp[ygg,h27]
 ·simp only[thenO,ybb,go_sem,Nat.reduceEqDiff,Nat.reduceAdd,↓reduceIte,reduceCtorEq];simp[ygg,h28]
 ·refine⟨fun h0=>?_,fun h0=>⟨by omega,?_⟩⟩
  ·simp only[ybb,go_sem];have:l = []:=List.eq_nil_of_length_eq_zero (by omega)
   simp[ygg,h20,h21,h22,h23,h24,h25,h26,h27,h28,this]
  ·cases l with
   | nil=>simp at h0
   | cons x l=>
    simp only[ybb,go_sem];simp[ygg,h20,h21,h22,h23,h24,h25,h26,h27,h28]
end Sh
end Go.Proofs.YtpngeppkgoaimaaGreatDoor

