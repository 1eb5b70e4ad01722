/- Joined. -/
import Derived.Test.YthclbjjgfcgbgaaGreatDoorPkCh13
import Derived.Test.YthclbjjgfcgbgaaGreatDoorPkCh9
set_option linter.unusedSimpArgs false
set_option linter.unusedVariables false
set_option maxRecDepth 8000
open Nat renaming reduceEqDiff->zA,reduceAdd->zB,reduceLT->zC,reduceLeDiff->zI,zero_le->zU,ble_eq_true_of_le->zX,not_lt_zero->zAA,le_refl->zAC,lt_of_lt_of_eq->zAO,eq_zero_or_pos->zAP,lt_irrefl->zBA,lt_or_ge->zBB,mul_comm->zBD,beq->zBH
open List renaming take_succ_eq_append_getElem->zD,getElem_mem->zF,range->zG,mem_cons_of_mem->zH,getElem?_eq_getElem->zK,getD->zM,mem_cons_self->zN,eq_nil_of_length_eq_zero->zQ,take_length->zT,foldl_append->zV,getElem_map->zW,length_map->zY,foldl_cons->zZ,getElem_of_mem->zAB,not_mem_nil->zAF,length_erase_of_mem->zAG,map_append->zAJ,getElem?_set_self->zAK,getElem?_set_ne->zAL,mem_erase_of_ne->zAM,nodup_append->zAQ,pairwise_map->zAR,ext_getElem->zAS,countP_cons->zAT,countP_nil->zAU,replicate->zAX,map_cons->zAY,flatMap->zBC,length->zBE
open Int renaming le_refl->zJ,natCast_zero->zL,tdiv_eq_ediv_of_nonneg->zAD,toNat_natCast->zAE,lt_or_le->zAH,le_trans->zAI,toNat_of_nonneg->zAN,reduceToNat->zAW
open Go.Proofs.Tryz renaming prog->zO
open Bool renaming and_eq_true->zS,eq_iff_iff->zAV,true_and->zAZ
open Classical renaming choose_spec->zBF,choose->zBG
open Go
namespace Go.Proofs.YthclbjjgfcgbgaaGreatDoor
section
namespace Sh
open Ev Go.RowKit
def blV(l:List Bool):SV:=.sl 1 l.length (fun k=>[.b (l.getD k false)])
def ychx(l:List Bool)(k:Nat):Bool:=(l.take k).any id
structure HeldOk(legit:List Bool)(ks:List Cnt)(rounds moves:Int)(ended:Bool):Prop where
 len:legit.length=ks.length
 pos:0<legit.length
 stays:∀i,i<legit.length->ychx legit i=true->legit.getD i false=true
 rounds:∀i,i<legit.length->ychx legit (i+1)=false->((ks.getD i default).begun:Int)<=rounds
 moves:∀i,i<legit.length->ychx legit (i+1)=false->0<=moves->((ks.getD i default).moves:Int)<=moves
 ends:ychx legit legit.length=true\/ended=false
def ydbc(kind:Int)(fair silent:Bool)(rounds moves:Int):List SV:=[.i .i64 kind,.b fair,.b silent,.i .i64 rounds,.i .i64 moves]
end Sh
end
section
namespace Sh
open Ev Go.RowKit
theorem ycga{n nv:Nat}{c:Conf}(h:ConfIn n nv c):ybyc c:=fun s hs x hx=>by
 have:=(h.row s hs).2 x hx;unfold InB at this;exact yiz (by omega)
end Sh
end
section
namespace Sh
open Go Ev
end Sh
end
section
namespace Sh
open Ev Go.RowKit
end Sh
end
section
structure Tgt(S:Sys)(V:Conf->Prop)(T:Conf->Nat->List Int):Prop where
 valid:∀c s,V c->s≠0->subB s (S.en c)->V (S.mv c s)
 stay:∀c s v,V c->v<S.n->s.testBit v=false->(S.mv c s).getD v []=c.getD v []
 move:∀c s v,V c->v<S.n->s.testBit v=true->subB s (S.en c)->(S.mv c s).getD v []=T c v
 en:∀c v,V c->v<S.n->((S.en c).testBit v=false↔c.getD v []=T c v)
theorem Tgt.rounds{S:Sys}{V:Conf->Prop}{T:Conf->Nat->List Int}(h:Tgt S V T){P:Nat->Nat->List Int->Prop}(hT:∀c v r,V c->v<S.n->(∀u,u<S.n->P r u (c.getD u []))->P (r+1) v (T c v))(hl:∀r v s,P (r+1) v s->P r v s):ByRounds S V P where
 valid:=h.valid
 stay:=h.stay
 move:=fun c s v r hv hn hb hs hall=>by rw[h.move c s v hv hn hb hs];exact hT c v r hv hn hall
 rest:=fun c v r hv hn hb hall=>by rw[(h.en c v hv hn).1 hb];exact hT c v r hv hn hall
 less:=hl
theorem Tgt.silent{S:Sys}{V:Conf->Prop}{T:Conf->Nat->List Int}(h:Tgt S V T){P:Nat->Nat->List Int->Prop}(hT:∀c v r,V c->v<S.n->(∀u,u<S.n->P r u (c.getD u []))->P (r+1) v (T c v)){c:Conf}(hv:V c)(h0:∀v,v<S.n->P 0 v (c.getD v []))(he:S.en c=0):∀r v,v<S.n->P r v (c.getD v [])
 |0,v,hn=>h0 v hn
 | r+1,v,hn=>by
   rw[(h.en c v hv hn).1 (by rw[he];simp)]
   exact hT c v r hv hn (Tgt.silent h hT hv h0 he r)
theorem Tgt.en_zero{S:Sys}{V:Conf->Prop}{T:Conf->Nat->List Int}(h:Tgt S V T){c:Conf}(hv:V c)(hlt:S.en c<2^S.n)(ht:∀v,v<S.n->c.getD v []=T c v):S.en c=0:=by
 rw[yjx];intro i
 by_cases hi:i<S.n
 .exact(h.en c i hv hi).2 (ht i hi)
 .exact Nat.testBit_lt_two_pow (Nat.lt_of_lt_of_le hlt (Nat.pow_le_pow_right (by omega) (by omega)))
end
section
open Go.RowKit
end
section
def yht(g:Gr):Nat:=(g.ports.map zBE).sum
def addL(back:Bool)(l:List (Int×Int))(x:Int×Int):List (Int×Int):=if back then x::l else l++[x]
theorem yep{back:Bool}{l:List (Int×Int)}{x y:Int×Int}:y∈addL back l x↔y=x\/y∈l:=by
 unfold addL;cases back<;>simp[or_comm]
def ycp(back:Bool)(g:Gr)(a b:Nat)(w:Int):Gr:=⟨g.ids,(g.ports.set a (addL back (g.ports.getD a []) (b,w))).set b (addL back (g.ports.getD b []) (a,w))⟩
theorem yef(back:Bool)(g:Gr){a b:Nat}(w:Int)(ha:a<g.ports.length)(hb:b<g.ports.length)(v:Nat) :
 (ycp back g a b w).ports.getD v []=if v=b then addL back (g.ports.getD b []) (a,w)else if v=a then addL back (g.ports.getD a []) (b,w)else g.ports.getD v []:=by
 unfold ycp;simp only[zM]
 by_cases h1:v=b
 .subst h1;rw[if_pos rfl,zAK (by simpa using hb)]
  rfl
 .rw[if_neg h1,zAL (fun q=>h1 q.symm)]
  by_cases h2:v=a
  .subst h2;rw[if_pos rfl,zAK ha];rfl
  .rw[if_neg h2,zAL (fun q=>h2 q.symm)]
theorem yqw{back:Bool}{l:List (Int×Int)}{v n:Int}{x:Int×Int}(h:ydh l v n)(hx:ync v n x)(hno:∀y∈l,y.1≠x.1):ydh (addL back l x) v n:=by
 refine⟨fun y hy=>?_,?_⟩
 .rcases yep.1 hy with rfl|hy
  .exact hx
  .exact h.1 y hy
 .have hn:x.1∉l.map (·.1):=fun hm=>by
   obtain⟨y,hy,e⟩:=List.mem_map.1 hm;exact hno y hy e
  unfold addL;cases back
  .simp only[Bool.false_eq_true,if_false,zAJ,zAY,List.map_nil];rw[zAQ];refine⟨h.2,by simp,fun p hp q hq=>?_⟩
   rw[List.mem_singleton]at hq;subst hq;intro e;exact hn (e▸hp)
  .simp only[if_true,zAY];exact List.nodup_cons.2 ⟨hn,h.2⟩
theorem ybda{back:Bool}{g:Gr}(hg:ybj g){a b:Nat}{w:Int}(ha:a<g.ports.length)(hb:b<g.ports.length)(hab:a≠b)(hw:1<=w/\w<=15)(hno:∀y∈g.ports.getD a [],y.1≠(b:Int)):ybj (ycp back g a b w):=by
 obtain⟨h1,h2,h3,h4,h5,h6,h7⟩:=hg;have hlen:(ycp back g a b w).ports.length=g.ports.length:=by simp[ycp]
 have gd:∀(v:Nat) (hv:v<g.ports.length),g.ports.getD v []=g.ports[v]:=fun v hv=>by simp[zM,hv]
 have hno2:∀y∈g.ports.getD b [],y.1≠(a:Int):=fun y hy e=>by
  rw[gd b hb]at hy;have:=h7 ⟨b,hb⟩ y hy;rw[e,zAE]at this;exact hno _ this rfl
 have at_:∀(v:Nat) (hv:v<g.ports.length),(ycp back g a b w).ports[v]'(by rw[hlen];exact hv)=if v=b then addL back (g.ports.getD b []) (a,w)else if v=a then addL back (g.ports.getD a []) (b,w)else g.ports.getD v []:=fun v hv=>by
  rw[<-yef back g w ha hb v];simp[zM,hlen,hv]
 refine⟨by rw[hlen];exact h1,by rw[hlen];exact h2,by rw[hlen];exact h3,h4,h5,fun v=>?_,fun v l hl=>?_⟩
 .have hv:v.1<g.ports.length:=zAO v.isLt hlen;have hl':(((ycp back g a b w).ports.length:Nat):Int)=(g.ports.length:Int):=by rw[hlen]
  rw[hl'];show ydh ((ycp back g a b w).ports[v.1]) _ _;rw[at_ v.1 hv];split
  .rename_i e
   rw[e];refine yqw ?_ ⟨by simp only[];omega,by simp only[];omega,by simp only[];omega,hw.1,hw.2⟩ hno2
   rw[gd b hb];exact h6 ⟨b,hb⟩
  .split
   .rename_i e
    rw[e];refine yqw ?_ ⟨by simp only[];omega,by simp only[];omega,by simp only[];omega,hw.1,hw.2⟩ hno
    rw[gd a ha];exact h6 ⟨a,ha⟩
   .rw[gd v.1 hv];exact h6 ⟨v.1,hv⟩
 .have hv:v.1<g.ports.length:=zAO v.isLt hlen
  change l∈(ycp back g a b w).ports[v.1]at hl
  rw[at_ v.1 hv]at hl
  have old:∀u x,x∈g.ports.getD u []->x∈(ycp back g a b w).ports.getD u []:=fun u x hx=>by
   rw[yef back g w ha hb u];split
   .rename_i e;subst e;exact yep.2 (.inr hx)
   .split
    .rename_i e;subst e;exact yep.2 (.inr hx)
    .exact hx
  have sym:∀(u:Nat) (hu:u<g.ports.length),l∈g.ports.getD u []->((u:Int),l.2)∈(ycp back g a b w).ports.getD l.1.toNat []:=fun u hu hx=>by
   rw[gd u hu]at hx;exact old _ _ (h7 ⟨u,hu⟩ l hx)
  split at hl
  .rename_i e
   rcases yep.1 hl with rfl|hl
   .rw[yef back g w ha hb,e];simp only[zAE];simp only[if_neg hab,if_true];exact yep.2 (.inl rfl)
   .rw[e];exact sym b hb hl
  .split at hl
   .rename_i e
    rcases yep.1 hl with rfl|hl
    .rw[yef back g w ha hb,e];simp only[zAE];simp only[if_true];exact yep.2 (.inl rfl)
    .rw[e];exact sym a ha hl
   .exact sym v.1 hv hl
end
section
def Tre(g:Gr)(m:Nat):Prop:=∀v,0<v->v<m->∃u,u<v/\adj g u v
theorem Tre.walk{g:Gr}{m:Nat}(h:Tre g m):∀v,v<m->∃k,Walk g 0 k v:=by
 intro v
 induction v using Nat.strongRecOn with
 | _ v ih =>
   intro hv
   by_cases h0:v=0
   .subst h0;exact⟨0,rfl⟩
   .obtain⟨u,hu,ha⟩:=h v (by omega) hv
    obtain⟨k,hk⟩:=ih u hu (by omega)
    exact⟨k+1,u,hk,ha⟩
theorem Tre.conn{g:Gr}(hg:ybj g)(h:Tre g g.ports.length):ygk g=true:=by
 unfold ygk;rw[(yfb g).2 hg,zAZ,ybfv hg (a:=0) (by have:=hg.1;omega)]
 exact h.walk
theorem ymn{g:Gr}{u v:Nat}:adj g u v↔∃l,l∈g.ports.getD u []/\l.1=(v:Int):=by
 constructor
 .rintro⟨ls,h,l,hl,e⟩;exact⟨l,by simpa[zM,h]using hl,e⟩
 .rintro⟨l,hl,e⟩;cases h:g.ports[u]? with
  |none=>simp[zM,h]at hl
  |some ls=>exact⟨ls,h,l,by simpa[zM,h]using hl,e⟩
theorem ybhp{back:Bool}{g:Gr}{a b:Nat}{w:Int}(ha:a<g.ports.length)(hb:b<g.ports.length){u v:Nat}(h:adj g u v):adj (ycp back g a b w) u v:=by
 obtain⟨l,hl,e⟩:=ymn.1 h;refine ymn.2 ⟨l,?_,e⟩;rw[yef back g w ha hb u];split
 .rename_i q;subst q;exact yep.2 (.inr hl)
 .split
  .rename_i q;subst q;exact yep.2 (.inr hl)
  .exact hl
theorem ybik{back:Bool}{g:Gr}{a b:Nat}{w:Int}(ha:a<g.ports.length)(hb:b<g.ports.length)(hab:a≠b):adj (ycp back g a b w) a b:=by
 refine ymn.2 ⟨((b:Int),w),?_,rfl⟩;rw[yef back g w ha hb a,if_neg hab,if_pos rfl];exact yep.2 (.inl rfl)
theorem Tre.add{back:Bool}{g:Gr}{a b:Nat}{w:Int}(ha:a<g.ports.length)(hb:b<g.ports.length){m:Nat}(h:Tre g m):Tre (ycp back g a b w) m:=fun v h0 hv=>by
 obtain⟨u,hu,hadj⟩:=h v h0 hv;exact⟨u,hu,ybhp ha hb hadj⟩
def bare(ids:List Int):Gr:=⟨ids,zAX ids.length []⟩
theorem ycdo{ids:List Int}(h1:1<=ids.length)(h2:ids.length<=24)(h3:∀x∈ids,0<=x/\x<=255)(h4:ids.Nodup):ybj (bare ids):=by
 have e:∀v:Fin (bare ids).ports.length,(bare ids).ports[v]=[]:=fun v=>by
  have hv:v.1<ids.length:=by have:=v.isLt;simpa[bare]using this
  show(zAX ids.length ([]:List (Int×Int)))[v.1]'(by simpa using hv)=[]
  exact List.getElem_replicate ..
 refine⟨by simpa[bare]using h1,by simpa[bare]using h2,by simp[bare],h3,h4,fun v=>?_,fun v l hl=>?_⟩
 .rw[e v];exact⟨fun l hl=>(nomatch hl),List.nodup_nil⟩
 .rw[e v]at hl;cases hl
end
section
abbrev eNum(k:Int):Ex:=.leaf 1 k
abbrev eVar(k:Int):Ex:=.leaf 5 k
abbrev eN:Ex:=.leaf 6 0
abbrev eQ(k:Int):Ex:=.leaf 12 k
theorem ycab{α:Type}(g:Gr)(v:Nat)(f:Int×Int->α)(h:Nat->α)(e:∀q,q<(g.ports.getD v []).length->h q=f ((g.ports.getD v []).getD q (0,0))):(zG (g.ports.getD v []).length).map h=(g.ports.getD v []).map f:=by
 refine zAS (by simp) fun i h1 h2=>?_
 have hi:i<(g.ports.getD v []).length:=by simpa using h1
 rw[zW,List.getElem_range,zW,e i hi];congr 1;rw[List.getD_eq_getElem?_getD,zK hi];rfl
def endP(c:Conf)(k:Nat)(l:Int×Int):Int:=(c.getD l.1.toNat []).getD k 0
theorem ybuw(b:Bool):(ygd b != 0)=b:=by cases b<;>rfl
section
variable {nm nd np nt nl:ByteArray}{g:Gr}{c:Conf}{v:Nat}
theorem bT1{x:ByteArray}:ybn g v ⟨x,1,0,0,1,0⟩=(0,0+1*(g.ids.length:Int)+0*maxI g.ids):=by
 show(if (1:Int)=1 then _ else _)=_
 rw[if_pos rfl]
end
end
section
section
variable {g:Gr}{a v:Nat}
theorem yit(hg:ybj g)(hc:ygk g=true)(ha:a<g.ports.length)(hv:v<g.ports.length):∃k:Nat,(yca g a).getD v 0=k/\Walk g a k v/\(∀j,j<k->¬Walk g a j v)/\k<g.ports.length:=by
 have h0:0<g.ports.length:=by omega
 have hall:(yca g a).all (fun x=>decide (0<=x))=true:=ychw hg h0 ha ((zS _ _▸hc).2);have hl:=yhz hg ha;have hvl:v<(yca g a).length:=by rw[hl];exact hv
 have e:(yca g a).getD v 0=(yca g a)[v]:=by simp[zM,hvl]
 have hpos:0<=(yca g a)[v]:=by simpa using List.all_eq_true.1 hall _ (zF hvl)
 rcases(yfa hg ha).2 v _ (zK hvl)with⟨h,_⟩|⟨k,h1,h2,h3⟩
 .omega
 .exact⟨k,by rw[e,h1],h2,h3,yuf hg ha h2 h3⟩
theorem ydbt{k:Nat}(hg:ybj g)(hc:ygk g=true)(ha:a<g.ports.length)(hv:v<g.ports.length)(h1:Walk g a k v)(h2:∀j,j<k->¬Walk g a j v):(yca g a).getD v 0=k:=by
 obtain⟨j,e,h3,h4,_⟩:=yit hg hc ha hv;rcases Nat.lt_trichotomy j k with h|h|h
 .exact absurd h3 (h2 j h)
 .rw[e,h]
 .exact absurd h1 (h4 k h)
theorem ybzd(hg:ybj g)(hc:ygk g=true)(ha:a<g.ports.length):(yca g a).getD a 0=0:=ydbt hg hc ha ha (k:=0) rfl fun j hj=>by omega
theorem ybzu(hg:ybj g)(hc:ygk g=true)(ha:a<g.ports.length)(hv:v<g.ports.length):0<=(yca g a).getD v 0/\(yca g a).getD v 0<g.ports.length:=by
 obtain⟨k,e,_,_,h⟩:=yit hg hc ha hv;omega
theorem ycia(hg:ybj g)(hc:ygk g=true)(ha:a<g.ports.length){u:Nat}(h:adj g u v):(yca g a).getD v 0<=(yca g a).getD u 0+1:=by
 obtain⟨hu,hv⟩:=hg.adj_lt h;obtain⟨k,e,h1,_,_⟩:=yit hg hc ha hu;obtain⟨j,e',_,h3,_⟩:=yit hg hc ha hv;rw[e,e'];rcases zBB (k+1) j with q|q
 .exact absurd ⟨u,h1,h⟩ (h3 (k+1) q)
 .omega
theorem ybev(hg:ybj g)(hc:ygk g=true)(ha:a<g.ports.length)(hv:v<g.ports.length)(hne:v≠a):∃u,adj g v u/\(yca g a).getD u 0=(yca g a).getD v 0-1:=by
 obtain⟨k,e,h1,h2,_⟩:=yit hg hc ha hv;cases k with
 |zero=>exact absurd h1 hne
 | succ k =>
   obtain⟨u,h3,h4⟩:=h1;refine⟨u,hg.adj_symm h4,?_⟩;have h5:=ycia hg hc ha h4;obtain⟨hu,_⟩:=hg.adj_lt h4;obtain⟨j,e',_,h6,_⟩:=yit hg hc ha hu;rw[e,e']at h5;rcases zBB k j with q|q
   .exact absurd h3 (h6 k q)
   .rw[e,e'];omega
theorem ygj{l:Int×Int}(hg:ybj g)(hv:v<g.ports.length)(hl:l∈g.ports.getD v []):0<=l.1/\l.1.toNat<g.ports.length/\adj g v l.1.toNat/\1<=l.2/\l.2<=15:=by
 have e:g.ports[v]?=some (g.ports.getD v []):=by simp[zM,hv]
 have h:=hg.link e hl;exact⟨h.1,by omega,⟨_,e,l,hl,by omega⟩,h.2.2.2.1,h.2.2.2.2⟩
theorem yqe{u:Nat}(h:adj g v u):∃l∈g.ports.getD v [],l.1.toNat=u:=by
 obtain⟨l,hl,e⟩:=ymn.1 h;exact⟨l,hl,by rw[e];simp⟩
end
section
variable {nm nd np nt nl:ByteArray}{g:Gr}
end
end
section
def ydb(g:Gr):Bool:=ygk g&&decide (yht g/2+1=g.ports.length)
theorem ycek{α:Type}[DecidableEq α]:∀{l1 l2:List α},l1.Nodup->(∀x∈l1,x∈l2)->l2.length<=l1.length->∀x∈l2,x∈l1
 | [],l2,_,_,h,x,hx=>by
   have:l2=[]:=zQ (by simpa using h)
   rw[this]at hx;exact absurd hx zAF
 | a :: t,l2,hn,hs,h,x,hx=>by
   have hn:=List.nodup_cons.1 hn
   by_cases q:x=a
   .rw[q];exact zN
   .refine zH _ (ycek (l2:=l2.erase a) hn.2 (fun y hy=>?_) ?_ x ((zAM q).2 hx))
    .refine(zAM fun e=>hn.1 (by rw[<-e];exact hy)).2 (hs y (zH _ hy))
    .rw[zAG (hs a zN)];simp only[List.length_cons]at h;omega
structure TreeM(g:Gr):Prop where
 up:∀a v u,a<g.ports.length->adj g v u->(yca g a).getD u 0=(yca g a).getD v 0-1\/(yca g a).getD u 0=(yca g a).getD v 0+1
 one:∀a v u w,a<g.ports.length->adj g v u->adj g v w->(yca g a).getD u 0=(yca g a).getD v 0-1->(yca g a).getD w 0=(yca g a).getD v 0-1->u=w
theorem ydws{g:Gr}(hg:ybj g)(hc:ygk g=true)(ht:yht g<=2*(g.ports.length-1)):TreeM g:=by
 have key:∀a,a<g.ports.length->∃up:Nat->Nat,∀v u,adj g v u->(v≠a/\u=up v/\(yca g a).getD u 0=(yca g a).getD v 0-1)\/(yca g a).getD u 0=(yca g a).getD v 0+1:=fun a ha=>by
  have ex:∀v,v<g.ports.length->v≠a->∃u,adj g v u/\(yca g a).getD u 0=(yca g a).getD v 0-1:=fun v hv hne=>ybev hg hc ha hv hne
  obtain⟨up,hup⟩:∃up:Nat->Nat,∀v,v<g.ports.length->v≠a->adj g v (up v)/\(yca g a).getD (up v) 0=(yca g a).getD v 0-1:=by
   refine⟨fun v=>if h:v<g.ports.length/\v≠a then zBG (ex v h.1 h.2)else 0,fun v hv hne=>?_⟩
   simp only[dif_pos (show v<g.ports.length/\v≠a from⟨hv,hne⟩)]
   exact zBF (ex v hv hne)
  let U:List (Nat×Nat):=((zG g.ports.length).erase a).map fun v=>(v,up v)
  let P:List (Nat×Nat):=(zG g.ports.length).flatMap fun v=>(g.ports.getD v []).map fun l=>(v,l.1.toNat)
  have hnd:((zG g.ports.length).erase a).Nodup:=List.nodup_range.erase a
  have mU:∀x y,(x,y)∈U↔x<g.ports.length/\x≠a/\y=up x:=fun x y=>by
   show(x,y)∈((zG g.ports.length).erase a).map (fun v=>(v,up v))↔_;rw[List.mem_map];constructor
   .rintro⟨v,hv,e⟩;cases e
    have hv:=(List.nodup_range.mem_erase_iff).1 hv;exact⟨List.mem_range.1 hv.2,hv.1,rfl⟩
   .rintro⟨h1,h2,rfl⟩;exact⟨x,(List.nodup_range.mem_erase_iff).2 ⟨h2,List.mem_range.2 h1⟩,rfl⟩
  have mP:∀x y,(x,y)∈P↔x<g.ports.length/\adj g x y:=fun x y=>by
   show(x,y)∈zBC _ _↔_;rw[List.mem_flatMap];constructor
   .rintro⟨v,hv,h⟩;obtain⟨l,hl,e⟩:=List.mem_map.1 h;cases e
    have hv:=List.mem_range.1 hv;exact⟨hv,(ygj hg hv hl).2.2.1⟩
   .rintro⟨h1,h2⟩;obtain⟨l,hl,e⟩:=yqe h2;exact⟨x,List.mem_range.2 h1,List.mem_map.2 ⟨l,hl,by rw[e]⟩⟩
  have dU:∀x y,(x,y)∈U->(yca g a).getD y 0=(yca g a).getD x 0-1:=fun x y h=>by
   obtain⟨h1,h2,rfl⟩:=(mU x y).1 h;exact(hup x h1 h2).2
  have nU:U.Nodup:=by
   show(((zG g.ports.length).erase a).map (fun v=>(v,up v))).Nodup;rw[List.Nodup,zAR];exact hnd.imp fun h e=>h (congrArg Prod.fst e)
  have nD:(U.map fun p=>(p.2,p.1)).Nodup:=by
   rw[List.Nodup,zAR];exact nU.imp fun h e=>h (by simp only[Prod.mk.injEq]at e;exact Prod.ext e.2 e.1)
  have nUD:(U++U.map fun p=>(p.2,p.1)).Nodup:=by
   rw[zAQ];refine⟨nU,nD,?_⟩;rintro⟨x,y⟩ h1 ⟨x',y'⟩ h2 e;cases e
   obtain⟨⟨p,q⟩,h3,e⟩:=List.mem_map.1 h2;cases e
   have a1:=dU _ _ h1;have a2:=dU _ _ h3;simp only at a1 a2;omega
  have lU:U.length=g.ports.length-1:=by
   show(List.map _ _).length=_;rw[zY,zAG (List.mem_range.2 ha),List.length_range]
  have lP:P.length=yht g:=by
   show(zBC _ _).length=_;rw[List.length_flatMap];unfold yht;congr 1;refine zAS (by simp) fun i h1 h2=>?_
   have hi:i<g.ports.length:=by simpa using h2
   simp[zM,hi]
  have hall:=ycek nUD (l2:=P) (fun p hp=>by
   obtain⟨x,y⟩:=p;rcases List.mem_append.1 hp with h|h
   .obtain⟨h1,h2,rfl⟩:=(mU x y).1 h;exact(mP _ _).2 ⟨h1,(hup x h1 h2).1⟩
   .obtain⟨⟨p,q⟩,h3,e⟩:=List.mem_map.1 h;cases e
    obtain⟨h1,h2,e⟩:=(mU _ _).1 h3;simp only at e ⊢;subst e;have h4:=(hup p h1 h2).1;exact(mP _ _).2 ⟨(hg.adj_lt h4).2,hg.adj_symm h4⟩) (by have lD:(U.map fun p=>(p.2,p.1)).length=U.length:=zY _;rw[List.length_append,lD,lU,lP];omega)
  refine⟨up,fun v u h=>?_⟩;have h1:=hall (v,u) ((mP v u).2 ⟨(hg.adj_lt h).1,h⟩);rcases List.mem_append.1 h1 with h|h
  .left
   obtain⟨_,h2,h3⟩:=(mU v u).1 h;exact⟨h2,h3,dU _ _ h⟩
  .right
   obtain⟨⟨p,q⟩,h3,e⟩:=List.mem_map.1 h;cases e
   have:=dU _ _ h3;simp only at this ⊢;omega
 constructor
 .intro a v u ha h;obtain⟨up,hup⟩:=key a ha;rcases hup v u h with⟨_,_,h3⟩|h3
  .exact .inl h3
  .exact .inr h3
 .intro a v u w ha h1 h2 e1 e2;obtain⟨up,hup⟩:=key a ha;rcases hup v u h1 with⟨_,h3,_⟩|h3
  .rcases hup v w h2 with⟨_,h4,_⟩|h4
   .rw[h3,h4]
   .omega
  .omega
end
section
def dP(g:Gr)(a v:Nat):Int:=(yca g a).getD v 0
structure Tr(g:Gr):Prop where
 good:ybj g
 conn:ygk g=true
 m:TreeM g
section
variable {g:Gr}{a b u v w x:Nat}
theorem Tr.self(h:Tr g)(ha:a<g.ports.length):dP g a a=0:=ybzd h.good h.conn ha
theorem Tr.nonneg(h:Tr g)(ha:a<g.ports.length)(hv:v<g.ports.length):0<=dP g a v:=(ybzu h.good h.conn ha hv).1
theorem Tr.lt_n(h:Tr g)(ha:a<g.ports.length)(hv:v<g.ports.length):dP g a v<g.ports.length:=(ybzu h.good h.conn ha hv).2
theorem Tr.up(h:Tr g)(ha:a<g.ports.length)(hu:adj g v u):dP g a u=dP g a v-1\/dP g a u=dP g a v+1:=h.m.up a v u ha hu
theorem Tr.one(h:Tr g)(ha:a<g.ports.length)(hu:adj g v u)(hx:adj g v x)(e1:dP g a u=dP g a v-1)(e2:dP g a x=dP g a v-1):u=x:=h.m.one a v u x ha hu hx e1 e2
theorem Tr.back(h:Tr g)(ha:a<g.ports.length)(hv:v<g.ports.length)(hne:v≠a):∃u,adj g v u/\dP g a u=dP g a v-1:=ybev h.good h.conn ha hv hne
theorem Tr.adj1(h:Tr g)(hu:adj g v u):dP g v u=1:=by
 obtain⟨hv,hu'⟩:=h.good.adj_lt hu;have h1:=h.up hv hu;have h2:=h.self hv;have h3:=h.nonneg hv hu';omega
def rchP(g:Gr)(v u:Nat):Int:=(zG g.ports.length).foldl (fun m w=>if dP g w u<dP g w v then max m (dP g w v)else m) 0
theorem ybaq(f:Nat->Int)(p:Nat->Prop)[DecidablePred p]:∀(l:List Nat) (m:Int),m<=l.foldl (fun m w=>if p w then max m (f w)else m) m/\(∀w∈l,p w->f w<=l.foldl (fun m w=>if p w then max m (f w)else m) m)/\(l.foldl (fun m w=>if p w then max m (f w)else m) m=m\/∃w∈l,p w/\f w=l.foldl (fun m w=>if p w then max m (f w)else m) m)
 |[],m=>⟨zJ _,fun w hw=>absurd hw zAF,.inl rfl⟩
 | x :: l,m=>by
   obtain⟨h1,h2,h3⟩:=ybaq f p l (if p x then max m (f x)else m)
   simp only[zZ];refine⟨?_,fun w hw hp=>?_,?_⟩
   .clear h2 h3
    have:m<=if p x then max m (f x)else m:=by split<;>omega
    omega
   .rcases List.mem_cons.1 hw with rfl|hw
    .rw[if_pos hp]at h1 ⊢;omega
    .exact h2 w hw hp
   .clear h2
    rcases h3 with h3|⟨w,hw,hp,e⟩
    .by_cases hp:p x
     .rw[if_pos hp]at h3 ⊢;rcases Int.le_total (f x) m with q|q
      .left;rw[h3];omega
      .right;exact⟨x,zN,hp,by rw[h3];omega⟩
     .rw[if_neg hp]at h3 ⊢;exact .inl h3
    .exact .inr ⟨w,zH _ hw,hp,e⟩
theorem yccg(hw:w<g.ports.length)(h:dP g w u<dP g w v):dP g w v<=rchP g v u :=
 (ybaq (fun w=>dP g w v) (fun w=>dP g w u<dP g w v) (zG g.ports.length) 0).2.1 w (List.mem_range.2 hw) h
theorem Tr.rch_pos(h:Tr g)(hu:adj g v u):1<=rchP g v u:=by
 obtain⟨hv,hu'⟩:=h.good.adj_lt hu;have h1:=h.adj1 (h.good.adj_symm hu);have h2:=h.self hu';have:=yccg (g:=g) (w:=u) (u:=u) (v:=v) hu' (by omega)
 omega
theorem Tr.rch_ex(h:Tr g)(hu:adj g v u):∃w,w<g.ports.length/\dP g w u<dP g w v/\dP g w v=rchP g v u:=by
 rcases(ybaq (fun w=>dP g w v) (fun w=>dP g w u<dP g w v) (zG g.ports.length) 0).2.2 with e|⟨w,hw,hp,e⟩
 .have:=h.rch_pos hu;have e:rchP g v u=0:=e;omega
 .exact⟨w,List.mem_range.1 hw,hp,e⟩
theorem Tr.into(h:Tr g)(hu:adj g v u)(hx:adj g u x)(hne:x≠v)(hw:w<g.ports.length)(hs:dP g w x<dP g w u):dP g w u<dP g w v/\dP g w v=dP g w u+1:=by
 have h1:=h.up hw hx;have h2:=h.up hw (h.good.adj_symm hu);rcases h2 with h2|h2
 .exact absurd (h.one hw hx (h.good.adj_symm hu) (by omega) h2) hne
 .omega
theorem Tr.rch_step(h:Tr g)(hu:adj g v u)(hx:adj g u x)(hne:x≠v):1+rchP g u x<=rchP g v u:=by
 obtain⟨w,hw,h1,h2⟩:=h.rch_ex hx;obtain⟨h3,h4⟩:=h.into hu hx hne hw h1;have:=yccg hw h3;omega
theorem Tr.rch_from(h:Tr g)(hu:adj g v u)(h2:2<=rchP g v u):∃x,adj g u x/\x≠v/\rchP g v u=1+rchP g u x:=by
 obtain⟨hv,hu'⟩:=h.good.adj_lt hu;obtain⟨w,hw,h3,h4⟩:=h.rch_ex hu;have h5:=h.up hw (h.good.adj_symm hu)
 have hne:w≠u:=fun e=>by
  subst e;have:=h.self hw;omega
 obtain⟨x,hx,h6⟩:=h.back hw hu' (fun e=>hne e.symm);have hxv:x≠v:=fun e=>by subst e;omega
 refine⟨x,hx,hxv,?_⟩;have a:=h.rch_step hu hx hxv;have b:=yccg (g:=g) (u:=x) (v:=u) hw (by omega)
 omega
def step2(p:Int×Int)(a:Int):Int×Int:=if a>p.1 then(a,p.1)else(p.1,max p.2 a)
def top2(b:Int)(l:List Int):Int×Int:=l.foldl step2 (b,b)
theorem ycee(b:Int)(l:List Int)(a:Int):top2 b (l++[a])=step2 (top2 b l) a:=by unfold top2;rw[zV];rfl
theorem ybcb(b:Int)(l:List Int):∀k,k<=l.length->b<=(top2 b (l.take k)).2/\(top2 b (l.take k)).2<=(top2 b (l.take k)).1/\∀m,b<m->(m<=(top2 b (l.take k)).1↔1<=(l.take k).countP fun x=>decide (m<=x))/\(m<=(top2 b (l.take k)).2↔2<=(l.take k).countP fun x=>decide (m<=x))
 | 0,_=>by
   refine⟨zJ _,zJ _,fun m hm=>?_⟩;have e:(top2 b (l.take 0))=(b,b):=rfl;rw[e];simp only[List.take_zero,zAU];omega
 | k + 1,hk=>by
   obtain⟨h1,h2,h3⟩:=ybcb b l k (by omega)
   rw[zD (show k<l.length by omega),ycee]
   generalize l[k]=a
   have hc:∀m,(l.take k++[a]).countP (fun x=>decide (m<=x))=(l.take k).countP (fun x=>decide (m<=x))+if m<=a then 1 else 0:=fun m=>by
    rw[List.countP_append,zAT,zAU];simp
   generalize top2 b (l.take k)=P at *
   unfold step2;split
   .refine⟨by simp only;omega,by simp only;omega,fun m hm=>?_⟩
    obtain⟨h4,h5⟩:=h3 m hm;rw[hc];simp only;constructor
    .split<;>omega
    .split<;>omega
   .refine⟨by simp only;omega,by simp only;omega,fun m hm=>?_⟩
    obtain⟨h4,h5⟩:=h3 m hm;rw[hc];simp only;constructor
    .split<;>omega
    .split<;>omega
theorem yju(b:Int)(l:List Int):b<=(top2 b l).2/\(top2 b l).2<=(top2 b l).1/\∀m,b<m->(m<=(top2 b l).1↔1<=l.countP fun x=>decide (m<=x))/\(m<=(top2 b l).2↔2<=l.countP fun x=>decide (m<=x)):=by
 have h:=ybcb b l l.length (zAC _)
 rwa [zT]at h
theorem ybcg{p:Int×Int->Bool}:∀{ls:List (Int×Int)},(ls.map (·.1)).Nodup->(2<=ls.countP p↔∃a∈ls,∃b∈ls,a.1≠b.1/\p a=true/\p b=true)
 |[],_=>by simp
 | l :: ls,hn=>by
   have hn:=List.nodup_cons.1 hn;have ih:=ybcg (p:=p) hn.2
   have one:1<=ls.countP p↔∃a∈ls,p a=true:=by
    rw[Nat.one_le_iff_ne_zero,Nat.ne_zero_iff_zero_lt,List.countP_pos_iff]
   have hno:∀a∈ls,l.1≠a.1:=fun a ha e=>hn.1 (List.mem_map.2 ⟨a,ha,e.symm⟩);rw[zAT];constructor
   .intro h
    by_cases hp:p l=true
    .rw[if_pos hp]at h;obtain⟨a,ha,hpa⟩:=one.1 (by omega)
     exact⟨l,zN,a,zH _ ha,hno a ha,hp,hpa⟩
    .rw[if_neg hp]at h;obtain⟨a,ha,b,hb,q⟩:=ih.1 (by omega)
     exact⟨a,zH _ ha,b,zH _ hb,q⟩
   .rintro⟨a,ha,b,hb,hab,hpa,hpb⟩;rcases List.mem_cons.1 ha with ea|ha
    .rcases List.mem_cons.1 hb with eb|hb
     .exact absurd (by rw[ea,eb]) hab
     .have:=one.2 ⟨b,hb,hpb⟩;rw[<-ea,if_pos hpa];omega
    .rcases List.mem_cons.1 hb with eb|hb
     .have:=one.2 ⟨a,ha,hpa⟩;rw[<-eb,if_pos hpb];omega
     .have:=ih.2 ⟨a,ha,b,hb,hab,hpa,hpb⟩;omega
theorem ytj(hg:ybj g)(hv:v<g.ports.length):((g.ports.getD v []).map (·.1)).Nodup:=by
 have h:=(hg.2.2.2.2.2.1 ⟨v,hv⟩).2;have e0:g.ports[v]=g.ports.getD v []:=by rw[Sh.getD_at hv]
 have h:((g.ports[v]).map (·.1)).Nodup:=h
 rwa [e0]at h
theorem ycba(hg:ybj g)(hv:v<g.ports.length){f:Nat->Int}{m:Int}:2<=((g.ports.getD v []).map fun l=>f l.1.toNat).countP (fun x=>decide (m<=x))↔∃a b,adj g v a/\adj g v b/\a≠b/\m<=f a/\m<=f b:=by
 rw[List.countP_map,ybcg (ytj hg hv)];constructor
 .rintro⟨a,ha,b,hb,hne,hpa,hpb⟩;obtain⟨a1,_,a3,_⟩:=ygj hg hv ha;obtain⟨b1,_,b3,_⟩:=ygj hg hv hb;exact⟨_,_,a3,b3,by omega,of_decide_eq_true hpa,of_decide_eq_true hpb⟩
 .rintro⟨a,b,ha,hb,hne,hpa,hpb⟩;obtain⟨la,hla,ea⟩:=yqe ha;obtain⟨lb,hlb,eb⟩:=yqe hb;exact⟨la,hla,lb,hlb,fun e=>hne (by rw[<-ea,<-eb,e]),decide_eq_true (by show m<=f la.1.toNat;rw[ea];exact hpa),decide_eq_true (by show m<=f lb.1.toNat;rw[eb];exact hpb)⟩
def htP(g:Gr)(v:Nat):Int:=(top2 0 ((g.ports.getD v []).map fun l=>rchP g v l.1.toNat)).2
theorem yhf(g:Gr)(v:Nat):0<=htP g v:=(yju 0 _).1
theorem ywq(hg:ybj g)(hv:v<g.ports.length){m:Int}(hm:1<=m):m<=htP g v↔∃a b,adj g v a/\adj g v b/\a≠b/\m<=rchP g v a/\m<=rchP g v b:=by
 rw[<-ycba hg hv (f:=fun u=>rchP g v u)];exact((yju 0 _).2.2 m (by omega)).2
theorem Tr.ht_step(h:Tr g)(hv:v<g.ports.length){m:Int}(hm:1<=m)(hd:∃a b,adj g v a/\adj g v b/\a≠b):m<=htP g v↔∃a b,adj g v a/\adj g v b/\a≠b/\m-1<=htP g a/\m-1<=htP g b:=by
 rw[ywq h.good hv hm]
 by_cases h1:m=1
 .subst h1;obtain⟨a,b,ha,hb,hne⟩:=hd;exact⟨fun _=>⟨a,b,ha,hb,hne,by have:=yhf g a;omega,by have:=yhf g b;omega⟩,fun _=>⟨a,b,ha,hb,hne,h.rch_pos ha,h.rch_pos hb⟩⟩
 have key:∀a b,adj g v a->adj g v b->a≠b->m<=rchP g v a->m<=rchP g v b->m-1<=htP g a:=fun a b ha hb hne ra rb=>by
  rw[ywq h.good (h.good.adj_lt ha).2 (by omega)]
  obtain⟨x,hx,hxv,e⟩:=h.rch_from ha (by omega)
  have s:=h.rch_step (h.good.adj_symm ha) hb (fun e=>hne e.symm);exact⟨v,x,h.good.adj_symm ha,hx,fun e=>hxv e.symm,by omega,by omega⟩
 have key2:∀a,adj g v a->m-1<=htP g a->m<=rchP g v a:=fun a ha hh=>by
  rw[ywq h.good (h.good.adj_lt ha).2 (by omega)]at hh
  obtain⟨x,y,hx,hy,hne,rx,ry⟩:=hh
  by_cases q:x=v
  .have s:=h.rch_step ha hy (fun e=>hne (by rw[q,e]))
   omega
  .have s:=h.rch_step ha hx q;omega
 constructor
 .rintro⟨a,b,ha,hb,hne,ra,rb⟩;exact⟨a,b,ha,hb,hne,key a b ha hb hne ra rb,key b a hb ha (fun e=>hne e.symm) rb ra⟩
 .rintro⟨a,b,ha,hb,hne,ra,rb⟩;exact⟨a,b,ha,hb,hne,key2 a ha ra,key2 b hb rb⟩
theorem Tr.thru(h:Tr g)(hw:w<g.ports.length):∀(k:Nat) (v u x:Nat),adj g v u->dP g w u=dP g w v+1->x<g.ports.length->dP g x u<dP g x v->(dP g x u).toNat<k->dP g w x=dP g w u+dP g x u
 |0,v,u,x,_,_,_,_,hk=>by omega
 | k + 1,v,u,x,hu,hwu,hx,hs,hk=>by
   obtain⟨hv,hu'⟩:=h.good.adj_lt hu
   by_cases e:x=u
   .subst e;rw[h.self hx];omega
   .obtain⟨y,hy,h1⟩:=h.back hx hu' (fun q=>e q.symm);have hyv:y≠v:=fun q=>by subst q;omega
    have h2:=h.up hw hy
    have hw1:dP g w y=dP g w u+1:=by
     rcases h2 with h2|h2
     .exact absurd (h.one hw hy (h.good.adj_symm hu) h2 (by omega)) hyv
     .exact h2
    have:=h.nonneg hx (h.good.adj_lt hy).2;have ih:=Tr.thru h hw k u y x hy hw1 hx (by omega) (by omega)
    omega
theorem Tr.apart(h:Tr g)(ha:adj g v a)(hb:adj g v b)(hne:a≠b)(hw:w<g.ports.length)(hx:x<g.ports.length)(h1:dP g w a<dP g w v)(h2:dP g x b<dP g x v):dP g w x=dP g w v+dP g x v:=by
 have a1:=h.up hw ha;have b1:=h.up hw hb;have b2:=h.up hx hb
 have hwb:dP g w b=dP g w v+1:=by
  rcases b1 with q|q
  .exact absurd (h.one hw ha hb (by omega) q) hne
  .exact q
 have:=h.thru hw _ v b x hb hwb hx h2 (Nat.lt_succ_self _);omega
end
end
section
def ybsb:Ex:=.agg 28 (eQ 0)
def ybht:Ex:=.ite (.bin 37 (.leaf 9 0) (eNum 2)) (eNum 0) (.ite (.bin 37 ybsb eN) (.bin 33 ybsb (eNum 1)) eN)
def yex(nm h r:ByteArray):ProgT:=⟨nm,[⟨h,1,0,0,1,0⟩],[⟨r,.bin 36 (eVar 0) ybht,[(0,ybht)]⟩]⟩
def cnS(g:Gr)(c:Conf)(v:Nat):Int:=(top2 (-1073741824) ((g.ports.getD v []).map (endP c 0))).2
def cnV(g:Gr)(c:Conf)(v:Nat):Int:=if ((g.ports.getD v []).length:Int)<2 then 0 else if cnS g c v<(g.ids.length:Int)then cnS g c v+1 else(g.ids.length:Int)
section
variable {nm nh nr:ByteArray}{g:Gr}{c:Conf}{v:Nat}
theorem ydoq(g:Gr)(c:Conf)(v:Nat):-1073741824<=cnS g c v:=(yju (-1073741824) _).1
theorem ychj(g:Gr)(c:Conf)(v:Nat)(p:Int):yfn g c v ybsb p=cnS g c v:=by
 show yje 28 _=_;unfold yje;rw[if_neg (by decide),if_neg (by decide),if_neg (by decide),if_neg (by decide),if_neg (by decide),if_neg (by decide),if_neg (by decide),if_neg (by decide),if_pos rfl]
 show(ydq _).2=_;unfold cnS;have e:∀l,ydq l=top2 (-1073741824) l:=fun l=>rfl;rw[e];congr 2;exact ycab g v _ _ fun q hq=>rfl
theorem yblw(hg:ybj g)(p:Int):yfn g c v ybht p=cnV g c v:=by
 have h1:=hg.2.1;have h2:=hg.2.2.1;have h3:=ydoq g c v;show(if binP 37 ((g.ports.getD v []).length:Int) 2≠0 then 0 else if binP 37 (yfn g c v ybsb p) (g.ids.length:Int)≠0 then satP (yfn g c v ybsb p+1)else(g.ids.length:Int))=_
 rw[ychj];have e3:∀a b:Int,binP 37 a b=ygd (decide (a<b)):=fun a b=>rfl;rw[e3,e3];unfold cnV;have tT:ygd true≠0:=by decide
 have tF:¬ygd false≠0:=by decide
 by_cases q:((g.ports.getD v []).length:Int)<2
 .rw[if_pos q,decide_eq_true q,if_pos tT]
 .rw[if_neg q,decide_eq_false q,if_neg tF]
  by_cases q2:cnS g c v<(g.ids.length:Int)
  .rw[if_pos q2,decide_eq_true q2,if_pos tT];unfold satP;omega
  .rw[if_neg q2,decide_eq_false q2,if_neg tF]
theorem Tr.ht_lt(h:Tr g)(hv:v<g.ports.length):htP g v<g.ports.length:=by
 rcases zAH (htP g v) 1 with q|q
 .omega
 .obtain⟨a,b,ha,_,_,hr,_⟩:=(ywq h.good hv q).1 (zJ _);obtain⟨w,hw,_,e⟩:=h.rch_ex ha;have:=h.lt_n hw hv;omega
theorem yuk(hg:ybj g)(hv:v<g.ports.length):2<=(g.ports.getD v []).length↔∃a b,adj g v a/\adj g v b/\a≠b:=by
 constructor
 .intro h;have m0:(g.ports.getD v [])[0]∈g.ports.getD v []:=zF _;have m1:(g.ports.getD v [])[1]∈g.ports.getD v []:=zF _;obtain⟨a1,_,a3,_⟩:=ygj hg hv m0;obtain⟨b1,_,b3,_⟩:=ygj hg hv m1;refine⟨_,_,a3,b3,fun e=>?_⟩;have hn:=ytj hg hv;have h0':0<((g.ports.getD v []).map (·.1)).length:=by rw[zY];omega
  have h1':1<((g.ports.getD v []).map (·.1)).length:=by rw[zY];omega
  have:=(List.getElem_inj (h₀:=h0') (h₁:=h1') hn).1 (by rw[zW,zW];omega)
  omega
 .rintro⟨a,b,ha,hb,hne⟩;obtain⟨la,hla,ea⟩:=yqe ha;obtain⟨lb,hlb,eb⟩:=yqe hb;obtain⟨i,hi,e1⟩:=zAB hla;obtain⟨j,hj,e2⟩:=zAB hlb
  have:i≠j:=fun e=>by
   subst e;rw[e1]at e2;exact hne (by rw[<-ea,<-eb,e2])
  omega
theorem Tr.cn_next(h:Tr g)(hv:v<g.ids.length)(r:Nat)(hall:∀u,u<g.ids.length->if htP g u<(r:Int)then(c.getD u []).getD 0 0=htP g u else(r:Int)<=(c.getD u []).getD 0 0) :
 if htP g v<((r+1:Nat):Int)then cnV g c v=htP g v else((r+1:Nat):Int)<=cnV g c v:=by
 have hpl:=h.good.2.2.1;have hvp:v<g.ports.length:=by omega
 have hlt:=h.ht_lt hvp;have h0:=yhf g v
 by_cases hd:2<=(g.ports.getD v []).length
 .have eV:cnV g c v=if cnS g c v<(g.ids.length:Int)then cnS g c v+1 else(g.ids.length:Int):=by unfold cnV;rw[if_neg (by omega)]
  rw[eV];have hd2:=(yuk h.good hvp).1 hd
  have agree:∀u (j:Int),u<g.ids.length->j<=r->(j<=(c.getD u []).getD 0 0↔j<=htP g u):=fun u j hu hj=>by
   have:=hall u hu;split at this
   .rw[this]
   .omega
  have key:∀m:Int,1<=m->m<=r+1->(m<=cnS g c v+1↔m<=htP g v):=fun m h1 h2=>by
   rw[h.ht_step hvp h1 hd2];have e:=((yju (-1073741824) ((g.ports.getD v []).map (endP c 0))).2.2 (m-1) (by omega)).2
   have e2:=ycba h.good hvp (f:=fun u=>(c.getD u []).getD 0 0) (m:=m-1);have e3:m<=cnS g c v+1↔m-1<=cnS g c v:=by omega
   rw[e3];refine e.trans (e2.trans ?_);constructor
   .rintro⟨a,b,ha,hb,hne,q1,q2⟩;exact⟨a,b,ha,hb,hne,(agree a _ (by have:=(h.good.adj_lt ha).2;omega) (by omega)).1 q1,(agree b _ (by have:=(h.good.adj_lt hb).2;omega) (by omega)).1 q2⟩
   .rintro⟨a,b,ha,hb,hne,q1,q2⟩;exact⟨a,b,ha,hb,hne,(agree a _ (by have:=(h.good.adj_lt ha).2;omega) (by omega)).2 q1,(agree b _ (by have:=(h.good.adj_lt hb).2;omega) (by omega)).2 q2⟩
  have h1:1<=htP g v:=by
   rw[h.ht_step hvp (zJ 1) hd2];obtain⟨a,b,ha,hb,hne⟩:=hd2;exact⟨a,b,ha,hb,hne,by have:=yhf g a;omega,by have:=yhf g b;omega⟩
  by_cases hq:htP g v<((r+1:Nat):Int)
  .rw[if_pos hq];have k1:=(key (htP g v) h1 (by omega)).2 (zJ _)
   have k2:¬htP g v+1<=cnS g c v+1:=fun q=>by
    have:=(key (htP g v+1) (by omega) (by omega)).1 q
    omega
   rw[if_pos (by omega)]
   omega
  .rw[if_neg hq];have k1:=(key (r+1) (by omega) (by omega)).2 (by omega)
   split<;>omega
 .have eV:cnV g c v=0:=by unfold cnV;rw[if_pos (by omega)]
  rw[eV]
  have:htP g v=0:=by
   rcases zAH (htP g v) 1 with q|q
   .omega
   .obtain⟨a,b,ha,hb,hne,_⟩:=(ywq h.good hvp q).1 (zJ _);exact absurd ((yuk h.good hvp).2 ⟨a,b,ha,hb,hne⟩) hd
  rw[this,if_pos (by omega)]
theorem Tr.ht_diam(h:Tr g)(hv:v<g.ports.length){d:Int}(hd:∀a b,a<g.ports.length->b<g.ports.length->dP g a b<=d):2*htP g v<=d:=by
 rcases zAH (htP g v) 1 with q|q
 .have:=hd v v hv hv;have:=h.self hv;have:=yhf g v;omega
 .obtain⟨a,b,ha,hb,hne,r1,r2⟩:=(ywq h.good hv q).1 (zJ _);obtain⟨w,hw,w1,w2⟩:=h.rch_ex ha;obtain⟨x,hx,x1,x2⟩:=h.rch_ex hb;have:=h.apart ha hb hne hw hx w1 x1;have:=hd w x hw hx;omega
structure CnC(g:Gr)(c:Conf):Prop where
 len:c.length=g.ids.length
 row:∀v,v<g.ids.length->(c.getD v []).length=1/\(0<=(c.getD v []).getD 0 0/\(c.getD v []).getD 0 0<=g.ids.length)
theorem ygo(hc:ydk (yex nm nh nr) g c=true):CnC g c:=by
 have h:=(yff _ _ _).1 hc;refine⟨h.1,fun v hv=>?_⟩;have hlt:v<c.length:=by rw[h.1];exact hv
 have e:c.getD v []=c[v]:=by simp[zM,hlt]
 have h2:=h.2 v _ (zK hlt);rw[e];have hl:c[v].length=1:=h2.1;have a0:(ybn g v ⟨nh,1,0,0,1,0⟩).1<=c[v][0]/\c[v][0]<=(ybn g v ⟨nh,1,0,0,1,0⟩).2:=h2.2 0 _ _ rfl (zK (by omega))
 have e0:c[v].getD 0 0=c[v][0]:=by simp[zM,hl]
 rw[e0];rw[bT1]at a0;simp only at a0;exact⟨hl,by omega,by omega⟩
theorem yczu{s:List Int}(h:s.length=1)(x:Int):s=[x]↔s.getD 0 0=x:=by
 match s,h with
 |[a],_=>simp
theorem ybiv(hg:ybj g)(h:CnC g c)(hv:v<g.ids.length):yee (yex nm nh nr) g c v=if c.getD v []=[cnV g c v]then -1 else 0:=by
 have h2:=(h.row v hv).1
 have e1:yol g c v ⟨nr,.bin 36 (eVar 0) ybht,[(0,ybht)]⟩ = !decide (c.getD v []=[cnV g c v]):=by
  show(binP 36 ((c.getD v []).getD 0 0) (yfn g c v ybht (-1))!=0)=_;have b36:∀a b:Int,binP 36 a b=ygd (a != b):=fun a b=>rfl;rw[yblw hg,b36,ybuw];rw[zAV];simp only[bne_iff_ne,Bool.not_eq_true',decide_eq_false_iff_not];rw[yczu h2]
 unfold yee yex;simp only[List.findIdx?_cons,e1,List.findIdx?_nil]
 by_cases hs:c.getD v []=[cnV g c v]
 .rw[if_pos hs,decide_eq_true hs];rfl
 .rw[if_neg hs,decide_eq_false hs];rfl
theorem ydmi(hg:ybj g)(hv:v<g.ids.length)(h0:∀u,u<g.ids.length->0<=(c.getD u []).getD 0 0):0<=cnV g c v/\cnV g c v<=g.ids.length:=by
 have hpl:=hg.2.2.1;unfold cnV;split
 .omega
 .rename_i q
  have:0<=cnS g c v:=by
   have e:=((yju (-1073741824) ((g.ports.getD v []).map (endP c 0))).2.2 0 (by omega)).2
   refine e.2 ((ycba hg (by omega) (f:=fun u=>(c.getD u []).getD 0 0) (m:=0)).2 ?_)
   obtain⟨a,b,ha,hb,hne⟩:=(yuk hg (v:=v) (by omega)).1 (by omega)
   exact⟨a,b,ha,hb,hne,h0 a (by have:=(hg.adj_lt ha).2;omega),h0 b (by have:=(hg.adj_lt hb).2;omega)⟩
  split<;>omega
theorem ybfq(hg:ybj g):Sh.ybcz (yex nm nh nr) g=true:=by
 have h1:=hg.1;have h2:=hg.2.1;have h3:=hg.2.2.1;simp[Sh.ybcz,yex,ybn];omega
theorem ydov:(yex nm nh nr).ok=true:=by kernel_rfl
theorem ybkl(hg:ybj g):Tgt (yko (yex nm nh nr) g) (fun c=>ydk (yex nm nh nr) g c=true) (fun c v=>[cnV g c v]) where
 valid:=fun c s hc _ _=>Sh.yir hg ydov (ybfq hg) hc s
 stay:=fun c s v hc hv hb=>by
  have hl:=(ygo hc).len;show(yfs _ g c s).getD v []=_;rw[Sh.yoc _ g c s (by rw[hl];exact hv),hb]
  rfl
 move:=fun c s v hc hv hb hs=>by
  have hcf:=ygo hc;have hv:v<g.ids.length:=hv;show(yfs _ g c s).getD v []=_;rw[Sh.yoc _ g c s (by rw[hcf.len];exact hv),hb,if_pos rfl]
  have hne:c.getD v []≠[cnV g c v]:=fun he=>by
   have h1:=hs v hb;have h1:(ykn _ g.ids.length).testBit v=true:=h1;rw[ykl]at h1;simp only[zS,decide_eq_true_eq]at h1;rw[ybiv hg hcf hv,if_pos he]at h1;omega
  rw[ybiv hg hcf hv,if_neg hne]
  obtain⟨x,hx⟩:∃x,c.getD v []=[x]:=by
   have:=(hcf.row v hv).1
   match hq:c.getD v [],this with
   |[x],_=>exact⟨x,rfl⟩
  obtain⟨b1,b2⟩:=ydmi hg hv fun u hu=>(hcf.row u hu).2.1;unfold yjt yrp;rw[hx];show[ymb 1 (ybn g v ⟨nh,1,0,0,1,0⟩) (yfn g c v ybht (-1))]=_;rw[yblw hg];congr 1;unfold ymb;rw[bT1,if_pos (by simp only;omega)]
 en:=fun c v hc hv=>by
  have hv:v<g.ids.length:=hv;show(ykn _ g.ids.length).testBit v=false↔_;rw[ykl,ybiv hg (ygo hc) hv,decide_eq_true hv,zAZ,decide_eq_false_iff_not]
  by_cases he:c.getD v []=[cnV g c v]
  .rw[if_pos he];exact⟨fun _=>he,fun _=>by omega⟩
  .rw[if_neg he];exact⟨fun h=>(h (by omega)).elim,fun h=>absurd h he⟩
def cnR(g:Gr)(r v:Nat)(s:List Int):Prop:=if htP g v<(r:Int)then s=[htP g v]else(r:Int)<=s.getD 0 0
theorem ybih(h:Tr g)(hc:CnC g c)(hv:v<g.ids.length)(r:Nat)(hall:∀u,u<g.ids.length->cnR g r u (c.getD u [])):cnR g (r+1) v [cnV g c v]:=by
 have:=h.cn_next hv r fun u hu=>by
  have:=hall u hu;unfold cnR at this;split at this
  .rw[this];rw[if_pos (by assumption)];rfl
  .rw[if_neg (by assumption)];exact this
 unfold cnR;split at this
 .rw[if_pos (by assumption),this]
 .rw[if_neg (by assumption)];exact this
theorem ychd(r v:Nat)(s:List Int)(h:cnR g (r+1) v s):cnR g r v s:=by
 unfold cnR at *;split at h
 .split
  .exact h
  .rw[h];show(r:Int)<=htP g v;omega
 .rw[if_neg (by omega)];omega
theorem ybki(hc:CnC g c)(hv:v<g.ids.length):cnR g 0 v (c.getD v []):=by
 unfold cnR;have:=yhf g v;rw[if_neg (by omega)]
 exact(hc.row v hv).2.1
def ybfy(g:Gr)(c:Conf):Prop:=∀v,v<g.ids.length->c.getD v []=[htP g v]
theorem ybsl{c:Conf}(h:ybfy g c)(r v:Nat)(hv:v<g.ids.length):cnR g r v (c.getD v []):=by
 rw[h v hv];unfold cnR;split
 .rfl
 .show _<=htP g v;omega
theorem ychk(h:Tr g){c:Conf}(hv:ydk (yex nm nh nr) g c=true):ybq (yex nm nh nr) g c=0↔ybfy g c:=by
 have hpl:=h.good.2.2.1;have h24:=h.good.2.1;constructor
 .intro he v hn;have:=(ybkl (nm:=nm) (nh:=nh) (nr:=nr) h.good).silent (P:=cnR g) (fun c v r hc' hn hall=>ybih h (ygo hc') hn r hall) hv (fun v hn=>ybki (ygo hv) hn) he 100 v hn;have:=h.ht_lt (v:=v) (by omega)
  unfold cnR at *;rw[if_pos (by omega)]at *
  assumption
 .intro hr;refine(ybkl (nm:=nm) (nh:=nh) (nr:=nr) h.good).en_zero hv (Sh.yvh _ g c) fun v hn=>?_;have hn:v<g.ids.length:=hn;have h1:=ybih h (ygo hv) hn 100 fun u hu=>ybsl hr 100 u hu;have:=h.ht_lt (v:=v) (by omega)
  unfold cnR at h1;rw[if_pos (by omega)]at h1
  rw[h1];exact hr v hn
end
end
section
section
variable {g:Gr}{a b u v w x:Nat}
def Peak(g:Gr)(v:Nat):Prop:=∀u,adj g v u->htP g u<=htP g v
end
end
section
namespace Sh
section
variable {nm nd np nt nl:ByteArray}{g:Gr}
end
end Sh
end
section
structure ByRoundsC(S:Sys)(V:Conf->Prop)(D:Nat->Prop)(P:Nat->Nat->Conf->Prop):Prop where
 valid:∀c s,V c->s≠0->subB s (S.en c)->D s->V (S.mv c s)
 stay:∀c s v r r',r<=r'->r'<=r+1->V c->v<S.n->s.testBit v=false->subB s (S.en c)->D s->(∀u,u<S.n->P r u c)->P r' v c->P r' v (S.mv c s)
 move:∀c s v r,V c->v<S.n->s.testBit v=true->subB s (S.en c)->D s->(∀u,u<S.n->P r u c)->P (r+1) v (S.mv c s)
 rest:∀c v r,V c->v<S.n->(S.en c).testBit v=false->(∀u,u<S.n->P r u c)->P (r+1) v c
 less:∀r v c,P (r+1) v c->P r v c
structure RInvC(S:Sys)(V:Conf->Prop)(P:Nat->Nat->Conf->Prop)(c:Conf)(k:Cnt):Prop where
 valid:V c
 all:∀v,v<S.n->P k.rounds v c
 done:∀v,v<S.n->k.pend.testBit v=false->P (k.rounds+1) v c
 begun:k.begun<=k.rounds+1
section
variable {S:Sys}{V:Conf->Prop}{D:Nat->Prop}{P:Nat->Nat->Conf->Prop}
end
end
section
def hAt(c:Conf)(v:Nat):Int:=(c.getD v []).getD 0 0
def lAt(c:Conf)(v:Nat):Int:=(c.getD v []).getD 1 0
section
variable {nm nh nl nf nd nt ni:ByteArray}{g:Gr}{c:Conf}{u v w:Nat}
structure ElC(g:Gr)(c:Conf):Prop where
 len:c.length=g.ids.length
 row:∀v,v<g.ids.length->(c.getD v []).length=2/\(0<=hAt c v/\hAt c v<=g.ids.length)/\(lAt c v=0\/lAt c v=1)
open Classical in
end
end
section
structure Stab(g:Gr)(c:Conf)(v:Nat):Prop where
 low:¬Peak g v->lAt c v=0
 one:Peak g v->(∀u,adj g v u->htP g u<htP g v)->lAt c v=1
 two:Peak g v->∀u,adj g v u->htP g u=htP g v->lAt c u≠lAt c v
section
variable {nm nh nl nf nd nt ni:ByteArray}{g:Gr}{c:Conf}{u v w s:Nat}
end
end
section
theorem ybdt{α:Type}(f:α->Int)(p:α->Bool):∀(l:List α) (m:Int),m<=l.foldl (fun m w=>if p w then max m (f w)else m) m/\(∀w∈l,p w=true->f w<=l.foldl (fun m w=>if p w then max m (f w)else m) m)/\∀t,m<=t->(∀w∈l,p w=true->f w<=t)->l.foldl (fun m w=>if p w then max m (f w)else m) m<=t
 |[],m=>⟨zJ _,fun w hw=>absurd hw zAF,fun t ht _=>ht⟩
 | x :: l,m=>by
   obtain⟨h1,h2,h3⟩:=ybdt f p l (if p x then max m (f x)else m)
   rw[zZ];refine⟨?_,fun w hw hp=>?_,fun t ht hl=>h3 t ?_ fun w hw=>hl w (zH _ hw)⟩
   .refine zAI ?_ h1;split<;>omega
   .rcases List.mem_cons.1 hw with e|hw
    .subst e;refine zAI ?_ h1;rw[if_pos hp];omega
    .exact h2 w hw hp
   .by_cases q:p x=true
    .rw[if_pos q];have:=hl x zN q;omega
    .rw[if_neg q];exact ht
section
variable {g:Gr}{u v:Nat}
def ypu(g:Gr)(v u:Nat)(m:Int)(l:Int×Int):Int:=if (l.1 != (v:Int))=true then max m (1+rchP g u l.1.toNat)else m
theorem Tr.rch_loop(h:Tr g)(hu:adj g v u):(g.ports.getD u []).foldl (ypu g v u) 1=rchP g v u:=by
 obtain⟨hv,hul⟩:=h.good.adj_lt hu;obtain⟨h1,h2,h3⟩:=ybdt (fun l:Int×Int=>1+rchP g u l.1.toNat) (fun l:Int×Int=>l.1 != (v:Int)) (g.ports.getD u []) 1;refine Int.le_antisymm (h3 _ (h.rch_pos hu) fun l hl hp=>?_) ?_
 .obtain⟨a1,_,a2,_⟩:=ygj h.good hul hl;rw[bne_iff_ne]at hp;exact h.rch_step hu a2 (fun e=>hp (by omega))
 .rcases zAH (rchP g v u) 2 with q|q
  .exact zAI (by omega) h1
  .obtain⟨x,hx,hne,e⟩:=h.rch_from hu q;obtain⟨l,hl,el⟩:=yqe hx;obtain⟨a1,_⟩:=ygj h.good hul hl;have:=h2 l hl (by rw[bne_iff_ne];intro e;exact hne (by omega))
   rw[el]at this;rw[e];exact this
theorem Tr.rch_less(h:Tr g)(hu:adj g v u){l:Int×Int}(hl:l∈g.ports.getD u [])(hne:l.1≠(v:Int)):rchP g u l.1.toNat<rchP g v u:=by
 obtain⟨hv,hul⟩:=h.good.adj_lt hu;obtain⟨a1,_,a2,_⟩:=ygj h.good hul hl;have:=h.rch_step hu a2 (fun e=>hne (by omega))
 omega
def yqq(s:Int×Int)(x:Int):Int×Int:=(max s.1 x,max s.2 (min x s.1))
theorem ycjc{s:Int×Int}{x:Int}(h:s.2<=s.1):yqq s x=step2 s x:=by
 unfold yqq step2;split<;>(try split)<;>(refine Prod.ext ?_ ?_<;>simp only<;>omega)
theorem yblv:∀(l:List Int) (s:Int×Int),s.2<=s.1->l.foldl yqq s=l.foldl step2 s
 |[],_,_=>rfl
 | x::l,s,h=>by
   rw[zZ,zZ,<-ycjc h];exact yblv l _ (by unfold yqq;simp only;omega)
theorem ydej(g:Gr)(v:Nat):(((g.ports.getD v []).map fun l=>rchP g v l.1.toNat).foldl yqq (0,0)).2=htP g v:=by
 rw[yblv _ _ (zJ _)];rfl
end
end
section
def ynp(g:Gr)(k:Nat):Int:=(zG k).foldl (fun m v=>max m (ycq (yca g v))) 0
abbrev ykb(g:Gr):Int:=ynp g g.ports.length
section
variable {g:Gr}{a b v:Nat}
theorem yjn(k:Nat):ynp g (k+1)=max (ynp g k) (ycq (yca g k)):=by
 unfold ynp;rw[List.range_succ,zV];rfl
theorem ycbe:∀k v,v<k->ycq (yca g v)<=ynp g k
 |0,v,h=>absurd h (zAA _)
 | k + 1,v,h=>by
   rw[yjn]
   by_cases q:v=k
   .rw[q];omega
   .have:=ycbe k v (by omega)
    omega
theorem yji:∀k,0<=ynp g k
 |0=>zJ _
 | k+1=>by
   rw[yjn];have:=yji k;omega
theorem ybqm(hg:ybj g)(ha:a<g.ports.length)(hb:b<g.ports.length):dP g a b<=ykb g:=by
 have h1:=ycbe (g:=g) g.ports.length a ha;have hl:b<(yca g a).length:=by rw[yhz hg ha];exact hb
 have h2:dP g a b<=ycq (yca g a):=by
  refine ybfd _ _ ?_;unfold dP;rw[Sh.getD_at hl];exact zF hl
 exact zAI h2 h1
end
end
section
namespace Sh
open Go Ev
def ycau:LO:=[o3 (.box 27 (.tmp 0)) 1 0,o3 (.mv (ci' 0)) 2 0,o3 (.mv (ci' 0)) 3 2]
def ycby:LO:=[ld' true 2 1 6 0,cl' 131 [6] 7 1,o3 (.un .not (.tmp 7)) 8 3]
def yclr:LO:=[o3 (.mv (ci' 0)) 2 0,o3 (.mv (ci' 0)) 3 1]
def ycuv:LO:=[fa' 1 1 1 9 0,ld' false 1 9 10 1,ln' 10 11 3,o3 (.mv (ci' 0)) 12 0]
def ybut:LO:=[bn' .lss 12 11 13 0]
def ycvi:LO:=[ix' 1 10 12 14 0,ld' false 1 14 15 1,mv' 15 5 3]
def ycqb:LO:=[mv' 3 16 0,mv' 5 17 0,ln' 17 18 2,bn' .add 16 18 19 7,mv' 19 3 15]
def ycsw:LO:=[o3 (.bin .add (.tmp 12) (ci' 1)) 20 0,mv' 20 12 1]
def ydbf:LO:=[fa' 0 1 1 21 0,ld' false 1 21 22 1,ln' 22 23 3,mv' 3 24 0,o3 (.bin .quo (.tmp 24) (ci' 2)) 25 8,mv' 23 2 7,mv' 25 3 63]
def c105:SC:=(.seq (.reg false ycau) (.seq (.seq (.reg false ycby) (.cond (.tmp 8) (.seq (.reg false yclr) .ret) .skip)) (.seq (.seq (.reg false ycuv) (.block 0 (.loop (.seq (.reg false ybut) (.seq (.cond (.tmp 13) .skip (.exit 0)) (.seq (.block 1 (.seq (.reg false ycvi) (.reg false ycqb))) (.reg false ycsw))))))) (.seq (.reg false ydbf) .ret))))
theorem ydec:Fn 105 c105 [.t 2,.t 3]:=fn_0 Tryz.func105 (by kernel_rfl) (by kernel_rfl)
def ybrp:LO:=[o3 (.box 27 (.tmp 0)) 1 0,o3 (.mv (.const (.bool false))) 2 0]
def ybxv:LO:=[ld' true 2 1 5 0,cl' 121 [5] 6 1,o3 (.un .not (.tmp 6)) 7 3]
def ycua:LO:=[o3 (.mv (.const (.bool false))) 2 0]
def ycoy:LO:=[ld' true 2 1 9 0,cl' 105 [9] 10 1,mv' 10 8 3,xt' 8 0 11 7,xt' 8 1 12 7,mv' 11 3 15,mv' 12 4 63]
def ycrw:LO:=[mv' 4 13 0,mv' 3 14 0,o3 (.bin .sub (.tmp 14) (ci' 1)) 15 2,bn' .eql 13 15 16 7,mv' 16 2 15]
def c146:SC:=(.seq (.reg false ybrp) (.seq (.seq (.reg false ybxv) (.cond (.tmp 7) (.seq (.reg false ycua) .ret) .skip)) (.seq (.reg false ycoy) (.seq (.reg false ycrw) .ret))))
theorem ydhl:Fn 146 c146 [.t 2]:=fn_0 Tryz.func146 (by kernel_rfl) (by kernel_rfl)
def ycam:LO:=[o3 (.box 27 (.tmp 0)) 1 0,o3 (.mv (ci' 0)) 2 0]
def ybxm:LO:=[ld' true 2 1 5 0,cl' 121 [5] 6 1,o3 (.un .not (.tmp 6)) 7 3]
def ycrx:LO:=[o3 (.mv (.const (.int .i64 (-1)))) 2 0]
def ycsy:LO:=[o3 (.mv (ci' 0)) 3 0]
def ycom:LO:=[fa' 1 1 1 8 0,ld' false 1 8 9 1,ln' 9 10 3,o3 (.mv (ci' 0)) 11 0]
def ybsg:LO:=[bn' .lss 11 10 12 0]
def yczz:LO:=[mv' 11 13 0,mv' 13 4 1]
def ycwn:LO:=[mv' 3 14 0,ld' true 2 1 15 0,mv' 4 16 0,cl' 142 [15,16] 17 6,cl' 141 [17] 18 14,o3 (.mm true (.tmp 14) (.tmp 18)) 19 31,mv' 19 3 63]
def ycvl:LO:=[o3 (.bin .add (.tmp 11) (ci' 1)) 20 0,mv' 20 11 1]
def ycsa:LO:=[mv' 3 21 0,mv' 21 2 1]
def c100:SC:=(.seq (.reg false ycam) (.seq (.seq (.reg false ybxm) (.cond (.tmp 7) (.seq (.reg false ycrx) .ret) .skip)) (.seq (.reg false ycsy) (.seq (.seq (.reg false ycom) (.block 0 (.loop (.seq (.reg false ybsg) (.seq (.cond (.tmp 12) .skip (.exit 0)) (.seq (.block 1 (.seq (.reg false yczz) (.reg false ycwn))) (.reg false ycvl))))))) (.seq (.reg false ycsa) .ret)))))
theorem ydgo:Fn 100 c100 [.t 2]:=fn_0 Tryz.func100 (by kernel_rfl) (by kernel_rfl)
def ydmq:LO:=[o3 (.box 27 (.tmp 0)) 1 0,o3 (.mv (.const (.bool false))) 2 0]
def ydwt:LO:=[ld' true 2 1 3 0,cl' 146 [3] 4 1,mv' 4 2 3]
def c99:SC:=(.seq (.reg false ydmq) (.seq (.reg false ydwt) .ret))
theorem ydvm:Fn 99 c99 [.t 2]:=fn_0 Tryz.func99 (by kernel_rfl) (by kernel_rfl)
def ybyg:LO:=[o3 (.box 27 (.tmp 0)) 2 0,o3 (.mv (.const (.bool false))) 4 0]
def ycbr:LO:=[ld' true 2 2 5 0,cl' 99 [5] 6 1,mv' 6 7 3,⟨.load true 2 (.tmp 2),some 8,some (7,true),7⟩,⟨.mv (.tmp 1),some 9,some (7,true),7⟩,⟨.faddr 0 1 (.tmp 2),some 10,some (7,true),7⟩,⟨.load false 1 (.tmp 10),some 11,some (7,true),39⟩,⟨.len (.tmp 11),some 12,some (7,true),103⟩,⟨.bslice 3 1 1 [.i .i64 0] [(0,1,(.tmp 12))],some 13,some (7,true),231⟩,⟨.call (.func 89) [(.tmp 8),(.tmp 9),(.tmp 13)],some 14,some (7,true),511⟩,o3 (.pick (.tmp 7) (.tmp 14) (.const (.bool false))) 15 1023,mv' 15 4 2047]
def c101:SC:=(.seq (.reg false ybyg) (.seq (.reg false ycbr) .ret))
theorem ydgv:Fn 101 c101 [.t 4]:=fn_0 Tryz.func101 (by kernel_rfl) (by kernel_rfl)
def ycwb:LO:=[o3 (.box 27 (.tmp 0)) 3 0,o3 (.mv (ci' 0)) 6 0]
def yclv:LO:=[o3 (.mv (ci' 1)) 7 0]
def ycnx:LO:=[fa' 1 1 3 10 0,ld' false 1 10 11 1,mv' 2 12 0,ix' 1 11 12 13 7,ld' false 1 13 14 15,ln' 14 15 31,o3 (.mv (ci' 0)) 16 0]
def ybld:LO:=[bn' .lss 16 15 17 0]
def ybyi:LO:=[ix' 2 14 16 18 0,ld' true 2 18 19 1,o3 (.alloc 68 1 [.i .i64 0,.i .i64 0]) 9 0,o0 (.store 2 (.tmp 9) (.tmp 19)) 7]
def ybrx:LO:=[fa' 0 1 9 20 0,ld' false 1 20 21 1,mv' 1 22 0,bn' .neq 21 22 23 7]
def ycup:LO:=[mv' 7 24 0,ld' true 2 3 25 0,mv' 2 26 0,fa' 0 1 9 27 0,ld' false 1 27 28 8,cl' 147 [25,26,28] 29 30,o3 (.bin .add (ci' 1) (.tmp 29)) 30 62,o3 (.mm true (.tmp 24) (.tmp 30)) 31 127,mv' 31 7 255]
def ybyl:LO:=[o3 (.bin .add (.tmp 16) (ci' 1)) 32 0,mv' 32 16 1]
def yczt:LO:=[mv' 7 33 0,mv' 33 6 1]
def c147:SC:=(.seq (.reg false ycwb) (.seq (.reg false yclv) (.seq (.seq (.reg false ycnx) (.block 0 (.loop (.seq (.reg false ybld) (.seq (.cond (.tmp 17) .skip (.exit 0)) (.seq (.block 1 (.seq (.reg false ybyi) (.seq (.reg false ybrx) (.cond (.tmp 23) (.reg false ycup) .skip)))) (.reg false ybyl))))))) (.seq (.reg false yczt) .ret))))
theorem ydjm:Fn 147 c147 [.t 6]:=fn_0 Tryz.func147 (by kernel_rfl) (by kernel_rfl)
def yctm:LO:=[o3 (.box 27 (.tmp 0)) 1 0,o3 (.mv (.const (.slice none 0 0))) 2 0]
def ycqv:LO:=[fa' 0 1 1 10 0,ld' false 1 10 11 1,ln' 11 12 3,o3 (.mk 3 1 8 [.i .i64 0] (.tmp 12) (.tmp 12)) 13 7,mv' 13 3 15]
def ycrp:LO:=[fa' 1 1 1 14 0,ld' false 1 14 15 1,ln' 15 16 3,o3 (.mv (ci' 0)) 17 0]
def ycbc:LO:=[bn' .lss 17 16 18 0]
def ycyw:LO:=[mv' 17 19 0,ix' 1 15 17 20 0,ld' false 1 20 21 2,mv' 19 4 7,mv' 21 5 15]
def yctg:LO:=[o3 (.mv (ci' 0)) 6 0]
def ydas:LO:=[mv' 5 22 0,ln' 22 23 1,o3 (.mv (ci' 0)) 24 0]
def ycbt:LO:=[bn' .lss 24 23 25 0]
def ycnj:LO:=[ix' 2 22 24 26 0,ld' true 2 26 27 1,o3 (.alloc 68 1 [.i .i64 0,.i .i64 0]) 8 0,o0 (.store 2 (.tmp 8) (.tmp 27)) 7]
def ydbj:LO:=[ld' true 2 1 28 0,mv' 4 29 0,fa' 0 1 8 30 0,ld' false 1 30 31 4,cl' 147 [28,29,31] 32 15,mv' 32 9 31]
def ybvc:LO:=[mv' 3 33 0,mv' 4 34 0,mv' 3 35 0,mv' 4 36 0,ix' 1 35 36 37 12,ld' false 1 37 38 28,mv' 9 39 0,mv' 6 40 0,o3 (.mm false (.tmp 39) (.tmp 40)) 41 192,o3 (.mm true (.tmp 38) (.tmp 41)) 42 508,ix' 1 33 34 43 1023,o0 (.store 1 (.tmp 43) (.tmp 42)) 2047]
def ycem:LO:=[mv' 6 44 0,mv' 9 45 0,o3 (.mm true (.tmp 44) (.tmp 45)) 46 3,mv' 46 6 7]
def ycdv:LO:=[o3 (.bin .add (.tmp 24) (ci' 1)) 47 0,mv' 47 24 1]
def ybvh:LO:=[o3 (.bin .add (.tmp 17) (ci' 1)) 48 0,mv' 48 17 1]
def ycbn:LO:=[mv' 3 49 0,mv' 49 2 1]
def c102:SC:=(.seq (.reg false yctm) (.seq (.reg false ycqv) (.seq (.seq (.reg false ycrp) (.block 0 (.loop (.seq (.reg false ycbc) (.seq (.cond (.tmp 18) .skip (.exit 0)) (.seq (.block 1 (.seq (.reg false ycyw) (.seq (.reg false yctg) (.seq (.reg false ydas) (.block 2 (.loop (.seq (.reg false ycbt) (.seq (.cond (.tmp 25) .skip (.exit 2)) (.seq (.block 3 (.seq (.reg false ycnj) (.seq (.reg false ydbj) (.seq (.reg false ybvc) (.reg false ycem))))) (.reg false ycdv)))))))))) (.reg false ybvh))))))) (.seq (.reg false ycbn) .ret))))
theorem ydix:Fn 102 c102 [.t 2]:=fn_0 Tryz.func102 (by kernel_rfl) (by kernel_rfl)
def ydhu:LO:=[o3 (.box 27 (.tmp 0)) 2 0,o3 (.mv (.const (.bool false))) 4 0]
def ydfb:LO:=[ld' true 2 2 7 0,mv' 1 8 0,cl' 101 [7,8] 9 3,o3 (.un .not (.tmp 9)) 10 7]
def ydso:LO:=[o3 (.mv (.const (.bool false))) 4 0]
def ydkk:LO:=[ld' true 2 2 11 0,cl' 102 [11] 12 1,ln' 12 13 3,o3 (.mv (ci' 0)) 14 0]
def ycki:LO:=[bn' .lss 14 13 15 0]
def ydhm:LO:=[mv' 14 16 0,ix' 1 12 14 17 0,ld' false 1 17 18 2,mv' 16 5 7,mv' 18 6 15]
def ydfm:LO:=[mv' 1 19 0,mv' 5 20 0,ix' 1 19 20 21 3,ld' false 1 21 22 7,o3 (.idx 1 (.tmp 22) (ci' 0)) 23 15,ld' false 1 23 24 31,mv' 6 25 0,bn' .neq 24 25 26 127]
def ydot:LO:=[o3 (.mv (.const (.bool false))) 4 0]
def ydnm:LO:=[o3 (.bin .add (.tmp 14) (ci' 1)) 27 0,mv' 27 14 1]
def ydxo:LO:=[o3 (.mv (.const (.bool true))) 4 0]
def c37:SC:=(.seq (.reg false ydhu) (.seq (.seq (.reg false ydfb) (.cond (.tmp 10) (.seq (.reg false ydso) .ret) .skip)) (.seq (.seq (.reg false ydkk) (.block 0 (.loop (.seq (.reg false ycki) (.seq (.cond (.tmp 15) .skip (.exit 0)) (.seq (.block 1 (.seq (.reg false ydhm) (.seq (.reg false ydfm) (.cond (.tmp 26) (.seq (.reg false ydot) .ret) .skip)))) (.reg false ydnm))))))) (.seq (.reg false ydxo) .ret))))
theorem ydqc:Fn 37 c37 [.t 4]:=fn_0 Tryz.func37 (by kernel_rfl) (by kernel_rfl)
def ydfe:LO:=[o3 (.box 27 (.tmp 0)) 1 0,o3 (.alloc 36 1 [.i .i64 0,.b false,.b false,.i .i64 0,.i .i64 0]) 2 0]
def ydjp:LO:=[ld' true 2 1 3 0,cl' 99 [3] 4 1,o3 (.un .not (.tmp 4)) 5 3]
def ydwa:LO:=[o3 (.build [.i .i64 0,.b false,.b false,.i .i64 0,.i .i64 0] []) 6 0,o0 (.store 5 (.tmp 2) (.tmp 6)) 1]
def ydvd:LO:=[ld' true 2 1 7 0,cl' 100 [7] 8 1,o3 (.bin .quo (.tmp 8) (ci' 2)) 9 3,o3 (.bin .add (.tmp 9) (ci' 1)) 10 7,o3 (.build [.i .i64 0,.b false,.b false,.i .i64 0,.i .i64 0] [(0,1,(ci' 3)),(2,1,(.const (.bool true))),(3,1,(.tmp 10)),(4,1,(.const (.int .i64 (-1))))]) 11 15,o0 (.store 5 (.tmp 2) (.tmp 11)) 31]
def c36:SC:=(.seq (.reg false ydfe) (.seq (.seq (.reg false ydjp) (.cond (.tmp 5) (.seq (.reg false ydwa) .ret) .skip)) (.seq (.reg false ydvd) .ret)))
theorem ydvr:Fn 36 c36 [.c 2 true 5]:=fn_0 Tryz.func36 (by kernel_rfl) (by kernel_rfl)
def ydnk:LO:=[o3 (.mv (.const (.string (ByteArray.mk #[])))) 0 0]
def ydwe:LO:=[o3 (.mv (.const (.string (ByteArray.mk #[112,114,111,103,114,97,109,32,99,101,110,116,101,114,59,10,118,97,114,32,104,32,58,32,48,32,46,46,32,110,59,10,114,117,108,101,32,102,105,120,58,32,104,32,33,61,32,40,100,101,103,32,60,32,50,32,63,32,48,32,58,32,40,115,101,99,111,110,100,40,113,46,104,41,32,60,32,110,32,63,32,115,101,99,111,110,100,40,113,46,104,41,32,43,32,49,32,58,32,110,41,41,32,45,62,32,104,32,58,61,32,40,100,101,103,32,60,32,50,32,63,32,48,32,58,32,40,115,101,99,111,110,100,40,113,46,104,41,32,60,32,110,32,63,32,115,101,99,111,110,100,40,113,46,104,41,32,43,32,49,32,58,32,110,41,41,59,10])))) 0 0]
def c35:SC:=(.seq (.reg false ydnk) (.seq (.reg false ydwe) .ret))
theorem ydwo:Fn 35 c35 [.t 0]:=fn_0 Tryz.func35 (by kernel_rfl) (by kernel_rfl)
end Sh
end
section
def ygy(g:Gr)(k:Nat):Nat:=((g.ports.take k).map zBE).sum
theorem yqv{g:Gr}{k:Nat}(h:k<g.ports.length):ygy g (k+1)=ygy g k+(g.ports.getD k []).length:=by
 unfold ygy;rw[zD h,zAJ,List.sum_append,Sh.getD_at h];simp
theorem yqd{g:Gr}(hg:ybj g):∀k,k<=g.ports.length->ygy g k<=24*k
 |0,_=>by simp[ygy]
 | k+1,h=>by
   rw[yqv (by omega)]
   have:=yqd hg k (by omega)
   have:=hg.deg_lt (v:=k);omega
theorem ybjg(g:Gr):ygy g g.ports.length=yht g:=by unfold ygy yht;rw[zT]
def yblo(g:Gr):Nat:=yht g/2
namespace Sh
open Ev Go.RowKit
def ydhv(g:Gr):List SV:=if yhc g=true then[.i .i64 g.ports.length,.i .i64 (yblo g)]else[.i .i64 0,.i .i64 0]
theorem ycis(n:Nat):((n:Nat):Int).tdiv 2=((n/2:Nat):Int):=by
 rw[zAD (by omega)]
 omega
theorem yceg{g:Gr}(hI:GrI g):Returns zO 105 [grV g] (.tp (ydhv g)):=by
 refine Returns.of (ydec _ _ ?_);have hV:=yxy hI;unfold ydhv;cases hv:yhc g with
 | false =>
   rw[hv]at hV;simp only[grV]at hV;simp only[c105,ycau,ycby,yclr,grV,clash,go_sem,zA,zB,zC,↓reduceIte];refine hV.use ?_;simp only[ybg,clash,go_sem,zA,zB,↓reduceIte];exact Sim.refl _
 | true =>
   have hg:=(yfb g).1 hv;have h24:=hg.2.1;have hpl:=hg.2.2.1;obtain⟨n,hn⟩:∃n,g.ports.length=n:=⟨_,rfl⟩;rw[hv]at hV;simp only[grV]at hV;rw[hn]at h24 hpl;simp only[c105,ycau,ycby,ycuv,grV,clash,go_sem,zA,zB,zC,↓reduceIte];refine hV.use ?_;simp only[ybg,yu,hn,clash,go_sem,zA,zB,↓reduceIte,reduceCtorEq];refine ybd (σ:=Nat) (fun k=>⟨[(12,.i .i64 k),(11,.i .i64 n),(10,yu g.ports),(3,.i .i64 (ygy g k:Nat)),(1,.pt (1,0) 0 0)],[(1,.one (some ⟨27,true,2,1,fun _=>[ybc g.ids,yu g.ports]⟩))]⟩) (fun k=>k<=n) (fun k=>n-k) 0 (zU _) ?_ ?_
   .refine yh [] [] [] ?_;simp only[yu,hn,allQ,live,yc,yx,zL,go_sem,zA,zC,↓reduceIte,reduceCtorEq];rfl
   intro k hk
   by_cases hlt:k<n
   .have t1:decide ((k:Int)<(n:Int))=true:=decide_eq_true (by omega)
    have hs:=yqv (g:=g) (k:=k) (by omega)
    have hb:=yqd hg k (by omega)
    have hd:=hg.deg_lt (v:=k);obtain⟨d,hdd⟩:∃d,(g.ports.getD k []).length=d:=⟨_,rfl⟩;rw[hdd]at hs hd;have e:(ygy g k:Int)+(d:Int)=((ygy g (k+1):Nat):Int):=by rw[hs];omega
    simp only[ybut,ycvi,ycqb,ycsw,yu,yw,hn,t1,hdd,e,clash,go_sem,zA,zB,↓reduceIte,reduceCtorEq];refine⟨by omega,ikw (by omega) (by omega),ikw (by omega) (by omega),?_⟩
    refine yj (k+1) (by omega) (by omega) ?_
    refine yh [] [] [] ?_;simp only[allQ,live,yc,yx,go_sem,zA,zC,↓reduceIte,reduceCtorEq];omega
   .obtain rfl:k=n:=by omega
    have t1:decide ((k:Int)<(k:Int))=false:=decide_eq_false (by omega)
    have hb:=yqd hg k (by omega)
    have e:=ybjg g;rw[hn]at e;have e2:=ycis (ygy g k);simp only[ybut,ydbf,yu,ybc,hn,hpl,t1,e2,clash,go_sem,zA,zB,zI,↓reduceIte,reduceCtorEq];unfold yblo;rw[<-e];exact⟨⟨by decide,ikw (by omega) (by omega)⟩,Sim.refl _⟩
theorem ybrm{g:Gr}(hI:GrI g):Returns zO 146 [grV g] (.b (ydb g)):=by
 refine Returns.of (ydhl _ _ ?_);have hC:=ybbe hI;have hS:=yceg hI;unfold ydb;cases hcn:ygk g with
 | false =>
   rw[hcn]at hC;simp only[grV]at hC;simp only[c146,ybrp,ybxv,ycua,grV,clash,go_sem,zA,zB,zC,↓reduceIte];refine hC.use ?_;simp only[ybg,clash,go_sem,zB,↓reduceIte];exact Sim.refl _
 | true =>
   have hv:=yjo hcn;have hg:=(yfb g).1 hv;have h24:=hg.2.1;rw[hcn]at hC;unfold ydhv at hS;rw[if_pos hv]at hS;simp only[grV]at hC hS;simp only[c146,ybrp,ybxv,ycoy,ycrw,grV,clash,go_sem,zA,zB,zC,↓reduceIte];refine hC.use ?_;simp only[ybg,clash,go_sem,zA,zB,↓reduceIte,reduceCtorEq];refine hS.use ?_;simp only[go_sem,zA,↓reduceIte];refine⟨ikw (by omega) (by omega),?_⟩
   have e:(((yblo g:Nat):Int)==(g.ports.length:Int)-1)=decide (yht g/2+1=g.ports.length):=by
    rw[zAV,beq_iff_eq,decide_eq_true_iff];unfold yblo;omega
   rw[<-e];exact Sim.refl _
theorem ybgj{g:Gr}(hg:ybj g):∀k,k<=g.ports.length->ynp g k<=24
 |0,_=>by show(0:Int)<=24;decide
 | k+1,h=>by
   rw[yjn];have h1:=ybgj hg k (by omega)
   have h2:ycq (yca g k)<=24:=ybet _ _ (by omega) fun x hx=>((yfa hg (a:=k) (by omega)).bound hg (by omega) x hx).2
   omega
theorem ycbw{g:Gr}(hI:GrI g):Returns zO 100 [grV g] (.i .i64 (if ygk g=true then ykb g else -1)):=by
 refine Returns.of (ydgo _ _ ?_);have hC:=ybbe hI;cases hcn:ygk g with
 | false =>
   rw[hcn]at hC;simp only[grV]at hC;simp only[c100,ycam,ybxm,ycrx,grV,clash,go_sem,zA,zB,zC,↓reduceIte];refine hC.use ?_;simp only[ybg,clash,go_sem,zB,↓reduceIte];exact Sim.refl _
 | true =>
   have hg:=(yfb g).1 (yjo hcn);have h24:=hg.2.1;have hd0:ynp g 0=0:=rfl;obtain⟨n,hn⟩:∃n,g.ports.length=n:=⟨_,rfl⟩;rw[hcn]at hC;simp only[grV]at hC;rw[hn]at h24;simp only[c100,ycam,ybxm,ycsy,ycom,grV,clash,go_sem,zA,zB,zC,↓reduceIte];refine hC.use ?_;simp only[ybg,yu,hn,clash,go_sem,zA,zB,↓reduceIte,reduceCtorEq];refine ybd (σ:=Nat) (fun k=>⟨[(11,.i .i64 k),(10,.i .i64 n),(3,.i .i64 (ynp g k)),(1,.pt (1,0) 0 0)],[(1,.one (some ⟨27,true,2,1,fun _=>[ybc g.ids,yu g.ports]⟩))]⟩) (fun k=>k<=n) (fun k=>n-k) 0 (zU _) ?_ ?_
   .refine yh [] [] [] ?_;simp only[yu,hn,hd0,allQ,live,yc,zL,go_sem,zA,zC,↓reduceIte,reduceCtorEq]
   intro k hk
   by_cases hlt:k<n
   .have t1:decide ((k:Int)<(n:Int))=true:=decide_eq_true (by omega)
    have hS:=ybqj hg (a:=k) (by omega)
    have hl:=yhz hg (a:=k) (by omega)
    have hG:=ybcu (yca g k) (by omega)
    have hs:=yjn (g:=g) k;obtain⟨D,hD⟩:∃D,yca g k=D:=⟨_,rfl⟩;rw[hD]at hS hG hs hl;simp only[grV]at hS;simp only[ybc,hl]at hG hS;simp only[ybsg,yczz,ycwn,ycvl,yu,t1,clash,go_sem,zA,zB,↓reduceIte,reduceCtorEq];refine hS.use ?_;simp only[ybg,clash,go_sem,zA,zB,↓reduceIte,reduceCtorEq];refine hG.use ?_;simp only[<-hs,go_sem,zA,↓reduceIte];refine⟨ikw (by omega) (by omega),?_⟩
    refine yj (k+1) (by omega) (by omega) ?_
    refine yh [] [] [] ?_;simp only[go_sem,allQ,live,yc,yx,go_sem,zA,zC,↓reduceIte,reduceCtorEq];omega
   .obtain rfl:k=n:=by omega
    have t1:decide ((k:Int)<(k:Int))=false:=decide_eq_false (by omega)
    simp only[ybsg,ycsa,t1,clash,go_sem,zA,zB,↓reduceIte,reduceCtorEq];unfold ykb;rw[hn];exact Sim.refl _
end Sh
end
section
theorem Tr.rch_le{g:Gr}(h:Tr g){v u:Nat}(hu:adj g v u):1<=rchP g v u/\rchP g v u<=24:=by
 obtain⟨w,hw,_,e⟩:=h.rch_ex hu;have:=h.lt_n hw (h.good.adj_lt hu).1;have:=h.good.2.1;have:=h.rch_pos hu;omega
def ykv(g:Gr)(c:Conf):Bool:=ydb g&&yvj g.ports.length (yek g [(g.ids.length:Int)]) c
def yec(g:Gr)(c:Conf):Bool:=ykv g c&&(zG g.ports.length).all fun v=>decide ((c.getD v []).getD 0 0=htP g v)
def htS(g:Gr)(v i:Nat):Int×Int:=(((g.ports.getD v []).take i).map fun l=>rchP g v l.1.toNat).foldl yqq (0,0)
theorem yblf{g:Gr}{v i:Nat}(hi:i<(g.ports.getD v []).length):htS g v (i+1)=yqq (htS g v i) (rchP g v ((g.ports.getD v []).getD i (0,0)).1.toNat):=by
 unfold htS;rw[zD hi,zAJ,zV,Sh.getD_at hi];rfl
theorem ybsy(g:Gr)(v:Nat):(htS g v (g.ports.getD v []).length).2=htP g v:=by
 unfold htS;rw[zT];exact ydej g v
theorem ybsk{g:Gr}(h:Tr g){v:Nat}(hv:v<g.ports.length):∀i,i<=(g.ports.getD v []).length->(0<=(htS g v i).2/\(htS g v i).2<=(htS g v i).1)/\(htS g v i).1<=24
 |0,_=>by simp[htS]
 | i+1,hi=>by
   have ih:=ybsk h hv i (by omega)
   have hm:(g.ports.getD v []).getD i (0,0)∈g.ports.getD v []:=by rw[Sh.getD_at (show i<_ by omega)];exact zF _
   have hr:=h.rch_le (ygj h.good hv hm).2.2.1;rw[yblf (by omega)]
   unfold yqq;simp only;omega
theorem Tr.ht_le{g:Gr}(h:Tr g){v:Nat}(hv:v<g.ports.length):0<=htP g v/\htP g v<=24:=by
 have:=ybsk h hv _ (zAC _);rw[<-ybsy g v];omega
def rchS(g:Gr)(v u i:Nat):Int:=((g.ports.getD u []).take i).foldl (ypu g v u) 1
theorem ybwp{g:Gr}{v u i:Nat}(hi:i<(g.ports.getD u []).length):rchS g v u (i+1)=ypu g v u (rchS g v u i) ((g.ports.getD u []).getD i (0,0)):=by
 unfold rchS;rw[zD hi,zV,Sh.getD_at hi];rfl
namespace Sh
open Ev Go.RowKit
theorem ybjz{g:Gr}(hI:GrI g):Returns zO 99 [grV g] (.b (ydb g)):=by
 refine Returns.of (ydvm _ _ ?_);have hC:=ybrm hI;simp only[grV]at hC;simp only[c99,ydmq,ydwt,grV,go_sem,zA,zB,zC,↓reduceIte];refine hC.use ?_;simp only[ybg,ytr,go_sem,zA,zB,↓reduceIte,reduceCtorEq]
theorem ybem{g:Gr}(h:Tr g):∀(k v u:Nat),adj g v u->(rchP g v u).toNat<=k->Returns zO 147 [grV g,.i .i64 v,.i .i64 u] (.i .i64 (rchP g v u))
 |0,v,u,hu,hk=>by have:=h.rch_pos hu;omega
 | k + 1,v,u,hu,hk=>by
   refine Returns.of (ydjm _ _ ?_);have ih:=ybem h k;obtain⟨hv,hul⟩:=h.good.adj_lt hu;have h24:=h.good.2.1;have hlo:=h.rch_loop hu;have hrs:∀i,rchS g v u i=((g.ports.getD u []).take i).foldl (ypu g v u) 1:=fun _=>rfl;have hsu:=fun i=>ybwp (g:=g) (v:=v) (u:=u) (i:=i);have hle:=h.rch_le hu;obtain⟨L,hL⟩:∃L,g.ports.getD u []=L:=⟨_,rfl⟩;have hdeg:=h.good.deg_lt (v:=u)
   have hadj:∀l∈L,0<=l.1/\l.1.toNat<g.ports.length/\adj g u l.1.toNat:=fun l hl=>by
    obtain⟨a,b,c,_⟩:=ygj h.good hul (by rw[hL];exact hl)
    exact⟨a,b,c⟩
   have hless:∀l∈L,l.1≠(v:Int)->rchP g u l.1.toNat<rchP g v u:=fun l hl=>h.rch_less hu (by rw[hL];exact hl)
   rw[hL]at hlo hdeg hrs;simp only[hL]at hsu;obtain⟨d,hd⟩:∃d,L.length=d:=⟨_,rfl⟩;obtain⟨S,hS⟩:∃S:Nat->Int,(fun i=>rchS g v u i)=S:=⟨_,rfl⟩;have hS':∀i,rchS g v u i=S i:=fun i=>by rw[<-hS]
   simp only[hS']at hsu hrs;rw[hd]at hdeg hsu;have hS0:S 0=1:=by rw[hrs];rfl
   have hSd:S d=rchP g v u:=by rw[hrs,<-hd,zT,hlo]
   rw[<-hSd]at hless hle ⊢;simp only[grV]at ih;simp only[c147,ycwb,yclv,ycnx,grV,yu,yw,hL,hd,clash,go_sem,zA,zB,zC,↓reduceIte,reduceCtorEq];refine⟨⟨by omega,by omega⟩,?_⟩
   refine ybd (σ:=Nat) (fun i=>⟨[(16,.i .i64 i),(15,.i .i64 d),(14,yw L),(7,.i .i64 (S i)),(1,.i .i64 v),(2,.i .i64 u),(3,.pt (3,0) 0 0)],[(3,.one (some ⟨27,true,2,1,fun _=>[ybc g.ids,yu g.ports]⟩))]⟩) (fun i=>i<=d) (fun i=>d-i) 0 (zU _) ?_ ?_
   .refine yh [] [] [] ?_;simp only[yu,yw,hd,hS0,allQ,live,yc,zL,go_sem,zA,zC,↓reduceIte,reduceCtorEq]
   intro i hi
   by_cases hlt:i<d
   .have t1:decide ((i:Int)<(d:Int))=true:=decide_eq_true (by omega)
    have hm:L.getD i (0,0)∈L:=by rw[getD_at (show i<L.length by omega)];exact zF _
    have hss:=hsu i hlt;obtain⟨l,hl⟩:∃l,L.getD i (0,0)=l:=⟨_,rfl⟩;rw[hl]at hm hss;obtain⟨a1,a2,a3⟩:=hadj l hm
    by_cases hlv:l.1=(v:Int)
    .have t2:(l.1 != (v:Int))=false:=by rw[hlv];simp
     have e:S (i+1)=S i:=by
      rw[hss];unfold ypu;rw[if_neg (by rw[t2];decide)]
     simp only[ybld,ybyi,ybrx,ybyl,yw,hd,hl,t1,t2,splice,clash,go_sem,zA,zB,zI,zC,↓reduceIte,reduceCtorEq];refine⟨by omega,ikw (by omega) (by omega),?_⟩
     refine yj (i+1) (by omega) (by omega) ?_
     refine yh [] [] [] ?_;simp only[e,allQ,live,yc,yx,go_sem,zA,zC,↓reduceIte,reduceCtorEq];omega
    .have t2:(l.1 != (v:Int))=true:=by rw[bne_iff_ne];exact hlv
     have hlr:=hless l hm hlv;have hlb:=h.rch_le a3;have hR:=ih u l.1.toNat a3 (by rw[<-hSd]at hk;omega)
     rw[zAN a1]at hR
     have e:S (i+1)=max (S i) (1+rchP g u l.1.toNat):=by
      rw[hss];unfold ypu;rw[if_pos t2]
     obtain⟨r,hr⟩:∃r,rchP g u l.1.toNat=r:=⟨_,rfl⟩;rw[hr]at hR e hlb;simp only[ybld,ybyi,ybrx,ycup,ybyl,yw,hd,hl,t1,t2,splice,clash,go_sem,zA,zB,zI,zC,↓reduceIte,reduceCtorEq];refine⟨by omega,hR.use ?_⟩
     simp only[ybg,clash,go_sem,zA,zB,↓reduceIte,reduceCtorEq];refine⟨ikw (by omega) (by omega),ikw (by omega) (by omega),?_⟩
     refine yj (i+1) (by omega) (by omega) ?_
     refine yh [] [] [] ?_;simp only[e,allQ,live,yc,yx,go_sem,zA,zC,↓reduceIte,reduceCtorEq];omega
   .obtain rfl:i=d:=by omega
    have t1:decide ((i:Int)<(i:Int))=false:=decide_eq_false (by omega)
    simp only[ybld,yczt,t1,clash,go_sem,zA,zB,↓reduceIte,reduceCtorEq];exact Sim.refl _
set_option maxHeartbeats 1000000 in
theorem ybix{g:Gr}(h:Tr g):Returns zO 102 [grV g] (ybc (mapR g.ports.length (htP g))):=by
 refine Returns.of (ydix _ _ ?_);have hg:=h.good;have h24:=hg.2.1;have hpl:=hg.2.2.1;obtain⟨n,hn⟩:∃n,g.ports.length=n:=⟨_,rfl⟩;rw[hn]at h24 hpl ⊢;simp only[c102,yctm,ycqv,ycrp,grV,ybc,yu,hpl,hn,clash,go_sem,zA,zB,zI,zC,↓reduceIte,reduceCtorEq];refine⟨⟨by omega,by omega,by omega⟩,?_⟩
 refine ybd (σ:=Nat) (fun v=>⟨[(17,.i .i64 v),(16,.i .i64 n),(15,yu g.ports),(3,.os (13,0) 0 n true),(1,.pt (1,0) 0 0)],[(13,.one (some ⟨3,false,1,n,fun j=>[.i .i64 (if j<v then htP g j else 0)]⟩)),(1,.one (some ⟨27,true,2,1,fun _=>[ybc g.ids,yu g.ports]⟩))]⟩) (fun v=>v<=n) (fun v=>n-v) 0 (zU _) ?_ ?_
 .refine yh [] [] [] ?_;simp only[ybc,yu,hpl,hn,zAA,allQ,live,yc,zL,go_sem,zA,zC,↓reduceIte,reduceCtorEq]
 intro v hv
 by_cases hlt:v<n
 .have t1:decide ((v:Int)<(n:Int))=true:=decide_eq_true (by omega)
  have hend:=ybsy g v;have hsu:=fun i=>yblf (g:=g) (v:=v) (i:=i);have hsl:=ybsk h (v:=v) (by omega)
  have hdeg:=hg.deg_lt (v:=v);have hadj:=fun(l:Int×Int) (hl:l∈g.ports.getD v [])=>ygj hg (by omega) hl
  obtain⟨L,hL⟩:∃L,g.ports.getD v []=L:=⟨_,rfl⟩;obtain⟨d,hd⟩:∃d,L.length=d:=⟨_,rfl⟩;rw[hL,hd]at hend hdeg hsl;rw[hL]at hadj;simp only[hL,hd]at hsu;obtain⟨S,hS⟩:∃S:Nat->Int×Int,(fun i=>htS g v i)=S:=⟨_,rfl⟩;have hS':∀i,htS g v i=S i:=fun i=>by rw[<-hS]
  have hS0:S 0=(0,0):=by rw[<-hS'];rfl
  simp only[hS']at hsu hsl hend;simp only[ycbc,ycyw,yctg,ydas,yu,yw,hn,hL,hd,t1,clash,go_sem,zA,zB,↓reduceIte,reduceCtorEq];refine⟨by omega,?_⟩
  refine ybd (σ:=Nat) (fun i=>⟨[(24,.i .i64 i),(23,.i .i64 d),(22,yw L),(6,.i .i64 (S i).1),(4,.i .i64 v),(17,.i .i64 v),(16,.i .i64 n),(15,yu g.ports),(3,.os (13,0) 0 n true),(1,.pt (1,0) 0 0)],[(13,.one (some ⟨3,false,1,n,fun j=>[.i .i64 (if j<v then htP g j else if j=v then(S i).2 else 0)]⟩)),(1,.one (some ⟨27,true,2,1,fun _=>[ybc g.ids,yu g.ports]⟩))]⟩) (fun i=>i<=d) (fun i=>d-i) 0 (zU _) ?_ ?_
  .refine yh [] [] [] ?_;simp only[ybc,yu,yw,hn,hd,hS0,allQ,live,yc,yx,zL,go_sem,zA,zC,↓reduceIte,reduceCtorEq];intro j hj;split
   .rfl
   .split<;>rfl
  intro i hi
  by_cases hlti:i<d
  .have t2:decide ((i:Int)<(d:Int))=true:=decide_eq_true (by omega)
   have hm:L.getD i (0,0)∈L:=by rw[getD_at (show i<L.length by omega)];exact zF _
   have hss:=hsu i hlti;have hb:=hsl i hi;obtain⟨l,hl⟩:∃l,L.getD i (0,0)=l:=⟨_,rfl⟩;rw[hl]at hm hss;obtain⟨a1,a2,a3,_⟩:=hadj l hm;have hR:=ybem h _ v l.1.toNat a3 (zAC _);have hrb:=h.rch_le a3;rw[zAN a1]at hR;obtain⟨r,hr⟩:∃r,rchP g v l.1.toNat=r:=⟨_,rfl⟩;rw[hr]at hR hss hrb;have e1:(S (i+1)).1=max (S i).1 r:=by rw[hss];rfl
   have e2:(S (i+1)).2=max (S i).2 (min r (S i).1):=by rw[hss];rfl
   simp only[grV]at hR;have i0:(if v<v then htP g v else if v=v then(S i).2 else 0)=(S i).2:=by rw[if_neg (zBA v),if_pos rfl]
   have i1:(if v=v then(S i).2 else 0)=(S i).2:=if_pos rfl
   simp only[ycbt,ycnj,ydbj,yw,hd,hl,t2,splice,clash,go_sem,zA,zB,zI,zC,↓reduceIte,reduceCtorEq];refine⟨by omega,hR.use ?_⟩
   simp only[ybg,ybvc,ycem,ycdv,splice,clash,<-e1,<-e2,go_sem,zA,zB,↓reduceIte,reduceCtorEq];refine⟨⟨by omega,by omega⟩,by omega,⟨by omega,by omega⟩,by omega,ikw (by omega) (by omega),?_⟩
   refine yj (i+1) (by omega) (by omega) ?_
   refine yh [] [] [] ?_;simp only[ybc,yu,yw,hn,allQ,live,yc,yx,go_sem,zA,zC,↓reduceIte,reduceCtorEq];refine⟨by omega,fun j hj=>?_⟩
   by_cases q:j=v
   .subst q;simp only[if_pos,if_neg (zBA j)];simp only[go_sem,live,yc,go_sem,reduceCtorEq]
   .simp only[if_neg q];simp only[go_sem,live,yc,go_sem,reduceCtorEq]
  .obtain rfl:i=d:=by omega
   have t2:decide ((i:Int)<(i:Int))=false:=decide_eq_false (by omega)
   simp only[ycbt,ybvh,t2,clash,go_sem,zA,zB,↓reduceIte,reduceCtorEq];refine⟨ikw (by omega) (by omega),?_⟩
   refine yj (v+1) (by omega) (by omega) ?_
   refine yh [] [] [] ?_;simp only[ybc,yu,yw,hn,allQ,live,yc,yx,go_sem,zA,zC,↓reduceIte,reduceCtorEq];refine⟨by omega,fun j hj=>?_⟩
   by_cases q:j<v
   .rw[if_pos q,if_pos (by omega)]
   .rw[if_neg q]
    by_cases q2:j=v
    .rw[if_pos q2,if_pos (by omega),q2,hend]
    .rw[if_neg q2,if_neg (by omega)]
 .obtain rfl:v=n:=by omega
  have t1:decide ((v:Int)<(v:Int))=false:=decide_eq_false (by omega)
  simp only[ycbc,ycbn,t1,clash,go_sem,zA,zB,↓reduceIte,reduceCtorEq];rw[ybkf];refine ybbx fun j hj=>?_;rw[gmR _ _ _ _ hj,if_pos hj]
theorem ybwn{g:Gr}(hI:GrI g){c:Conf}(hR:ybyc c):Returns zO 101 [grV g,ycn c] (.b (ykv g c)):=by
 refine Returns.of (ydgv _ _ ?_);have hF:=ybjz hI;unfold ykv;cases ht:ydb g with
 | false =>
   rw[ht]at hF;simp only[grV]at hF;simp only[c101,ybyg,ycbr,grV,clash,go_sem,zA,zB,zC,↓reduceIte];refine hF.use ?_;simp only[ybg,clash,go_sem,zA,zB,↓reduceIte,reduceCtorEq];exact Sim.refl _
 | true =>
   have hcn:ygk g=true:=by
    unfold ydb at ht;rw[zS]at ht;exact ht.1
   have hg:=(yfb g).1 (yjo hcn);have h24:=hg.2.1;have hpl:=hg.2.2.1
   have hC:=ycgp hg hR (G:=[(g.ids.length:Int)]) (fun x hx=>by
    simp at hx;subst hx;exact yiz (by omega))
   rw[ht]at hF;simp only[grV]at hF;simp only[c101,ybyg,ycbr,grV,clash,go_sem,zA,zB,zC,↓reduceIte];refine hF.use ?_;simp only[ybg,ybc,splice,clash,go_sem,zA,zB,zI,zC,↓reduceIte,reduceCtorEq];have one:∀{q:Nat},q<1->q=0:=fun {q} h=>by omega
   refine .inl ⟨fun q hq=>by obtain rfl:=one hq;simp only[go_sem],hC.useS ?_ ?_⟩
   .refine⟨Sim.refl (grV g),Sim.refl _,?_,trivial⟩;refine ydp fun q hq=>?_;obtain rfl:=one hq;simp only[List.getD_cons_zero,go_sem];exact⟨Sim.refl _,trivial⟩
   simp only[go_sem];exact Sim.refl _
end Sh
end
section
section
variable {g:Gr}{t u v:Nat}
end
end
section
section
variable {g:Gr}{t u v a:Nat}
end
end
section
section
variable {g:Gr}{f:Nat->Int}
end
end
section
namespace Sh
open Go Ev Go.RowKit
section
variable {m:Mem}{F:AM}
theorem row_of{z bk p n cp N e zz:Nat}{Tb:Ev.T Value}{L:Nat->List Value}(h1:m.b.get bk=some (.cells Tb N e zz))(h2:0<n)(h3:p+n*z<=N)(h4:∀a,a<n->(L a).length=z)(h5:∀a,a<n->∀j,j<z->Tb.get (p+a*z+j)=(L a)[j]?) :
 rowOf m z (.slice (some ⟨bk,p,none⟩) n cp)=some (ycl L n,[bk]):=by
 have hl:=ycu h4;show(bif zBH n 0 then _ else _)=_;rw[show zBH n 0=false by cases n with|zero=>omega|succ n=>rfl]
 simp only[cond_false];rw[h1];simp only;rw[zX h3];simp only[cond_true]
 have hg:=ygz (T:=Tb) (L:=ycl L n) (o:=p) (fun j hj=>by
  rw[hl]at hj;rcases zAP z with hz|hz
  .subst hz;omega
  .have hd:=Nat.div_add_mod j z;have hm:=Nat.mod_lt j hz;have hk:j/z<n:=Nat.div_lt_of_lt_mul (by rwa [zBD]at hj)
   have e1:j=j/z*z+j%z:=by rw[zBD];exact hd.symm
   rw[e1,ygg h4 _ _ hk hm,<-Nat.add_assoc];exact h5 _ hk _ hm)
 rw[hl]at hg;rw[hg]
theorem row_zero{u:Value}(h:Z0 u)(z:Nat):rowOf m z u=some ([],[]):=by
 rcases h with rfl|⟨b,o,c,rfl⟩
 .rfl
 .rfl
theorem in64{n:Int}(h:I64 n):inI64 n=true:=by
 unfold I64 at h;unfold inI64;split
 .rename_i k;exact zX (by simp only[Int.ofNat_eq_natCast]at h;omega)
 .rename_i k;exact zX (by omega)
theorem yqo{a b:Int}(ha:I64 a)(hb:I64 b):∀{l:List Value}{r:List (Int×Int)},pairsOf l=some r->pairsOf (l++[.int .i64 a,.int .i64 b])=some (r++[(a,b)])
 | [],r,h=>by
   cases h
   show(bif inI64 a&&inI64 b then _ else _)=_;rw[in64 ha,in64 hb];rfl
 | .int .i64 x :: .int .i64 y::l,r,h=>by
   unfold pairsOf at h;split at h
   .rename_i r' hr
    rw[Bool.cond_eq_ite]at h;split at h
    .rename_i hc
     cases h
     show(match pairsOf (l++[.int .i64 a,.int .i64 b])with|some r=>bif inI64 x&&inI64 y then some ((x,y)::r)else none|none=>none)=_
     rw[yqo ha hb hr];simp only[hc,cond_true];rfl
    .cases h
   .cases h
theorem ybqt(hF:Le F m.b.get){ls:List (Int×Int)}{u:Value}(h:RV F om0 (yw ls) u)(hI:∀l∈ls,I64 l.1/\I64 l.2):linksOf m u=some ls:=by
 unfold linksOf;rcases h.sl_inv with⟨h0,hz⟩|⟨bk,p,cp,T,N,e,zz,L,rfl,g1,g2,g3,g4,g5,g6,g7⟩
 .rw[row_zero hz];have:ls=[]:=zQ h0;subst this;rfl
 .rcases zAP ls.length with h0|h0
  .have:ls=[]:=zQ h0;subst this;rfl
  .rw[row_of (hF _ _ g1) h0 g3 g4 g5]
   have:∀n,n<=ls.length->pairsOf (ycl L n)=some (ls.take n):=by
    intro n
    induction n with
    |zero=>intro _;rfl
    | succ n ih =>
      intro hn;have hn':n<ls.length:=by omega
      have hl:=g6 n hn'
      have e1:L n=[.int .i64 ls[n].1,.int .i64 ls[n].2]:=by
       have e0:ls.getD n (0,0)=ls[n]:=by simp[zM,hn']
       rw[e0]at hl;obtain⟨x,y,e2,hx,hy⟩:=rvl2 hl;rw[e2,hx.int_inv,hy.int_inv]
      show pairsOf (ycl L n++L n)=_;rw[e1,zD hn'];have:=hI ls[n] (zF hn');exact yqo this.1 this.2 (ih (by omega))
   simp only;rw[this _ (zAC _),zT]
theorem ybwl{L:Nat->List Value}{n:Nat}(h:∀a,a<n->(L a).length=1){k:Nat}(hk:k<n):(ycl L n)[k]?=(L k)[0]?:=by
 have:=ygg h k 0 hk (by omega)
 simpa using this
end
end Sh
end
section
namespace Sh
open Go Ev
end Sh
end
section
open Ev
end
section
namespace Sh
open Ev Go.RowKit
end Sh
end
section
def ybfs(g:Gr):Sh.SV:=if ydb g=true then .ag (Sh.clmV 3 false true (ykb g/2+1) (-1))else .ag (Sh.clmV 0 false false 0 0)
theorem ytq{g:Gr}(h:ydb g=true):ygk g=true:=by
 unfold ydb at h;rw[zS]at h;exact h.1
theorem ybgf{g:Gr}(h:ydb g=true):ybj g:=(yfb g).1 (yjo (ytq h))
theorem ybtj{g:Gr}{c:Conf}(h:ykv g c=true):ydb g=true/\c.length=g.ports.length/\∀v,v<c.length->(c.getD v []).length=1:=by
 unfold ykv at h;rw[zS]at h;have hck:=(yff _ _ _).1 h.2;refine⟨h.1,hck.1,fun v hv=>?_⟩;rw[Sh.getD_at hv];have:=(hck.2 v _ (zK hv)).1
 simpa[yek]using this
namespace Sh
open Ev Go.RowKit
theorem ybpw{g:Gr}(hI:GrI g){c:Conf}(hR:ybyc c)(he:ydb g=true->Tr g):Returns zO 37 [grV g,ycn c] (.b (yec g c)):=by
 refine Returns.of (ydqc _ _ ?_);have hC:=ybwn hI hR;cases hcf:ykv g c with
 | false =>
   have e:yec g c=false:=by unfold yec;rw[hcf];rfl
   rw[hcf]at hC;rw[e];simp only[grV]at hC;simp only[c37,ydhu,ydfb,ydso,grV,clash,go_sem,zA,zB,zC,↓reduceIte,reduceCtorEq];refine hC.use ?_;simp only[ybg,clash,go_sem,zB,↓reduceIte];exact Sim.refl _
 | true =>
   obtain⟨ht,hcl,hc1⟩:=ybtj hcf;have hT:=he ht;have h24:=hT.good.2.1;have hH:=ybix hT;have hhb:=fun v hv=>hT.ht_le (v:=v) hv;obtain⟨n,hn⟩:∃n,g.ports.length=n:=⟨_,rfl⟩;have hLe:yec g c=(zG n).all fun v=>decide ((c.getD v []).getD 0 0=htP g v):=by unfold yec;rw[hcf,hn];rfl
   rw[hLe];rw[hcf]at hC;rw[hn]at h24 hH hcl;have hml:=ybkf n (htP g);have hmg:∀v,v<n->(mapR n (htP g)).getD v 0=htP g v:=fun v hv=>gmR _ _ _ _ hv;obtain⟨H,hHe⟩:∃H,mapR n (htP g)=H:=⟨_,rfl⟩;rw[hHe]at hH hml hmg;simp only[grV]at hC hH;simp only[ybc,hml]at hH;simp only[c37,ydhu,ydfb,ydkk,grV,ybc,clash,go_sem,zA,zB,zC,↓reduceIte,reduceCtorEq];refine hC.use ?_;simp only[ybg,clash,go_sem,zA,zB,↓reduceIte]
   refine hH.use ?_;simp only[go_sem]
   refine ybd (σ:=Nat) (fun k=>⟨[(14,.i .i64 k),(13,.i .i64 n),(12,ybc H),(1,ycn c)],[]⟩)
    (fun k=>k<=n/\∀j,j<k->(c.getD j []).getD 0 0=htP g j) (fun k=>n-k) 0 ⟨zU _,fun j hj=>absurd hj (zAA j)⟩ ?_ ?_
   .refine yh [] [] [] ?_;simp only[ybc,ycn,hml,allQ,live,yc,zL,go_sem,zA,↓reduceIte,reduceCtorEq]
   rintro k ⟨hk,hall⟩
   by_cases hlt:k<n
   .have t1:decide ((k:Int)<(n:Int))=true:=decide_eq_true (by omega)
    have hs1:=hc1 k (by omega)
    have hgk:=hmg k hlt;obtain⟨s,hs⟩:∃s,c.getD k []=s:=⟨_,rfl⟩;rw[hs]at hs1;obtain⟨x,hx⟩:∃x,s.getD 0 0=x:=⟨_,rfl⟩
    by_cases heq:x=htP g k
    .have t2:(x != htP g k)=false:=by rw[heq];simp
     simp only[ycki,ydhm,ydfm,ydnm,ybc,ycn,hml,hcl,hs,hs1,hgk,hx,t1,t2,clash,go_sem,zAW,zA,zB,↓reduceIte,reduceCtorEq];refine⟨by omega,⟨by omega,by omega⟩,by omega,ikw (by omega) (by omega),yj (k+1) ⟨by omega,fun j hj=>?_⟩ (by omega) ?_⟩
     .by_cases q:j=k
      .rw[q,hs,hx];exact heq
      .exact hall j (by omega)
     .refine yh [] [] [] ?_;simp only[allQ,live,yc,yx,go_sem,zA,↓reduceIte,reduceCtorEq];omega
    .have t2:(x != htP g k)=true:=by rw[bne_iff_ne];exact heq
     have e:(zG n).all (fun v=>decide ((c.getD v []).getD 0 0=htP g v))=false:=by
      rw[List.all_eq_false];exact⟨k,List.mem_range.2 hlt,by rw[hs,hx];simpa using heq⟩
     rw[e];simp only[ycki,ydhm,ydfm,ydot,ybc,ycn,hml,hcl,hs,hs1,hgk,hx,t1,t2,clash,go_sem,zAW,zA,zB,↓reduceIte,reduceCtorEq];exact⟨by omega,⟨by omega,by omega⟩,by omega,Sim.refl _⟩
   .obtain rfl:k=n:=by omega
    have t1:decide ((k:Int)<(k:Int))=false:=decide_eq_false (by omega)
    have e:(zG k).all (fun v=>decide ((c.getD v []).getD 0 0=htP g v))=true:=by
     rw[List.all_eq_true];exact fun v hv=>decide_eq_true (hall v (List.mem_range.1 hv))
    rw[e];simp only[ycki,ydxo,t1,go_sem,zA,↓reduceIte];exact Sim.refl _
theorem yboe{g:Gr}(hI:GrI g):Returns zO 36 [grV g] (ybfs g):=by
 refine Returns.of (ydvr _ _ ?_);have hF:=ybjz hI;unfold ybfs;cases ht:ydb g with
 | false =>
   rw[ht]at hF;simp only[grV]at hF;simp only[c36,ydfe,ydjp,ydwa,grV,clmV,clash,go_sem,zA,zB,zC,↓reduceIte];refine hF.use ?_;simp only[ybg,splice,clash,go_sem,zA,zB,↓reduceIte];exact Sim.refl _
 | true =>
   have hD:=ycbw hI;rw[if_pos (ytq ht)]at hD;have hg:=ybgf ht;have h24:=hg.2.1;have d1:=yji (g:=g) g.ports.length;have d2:=ybgj hg g.ports.length (zAC _);have d3:(ykb g).tdiv 2=ykb g/2:=zAD d1;have d1:0<=ykb g:=d1;have d2:ykb g<=24:=d2;rw[ht]at hF;simp only[grV]at hF hD;simp only[c36,ydfe,ydjp,ydvd,grV,clmV,clash,go_sem,zA,zB,zC,↓reduceIte];refine hF.use ?_;simp only[ybg,splice,clash,go_sem,zA,zB,zI,↓reduceIte]
   refine hD.use ?_;simp only[d3,go_sem,zA,zB,↓reduceIte];exact⟨⟨by decide,ikw (by omega) (by omega)⟩,ikw (by omega) (by omega),Sim.refl _⟩
end Sh
end
section
def ymo(ls:List (Int×Int))(b:Int):Bool:=ls.any fun l=>decide (l.1=b)
namespace Sh
open Ev Go.RowKit
theorem ybqh{ids:List Int}{ports:List (List (Int×Int))}{a b:Nat}(ha:a<ports.length)(hl:(ports.getD a []).length<=100000) :
 Returns zO 116 [.ag [ybc ids,yu ports],.i .i64 a,.i .i64 b] (.b (ymo (ports.getD a []) b)):=by
 refine Returns.of (ydcm _ _ ?_);obtain⟨n,hn⟩:∃n,ports.length=n:=⟨_,rfl⟩;obtain⟨L,hL⟩:∃L,ports.getD a []=L:=⟨_,rfl⟩;rw[hL]at hl ⊢;obtain⟨m,hm⟩:∃m,L.length=m:=⟨_,rfl⟩;simp only[c116,ycqy,ycrr,go_sem,zB,zC,↓reduceIte];refine ybd (σ:=Nat) (fun k=>⟨[(7,.i .i64 k),(3,.pt (3,0) 0 0),(1,.i .i64 a),(2,.i .i64 b)],[(3,.one (some ⟨27,true,2,1,fun _=>[ybc ids,yu ports]⟩))]⟩) (fun k=>k<=m/\∀j,j<k->(L.getD j (0,0)).1≠b) (fun k=>m-k) 0 ⟨zU _,fun j hj=>absurd hj (zAA j)⟩ ?_ ?_
 .refine yh [] [] [] ?_;simp only[go_sem,allQ,live,yc,zL,go_sem,zA,zC,↓reduceIte,reduceCtorEq]
 .rintro k ⟨hk,hno⟩;simp only[ycyk,ydbi,ycww,ycmr,ycyb,yu,yw,hn,hL,hm,go_sem,zA,zB,zI,↓reduceIte,reduceCtorEq];refine⟨⟨by omega,by omega⟩,fun hlt=>⟨⟨by omega,by omega⟩,⟨by omega,by omega⟩,fun he=>?_,fun hne=>⟨ikw (by omega) (by omega),?_⟩⟩,fun hge=>?_⟩
  .have hk':k<L.length:=by omega
   have:ymo L b=true:=List.any_eq_true.2 ⟨L[k],zF _,by rw[getD_at hk']at he;exact decide_eq_true he⟩
   rw[this];exact Sim.refl _
  .refine yj (k+1) ⟨by omega,fun j hj=>?_⟩ (by omega) ?_
   .by_cases q:j=k
    .rw[q];exact hne
    .exact hno j (by omega)
   refine yh [] [] [] ?_;simp only[allQ,live,yc,yx,go_sem,zA,zC,↓reduceIte,reduceCtorEq];omega
  .have:ymo L b=false:=List.any_eq_false.2 fun l hl he=>by
    obtain⟨j,hj,rfl⟩:=zAB hl;have:=hno j (by omega)
    rw[getD_at hj]at this;exact this (of_decide_eq_true he)
   rw[this];exact Sim.refl _
end Sh
end
end Go.Proofs.YthclbjjgfcgbgaaGreatDoor
