/- Joined. -/
import Derived.Test.YtiejahgklcjhkaaGreatDoorPkW0
import Derived.OrdersIn
import Derived.LoopNIn
import Derived.RangeFuncNested
import Derived.TacticsIn
set_option linter.unusedSimpArgs false
set_option linter.unusedVariables false
open Bool renaming and_eq_true->zA,and_eq_false_iff->zT,or_eq_true->zX,not_eq_true'->zAC,cond_eq_ite->zAF,or_eq_false_iff->zAL
open Nat renaming eq_of_beq_eq_true->zB,lt_of_lt_of_le->zC,le_refl->zF,le_of_ble_eq_true->zG,testBit->zK,ble_eq_true_of_le->zL,le_trans->zM,succ->zO,min_le_right->zQ,lt_or_ge->zU,lt_trichotomy->zAB,beq->zAE,pow_succ->zAG,min_le_left->zAH,ble->zAJ,beq_refl->zAN,blt->zAO,lt_succ_self->zAR,strongRecOn->zAU,min->zAW,lt_irrefl->zAZ,add_zero->zBB,zero_add->zBC
open Array renaming getD_eq_getD_getElem?->zD,getElem?_setIfInBounds->zS,getElem?_toList->zV,getElem?_eq_getElem->zAD,replicate->zAT
open List renaming range->zH,mem_cons_self->zI,mem_cons_of_mem->zJ,getElem?_eq_none->zW,foldl_cons->zY,mem_append_left->zZ,eq_nil_of_length_eq_zero->zAA,mem_filter->zAI,pairwise_append->zAK,append_assoc->zAP,range_succ->zAV,mapM_cons->zAX,getD->zAY
open BitVec renaming ofInt->zN
open Go.Sem renaming run_bind->zAM,run_pure->zBA
open Go.Result renaming andThen_ok->zAQ
open Option renaming bind_some->zAS
open Go
namespace Go.Proofs.YtiejahgklcjhkaaGreatDoor
section
namespace Ev
structure FrR(φ:Phi)(f:Fr)(a:Act):Prop where
 size:a.tmps.size=f.n
 get:∀t v,f.t.get t=some v->VR φ v (a.tmps.getD t undef)
def Sub(m:Mem)(M:AM):Prop:=∀i b,m.b.get i=some b->M i=some b
def ygh(φ:Phi)(lo hi:Nat):Prop:=∀i,lo<=i->i<hi->φ i=none
def Wf(m:Mem):Prop:=∀i b,m.b.get i=some b->i<m.next
structure Ext(m m':Mem):Prop where
 next:m.next<=m'.next
 dom:∀i b,m'.b.get i=some b->(∃b₀,m.b.get i=some b₀)\/(m.next<=i/\i<m'.next)
 old:∀i b,i<m'.low->¬(m.next<=i/\i<m'.next)->m'.b.get i=some b->m.b.get i=some b
 wf:Wf m'
structure Good(φ:Phi)(M:AM)(w:World)(m m':Mem)(φ':Phi)(M':AM)(w':World):Prop where
 le:φ.le φ'
 out:∀i,¬(m.next<=i/\i<m'.next)->φ' i=φ i
 rel:Rel φ' M' w'
 sub:Sub m' M'
 frame:∀i,¬(m.next<=i/\i<m'.next)->(m.b.get i=none\/i<m'.low)->M' i=M i
 wg:WG φ M w φ' M' w'
def wr(r:Option Nat):Fence:={ Fence.wide with round:=r }
def Marks(lo:Nat)(w:World)(ms:List Deferred):Prop:=ms.Pairwise (fun x y=>x.target≠y.target)/\∀d∈ms,∃D,lo<=D/\d.target = .collected D/\w.heap[D]?=some (.deferred (some []))
def Df(w w':World)(a a':Act):Prop:=∃ms,a'.defers=ms++a.defers/\Marks w.heap.size w' ms
theorem Marks.nil{lo:Nat}{w:World}:Marks lo w []:=⟨List.Pairwise.nil,fun _ h=>by cases h⟩
theorem Df.same{w w':World}{a a':Act}(h:a'.defers=a.defers):Df w w' a a':=⟨[],h,Marks.nil⟩
theorem Img.not_deferred{φ:Phi}{M:AM}{w:World}(hR:Rel φ M w){k:Nat}{x:Option (List Deferred)}(h:w.heap[k]?=some (.deferred x)):¬Img φ M k:=by
 rintro⟨i,b,l,h1,h2,rfl⟩;obtain⟨l',h3,h4⟩:=hR.blk i b h1;rw[h2]at h3;cases h3
 cases b with
 |cells c n e z=>obtain⟨_,_,cs,_,_,_,h5,_⟩:=h4;rw[h]at h5;cases h5
 |map es cl=>have h5:w.heap[l.blk]?=some (.map es cl):=h4;rw[h]at h5;cases h5
theorem Marks.step{φ φ':Phi}{M M':AM}{w w':World}{lo:Nat}{ms:List Deferred}(h:Marks lo w ms)(hR:Rel φ M w)(hg:WG φ M w φ' M' w'):Marks lo w' ms:=by
 refine⟨h.1,fun d hd=>?_⟩;obtain⟨D,h1,h2,h3⟩:=h.2 d hd;exact⟨D,h1,h2,(hg.keep D (Array.getElem?_eq_some_iff.1 h3).1 (Img.not_deferred hR h3)).trans h3⟩
theorem Df.trans{φ φ':Phi}{M M':AM}{w w' w'':World}{a a' a'':Act}(h:Df w w' a a')(hsz:w.heap.size<=w'.heap.size)(hR:Rel φ M w')(hg:WG φ M w' φ' M' w'')(h':Df w' w'' a' a''):Df w w'' a a'':=by
 obtain⟨ms,e1,k1⟩:=h;obtain⟨ms',e2,k2⟩:=h';have k3:=k1.step hR hg;refine⟨ms'++ms,by rw[e2,e1,zAP],?_,fun d hd=>?_⟩
 .rw[zAK];refine⟨k2.1,k3.1,fun x hx y hy=>?_⟩;obtain⟨D,a1,a2,_⟩:=k2.2 x hx;obtain⟨D',b1,b2,b3⟩:=k1.2 y hy;have:=(Array.getElem?_eq_some_iff.1 b3).1;rw[a2,b2];intro q;cases q
  omega
 .rcases List.mem_append.1 hd with h|h
  .obtain⟨D,a1,a2,a3⟩:=k2.2 d h;exact⟨D,by omega,a2,a3⟩
  .exact k3.2 d h
def ycew(φ:Phi)(M:AM)(w:World)(m:Mem)(e:Exit)(f':Fr)(m':Mem)(a:Act):Exit->Act->World->Prop :=
 fun e' a' w'=>e'=e/\∃φ' M',Good φ M w m m' φ' M' w'/\FrR φ' f' a'/\Df w w' a a'
def ydno(φ:Phi)(M:AM)(w:World)(m:Mem)(v:Value)(m':Mem):Ending->World->Prop :=
 fun e w'=>∃v',e = .returned v'/\∃φ' M',Good φ M w m m' φ' M' w'/\VR φ' v v'
def yblz(P:Program)(g:FuncId)(args:Array Value)(w:World)(R:Ending->World->Prop):Prop :=
 ((callFunc g args).run P w = .ok (.enter g args) w/\Calls P g args w R)\/(∃v w',(callFunc g args).run P w = .ok (.value v) w'/\R (.returned v) w')
def ybw(P:Program):Task->Out->Prop
 |.code c f m,.code e f' m'=>Wf m->Ext m m'/\m'.low<=m.low/\∀φ M w a r,(r.isSome=true->noRF c=true)->Rel φ M w->Sub m M->FrR φ f a->ygh φ m.next m'.next->c.wpIn (wr r) 0 P (ycew φ M w m e f' m' a) a w
 |.call g args m,.call v m'=>Wf m->Ext m m'/\∀φ M w args',Rel φ M w->Sub m M->VRL φ args args'->ygh φ m.next m'.next->yblz P g args'.toArray w (ydno φ M w m v m')
 |_,_=>False
def yem(P:Program)(self:Task->Option Out):Prop:=∀t o,self t=some o->ybw P t o
section
variable {P:Program}{self:Task->Option Out}{φ φ':Phi}{M M':AM}{w w':World}{f f':Fr}{m m' m'':Mem}{a:Act}
theorem Ext.refl(h:Wf m):Ext m m:=⟨zF _,fun _ b h=>.inl ⟨b,h⟩,fun _ _ _ _ h=>h,h⟩
theorem Ext.trans(hl:m''.low<=m'.low)(a:Ext m m')(b:Ext m' m''):Ext m m'':=by
 refine⟨zM a.next b.next,fun i x hx=>?_,fun i x h1 h2 h3=>a.old i x (zC h1 hl) (fun q=>h2 ⟨q.1,zC q.2 b.next⟩) (b.old i x h1 (fun q=>h2 ⟨zM a.next q.1,q.2⟩) h3),b.wf⟩
 rcases b.dom i x hx with⟨y,hy⟩|⟨h1,h2⟩
 .rcases a.dom i y hy with h|⟨h1,h2⟩
  .exact .inl h
  .exact .inr ⟨h1,zC h2 b.next⟩
 .exact .inr ⟨zM a.next h1,h2⟩
theorem Good.refl(hR:Rel φ M w)(hs:Sub m M):Good φ M w m m φ M w:=⟨φ.le_refl,fun _ _=>rfl,hR,hs,fun _ _ _=>rfl,WG.refl _ _ _⟩
theorem Good.trans{φ'':Phi}{M'':AM}{w'':World}(e:Ext m m')(e':Ext m' m'')(hl:m''.low<=m'.low)(a:Good φ M w m m' φ' M' w')(b:Good φ' M' w' m' m'' φ'' M'' w''):Good φ M w m m'' φ'' M'' w'':=by
 refine⟨Phi.le_trans a.le b.le,fun i hi=>?_,b.rel,b.sub,fun i hi hn=>?_,a.wg.trans b.wg⟩
 .rw[b.out i (fun h=>hi ⟨zM e.next h.1,h.2⟩),a.out i (fun h=>hi ⟨h.1,zC h.2 e'.next⟩)]
 .have h1:¬(m.next<=i/\i<m'.next):=fun h=>hi ⟨h.1,zC h.2 e'.next⟩
  have h2:¬(m'.next<=i/\i<m''.next):=fun h=>hi ⟨zM e.next h.1,h.2⟩
  have h3:m'.b.get i=none\/i<m''.low:=by
   rcases hn with hn|hn
   .left
    cases hg:m'.b.get i with
    |none=>rfl
    | some x =>
      rcases e.dom i x hg with⟨y,hy⟩|h
      .rw[hn]at hy;cases hy
      .exact absurd h h1
   .exact .inr hn
  rw[b.frame i h2 h3];exact a.frame i h1 (hn.imp id fun q=>zC q hl)
theorem ygh.left{lo mid hi:Nat}(h:ygh φ lo hi)(hm:mid<=hi):ygh φ lo mid:=fun i h1 h2=>h i h1 (zC h2 hm)
theorem Good.fresh(g:Good φ M w m m' φ' M' w')(e:Ext m m'){hi:Nat}(h:ygh φ m.next hi):ygh φ' m'.next hi:=fun i h1 h2=>by
 rw[g.out i (fun q=>absurd q.2 (Nat.not_lt.2 h1))];exact h i (zM e.next h1) h2
theorem yqm(next:Nat)(b:T ABlk)(low:Nat)(e:Eff):Mem.appE next b low e=match e with
 |.none=>⟨next,b,low⟩
 |.new x=>⟨next+1,T.set (zO next) b next (some x),low⟩
 |.upd i x=>⟨next,T.set (zO i) b i (some x),zAW low i⟩
 |.move i x=>⟨next+1,T.set (zO next) (T.set (zO i) b i none) next (some x),zAW low i⟩:=by
 cases e<;>simp only[Mem.appE,Mem.mk1,ybl,T.strict_eq]
theorem ynb(m:Mem)(e:Eff):(m.app e).next=if e.adds then m.next+1 else m.next:=by
 obtain⟨next,b,low⟩:=m
 show(Mem.appE next b low e).next=_
 rw[yqm];cases e<;>rfl
theorem ypi{e:Eff}{i:Nat}{x:ABlk}(h:(m.app e).b.get i=some x):appM m.b.get m.next e i=some x:=by
 obtain⟨next,b,low⟩:=m
 change (Mem.appE next b low e).b.get i=some x at h
 rw[yqm]at h;cases e with
 |none=>exact h
 | new y =>
   dsimp only at h
   have:=T.get_set _ _ _ _ _ _ h;simp only[appM,upd];split at this
   .rename_i e;rw[if_pos e];exact this
   .rename_i e;rw[if_neg e];exact this
 | upd j y =>
   dsimp only at h
   have:=T.get_set _ _ _ _ _ _ h;simp only[appM,upd];split at this
   .rename_i e;rw[if_pos e];exact this
   .rename_i e;rw[if_neg e];exact this
 | move j y =>
   dsimp only at h
   have:=T.get_set _ _ _ _ _ _ h;simp only[appM,upd];split at this
   .rename_i e;rw[if_pos e];exact this
   .rename_i e
    rw[if_neg e];have:=T.get_set _ _ _ _ _ _ this;split at this
    .cases this
    .rename_i e;rw[if_neg e];exact this
theorem ytu(m:Mem)(e:Eff):(m.app e).low<=m.low/\∀i∈e.mods,(m.app e).low<=i:=by
 obtain⟨next,b,low⟩:=m
 show(Mem.appE next b low e).low<=low/\∀i∈e.mods,(Mem.appE next b low e).low<=i
 rw[yqm];cases e with
 |none=>exact⟨zF _,fun i hi=>by simp[Eff.mods]at hi⟩
 |new x=>exact⟨zF _,fun i hi=>by simp[Eff.mods]at hi⟩
 |upd j x=>exact⟨zAH _ _,fun i hi=>by simp[Eff.mods]at hi;subst hi;exact zQ _ _⟩
 |move j x=>exact⟨zAH _ _,fun i hi=>by simp[Eff.mods]at hi;subst hi;exact zQ _ _⟩
theorem ybrm{N:AM}{next:Nat}{e:Eff}(h:∀i b,M i=some b->N i=some b):∀i b,appM M next e i=some b->appM N next e i=some b:=by
 intro i b hb;cases e<;>simp only[appM,upd]at hb ⊢
 .exact h i b hb
 all_goals
  split at hb
  .rename_i q;rw[if_pos q];exact hb
  .rename_i q
   rw[if_neg q]
   first
    |exact h i b hb
    | (split at hb
       .cases hb
       .rename_i q;rw[if_neg q];exact h i b hb)
theorem ygt{next i:Nat}{e:Eff}(h1:e.adds=true->i≠next)(h2:i∉e.mods):appM M next e i=M i:=by
 cases e with
 |none=>rfl
 |new x=>simp[appM,upd,h1 rfl]
 |upd j x=>simp[Eff.mods]at h2;simp[appM,upd,h2]
 |move j x=>simp[Eff.mods]at h2;simp[appM,upd,h1 rfl,h2]
theorem ybtj(hw:Wf m){e:Eff}(hmods:∀i∈e.mods,∃b,m.b.get i=some b):Ext m (m.app e):=by
 have hn:=ynb m e;refine⟨by rw[hn];split<;>omega,fun i b hb=>?_,fun i b h1 h2 h3=>?_,fun i b hb=>?_⟩
 rotate_left
 .have:=ypi h3;rw[ygt (fun q e=>h2 ⟨by omega,by rw[hn,if_pos q];omega⟩) (fun q=>by have:=(ytu m e).2 i q;omega)]at this
  exact this
 rotate_left
 .have:=ypi hb
  by_cases h2:i∈e.mods
  .exact .inl (hmods i h2)
  .by_cases h1:e.adds=true/\i=m.next
   .right;rw[hn,if_pos h1.1];omega
   .rw[ygt (fun q r=>h1 ⟨q,r⟩) h2]at this;exact .inl ⟨b,this⟩
 .have:=ypi hb
  by_cases h2:i∈e.mods
  .obtain⟨y,hy⟩:=hmods i h2;have:=hw i y hy;rw[hn];split<;>omega
  .by_cases h1:e.adds=true/\i=m.next
   .rw[hn,if_pos h1.1];omega
   .rw[ygt (fun q r=>h1 ⟨q,r⟩) h2]at this;have:=hw i b this;rw[hn];split<;>omega
theorem ybid{i:TypeInfo}{elem:TypeId}{ad:Addr}{sLen k sCap:Nat}{new:List Value}{fx:List Nat}{b:ABlk}{r:R}(hb:m.b.get ad.block=some b)(h:appSome m i elem ad sLen k sCap new fx b=some r) :
 ∀j∈r.e.mods,j∈r.foot/\∃b,m.b.get j=some b:=by
 unfold appSome at h;split at h
 .obtain⟨_,h9⟩:=ybf h;rw[ybh]at h9;split at h9
  .unfold appIn at h9;obtain⟨_,h10⟩:=ybf h9;rw[ybl]at h10;cases h10
   intro j hj;simp[Eff.mods]at hj;subst hj;exact⟨by simp,_,hb⟩
  .unfold appOut at h9;rw[ybh]at h9;split at h9
   .rw[ybx h9];intro j hj;have:j=ad.block:=by simpa[Eff.mods]using hj
    subst this;exact⟨by simp,_,hb⟩
   .obtain⟨old,_,h10⟩:=yg h9;rw[ybx h10];intro j hj
    have:j=ad.block:=by
     rw[ybh]at hj;split at hj
     .simpa[Eff.mods]using hj
     .simp[Eff.mods]at hj
    subst this;exact⟨by simp,_,hb⟩
 .cases h
theorem ycc{r:R}{P:Prop}{j:Nat}(h:r.e = .none\/∃b,r.e = .new b)(hj:j∈r.e.mods):P:=by
 rcases h with h|⟨b,h⟩<;>(rw[h]at hj;simp[Eff.mods]at hj)
theorem ywm{v:Value}{r:R}(h:val v=some r):r.e = .none:=by rw[yfc h]
theorem ymf{o:Oper}{r:R}(h:pureA P f o=some r):r.e = .none:=by
 unfold pureA at h;split at h
 .cases h
 .rw[zAF]at h;split at h
  .split at h
   .rw[zAF]at h;split at h
    .cases h;rfl
    .cases h
   .cases h
  .cases h
theorem ybao{ad:Addr}{k:Nat}{r:R}(h:addrAt ad k=some r):r.e = .none:=by rw[(yji h).2]
theorem ybai{o:Oper}{r:R}(h:evOp P f o m=some r):∀i∈r.e.mods,i∈r.foot/\∃b,m.b.get i=some b:=by
 unfold evOp at h;split at h
 .obtain⟨_,_,h⟩:=yg h;exact fun i hi=>ycc (.inl (ywm h)) hi
 .obtain⟨_,_,h⟩:=yg h;exact fun i hi=>ycc (.inl (ywm h)) hi
 .obtain⟨_,_,h⟩:=yg h;unfold evPick at h;split at h
  .obtain⟨_,_,h⟩:=yg h;exact fun i hi=>ycc (.inl (ywm h)) hi
  .cases h
 .obtain⟨_,_,h⟩:=yg h;obtain⟨_,_,h⟩:=yg h;cases h;exact fun i hi=>ycc (.inr ⟨_,rfl⟩) hi
 .obtain⟨_,_,h⟩:=yg h;obtain⟨_,h⟩:=ybf h;cases h;exact fun i hi=>ycc (.inr ⟨_,rfl⟩) hi
 .obtain⟨_,_,h⟩:=yg h;obtain⟨_,_,h⟩:=yg h;obtain⟨_,_,h⟩:=yg h;obtain⟨_,_,h⟩:=yg h;unfold evBuild1 at h;split at h
  .obtain⟨_,_,h⟩:=yg h;obtain⟨_,_,h⟩:=yg h;exact fun i hi=>ycc (.inl (ywm h)) hi
  .obtain⟨_,_,h⟩:=yg h;obtain⟨_,_,h⟩:=yg h;exact fun i hi=>ycc (.inl (ywm h)) hi
  .cases h
 .obtain⟨_,_,h⟩:=yg h;obtain⟨_,_,h⟩:=yg h;unfold evBuildSlice at h;split at h
  .obtain⟨_,_,h⟩:=yg h;obtain⟨_,_,h⟩:=yg h;obtain⟨_,h⟩:=ybf h;obtain⟨_,_,h⟩:=yg h;cases h;exact fun i hi=>ycc (.inr ⟨_,rfl⟩) hi
  .cases h
 .obtain⟨_,_,h⟩:=yg h;unfold evLoad at h;split at h
  .obtain⟨_,_,h⟩:=yg h;cases h;exact fun i hi=>ycc (.inl rfl) hi
  .cases h
 .obtain⟨_,_,h⟩:=yg h;obtain⟨_,_,h⟩:=yg h;unfold evStore at h;split at h
  .obtain⟨e,he,h⟩:=yg h;cases h
   unfold storeA at he;split at he
   .rename_i hb _
    simp only at he;rw[zAF]at he;split at he
    .cases he
     intro i hi;simp[Eff.mods]at hi;subst hi;exact⟨by simp,_,hb⟩
    .cases he
   .cases he
  .cases h
 .obtain⟨_,_,h⟩:=yg h;unfold evNilCheck at h;split at h
  .exact fun i hi=>ycc (.inl (ywm h)) hi
  .cases h
 .obtain⟨_,_,h⟩:=yg h;unfold evFieldAddr at h;split at h
  .obtain⟨_,_,h⟩:=yg h;unfold evFieldAddr1 at h;split at h
   .obtain⟨_,_,h⟩:=yg h;obtain⟨_,_,h⟩:=yg h;rw[ybh]at h;split at h
    .cases h
    .exact fun i hi=>ycc (.inl (ybao h)) hi
   .cases h
  .cases h
 .obtain⟨_,_,h⟩:=yg h;unfold evFieldOf at h;split at h
  .obtain⟨_,_,h⟩:=yg h;unfold evFieldOf1 at h;split at h
   .obtain⟨_,_,h⟩:=yg h;obtain⟨_,_,h⟩:=yg h;exact fun i hi=>ycc (.inl (ywm h)) hi
   .cases h
  .cases h
 .obtain⟨_,_,h⟩:=yg h;obtain⟨_,_,h⟩:=yg h;unfold evIndexAddr at h;split at h
  .obtain⟨_,_,h⟩:=yg h;unfold evIndex1 at h;split at h
   .split at h
    .obtain⟨_,h⟩:=ybf h;obtain⟨_,_,h⟩:=yg h;exact fun i hi=>ycc (.inl (ybao h)) hi
    .cases h
   .split at h
    .obtain⟨_,h⟩:=ybf h;obtain⟨_,_,h⟩:=yg h;exact fun i hi=>ycc (.inl (ybao h)) hi
    .cases h
   .cases h
  .cases h
 .obtain⟨_,_,h⟩:=yg h;unfold evExtract at h;split at h
  .obtain⟨_,_,h⟩:=yg h;exact fun i hi=>ycc (.inl (ywm h)) hi
  .cases h
 .obtain⟨_,_,h⟩:=yg h;obtain⟨_,_,h⟩:=yg h;unfold evMakeFunc at h;split at h
  .exact fun i hi=>ycc (.inl (ywm h)) hi
  .cases h
 .obtain⟨_,_,h⟩:=yg h;obtain⟨_,_,h⟩:=yg h;unfold evMakeSlice at h;split at h
  .obtain⟨_,_,h⟩:=yg h;unfold evMakeSlice1 at h;split at h
   .obtain⟨_,_,h⟩:=yg h;obtain⟨_,_,h⟩:=yg h;obtain⟨_,h⟩:=ybf h;cases h;exact fun i hi=>ycc (.inr ⟨_,rfl⟩) hi
   .cases h
  .cases h
 .obtain⟨_,_,h⟩:=yg h;obtain⟨_,_,h⟩:=yg h;obtain⟨_,_,h⟩:=yg h;obtain⟨_,_,h⟩:=yg h;unfold sliceA at h;split at h
  .obtain⟨_,_,h⟩:=yg h;obtain⟨_,_,h⟩:=yg h;cases h;exact fun i hi=>ycc (.inl rfl) hi
  .obtain⟨_,_,h⟩:=yg h;obtain⟨_,_,h⟩:=yg h;obtain⟨_,_,_,_,_,rfl⟩:=yhq h;exact fun i hi=>ycc (.inl rfl) hi
  .obtain⟨_,_,h⟩:=yg h;obtain⟨_,_,h⟩:=yg h;obtain⟨_,_,h⟩:=yg h;cases h;exact fun i hi=>ycc (.inl rfl) hi
  .obtain⟨_,_,h⟩:=yg h;obtain⟨_,_,h⟩:=yg h;obtain⟨_,h⟩:=ybf h;obtain⟨_,_,_,_,_,rfl⟩:=yhq h;exact fun i hi=>ycc (.inl rfl) hi
  .cases h
 .cases h;exact fun i hi=>ycc (.inr ⟨_,rfl⟩) hi
 .obtain⟨_,_,h⟩:=yg h;obtain⟨_,_,h⟩:=yg h;obtain⟨_,_,h⟩:=yg h;unfold evLookup at h;split at h
  .obtain⟨_,h⟩:=ybf h;obtain⟨_,_,h⟩:=yg h;unfold evLookup1 at h;split at h
   .obtain⟨_,_,h⟩:=yg h;obtain⟨_,h⟩:=ybf h;cases h;exact fun i hi=>ycc (.inl rfl) hi
   .cases h
  .cases h
 .obtain⟨_,_,h⟩:=yg h;obtain⟨_,_,h⟩:=yg h;obtain⟨_,_,h⟩:=yg h;obtain⟨_,_,h⟩:=yg h;unfold evMapSet at h;split at h
  .obtain⟨_,h⟩:=ybf h;obtain⟨_,hb,h⟩:=yg h;unfold evMapSet1 at h;split at h
   .obtain⟨_,_,h⟩:=yg h;cases h
    intro i hi;simp[Eff.mods]at hi;subst hi;exact⟨by simp,_,hb⟩
   .cases h
  .cases h
 .rename_i c _
  obtain⟨callee,args,ats⟩:=c;unfold evCallB at h;simp only at h;split at h
  .obtain⟨_,_,h⟩:=yg h;unfold evLen at h;split at h
   .obtain⟨_,_,h⟩:=yg h;split at h
    .rw[ybl]at h;exact fun i hi=>ycc (.inl (ywm h)) hi
    .cases h
   .exact fun i hi=>ycc (.inl (ymf h)) hi
  .obtain⟨_,_,h⟩:=yg h;unfold evAppend at h;split at h
   .obtain⟨_,h⟩:=ybf h;obtain⟨_,_,h⟩:=yg h;split at h
    .unfold appendA at h;obtain⟨_,_,h⟩:=yg h;obtain⟨_,_,h⟩:=yg h;unfold appendA1 at h;obtain⟨_,h⟩:=ybf h;rw[ybh]at h;split at h
     .unfold appNone at h;split at h
      .cases h;exact fun i hi=>ycc (.inl rfl) hi
      .cases h
     .unfold appendA2 at h;split at h
      .rw[ybx h];exact fun i hi=>ycc (.inr ⟨_,rfl⟩) hi
      .obtain⟨_,hb,h⟩:=yg h;exact ybid hb h
      .cases h
    .cases h
   .cases h
  .exact fun i hi=>ycc (.inl (ymf h)) hi
  .exact fun i hi=>ycc (.inl (ymf h)) hi
  .cases h
 .exact fun i hi=>ycc (.inl (ymf h)) hi
 .exact fun i hi=>ycc (.inl (ymf h)) hi
 .exact fun i hi=>ycc (.inl (ymf h)) hi
 .exact fun i hi=>ycc (.inl (ymf h)) hi
 .cases h
end
end Ev
end
section
namespace Ev
section
variable {P:Program}{self:Task->Option Out}{φ φ':Phi}{M M':AM}{w w':World}{f f':Fr}{m m' m'':Mem}{a:Act}{o:Oper}{r:R2}
theorem FrR.mono(h:FrR φ f a)(hle:φ.le φ'):FrR φ' f a:=⟨h.size,fun t v hv=>(h.get t v hv).mono hle⟩
theorem yii{x:Operand}{v:Value}(hf:∀t v,x = .tmp t->f.t.get t=some v->VR φ v (a.tmps.getD t undef))(h:f.get x=some v):VR φ v (a.eval x):=by
 cases x with
 |tmp t=>exact hf t v rfl h
 | const u =>
   unfold Fr.get constA at h;obtain⟨h1,h2⟩:=ybf h;cases h2
   exact VR.atomA h1
 |global g=>cases h
 |func g=>unfold Fr.get at h;cases h;exact VR.func .nil .nil
theorem FrR.ov(h:FrR φ f a)(o:Oper):OV φ f o a.eval:=fun _ _ _ hv=>yii (fun t v _ ht=>h.get t v ht) hv
theorem yot{d:Option Tmp}{v:Value}(h:f.put d v=some f'):(d=none/\f'=f)\/∃k,d=some k/\k<f.n/\f'.n=f.n/\f'.t=T.set (zO k) f.t k (some v):=by
 cases d with
 |none=>cases h;exact .inl ⟨rfl,rfl⟩
 | some k =>
   right
   obtain⟨n,t⟩:=f
   change Fr.putD v k ⟨n,t⟩=some f' at h
   unfold Fr.putD at h;obtain⟨h1,h2⟩:=ybf h;unfold Fr.set1 at h2;rw[force_eq,T.strict_eq]at h2;cases h2
   exact⟨k,rfl,zC (zAR _) (zG h1),rfl,rfl⟩
theorem FrR.put{d:Option Tmp}{v v':Value}(h:FrR φ f a)(hp:f.put d v=some f')(hv:VR φ v v'):FrR φ f' (a.put d v'):=by
 rcases yot hp with⟨rfl,rfl⟩|⟨k,rfl,hk,h1,h2⟩
 .exact h
 .refine⟨by simp[Act.put,h.size,h1],fun t u hu=>?_⟩
  rw[h2]at hu;have:=T.get_set _ _ _ _ _ _ hu;have hks:k<a.tmps.size:=by rw[h.size];exact hk
  by_cases e:t=k
  .subst e;rw[if_pos rfl]at this;cases this
   simp[Act.put,hks];exact hv
  .rw[if_neg e]at this;have:=h.get t u this;simp only[Act.put,zD]at this ⊢;rw[zS,if_neg (fun q=>e q.symm)];exact this
theorem VR.undef:VR φ undef undef:=VR.tuple .nil
theorem VR.bool_iff{v v':Value}(h:VR φ v v')(b:Bool):v' = .bool b↔v = .bool b:=by
 cases h with
 |simple _=>rfl
 |ptr _=>constructor<;>intro h<;>cases h
 |slice _ _ _ _ _=>constructor<;>intro h<;>cases h
 |map _=>constructor<;>intro h<;>cases h
 |func _ _=>constructor<;>intro h<;>cases h
 |agg _=>constructor<;>intro h<;>cases h
 |tuple _=>constructor<;>intro h<;>cases h
theorem yff{ops:Array Oper}{b:Bool}(h:wantedA ops.toList f o=some b)(hf:∀j want oj d v,o.guard=some (j,want)->ops[j]?=some oj->oj.dst=some d->f.t.get d=some v->VR φ v (a.tmps.getD d undef)) :
 Region.wanted o (yielded ops a.tmps)=b:=by
 unfold wantedA at h;unfold Region.wanted;cases hg:o.guard with
 |none=>rw[hg]at h;cases h;rfl
 | some g =>
   obtain⟨j,want⟩:=g;rw[hg]at h
   change wantedG ops.toList f (j,want)=some b at h
   unfold wantedG at h;simp only[zV]at h;show(yielded ops a.tmps j==some want)=b;unfold yielded;cases hj:ops[j]? with
   |none=>rw[hj]at h;cases h;rfl
   | some oj =>
     rw[hj]at h;simp only[zAS]
     change wantedD f want oj.dst=some b at h
     cases hd:oj.dst with
     |none=>rw[hd]at h;cases h;rfl
     | some d =>
       rw[hd]at h;obtain⟨v,hv,h2⟩:=yg h;cases h2
       have hvr:=hf j want oj d v hg hj hd hv;simp only[zAS];rw[zD]at hvr;cases ht:a.tmps[d]? with
       | none =>
         rw[ht]at hvr
         have:boolIs want v=false:=by
          unfold boolIs;split
          .rename_i q;have:=(hvr.bool_iff q).2 rfl;cases this
          .rfl
         rw[this];rfl
       | some u =>
         rw[ht]at hvr;simp only[Option.getD_some]at hvr
         by_cases hq:∃q,u = .bool q
         .obtain⟨q,rfl⟩:=hq;have:=(hvr.bool_iff q).1 rfl;subst this;show(some q==some want)=(q==want);cases q<;>cases want<;>rfl
         .have e1:boolIs want v=false:=by
           unfold boolIs;split
           .rename_i q;exact absurd ⟨q,(hvr.bool_iff q).2 rfl⟩ hq
           .rfl
          rw[e1];split
          .rename_i q e2;cases e2;exact absurd ⟨q,rfl⟩ hq
          .rfl
theorem VR.func_inv{g:FuncId}{x y:Array Value}{v':Value}(h:VR φ (.func (.func g) x y) v'):∃x' y':List Value,v' = .func (.func g) x'.toArray y'.toArray/\VRL φ x.toList x'/\VRL φ y.toList y':=by
 generalize e:Value.func (.func g) x y=v at h
 cases h with
 |simple h=>subst e;simp[Ev.simple]at h
 |func ha hc=>cases e;exact⟨_,_,rfl,by simpa using ha,by simpa using hc⟩
 |_=>cases e
noncomputable def ydx(m:Mem)(r:R2)(i:Nat):Bool:=(zAJ m.next i&&zAO i r.m.next)||(match r.mods with|none=>(m.b.get i).isSome&&zAJ r.m.low i|some l=>l.elem i)
noncomputable def tM(m:Mem)(r:R2)(M:AM):AM:=fun i=>if ydx m r i=true then r.m.b.get i else M i
structure OneOk(φ:Phi)(M:AM)(w:World)(m:Mem)(r:R2)(v':Value)(φ':Phi)(w':World):Prop where
 vr:VR φ' r.v v'
 le:φ.le φ'
 out:∀i,¬(m.next<=i/\i<r.m.next)->φ' i=φ i
 rel:Rel φ' (tM m r M) w'
 wg:WG φ M w φ' (tM m r M) w'
structure OnePure(m:Mem)(r:R2):Prop where
 ext:Ext m r.m
 low:r.m.low<=m.low
 same:∀i b,ydx m r i=false->r.m.b.get i=some b->m.b.get i=some b
 mods:∀l,r.mods=some l->∀i∈l,∃b,m.b.get i=some b
def Need(m:Mem)(r:R2)(M:AM):Prop:=match r.foot with
 |none=>Sub m M
 |some ft=>∀i∈ft,∀b,m.b.get i=some b->M i=some b
theorem yhg{i:Nat}(h:ydx m r i=false):¬(m.next<=i/\i<r.m.next)/\((r.mods=none/\(m.b.get i=none\/i<r.m.low))\/∃l,r.mods=some l/\i∉l):=by
 unfold ydx at h;simp only[zAL,zT]at h;refine⟨fun q=>?_,?_⟩
 .rcases h.1 with h1|h1
  .rw[zL q.1]at h1;cases h1
  .rw[show zAO i r.m.next=true from zL q.2]at h1;cases h1
 .have h2:=h.2;split at h2
  .rename_i e
   refine .inl ⟨e,?_⟩;rw[zT]at h2;rcases h2 with h2|h2
   .exact .inl (by simpa using h2)
   .right
    rcases zU i r.m.low with q|q
    .exact q
    .rw[zL q]at h2;cases h2
  .rename_i l hl
   exact .inr ⟨l,hl,by simpa using h2⟩
theorem yfl{i:Nat}(h:ydx m r i=true):(m.next<=i/\i<r.m.next)\/(r.mods=none/\(∃b,m.b.get i=some b)/\r.m.low<=i)\/∃l,r.mods=some l/\i∈l:=by
 unfold ydx at h;simp only[zX,zA]at h;rcases h with h|h
 .exact .inl ⟨zG h.1,zG h.2⟩
 .right
  split at h
  .rename_i e
   simp only[zA]at h;exact .inl ⟨e,Option.isSome_iff_exists.1 h.1,zG h.2⟩
  .rename_i l hl;exact .inr ⟨l,hl,by simpa using h⟩
theorem yds(low:Nat)(m:Mem):backM low m=⟨m.next,m.b,zAW low m.low⟩:=by
 obtain⟨n,b,l⟩:=m;show Mem.mk1 n b (zAW low l)=_;simp only[Mem.mk1,ybl,T.strict_eq]
theorem yhj(h:evOne P self f o m=some r) :
 (∃r0,evOp P f o m=some r0/\r=⟨r0.v,m.app r0.e,some r0.foot,some r0.e.mods⟩) \/
 (∃fx args ats g first captured vs v m',o.op = .call { callee:=.value fx,args:=args,argTypes:=ats }/\f.get fx=some (.func (.func g) first captured)/\valsA f args.toList=some vs /\
   self (.call g (first.toList++vs++captured.toList) m)=some (.call v m')/\r=⟨v,backM m.low m',none,iteB (zAJ m.next m'.low) (some []) none⟩):=by
 unfold evOne evOne1 at h;split at h
 .rename_i fx args ats hop
  obtain⟨g,hg,h2⟩:=yg h;obtain⟨vs,hvs,h3⟩:=yg h2;unfold evCall at h3;split at h3
  .rename_i g' first captured
   obtain⟨out,hout,h4⟩:=yg h3;unfold afterCall at h4;split at h4
   .rename_i v m'
    cases h4
    exact .inr ⟨fx,args,ats,g',first,captured,vs,v,m',hop,hg,hvs,hout,rfl⟩
   .cases h4
  .cases h3
 .obtain⟨r0,h1,h2⟩:=yg h;cases h2
  exact .inl ⟨r0,h1,rfl⟩
theorem yyc(hself:yem P self)(h:evOne P self f o m=some r)(hw:Wf m):OnePure m r:=by
 rcases yhj h with⟨r0,h1,rfl⟩|⟨fx,args,ats,g,first,captured,vs,v,m',hop,hg,hvs,hs,rfl⟩
 .have heff:=ybai h1;refine⟨ybtj hw (fun i hi=>(heff i hi).2),(ytu m r0.e).1,fun i b ht hb=>?_,fun l hl i hi=>?_⟩
  .obtain⟨t1,⟨t2,_⟩|⟨l,t2,t3⟩⟩:=yhg ht
   .cases t2
   cases t2
   have:=ypi hb;rw[ygt (fun q e=>t1 ⟨by rw[e];exact zF _,by rw[e];show _<(m.app r0.e).next;rw[ynb,if_pos q];omega⟩) t3]at this
   exact this
  .cases hl;exact(heff i hi).2
 .have hsound:=hself _ _ hs hw;refine⟨?_,?_,fun i b ht hb=>?_,fun l hl i hi=>?_⟩
  .rw[yds];exact⟨hsound.1.next,hsound.1.dom,fun i b h1=>hsound.1.old i b (zC h1 (zQ _ _)),hsound.1.wf⟩
  .rw[yds];exact zAH _ _
  .obtain⟨t1,⟨t2,t3⟩|⟨l,t2,t3⟩⟩:=yhg ht
   .rw[yds]at t1 t3 hb;rcases t3 with t3|t3
    .rcases hsound.1.dom i b hb with⟨b0,h0⟩|h0
     .rw[t3]at h0;cases h0
     .exact absurd h0 t1
    .exact hsound.1.old i b (zC t3 (zQ _ _)) t1 hb
   rw[yds]at t1 hb;rw[ybh]at t2;split at t2
   .rename_i hle
    have hle:=zG hle;refine hsound.1.old i b ?_ t1 hb;rcases hsound.1.dom i b hb with⟨b0,h0⟩|h0
    .exact zC (hw i b0 h0) hle
    .exact absurd h0 t1
   .cases t2
  .rw[ybh]at hl;split at hl
   .cases hl;cases hi
   .cases hl
theorem ydr{fx:Operand}{args:Array Operand}{ats:Array TypeId}(hop:o.op = .call { callee:=.value fx,args:=args,argTypes:=ats }):fx∈o.op.operands/\∀x∈args.toList,x∈o.op.operands:=by
 rw[hop];simp[Op.operands,Call.operands];exact fun x hx=>.inr hx
theorem ylh{ρ:Operand->Value}{fx:Operand}{args:Array Operand}{ats:Array TypeId}{g:FuncId}{x y:List Value}(hop:o.op = .call { callee:=.value fx,args:=args,argTypes:=ats })(hg:ρ fx = .func (.func g) x.toArray y.toArray) :
 execOp ρ o=callFunc g (x++args.toList.map ρ++y).toArray:=by
 unfold execOp;rw[hop];simp only[resolve,hg,Deferred.ofValue];show invoke (.fn (.func g) y.toArray) (x.toArray++args.map ρ)=_;simp only[invoke];congr 1;apply Array.toList_inj.1;simp
theorem ybct (hself:yem P self) (h:evOne P self f o m=some r) (hw:Wf m) (hR:Rel φ M w) (hsub:Sub m M) (hf:FrR φ f a) (hfr:ygh φ m.next r.m.next) {K:Act->World->Prop}{Q:Exit->Act->World->Prop}
 (hK:∀v' w' φ' M',Good φ M w m r.m φ' M' w'->VR φ' r.v v'->K (a.put o.dst v') w'):o.wp P a w K Q:=by
 rcases yhj h with⟨r0,h1,rfl⟩|⟨fx,args,ats,g,first,captured,vs,v,m',hop,hg,hvs,hs,rfl⟩
 .have heff:=ybai h1;have hn:=ynb m r0.e
  have hok:OpOk P (execOp a.eval o) φ M w m.next r0.v r0.e:=yxg h1 hR (hf.ov o) (fun i _=>hsub i)
   (fun hq=>hfr m.next (zF _) (by show _<(m.app r0.e).next;rw[hn,if_pos hq];omega))
  obtain⟨φ',w',nx,q1,q2,q3,q4,q5,q6,q7⟩:=hok
  have hgood:Good φ M w m (m.app r0.e) φ' (appM M m.next r0.e) w':=by
   refine⟨q3,fun i hi=>?_,q6,fun i b hb=>ybrm hsub i b (ypi hb),fun i hi hnl=>?_,q7⟩
   .cases hq:r0.e.adds with
    |false=>rw[q5 hq]
    |true=>exact q4 i (fun e=>hi ⟨by omega,by rw[hn,if_pos hq];omega⟩)
   .refine ygt (fun hq e=>hi ⟨by omega,by rw[hn,if_pos hq];omega⟩) (fun hmem=>?_)
    rcases hnl with hnl|hnl
    .obtain⟨b,hb⟩:=(heff i hmem).2;rw[hnl]at hb;cases hb
    .have:=(ytu m r0.e).2 i hmem;omega
  unfold Oper.wp;rw[q1];cases nx with
  |value v'=>exact hK v' w' φ' _ hgood q2
  | skip =>
    have hv:r0.v=undef:=q2;exact hK undef w' φ' _ hgood (by show VR φ' r0.v undef;rw[hv];exact VR.undef)
  |_=>exact q2.elim
 .have hsound:=hself _ _ hs hw;obtain⟨m1,m2⟩:=ydr hop;obtain⟨x',y',e1,e2,e3⟩:=(hf.ov o fx m1 _ hg).func_inv;have hargs:=ydn (φ:=φ) (ρ:=a.eval) hvs (fun x hx=>hf.ov o x (m2 x hx));have hcall:=hsound.2 φ M w (x'++args.toList.map a.eval++y') hR hsub ((e2.append hargs).append e3) (by rw[yds]at hfr;exact hfr)
  have hgood:∀{φ' M' w'},Good φ M w m m' φ' M' w'->Good φ M w m (backM m.low m') φ' M' w':=fun hgd=>by
   rw[yds];exact⟨hgd.le,hgd.out,hgd.rel,hgd.sub,fun i hi hn=>hgd.frame i hi (hn.imp id fun q=>zC q (zQ _ _)),hgd.wg⟩
  unfold Oper.wp;rw[ylh hop e1];rcases hcall with⟨hrun,hc⟩|⟨v',w',hrun,v'',hv'',φ',M',hgd,hvr⟩
  .rw[hrun,Oper.upon_enter];refine hc.mono ?_;rintro e w' ⟨v',rfl,φ',M',hgd,hvr⟩;exact hK v' w' φ' M' (hgood hgd) hvr
  .rw[hrun];cases hv''
   exact hK v' w' φ' M' (hgood hgd) hvr
theorem opIn{r:Option Nat}{K:Act->World->Prop}{Q:Exit->Act->World->Prop}(hd:∀c,o.op ≠ .defer c)(h:o.wp P a w K Q):o.wpIn (wr r) 0 P a w K Q:=by
 refine⟨fun _ _=>trivial,?_⟩;rw[Oper.semAt_eq _ _ _ hd];unfold Oper.wp at h
 revert h
 generalize (execOp a.eval o).run P w=x
 intro h;cases x with
 |halt hx w'=>cases hx<;>first|exact h|exact h.elim
 | ok nx w' =>
   cases nx with
   |value v=>exact h
   |skip=>exact h
   |defer d=>exact h
   |enter f args=>exact⟨fun q=>(by cases q),callsIn_wide.2 h⟩
   | row row args =>
     refine⟨fun q=>(by cases q),fun c cs _=>?_⟩
     obtain⟨v,w'',r1,s⟩:=h c cs;exact⟨v,w'',r1,stepsIn_wide.2 s⟩
   |_=>exact h.elim
theorem yte(h:evOne P self f o m=some r):∀c,o.op ≠ .defer c:=by
 intro c hc;unfold evOne at h;rw[hc]at h
 change ob (evOp P f o m) (afterOp m)=some r at h
 obtain⟨x,h1,_⟩:=yg h;unfold evOp at h1;rw[hc]at h1;cases h1
theorem ybnc (hself:yem P self) (h:evOne P self f o m=some r) (hw:Wf m) (hR:Rel φ M w) (hneed:Need m r M) (hov:OV φ f o a.eval) (hfr:ygh φ m.next r.m.next) {K:Act->World->Prop}{Q:Exit->Act->World->Prop}
 (hK:∀v' w' φ',OneOk φ M w m r v' φ' w'->K (a.put o.dst v') w'):o.wp P a w K Q:=by
 rcases yhj h with⟨r0,h1,rfl⟩|⟨fx,args,ats,g,first,captured,vs,v,m',hop,hg,hvs,hs,rfl⟩
 .have hn := ynb m r0.e
  have hok:OpOk P (execOp a.eval o) φ M w m.next r0.v r0.e:=yxg h1 hR hov hneed
   (fun hq=>hfr m.next (zF _) (by show _<(m.app r0.e).next;rw[hn,if_pos hq];omega))
  obtain⟨φ',w',nx,q1,q2,q3,q4,q5,q6,q7⟩:=hok
  have hsubM:∀i b,tM m ⟨r0.v,m.app r0.e,some r0.foot,some r0.e.mods⟩ M i=some b->appM M m.next r0.e i=some b:=by
   intro i b hb;unfold tM at hb;split at hb
   .rename_i ht
    have hb':=ypi hb;rcases yfl ht with t|⟨t,_⟩|⟨l,t1,t2⟩
    ·-- fresh
     have t2:i<(m.app r0.e).next:=t.2
     rw[hn]at t2;split at t2
     .rename_i hq
      have:i=m.next:=by omega
      subst this
      revert hb'
      cases he:r0.e with
      |none=>rw[he]at hq;cases hq
      |new x=>simp[appM,upd]
      |upd j x=>rw[he]at hq;cases hq
      |move j x=>simp[appM,upd]
     .omega
    .cases t
    .cases t1
     revert hb'
     cases he:r0.e<;>rw[he]at t2<;>simp[Eff.mods]at t2<;>subst t2<;>simp[appM,upd]
   .rename_i ht
    have ht:ydx m ⟨r0.v,m.app r0.e,some r0.foot,some r0.e.mods⟩ i=false:=by simpa using ht
    obtain⟨t1,⟨t2,_⟩|⟨l,t2,t3⟩⟩:=yhg ht
    .cases t2
    cases t2
    rw[ygt (fun q e=>t1 ⟨by omega,by show _<(m.app r0.e).next;rw[hn,if_pos q];omega⟩) t3]
    exact hb
  have hone:∀{v'},VR φ' r0.v v'->OneOk φ M w m ⟨r0.v,m.app r0.e,some r0.foot,some r0.e.mods⟩ v' φ' w':=fun hv=>by
   refine⟨hv,q3,fun i hi=>?_,q6.sub hsubM,q7.sub hsubM⟩;cases hq:r0.e.adds with
   |false=>rw[q5 hq]
   |true=>exact q4 i (fun e=>hi ⟨by omega,by show _<(m.app r0.e).next;rw[hn,if_pos hq];omega⟩)
  unfold Oper.wp;rw[q1];cases nx with
  |value v'=>exact hK v' w' φ' (hone q2)
  | skip =>
    have hv:r0.v=undef:=q2;exact hK undef w' φ' (hone (by rw[hv];exact VR.undef))
  |_=>exact q2.elim
 .have hsound:=hself _ _ hs hw;obtain⟨m1,m2⟩:=ydr hop;obtain⟨x',y',e1,e2,e3⟩:=(hov fx m1 _ hg).func_inv;have hargs:=ydn (φ:=φ) (ρ:=a.eval) hvs (fun x hx=>hov x (m2 x hx));have hsub:Sub m M:=hneed;have hcall:=hsound.2 φ M w (x'++args.toList.map a.eval++y') hR hsub ((e2.append hargs).append e3) (by rw[yds]at hfr;exact hfr)
  have hone : ∀{φ' M' w' v'},Good φ M w m m' φ' M' w'->VR φ' v v'->OneOk φ M w m ⟨v,backM m.low m',none,iteB (zAJ m.next m'.low) (some []) none⟩ v' φ' w':=fun {φ' M' w' v'} hgd hv=>by
   have hsubM:∀i b,tM m ⟨v,backM m.low m',none,iteB (zAJ m.next m'.low) (some []) none⟩ M i=some b->M' i=some b:=by
    intro i b hb;unfold tM at hb;split at hb
    .rw[yds]at hb;exact hgd.sub i b hb
    .rename_i ht
     have ht:ydx m ⟨v,backM m.low m',none,iteB (zAJ m.next m'.low) (some []) none⟩ i=false:=by simpa using ht
     obtain⟨t1,⟨t2,t3⟩|⟨l,t2,t3⟩⟩:=yhg ht
     .rw[yds]at t1 t3;rw[hgd.frame i t1 (t3.imp id fun q=>zC q (zQ _ _))];exact hb
     rw[yds]at t1;rw[ybh]at t2;split at t2
     .rename_i hle
      have hle:=zG hle;rw[hgd.frame i t1 ?_]
      .exact hb
      .cases hq:m.b.get i with
       |none=>exact .inl rfl
       |some b0=>exact .inr (zC (hw i b0 hq) hle)
     .cases t2
   exact⟨hv,hgd.le,by rw[yds];exact hgd.out,hgd.rel.sub hsubM,hgd.wg.sub hsubM⟩
  unfold Oper.wp;rw[ylh hop e1];rcases hcall with⟨hrun,hc⟩|⟨v',w',hrun,v'',hv'',φ',M',hgd,hvr⟩
  .rw[hrun,Oper.upon_enter];refine hc.mono ?_;rintro e w' ⟨v',rfl,φ',M',hgd,hvr⟩;exact hK v' w' φ' (hone hgd hvr)
  .rw[hrun];cases hv''
   exact hK v' w' φ' (hone hgd hvr)
end
noncomputable def T.filt{α:Type}:T α->(Nat->Bool)->T α
 |.leaf,_=>.leaf
 |.node v l r,p=>.node (if p 0 then v else none) (T.filt l fun j=>p (2*j+1)) (T.filt r fun j=>p (2*j+2))
theorem T.filt_get{α:Type}:∀(t:T α) (p:Nat->Bool) (i:Nat),(T.filt t p).get i=if p i then t.get i else none
 |.leaf,p,i=>by show none=_;rw[T.get_leaf];split<;>rfl
 |.node v l r,p,0=>by show(T.node _ _ _).get 0=_;rw[T.get_zero,T.get_zero]
 | .node v l r,p,k+1=>by
   show(T.node _ _ _).get (k+1)=_;rw[T.get_succ,T.get_succ]
   by_cases h:even k=true
   .have:=(ycl k).1 h;rw[if_pos h,if_pos h,T.filt_get l];rw[show 2*(k/2)+1=k+1 by omega]
   .have:=mt (ycl k).2 h;rw[if_neg h,if_neg h,T.filt_get r];rw[show 2*(k/2)+2=k+1 by omega]
noncomputable def Mem.only(m:Mem)(ft:List Nat):Mem:=⟨m.next,T.filt m.b fun i=>ft.elem i,m.low⟩
theorem ydb{m:Mem}{ft:List Nat}{i:Nat}{b:ABlk}:(m.only ft).b.get i=some b↔i∈ft/\m.b.get i=some b:=by
 show(T.filt m.b _).get i=some b↔_;rw[T.filt_get];simp
def ydtw(P:Program)(f:Fr)(o:Oper)(m:Mem)(r:R2):Prop :=
 ∃ fx args ats g first captured vs v m' ft,o.op = .call { callee:=.value fx,args:=args,argTypes:=ats }/\f.get fx=some (.func (.func g) first captured)/\valsA f args.toList=some vs /\
   ybw P (.call g (first.toList++vs++captured.toList) (m.only ft)) (.call v m')/\m.next<=m'.low/\r=⟨v,⟨m'.next,m.b,m.low⟩,some ft,some []⟩
def One(P:Program)(f:Fr)(o:Oper)(m:Mem)(r:R2):Prop:=(∃self,yem P self/\evOne P self f o m=some r)\/ydtw P f o m r
section
variable {P:Program}{φ:Phi}{M:AM}{w:World}{f:Fr}{m:Mem}{a:Act}{o:Oper}{r:R2}
theorem ygg{ft:List Nat}(h:Wf m):Wf (m.only ft):=fun i b hb=>h i b (ydb.1 hb).2
theorem One.pure(h:One P f o m r)(hw:Wf m):OnePure m r:=by
 rcases h with⟨self,hself,h⟩|⟨fx,args,ats,g,first,captured,vs,v,m',ft,hop,hg,hvs,hs,hlow,rfl⟩
 .exact yyc hself h hw
 .have hn:=(hs (ygg hw)).1.next
  exact⟨⟨hn,fun i b hb=>.inl ⟨b,hb⟩,fun i b _ _ hb=>hb,fun i b hb=>zC (hw i b hb) hn⟩,zF _,fun i b _ hb=>hb,fun l hl i hi=>by cases hl;cases hi⟩
theorem One.plain(h:One P f o m r):∀c,o.op ≠ .defer c:=by
 rcases h with⟨self,hself,h⟩|⟨fx,args,ats,g,first,captured,vs,v,m',ft,hop,_⟩
 .exact yte h
 .intro c q;rw[hop]at q;cases q
theorem ytd{φ':Phi}{M':AM}{w':World}{m':Mem}{ft:List Nat}(hw:Wf m)(hlow:m.next<=m'.low)(hgd:Good φ M w (m.only ft) m' φ' M' w') :
 ∀i b,(if m.next<=i/\i<m'.next then none else M i)=some b->M' i=some b:=by
 intro i b hb;split at hb
 .cases hb
 .rename_i hn
  rw[hgd.frame i hn ?_]
  .exact hb
  .rcases zU i m.next with q|q
   .exact .inr (zC q hlow)
   .left
    cases hq:(m.only ft).b.get i with
    |none=>rfl
    |some x=>have:=ygg hw i x hq;exact absurd this (Nat.not_lt.2 q)
theorem One.seq (h:One P f o m r) (hw:Wf m) (hR:Rel φ M w) (hsub:Sub m M) (hf:FrR φ f a) (hfr:ygh φ m.next r.m.next) {K:Act->World->Prop}{Q:Exit->Act->World->Prop}
 (hK:∀v' w' φ' M',Good φ M w m r.m φ' M' w'->VR φ' r.v v'->K (a.put o.dst v') w'):o.wp P a w K Q:=by
 rcases h with⟨self,hself,h⟩|⟨fx,args,ats,g,first,captured,vs,v,m',ft,hop,hg,hvs,hs,hlow,rfl⟩
 .exact ybct hself h hw hR hsub hf hfr hK
 .have hsound:=hs (ygg hw);obtain⟨m1,m2⟩:=ydr hop;obtain⟨x',y',e1,e2,e3⟩:=(hf.ov o fx m1 _ hg).func_inv;have hargs:=ydn (φ:=φ) (ρ:=a.eval) hvs (fun x hx=>hf.ov o x (m2 x hx));have hcall:=hsound.2 φ M w (x'++args.toList.map a.eval++y') hR (fun i b hb=>hsub i b (ydb.1 hb).2) ((e2.append hargs).append e3) hfr
  have hgood:∀{φ' M' w'},Good φ M w (m.only ft) m' φ' M' w'->Good φ M w m ⟨m'.next,m.b,m.low⟩ φ' (fun i=>if m.next<=i/\i<m'.next then none else M i) w':=fun hgd =>
   ⟨hgd.le,hgd.out,hgd.rel.sub (ytd hw hlow hgd),fun i b hb=>by rw[if_neg (fun q=>by have:=hw i b hb;omega)];exact hsub i b hb,fun i hi _=>if_neg hi,hgd.wg.sub (ytd hw hlow hgd)⟩
  unfold Oper.wp;rw[ylh hop e1];rcases hcall with⟨hrun,hc⟩|⟨v',w',hrun,v'',hv'',φ',M',hgd,hvr⟩
  .rw[hrun,Oper.upon_enter];refine hc.mono ?_;rintro e w' ⟨v',rfl,φ',M',hgd,hvr⟩;exact hK v' w' φ' _ (hgood hgd) hvr
  .rw[hrun];cases hv''
   exact hK v' w' φ' _ (hgood hgd) hvr
theorem One.draw (h:One P f o m r) (hw:Wf m) (hR:Rel φ M w) (hneed:Need m r M) (hov:OV φ f o a.eval) (hfr:ygh φ m.next r.m.next) {K:Act->World->Prop}{Q:Exit->Act->World->Prop}
 (hK:∀v' w' φ',OneOk φ M w m r v' φ' w'->K (a.put o.dst v') w'):o.wp P a w K Q:=by
 rcases h with⟨self,hself,h⟩|⟨fx,args,ats,g,first,captured,vs,v,m',ft,hop,hg,hvs,hs,hlow,rfl⟩
 .exact ybnc hself h hw hR hneed hov hfr hK
 .have hsound:=hs (ygg hw);obtain⟨m1,m2⟩:=ydr hop;obtain⟨x',y',e1,e2,e3⟩:=(hov fx m1 _ hg).func_inv;have hargs:=ydn (φ:=φ) (ρ:=a.eval) hvs (fun x hx=>hov x (m2 x hx));have hcall:=hsound.2 φ M w (x'++args.toList.map a.eval++y') hR (fun i b hb=>hneed i (ydb.1 hb).1 b (ydb.1 hb).2) ((e2.append hargs).append e3) hfr
  have hone:∀{φ' M' w' v'},Good φ M w (m.only ft) m' φ' M' w'->VR φ' v v'->OneOk φ M w m ⟨v,⟨m'.next,m.b,m.low⟩,some ft,some []⟩ v' φ' w':=fun {φ' M' w' v'} hgd hv=>by
   have hsubM:∀i b,tM m ⟨v,⟨m'.next,m.b,m.low⟩,some ft,some []⟩ M i=some b->M' i=some b:=by
    intro i b hb;refine ytd hw hlow hgd i b ?_;unfold tM at hb;split at hb
    .rename_i ht
     rcases yfl ht with t|⟨t,_⟩|⟨l,t1,t2⟩
     .have:=hw i b hb;omega
     .cases t
     .cases t1;cases t2
    .rename_i ht
     have ht:ydx m ⟨v,⟨m'.next,m.b,m.low⟩,some ft,some []⟩ i=false:=by simpa using ht
     rw[if_neg (yhg ht).1];exact hb
   exact⟨hv,hgd.le,hgd.out,hgd.rel.sub hsubM,hgd.wg.sub hsubM⟩
  unfold Oper.wp;rw[ylh hop e1];rcases hcall with⟨hrun,hc⟩|⟨v',w',hrun,v'',hv'',φ',M',hgd,hvr⟩
  .rw[hrun,Oper.upon_enter];refine hc.mono ?_;rintro e w' ⟨v',rfl,φ',M',hgd,hvr⟩;exact hK v' w' φ' (hone hgd hvr)
  .rw[hrun];cases hv''
   exact hK v' w' φ' (hone hgd hvr)
end
end Ev
end
section
namespace Ev
section
variable {P:Program}{self:Task->Option Out}{φ φ':Phi}{M M':AM}{w w':World}{f f':Fr}{m m' m'':Mem}{a:Act}
theorem Act.put_defers(a:Act)(d:Option Tmp)(v:Value):(a.put d v).defers=a.defers:=by cases d<;>rfl
structure Grow(m m':Mem):Prop where
 ext:Ext m m'
 low:m'.low<=m.low
theorem Grow.refl(h:Wf m):Grow m m:=⟨Ext.refl h,zF _⟩
theorem Grow.trans(a:Grow m m')(b:Grow m' m''):Grow m m'':=⟨Ext.trans b.low a.ext b.ext,zM b.low a.low⟩
theorem ybnq{ops:List Oper}{o:Oper}{l:List Oper}{x:FM}(h:evOps P self ops (o::l) f m=some x) :
 (wantedA ops f o=some false/\∃f1,f.put o.dst undef=some f1/\evOps P self ops l f1 m=some x) \/
 (wantedA ops f o=some true/\∃r f1,evOne P self f o m=some r/\f.put o.dst r.v=some f1/\evOps P self ops l f1 r.m=some x):=by
 change ob (wantedA ops f o) (evOps1 P self o (evOps P self ops l) f m)=some x at h
 obtain⟨b,hb,h2⟩:=yg h;cases b with
 | false =>
   left
   change putNext m (evOps P self ops l) (f.put o.dst undef)=some x at h2
   obtain⟨f1,h3,h4⟩:=yg h2;exact⟨hb,f1,h3,h4⟩
 | true =>
   right
   change (ob (evOne P self f o m) fun r=>putNext r.m (evOps P self ops l) (f.put o.dst r.v))=some x at h2
   obtain⟨r,h3,h4⟩:=yg h2;obtain⟨f1,h5,h6⟩:=yg h4;exact⟨hb,r,f1,h3,h5,h6⟩
theorem ymp(hself:yem P self){ops:Array Oper}{rr:Option Nat}:∀(l:List Oper) (f:Fr) (m:Mem) (x:FM),evOps P self ops.toList l f m=some x->Wf m ->
 Grow m x.m/\∀φ M w a Q,Rel φ M w->Sub m M->FrR φ f a->ygh φ m.next x.m.next->(∀a' w' φ' M',Good φ M w m x.m φ' M' w'->FrR φ' x.f a'->a'.defers=a.defers->Q .normal a' w')->wpListIn (wr rr) 0 P ops Q l a w
 | [],f,m,x,h,hw=>by
   cases h
   exact⟨Grow.refl hw,fun φ M w a Q hR hs hf _ hQ=>hQ a w φ M (Good.refl hR hs) hf rfl⟩
 | o :: l,f,m,x,h,hw=>by
   rcases ybnq h with⟨hwant,f1,h1,h2⟩|⟨hwant,r,f1,h1,h2,h3⟩
   .obtain⟨g1,g2⟩:=ymp hself l f1 m x h2 hw;refine⟨g1,fun φ M w a Q hR hs hf hfr hQ=>wpListIn_step fun K hK=>?_⟩;rw[yff (φ:=φ) hwant (fun _ _ _ d v _ _ _ hv=>hf.get d v hv)];exact⟨fun _ _=>trivial,hK _ _ (g2 φ M w _ Q hR hs (hf.put h1 VR.undef) hfr fun a' w' φ' M' q1 q2 q3=>hQ a' w' φ' M' q1 q2 (q3.trans (Act.put_defers _ _ _)))⟩
   .have hp:=yyc hself h1 hw;obtain⟨g1,g2⟩:=ymp hself l f1 r.m x h3 hp.ext.wf;refine⟨Grow.trans ⟨hp.ext,hp.low⟩ g1,fun φ M w a Q hR hs hf hfr hQ=>wpListIn_step fun K hK=>?_⟩;rw[yff (φ:=φ) hwant (fun _ _ _ d v _ _ _ hv=>hf.get d v hv)];refine opIn (yte h1) (ybct hself h1 hw hR hs hf (hfr.left g1.ext.next) fun v' w' φ' M' hg hv=>hK _ _ ?_)
    refine g2 φ' M' w' _ Q hg.rel hg.sub ((hf.mono hg.le).put h2 hv) (hg.fresh hp.ext hfr) fun a' w'' φ'' M'' hg' hf' hd=>?_;exact hQ a' w'' φ'' M'' (Good.trans hp.ext g1.ext g1.low hg hg') hf' (hd.trans (Act.put_defers _ _ _))
def ycn(P:Program)(c:Code)(f:Fr)(m:Mem)(e:Exit)(f':Fr)(m':Mem):Prop :=
 Grow m m'/\∀φ M w a r,(r.isSome=true->noRF c=true)->Rel φ M w->Sub m M->FrR φ f a->ygh φ m.next m'.next->c.wpIn (wr r) 0 P (ycew φ M w m e f' m' a) a w
theorem yct(hself:yem P self){c:Code}{out:Out}(h:self (.code c f m)=some out)(hw:Wf m):∃e f' m',out = .code e f' m'/\ycn P c f m e f' m':=by
 have:=hself _ _ h;cases out with
 |code e f' m'=>obtain⟨h1,h2,h3⟩:=this hw;exact⟨e,f',m',rfl,⟨h1,h2⟩,h3⟩
 |call v m'=>exact this.elim
theorem ysy{c d:Code}(h:noRF (.seq c d)=true):noRF c=true/\noRF d=true:=by
 have h:(noRF c&&noRF d)=true:=h
 rwa [zA]at h
theorem ybch{x:Operand}{c d:Code}(h:noRF (.cond x c d)=true):noRF c=true/\noRF d=true:=by
 have h:(noRF c&&noRF d)=true:=h
 rwa [zA]at h
theorem ycn.seq{c d:Code}{f1 f2:Fr}{m1 m2:Mem}{e:Exit}(h1:ycn P c f m .normal f1 m1)(h2:ycn P d f1 m1 e f2 m2):ycn P (.seq c d) f m e f2 m2:=by
 refine⟨h1.1.trans h2.1,fun φ M w a r hn hR hs hf hfr=>wpIn_seq (wpIn_mono (h1.2 φ M w a r (fun q=>(ysy (hn q)).1) hR hs hf (hfr.left h2.1.ext.next)) ?_)⟩
 rintro e' a' w' ⟨rfl,φ',M',hg,hf',hd⟩;refine wpIn_mono (h2.2 φ' M' w' a' r (fun q=>(ysy (hn q)).2) hg.rel hg.sub hf' (hg.fresh h1.1.ext hfr)) ?_;rintro e' a'' w'' ⟨rfl,φ'',M'',hg',hf'',hd'⟩;exact⟨rfl,φ'',M'',Good.trans h1.1.ext h2.1.ext h2.1.low hg hg',hf'',hd.trans hg.wg.size hg.rel hg'.wg hd'⟩
theorem ykx{e:Exit}{K:Act->World->Prop}{Q:Exit->Act->World->Prop}{a:Act}{w:World}(he:e ≠ .normal)(h:Q e a w):Exit.then K Q e a w:=by
 cases e<;>first|exact absurd rfl he|exact h
theorem yvp{c:Code}{n:Nat}{out:Out}(h:evLoop self c (n+1) f m=some out) :
 (∃f1 m1,self (.code c f m)=some (.code .normal f1 m1)/\evLoop self c n f1 m1=some out)\/(self (.code c f m)=some out/\∀f1 m1,out ≠ .code .normal f1 m1):=by
 change ob (self (.code c f m)) (again (evLoop self c n))=some out at h
 obtain⟨o1,h1,h2⟩:=yg h;unfold again at h2;split at h2
 .rename_i f1 m1;exact .inl ⟨f1,m1,h1,h2⟩
 .rename_i hne;cases h2;exact .inr ⟨h1,fun f1 m1 e=>hne f1 m1 e⟩
theorem yrr(hself:yem P self){c:Code}{rr:Option Nat}(hrr:rr.isSome=true->noRF c=true):∀(n:Nat) (f:Fr) (m:Mem) (out:Out),evLoop self c n f m=some out->Wf m->∃e f' m',out = .code e f' m'/\Grow m m' /\
 ∀φ M w a Q,Rel φ M w->Sub m M->FrR φ f a->ygh φ m.next m'.next->(∀a' w' φ' M',Good φ M w m m' φ' M' w'->FrR φ' f' a'->Df w w' a a'->Q e a' w')->Code.roundsIn (wr rr) 0 P c Q n a w
 |0,f,m,out,h,hw=>by cases h
 | n + 1,f,m,out,h,hw=>by
   rcases yvp h with⟨f1,m1,h1,h2⟩|⟨h1,hne⟩
   .obtain⟨e0,f0,m0,he,hs1⟩:=yct hself h1 hw;cases he
    obtain⟨e,f',m',rfl,hg2,hs2⟩:=yrr hself hrr n f1 m1 out h2 hs1.1.ext.wf;refine⟨e,f',m',rfl,hs1.1.trans hg2,fun φ M w a Q hR hs hf hfr hQ=>?_⟩;rw[roundsIn_succ];refine wpIn_mono (hs1.2 φ M w a rr hrr hR hs hf (hfr.left hg2.ext.next)) ?_
    rintro e' a' w' ⟨rfl,φ',M',hg,hf',hd⟩;exact hs2 φ' M' w' a' Q hg.rel hg.sub hf' (hg.fresh hs1.1.ext hfr) fun a'' w'' φ'' M'' hg' hf'' hd'=>hQ a'' w'' φ'' M'' (Good.trans hs1.1.ext hg2.ext hg2.low hg hg') hf'' (hd.trans hg.wg.size hg.rel hg'.wg hd')
   .obtain⟨e,f',m',rfl,hs1⟩:=yct hself h1 hw;refine⟨e,f',m',rfl,hs1.1,fun φ M w a Q hR hs hf hfr hQ=>?_⟩;rw[roundsIn_succ];refine wpIn_mono (hs1.2 φ M w a rr hrr hR hs hf hfr) ?_;rintro e' a' w' ⟨rfl,φ',M',hg,hf',hd⟩;exact ykx (by intro q;subst q;exact hne f' m' rfl) (hQ a' w' φ' M' hg hf' hd)
theorem ypt(hR:Rel φ M w)(hs:Sub m M)(hf:FrR φ f a):∀{l:List ResultVar}{vs:List Value},resA P m f l=some vs ->
 ∃ vs',VRL φ vs vs'/\(l.mapM (fun(x:ResultVar)=>match x with
   |.tmp t=>pure (a.tmps.getD t undef)
   |.cell ad t=>do loadVar t (<-asAddr (a.tmps.getD ad undef))):Sem (List Value)).run P w = .ok vs' w
 |[],vs,h=>by cases h;exact⟨[],.nil,rfl⟩
 | .tmp t::l,vs,h=>by
   unfold resA at h;split at h
   .rename_i v r hv hr
    cases h
    obtain⟨vs',e1,e2⟩:=ypt hR hs hf hr;refine⟨a.tmps.getD t undef::vs',.cons (hf.get t v hv) e1,?_⟩;simp only[zAX,zAM,zBA,zAQ,e2]
   .cases h
 | .cell ad t::l,vs,h=>by
   unfold resA at h;split at h
   .rename_i adr r hv hr
    split at h
    .rename_i v hl
     cases h
     obtain⟨vs',e1,e2⟩:=ypt hR hs hf hr;obtain⟨a',u,q1,q2,q3⟩:=ybeb hl hR (fun b=>hs adr.block b) (hf.get ad _ hv);refine⟨u::vs',.cons q3 e1,?_⟩;have hA:(asAddr (a.tmps.getD ad undef)).run P w = .ok a' w:=by rw[q1];rfl
     simp only[zAX,zAM,hA,zBA,zAQ,q2,e2]
    .cases h
   .cases h
theorem yza{fn:Func}(hR:Rel φ M w)(hs:Sub m M)(hf:FrR φ f a){vs:List Value}(h:resA P m f fn.results.toList=some vs) :
 ∃v',(results fn a.tmps).run P w = .ok v' w/\VR φ (oneOrTuple vs) v':=by
 obtain⟨vs',e1,e2⟩:=ypt hR hs hf h
 have hrun:(fn.results.mapM (fun(x:ResultVar)=>match x with
  |.tmp t=>pure (a.tmps.getD t undef)
  |.cell ad t=>do loadVar t (<-asAddr (a.tmps.getD ad undef))):Sem (Array Value)).run P w = .ok vs'.toArray w:=by
  rw[Array.mapM_eq_mapM_toList,Sem.run_map,e2];rfl
 refine⟨if h:vs'.toArray.size=1 then vs'.toArray[0]else .tuple vs'.toArray,?_,?_⟩
 .unfold results;rw[zAM]
  erw [hrun]
  rfl
 .have hlen:=e1.length;unfold oneOrTuple;split
  .rename_i v
   obtain⟨v',rfl,q⟩:=yfa e1
   simpa using q
  .rename_i hne
   rw[dif_neg]
   .exact VR.tuple e1
   .intro hq;simp at hq;rw[hq]at hlen
    match vs,hlen,hne with
    |[v],_,hne=>exact hne v rfl
def yoz (P : Program) : Prop := ∀ (g : FuncId) (fn : Func), P.funcs[g]? = some fn -> fn.body.isSome = true -> (fn.name == "runtime.NumGoroutine") = false
theorem yvs{args args':List Value}(h:VRL φ args args')(n:Nat) :
 FrR φ ⟨Nat.max args.length n,tOf args⟩ { tmps:=args'.toArray++zAT (n-args'.toArray.size) undef,defers:=[] }:=by
 have hl:=h.length;refine⟨by show _=max args.length n;simp;omega,fun t v hv=>?_⟩
 obtain⟨v',h1,h2⟩:=h.get (ykg hv)
 have hlt:t<args'.length:=by
  rcases zU t args'.length with q|q
  .exact q
  .rw[zW q]at h1;cases h1
 have:(args'.toArray++zAT (n-args'.toArray.size) undef).getD t undef=v':=by
  rw[zD,Array.getElem?_append_left (by simpa using hlt)]
  simp[h1]
 rw[this];exact h2
theorem yby(hn:yoz P){g:FuncId}{fn:Func}{c:Code}(hg:P.funcs[g]?=some fn)(hb:fn.body=some c)(args:Array Value)(w:World):(callFunc g args).run P w = .ok (.enter g args) w:=by
 have h1:=hn g fn hg (by rw[hb];rfl)
 have h2 : ¬ (fn.name = "runtime.NumGoroutine") := by simpa using h1
 simp[callFunc,program,Sem.run,hg,hb,h2]
theorem yro{fn:Func}{vs:List Value}{ds:List Deferred}:∀{w':World}{M':AM}{φ':Phi},Good φ M w m m' φ' M' w'->FrR φ' f a->resA P m' f fn.results.toList=some vs ->
 Marks w.heap.size w' ds->LeavesInM Fence.wide 0 P fn a.tmps (fun e w'=>∃v',e = .returned v'/\∃φ' M',Good φ M w m m' φ' M' w'/\VR φ' (oneOrTuple vs) v') ds .returning w':=by
 induction ds with
 | nil =>
   intro w' M' φ' hgd hf hvs _;obtain⟨v',r1,r2⟩:=yza hgd.rel hgd.sub hf hvs;exact⟨v',r1,v',rfl,φ',M',hgd,r2⟩
 | cons d ds ih =>
   intro w' M' φ' hgd hf hvs hm;obtain⟨D,h1,h2,h3⟩:=hm.2 d (zI ..);have hpw:=List.pairwise_cons.1 hm.1;have hkeep:∀k,Img φ' M' k->(w'.putObj D (.deferred none)).heap[k]?=w'.heap[k]?:=fun k hk=>World.putObj_heap_other (fun q=>Img.not_deferred hgd.rel h3 (q▸hk));refine⟨by simp,.inl ⟨D,w'.putObj D (.deferred none),h2,run_takeDeferred h3,ih ⟨hgd.le,hgd.out,⟨⟨fun i b hb=>?_,hgd.rel.inj⟩,fun x hx=>⟨?_,(hgd.rel.gl x hx).2⟩⟩,hgd.sub,hgd.frame,?_⟩ hf hvs ⟨hpw.2,fun x hx=>?_⟩⟩⟩
   .obtain⟨l,q1,q2⟩:=hgd.rel.blk i b hb;exact⟨l,q1,q2.keep (hkeep _ ⟨i,b,l,hb,q1,rfl⟩)⟩
   .obtain⟨e,fz,q⟩:=(hgd.rel.gl x hx).1;exact⟨e,fz,(World.putObj_heap_other fun z=>by rw[z,h3]at q;cases q).trans q⟩
   .have hg:=hgd.wg;refine⟨hg.os,hg.tape,hg.output,by simp;exact hg.size,fun k hk hn=>?_,hg.img⟩
    rw[World.putObj_heap_other (by omega)]
    exact hg.keep k hk hn
   .obtain⟨D',k1,k2,k3⟩:=hm.2 x (zJ _ hx);refine⟨D',k1,k2,?_⟩;rw[World.putObj_heap_other ?_]
    .exact k3
    .rintro rfl;exact hpw.1 x hx (h2.trans k2.symm)
theorem ybam(hn:yoz P)(hself:yem P self){g:FuncId}{fn:Func}{args:List Value}{out:Out}(hg:P.funcs[g]?=some fn)(h:enterFn P self args m fn=some out):ybw P (.call g args m) out:=by
 unfold enterFn at h;obtain⟨c,hc,h2⟩:=yg h;unfold enterBody at h2;rw[ybl,T.strict_eq]at h2;obtain⟨o1,h3,h4⟩:=yg h2
 clear h h2
 have hleave:∀(f1:Fr) (m1:Mem) (e:Exit),(e = .normal\/e = .ret)->o1 = .code e f1 m1->leaveFn P m fn.results.toList f1 m1=some out->ybw P (.call g args m) out:=by
  intro f1 m1 e he ho h5;subst ho;unfold leaveFn at h5;obtain⟨vs,hvs,h6⟩:=yg h5;cases h6
  have hwf:Wf m->Wf (enterM m):=fun h=>h
  have key:Wf m->Grow (enterM m) m1/\∀φ M w args',Rel φ M w->Sub m M->VRL φ args args'->ygh φ m.next m1.next ->
   Calls P g args'.toArray w (fun e w'=>∃v',e = .returned v'/\∃φ' M',Good φ M w (enterM m) m1 φ' M' w'/\VR φ' (oneOrTuple vs) v'):=by
   intro hw;obtain⟨e0,f0,m0,heq,hs1⟩:=yct hself h3 (hwf hw);cases heq
   refine⟨hs1.1,fun φ M w args' hR hs hv hfr=>callsIn_wide.1 (callsIn_of_wp_marks (n:=0) hg hc trivial ?_)⟩;refine wpIn_mono (hs1.2 φ M w _ none (fun q=>by cases q) hR hs (yvs hv fn.ntmps) hfr) ?_
   rintro e' a' w' ⟨rfl,φ',M',hgd,hf',hd⟩;obtain⟨ms,hms,hmk⟩:=hd;have hl:=yro hgd hf' hvs hmk;rw[show ms=a'.defers by rw[hms];simp]at hl
   rcases he with rfl|rfl
   .exact hl
   .exact hl
  unfold leave;rw[ybh];split
  .rename_i hcond
   simp only[zA]at hcond;have hlow:=zG hcond.1;intro hw;obtain⟨k1,k2⟩:=key hw;refine⟨⟨k1.ext.next,fun i b hb=>.inl ⟨b,hb⟩,fun i b _ _ hb=>hb,fun i b hb=>zC (hw i b hb) k1.ext.next⟩,fun φ M w args' hR hs hv hfr=>.inl ⟨yby hn hg hc _ _,?_⟩⟩
   refine(k2 φ M w args' hR hs hv hfr).mono ?_;rintro e' w' ⟨v',rfl,φ',M',hgd,hvr⟩;have hfr':∀i,¬(m.next<=i/\i<m1.next)->(m.b.get i=none\/i<m1.low)->M' i=M i:=hgd.frame
   refine⟨v',rfl,φ',M',⟨hgd.le,hgd.out,hgd.rel,fun i b hb=>?_,hfr',hgd.wg⟩,hvr⟩;have hi:=hw i b hb;rw[hfr' i (fun q=>by omega) (.inr (zC hi hlow))]
   exact hs i b hb
  .intro hw;obtain⟨k1,k2⟩:=key hw;refine⟨⟨k1.ext.next,k1.ext.dom,k1.ext.old,k1.ext.wf⟩,fun φ M w args' hR hs hv hfr=>.inl ⟨yby hn hg hc _ _,?_⟩⟩
   refine(k2 φ M w args' hR hs hv hfr).mono ?_;rintro e' w' ⟨v',rfl,φ',M',hgd,hvr⟩;exact⟨v',rfl,φ',M',⟨hgd.le,hgd.out,hgd.rel,hgd.sub,hgd.frame,hgd.wg⟩,hvr⟩
 unfold endFn at h4;split at h4
 .rename_i f1 m1;exact hleave f1 m1 .normal (.inl rfl) rfl h4
 .rename_i f1 m1;exact hleave f1 m1 .ret (.inr rfl) rfl h4
 .cases h4
end
end Ev
end
section
namespace Ev
section
variable {P:Program}{self:Task->Option Out}{f:Fr}{m:Mem}
structure Ent where
 f:Fr
 m:Mem
 w:Bool
 r:R2
def ycdb(P:Program)(ops:List Oper)(o:Oper)(e:Ent):Prop :=
 wantedA ops e.f o=some e.w/\(e.w=true->One P e.f o e.m e.r)/\(e.w=false->e.r=⟨undef,e.m,some [],some []⟩)
def Ent.rec'(i:Nat)(e:Ent):Rec:=⟨i,e.r.foot,e.r.mods,e.m.next,e.r.m.next⟩
def Ent.idle(e:Ent):Bool:=Ev.idle e.r e.m.next e.r.m.next
def Ap(i j:Nat)(e q:Ent):Prop:=e.idle=true\/q.idle=true\/apart2 (e.rec' i) (q.rec' j)=true
theorem yoh{e:Ent}(h:e.r=⟨undef,e.m,some [],some []⟩):e.idle=true:=by
 unfold Ent.idle Ev.idle;rw[h];show zAE e.m.next e.m.next=true
 exact zAN _
inductive Trace (P:Program) (ops:List Oper) (x:FM):List Oper->List Ent->Fr->Mem->Prop
 |nil:Trace P ops x [] [] x.f x.m
 |cons {o:Oper}{l:List Oper}{e:Ent}{es:List Ent}{f1:Fr}(he:ycdb P ops o e) (hp:e.f.put o.dst e.r.v=some f1) (h:Trace P ops x l es f1 e.r.m):Trace P ops x (o::l) (e::es) e.f e.m
theorem yqt(hself:yem P self){ops:List Oper}{x:FM}:∀{l:List Oper}{i:Nat}{an:List Nat}{rs:List Rec}{f:Fr}{m:Mem},evDraw P self ops l i an rs f m=some x ->
 ∃ es,Trace P ops x l es f m/\(∀k e,es[k]?=some e->∀rc∈rs,zK (an.getD k 0) rc.i=true\/e.idle=true\/apart2 (e.rec' (i+k)) rc=true) /\
   (∀k q e d,q<k->es[k]?=some e->es[q]?=some d->zK (an.getD k 0) (i+q)=true\/Ap (i+k) (i+q) e d)
 | [],i,an,rs,f,m,h=>by
   cases h
   exact⟨[],.nil,by simp,by simp⟩
 | o :: l,i,an,rs,f,m,h=>by
   unfold evDraw at h;obtain⟨b,hb,h2⟩:=yg h;have hget:∀k,an.getD (k+1) 0=an.tail.getD k 0:=fun k=>by cases an<;>simp[zAY]
   have hhead:an.getD 0 0=an.headD 0:=by cases an<;>rfl
   have join : ∀(e:Ent) (f1:Fr) (rs':List Rec),e.f=f->e.m=m->ycdb P ops o e->e.f.put o.dst e.r.v=some f1->evDraw P self ops l (zO i) an.tail rs' f1 e.r.m=some x ->
    (∀rc∈rs,rc∈rs')->(e.idle=true\/(e.rec' i∈rs'/\∀rc∈rs,zK (an.headD 0) rc.i=true\/apart2 (e.rec' i) rc=true)) ->
    ∃ es,Trace P ops x (o::l) es f m/\(∀k e,es[k]?=some e->∀rc∈rs,zK (an.getD k 0) rc.i=true\/e.idle=true\/apart2 (e.rec' (i+k)) rc=true) /\
      (∀k q e d,q<k->es[k]?=some e->es[q]?=some d->zK (an.getD k 0) (i+q)=true\/Ap (i+k) (i+q) e d):=by
    intro e f1 rs' hef hem hok hput hev hsub hcase;obtain⟨es,t1,t2,t3⟩:=yqt hself hev;subst hef hem;refine⟨e::es,.cons hok hput t1,fun k e' hk rc hrc=>?_,fun k q e' d hlt hk hq=>?_⟩
    .cases k with
     | zero =>
       simp at hk;subst hk;rw[hhead];rcases hcase with h|⟨_,h⟩
       .exact .inr (.inl h)
       .rcases h rc hrc with h|h
        .exact .inl h
        .exact .inr (.inr h)
     | succ k =>
       rw[hget];have:=t2 k e' (by simpa using hk) rc (hsub rc hrc)
       rw[show i+(k+1)=zO i+k by omega]
       exact this
    .cases k with
     |zero=>omega
     | succ k =>
       rw[hget,show i+(k+1)=zO i+k by omega]
       cases q with
       | zero =>
         simp at hq;subst hq;rcases hcase with h|⟨h,_⟩
         .exact .inr (.inr (.inl h))
         .rcases t2 k e' (by simpa using hk) _ h with h|h|h
          .exact .inl h
          .exact .inr (.inl h)
          .exact .inr (.inr (.inr h))
       | succ q =>
         rw[show i+(q+1)=zO i+q by omega]
         exact t3 k q e' d (by omega) (by simpa using hk) (by simpa using hq)
   cases b with
   | false =>
     change putNext m (evDraw P self ops l (zO i) an.tail rs) (f.put o.dst undef)=some x at h2
     obtain⟨f1,h3,h4⟩:=yg h2;exact join ⟨f,m,false,⟨undef,m,some [],some []⟩⟩ f1 rs rfl rfl ⟨hb,fun h=>(by cases h),fun _=>rfl⟩ h3 h4 (fun _ h=>h) (.inl (yoh rfl))
   | true =>
     change ob (evOne P self f o m) (evDraw2 o i (an.headD 0) rs (evDraw P self ops l (zO i) an.tail) f m)=some x at h2
     obtain⟨r,h3,h4⟩:=yg h2;unfold evDraw2 at h4;rw[ybh]at h4;split at h4
     .rename_i hidle
      obtain⟨f1,h5,h6⟩:=yg h4;exact join ⟨f,m,true,r⟩ f1 rs rfl rfl ⟨hb,fun _=>.inl ⟨self,hself,h3⟩,fun h=>(by cases h)⟩ h5 h6 (fun _ h=>h) (.inl hidle)
     .unfold evDraw3 at h4;obtain⟨hall,h5⟩:=ybf h4;obtain⟨f1,h6,h7⟩:=yg h5;refine join ⟨f,m,true,r⟩ f1 _ rfl rfl ⟨hb,fun _=>.inl ⟨self,hself,h3⟩,fun h=>(by cases h)⟩ h6 h7 (fun _ h=>zJ _ h) (.inr ⟨zI,fun rc hrc=>?_⟩)
      have:=List.all_eq_true.1 hall rc hrc;rw[zX]at this;exact this
end
noncomputable def anL(ops:List Oper)(i:Nat):Nat:=((ancs ops []).reverse).getD i 0
theorem yuz:∀(l:List Oper) (acc:List Nat),∃new:List Nat,ancs l acc=new++acc/\new.length=l.length /\
 ∀i o,l[i]?=some o->new.reverse[i]?=some (ancOf o ((new.reverse.take i).reverse++acc))
 |[],acc=>⟨[],rfl,rfl,by simp⟩
 | o :: l,acc=>by
   obtain⟨new,h1,h2,h3⟩:=yuz l (ancOf o acc::acc);refine⟨new++[ancOf o acc],by rw[ancs,h1];simp,by simp[h2],fun i o' hi=>?_⟩
   cases i with
   |zero=>simp at hi;subst hi;simp
   | succ i =>
     have:=h3 i o' (by simpa using hi)
     simp only[List.reverse_append,List.reverse_cons,List.reverse_nil,List.nil_append,List.singleton_append,List.getElem?_cons_succ,List.take_succ_cons,zAP];exact this
theorem ycic{ops:List Oper}{i:Nat}{o:Oper}(h:ops[i]?=some o):anL ops i=ancOf o ((((ancs ops []).reverse).take i).reverse):=by
 obtain⟨new,h1,h2,h3⟩:=yuz ops [];have:=h3 i o h;unfold anL;rw[h1];simp only[List.append_nil]at this ⊢;rw[zAY,this];rfl
theorem yyh(acc:List Nat):∀(es:List Edge) (s:Nat) (q:Nat),zK (es.foldl (fun s e=>bif Region.binds .any e then s|||2^e.on|||acc.getD (acc.length-1-e.on) 0 else s) s) q=true ->
 zK s q=true\/∃e∈es,Region.binds .any e=true/\(q=e.on\/zK (acc.getD (acc.length-1-e.on) 0) q=true)
 |[],s,q,h=>.inl h
 | e :: es,s,q,h=>by
   rw[zY]at h;rcases yyh acc es _ q h with h|⟨e',h1,h2⟩
   .cases hb:Region.binds .any e with
    |false=>rw[hb]at h;exact .inl h
    | true =>
      rw[hb]at h;simp only[cond_true,Nat.testBit_or,zX]at h;rcases h with(h|h)|h
      .exact .inl h
      .right
       rw[Nat.testBit_two_pow]at h;exact⟨e,zI,hb,.inl (by simpa using Eq.symm (by simpa using h))⟩
      .exact .inr ⟨e,zI,hb,.inr h⟩
   .exact .inr ⟨e',zJ _ h1,h2⟩
theorem yblr{ops:List Oper}{i q:Nat}{o:Oper}(h:ops[i]?=some o)(hon:∀e∈o.after.toList,Region.binds .any e=true->e.on<i)(hq:zK (anL ops i) q=true) :
 ∃e∈o.after.toList,Region.binds .any e=true/\(q=e.on\/zK (anL ops e.on) q=true):=by
 rw[ycic h]at hq;unfold ancOf at hq;rcases yyh _ _ 0 q hq with h0|⟨e,h1,h2,h3⟩
 .simp at h0
 .refine⟨e,h1,h2,h3.imp id fun h3=>?_⟩;have hlt:=hon e h1 h2
  have hi:i<ops.length:=by
   rcases zU i ops.length with q|q
   .exact q
   .rw[zW q]at h;cases h
  obtain⟨new,g1,g2,_⟩:=yuz ops [];have hlen:((ancs ops []).reverse.take i).length=i:=by rw[g1];simp[g2];omega
  unfold anL;rw[zAY,List.length_reverse,hlen]at h3;rw[List.getElem?_reverse (by rw[hlen];omega),hlen,show i-1-(i-1-e.on)=e.on by omega,List.getElem?_take_of_lt hlt]at h3
  exact h3
theorem ybij{ops:List Oper}{an:List Nat}(h:slotsOk ops an=true){i:Nat}{o:Oper}(ho:ops[i]?=some o):∀e∈o.after.toList,Region.binds .any e=true->e.on<i:=by
 intro e he hb;unfold slotsOk at h;have:=List.all_eq_true.1 h (o,i) (List.mem_zipIdx_iff_getElem?.2 (by simpa using ho))
 simp only[zA]at this;have:=List.all_eq_true.1 this.1 e he;rw[hb]at this;simp at this;exact this
theorem ybjg{ops:List Oper}{an:List Nat}(h:slotsOk ops an=true){i j:Nat}{o o':Oper}(ho:ops[i]?=some o)(ho':ops[j]?=some o')(hlt:j<i):zK (an.getD i 0) j=true\/dstApart ops o o'=true:=by
 unfold slotsOk at h;have:=List.all_eq_true.1 h (o,i) (List.mem_zipIdx_iff_getElem?.2 (by simpa using ho))
 simp only[zA]at this;have:=List.all_eq_true.1 this.2 (o',j) (List.mem_zipIdx_iff_getElem?.2 (by simpa using ho'))
 simp only[zX]at this;rcases this with(h1|h1)|h1
 .have:=zG h1;omega
 .exact .inl h1
 .exact .inr h1
end Ev
end
section
namespace Ev
theorem yxp:∀{l k:List Nat},l.Pairwise (· < ·)->k.Pairwise (· < ·)->(∀x,x∈l↔x∈k)->l=k
 |[],[],_,_,_=>rfl
 |[],y::k,_,_,h=>absurd ((h y).2 zI) (by simp)
 |x::l,[],_,_,h=>absurd ((h x).1 zI) (by simp)
 | x :: l,y::k,hl,hk,h=>by
   rw[List.pairwise_cons]at hl hk
   have hxy:x=y:=by
    rcases List.mem_cons.1 ((h x).1 zI)with e|e
    .exact e
    .rcases List.mem_cons.1 ((h y).2 zI)with e'|e'
     .exact e'.symm
     .have:=hk.1 x e;have:=hl.1 y e';omega
   subst hxy;congr 1;refine yxp hl.2 hk.2 fun z=>⟨fun hz=>?_,fun hz=>?_⟩
   .rcases List.mem_cons.1 ((h z).1 (zJ _ hz))with e|e
    .subst e;exact absurd (hl.1 z hz) (zAZ _)
    .exact e
   .rcases List.mem_cons.1 ((h z).2 (zJ _ hz))with e|e
    .subst e;exact absurd (hk.1 z hz) (zAZ _)
    .exact e
def last{α:Type}(τ:Nat->Bool)(v:Nat->α)(a:α)(s:List Nat):α:=s.foldl (fun acc j=>if τ j=true then v j else acc) a
theorem ybee{α:Type}(τ:Nat->Bool)(v:Nat->α)(a:α)(s:List Nat)(j:Nat):last τ v a (s++[j])=if τ j=true then v j else last τ v a s:=by
 simp[last,List.foldl_append]
theorem ycx{α:Type}(τ:Nat->Bool)(v:Nat->α):∀(s:List Nat) (a:α),last τ v a s=last τ v a (s.filter τ)
 |[],a=>rfl
 | j :: s,a=>by
   cases h:τ j with
   |true=>rw[List.filter_cons_of_pos h];simp only[last,zY,h,if_true];exact ycx τ v s (v j)
   | false =>
     rw[List.filter_cons_of_neg (by simp[h])]
     have:=ycx τ v s a;simp only[last,zY,h]at this ⊢
     simpa using this
theorem last_none{α:Type}(τ:Nat->Bool)(v:Nat->α):∀(s:List Nat) (a:α),(∀j∈s,τ j=false)->last τ v a s=a
 |[],a,_=>rfl
 | j::s,a,h=>by
   have h1:=h j zI;have:=last_none τ v s a fun k hk=>h k (zJ _ hk);simp only[last,zY,h1]at this ⊢
   simpa using this
abbrev anc(ops:List Oper)(i q:Nat):Prop:=zK (anL ops i) q=true
structure Ord(ops:Array Oper)(s:List Nat):Prop where
 nd:s.Nodup
 lt:∀i∈s,i<ops.size
 closed:∀i∈s,∀o,ops[i]?=some o->∀e∈o.after.toList,Region.binds .any e=true->e.on∈s
 pw:s.Pairwise fun x y=>¬anc ops.toList x y
section
variable {ops:Array Oper}{s:List Nat}
theorem yoi(hon:∀i o,ops[i]?=some o->∀e∈o.after.toList,Region.binds .any e=true->e.on<i)(h:Ord ops s):∀(i:Nat),i∈s->∀q,anc ops.toList i q->q∈s:=by
 intro i
 induction i using zAU with
 | _ i ih =>
   intro hi q hq;have hlt:=h.lt i hi;have ho:ops[i]?=some ops[i]:=zAD hlt;obtain⟨e,h1,h2,h3⟩:=yblr (ops:=ops.toList) (by rw[zV];exact ho) (hon i _ ho) hq
   have hmem:=h.closed i hi _ ho e h1 h2;rcases h3 with rfl|h3
   .exact hmem
   .exact ih e.on (hon i _ ho e h1 h2) hmem q h3
theorem ybll(hon:∀i o,ops[i]?=some o->∀e∈o.after.toList,Region.binds .any e=true->e.on<i)(h:Ord ops s){j:Nat}{o:Oper}(ho:ops[j]?=some o)(hj:∀e∈o.after.toList,Region.binds .any e=true->e.on∈s){q:Nat}(hq:anc ops.toList j q):q∈s:=by
 obtain⟨e,h1,h2,h3⟩:=yblr (ops:=ops.toList) (by rw[zV];exact ho) (hon j _ ho) hq
 rcases h3 with rfl|h3
 .exact hj e h1 h2
 .exact yoi hon h e.on (hj e h1 h2) q h3
theorem Ord.nil:Ord ops []:=⟨List.nodup_nil,by simp,by simp,List.Pairwise.nil⟩
theorem Ord.snoc(hon:∀i o,ops[i]?=some o->∀e∈o.after.toList,Region.binds .any e=true->e.on<i)(h:Ord ops s){j:Nat}{o:Oper}(ho:ops[j]?=some o)(hns:j∉s)(hj:∀e∈o.after.toList,Region.binds .any e=true->e.on∈s):Ord ops (s++[j]):=by
 refine⟨?_,fun i hi=>?_,fun i hi o' ho' e he hb=>?_,?_⟩
 .rw[List.nodup_append];exact⟨h.nd,by simp,fun x hx y hy=>by simp at hy;subst hy;intro e;subst e;exact hns hx⟩
 .rcases List.mem_append.1 hi with hi|hi
  .exact h.lt i hi
  .simp at hi;subst hi;exact(Array.getElem?_eq_some_iff.1 ho).1
 .rcases List.mem_append.1 hi with hi|hi
  .exact zZ _ (h.closed i hi o' ho' e he hb)
  .simp at hi;subst hi;rw[ho]at ho';cases ho'
   exact zZ _ (hj e he hb)
 .rw[zAK];refine⟨h.pw,by simp,fun x hx y hy=>?_⟩
  simp at hy;subst hy;exact fun q=>hns (yoi hon h x hx y q)
theorem filter_eq(h:Ord ops s){τ:Nat->Bool}{j:Nat}(h1:∀q k,q<k->k<ops.size->τ q=true->τ k=true->anc ops.toList k q)(h2:∀q∈s,τ q=true->q<j)(h3:∀q,q<j->τ q=true->q∈s):s.filter τ=(zH j).filter τ:=by
 refine yxp ?_ (List.Pairwise.filter _ List.pairwise_lt_range) fun x=>?_
 .have hp:(s.filter τ).Pairwise (fun x y=>¬anc ops.toList x y/\x≠y):=by
   refine List.Pairwise.filter _ ?_;exact h.pw.and h.nd
  refine List.Pairwise.imp_of_mem ?_ hp;intro x y hx hy hxy;rw[zAI]at hx hy;rcases zAB x y with q|q|q
  .exact q
  .exact absurd q hxy.2
  .exact absurd (h1 y x q (h.lt x hx.1) hy.2 hx.2) hxy.1
 .rw[zAI,zAI,List.mem_range];exact⟨fun q=>⟨h2 x q.1 q.2,q.2⟩,fun q=>⟨h3 x q.1 q.2,q.2⟩⟩
end
section
variable {P:Program}{self:Task->Option Out}{x:FM}
theorem Trace.run{ops:List Oper}:∀{l:List Oper}{es:List Ent}{f:Fr}{m:Mem},Trace P ops x l es f m->∃(F:Nat->Fr) (G:Nat->Mem),F 0=f/\G 0=m/\F l.length=x.f/\G l.length=x.m /\
 ∀k o,l[k]?=some o->∃e,es[k]?=some e/\ycdb P ops o e/\e.f=F k/\e.m=G k/\e.r.m=G (k+1)/\e.f.put o.dst e.r.v=some (F (k+1))
 |_,_,_,_,.nil=>⟨fun _=>x.f,fun _=>x.m,rfl,rfl,rfl,rfl,by simp⟩
 | _,_,_,_,.cons (o:=o) (l:=l) (e:=e) (es:=es) (f1:=f1) he hp h=>by
   obtain⟨F,G,h1,h2,h3,h4,h5⟩:=Trace.run h;refine⟨fun k=>match k with|0=>e.f|k+1=>F k,fun k=>match k with|0=>e.m|k+1=>G k,rfl,rfl,h3,h4,fun k o' hk=>?_⟩
   cases k with
   |zero=>simp at hk;subst hk;exact⟨e,rfl,he,rfl,rfl,h2.symm,by rw[hp];exact congrArg some h1.symm⟩
   |succ k=>exact h5 k o' (by simpa using hk)
end
end Ev
end
section
namespace Ev
section
variable {P:Program}{self:Task->Option Out}
def needs(m:Mem)(r:R2)(i:Nat):Prop:=match r.foot with
 |none=>∃b,m.b.get i=some b
 |some ft=>i∈ft
structure Sep(m:Mem)(r:R2)(m':Mem)(r':R2):Prop where
 s1:∀i,needs m r i->ydx m' r' i=false
 s2:∀i,needs m' r' i->ydx m r i=false
 s3:∀i,ydx m' r' i=true->ydx m r i=false
theorem ygs{m:Mem}{r:R2}(h1:r.mods=some [])(h2:m.next=r.m.next)(i:Nat):ydx m r i=false:=by
 cases h:ydx m r i with
 |false=>rfl
 | true =>
   rcases yfl h with t|⟨t,_⟩|⟨l,t1,t2⟩
   .omega
   .rw[h1]at t;cases t
   .rw[h1]at t1;cases t1;cases t2
theorem yxi{r:R2}{lo hi:Nat}(h:Ev.idle r lo hi=true):r.foot=some []/\r.mods=some []/\lo=hi:=by
 unfold Ev.idle at h;split at h
 .rename_i h1 h2;exact⟨h1,h2,zB h⟩
 .cases h
theorem yix{a b:Rec}(h:before1 a b=true):∃ms,b.mods=some ms/\((a.foot=none/\ms=[]/\b.lo=b.hi)\/∃fs,a.foot=some fs/\∀x∈fs,x∉ms/\¬(b.lo<=x/\x<b.hi)):=by
 unfold before1 at h;split at h
 .cases h
 .rename_i ms hms
  refine⟨ms,hms,?_⟩;split at h
  .rename_i hf
   simp only[zA]at h;exact .inl ⟨hf,by simpa using h.1,zB h.2⟩
  .rename_i fs hf
   refine .inr ⟨fs,hf,fun x hx=>?_⟩;have:=List.all_eq_true.1 h x hx;simp only[zA,zAC,zT]at this;refine⟨by simpa using this.1,fun q=>?_⟩
   rcases this.2 with t|t
   .rw[zL q.1]at t;cases t
   .rw[show zAO x b.hi=true from zL q.2]at t;cases t
theorem yuo{i j:Nat}{e q:Ent}(h:before1 (e.rec' i) (q.rec' j)=true):∀k,needs e.m e.r k->ydx q.m q.r k=false:=by
 intro k hk;obtain⟨ms,h1,h2⟩:=yix h;have h1:q.r.mods=some ms:=h1;rcases h2 with⟨h2,h3,h4⟩|⟨fs,h2,h3⟩
 .subst h3;exact ygs h1 h4 k
 .have h2:e.r.foot=some fs:=h2;unfold needs at hk;rw[h2]at hk;obtain⟨t1,t2⟩:=h3 k hk;cases ht:ydx q.m q.r k with
  |false=>rfl
  | true =>
    rcases yfl ht with t|⟨t,_⟩|⟨l,t3,t4⟩
    .exact absurd t t2
    .rw[h1]at t;cases t
    .rw[h1]at t3;cases t3;exact absurd t4 t1
theorem ymh{f:Fr}{o:Oper}{m:Mem}{r:R2}(h:evOne P self f o m=some r){l:List Nat}(hl:r.mods=some l){i:Nat}(hi:i∈l):needs m r i:=by
 rcases yhj h with⟨r0,h1,rfl⟩|⟨fx,args,ats,g,first,captured,vs,v,m',hop,hg,hvs,hs,rfl⟩
 .cases hl;exact(ybai h1 i hi).1
 .rw[ybh]at hl;split at hl
  .cases hl;cases hi
  .cases hl
theorem yzc{f:Fr}{o:Oper}{m:Mem}{r:R2}(h:evOne P self f o m=some r){l:List Nat}(hl:r.mods=some l){i:Nat}(hi:i∈l):r.m.low<=i:=by
 rcases yhj h with⟨r0,h1,rfl⟩|⟨fx,args,ats,g,first,captured,vs,v,m',hop,hg,hvs,hs,rfl⟩
 .cases hl;exact(ytu m r0.e).2 i hi
 .rw[ybh]at hl;split at hl
  .cases hl;cases hi
  .cases hl
theorem One.ymh{f:Fr}{o:Oper}{m:Mem}{r:R2}(h:One P f o m r){l:List Nat}(hl:r.mods=some l){i:Nat}(hi:i∈l):needs m r i:=by
 rcases h with⟨self,_,h⟩|⟨fx,args,ats,g,first,captured,vs,v,m',ft,hop,hg,hvs,hs,hlow,rfl⟩
 .exact Ev.ymh h hl hi
 .cases hl;cases hi
theorem One.yzc{f:Fr}{o:Oper}{m:Mem}{r:R2}(h:One P f o m r){l:List Nat}(hl:r.mods=some l){i:Nat}(hi:i∈l):r.m.low<=i:=by
 rcases h with⟨self,_,h⟩|⟨fx,args,ats,g,first,captured,vs,v,m',ft,hop,hg,hvs,hs,hlow,rfl⟩
 .exact Ev.yzc h hl hi
 .cases hl;cases hi
theorem ybcs (hmix:P.follows .mixedOrders=true) {rr:Option Nat}{ops:Array Oper}{f:Fr}{m:Mem}{x:FM}(hslots:slotsOk ops.toList (ancs ops.toList []).reverse=true)
 {es:List Ent}(htr:Trace P ops.toList x ops.toList es f m) (hap:∀k q e d,q<k->es[k]?=some e->es[q]?=some d->zK ((ancs ops.toList []).reverse.getD k 0) (0+q)=true\/Ap (0+k) (0+q) e d) (hw:Wf m) :
 Grow m x.m/\∀(id:Nat) φ M w a Q,Rel φ M w->Sub m M->FrR φ f a->ygh φ m.next x.m.next->(∀a' w' φ' M',Good φ M w m x.m φ' M' w'->FrR φ' x.f a'->a'.defers=a.defers->Q .normal a' w')->(Code.region id ops true).wpIn (wr rr) 0 P Q a w:=by
 obtain⟨F,G,hF0,hG0,hFn,hGn,hst⟩:=htr.run;simp only[Array.length_toList]at hFn hGn;have hon:∀i o,ops[i]?=some o->∀e∈o.after.toList,Region.binds .any e=true->e.on<i:=fun i o ho=>ybij hslots (by simpa using ho)
 let R:Nat->R2:=fun k=>match es[k]? with|some e=>e.r|none=>⟨undef,x.m,some [],some []⟩
 have hent:∀k o,ops[k]?=some o->∃e,es[k]?=some e/\ycdb P ops.toList o e/\e.f=F k/\e.m=G k/\R k=e.r/\(R k).m=G (k+1)/\(F k).put o.dst (R k).v=some (F (k+1)):=by
  intro k o ho;obtain⟨e,h1,h2,h3,h4,h5,h6⟩:=hst k o (by simpa using ho)
  have hR:R k=e.r:=by show(match es[k]? with|some e=>e.r|none=>_)=_;rw[h1]
  exact⟨e,h1,h2,h3,h4,hR,by rw[hR];exact h5,by rw[hR,<-h3];exact h6⟩
 have hop:∀k,k<ops.size->ops[k]?=some ops[k]!:=fun k hk=>by rw[zAD hk];simp[hk]
 have pure1:∀k,k<ops.size->Wf (G k)->OnePure (G k) (R k):=by
  intro k hk hwk;obtain⟨e,h1,h2,h3,h4,h5,h6,h7⟩:=hent k _ (hop k hk);cases hwt:e.w with
  |true=>rw[h5,<-h4];rw[<-h4]at hwk;exact(h2.2.1 hwt).pure hwk
  | false =>
    have:=h2.2.2 hwt;rw[h5,this,h4];exact⟨Ext.refl hwk,zF _,fun i b _ hb=>hb,fun l hl i hi=>by cases hl;cases hi⟩
 have wfs:∀k,k<=ops.size->Wf (G k):=by
  intro k
  induction k with
  |zero=>intro _;rw[hG0];exact hw
  | succ k ih =>
    intro hk;have:=pure1 k hk (ih (by omega))
    obtain⟨e,h1,h2,h3,h4,h5,h6,h7⟩:=hent k _ (hop k hk);rw[<-h6];exact this.ext.wf
 have pure2:∀k,k<ops.size->OnePure (G k) (R k):=fun k hk=>pure1 k hk (wfs k (by omega))
 have hRm:∀k,k<ops.size->(R k).m=G (k+1):=fun k hk=>(hent k _ (hop k hk)).choose_spec.2.2.2.2.2.1
 have grows:∀k q,q<=k->k<=ops.size->Grow (G q) (G k):=by
  intro k
  induction k with
  | zero=>intro q hq hk;obtain rfl:q=0:=by omega
          exact Grow.refl (wfs 0 hk)
  | succ k ih =>
    intro q hq hk;rcases zU q (k+1)with hlt|hge
    .refine(ih q (by omega) (by omega)).trans ?_
     have:=pure2 k hk;rw[<-hRm k hk];exact⟨this.ext,this.low⟩
    .obtain rfl:q=k+1:=by omega
     exact Grow.refl (wfs _ hk)
 have hgrow:Grow m x.m:=by rw[<-hG0,<-hGn];exact grows _ 0 (by omega) (zF _)
 have sep:∀q k,q<k->k<ops.size->anc ops.toList k q\/Sep (G k) (R k) (G q) (R q):=by
  intro q k hqk hk;obtain⟨e,h1,h2,h3,h4,h5,h6,h7⟩:=hent k _ (hop k hk);obtain⟨d,g1,g2,g3,g4,g5,g6,g7⟩:=hent q _ (hop q (by omega))
  rcases hap k q e d hqk h1 g1 with hb|hb
  .left;simpa[anc,anL]using hb
  right
  rw[h5,g5,<-h4,<-g4];unfold Ap at hb;rcases hb with hb|hb|hb
  .obtain⟨i1,i2,i3⟩:=yxi hb;exact⟨fun i hn=>(by unfold needs at hn;rw[i1]at hn;exact absurd hn (by simp)),fun i _=>ygs i2 i3 i,fun i _=>ygs i2 i3 i⟩
  .obtain⟨i1,i2,i3⟩:=yxi hb;exact⟨fun i _=>ygs i2 i3 i,fun i hn=>(by unfold needs at hn;rw[i1]at hn;exact absurd hn (by simp)),fun i ht=>(by rw[ygs i2 i3 i]at ht;cases ht)⟩
  .unfold apart2 at hb;simp only[zA]at hb;obtain⟨⟨b1,b2⟩,b3⟩:=hb;have s1:=yuo b1;have s2:=yuo b2;refine⟨s1,s2,fun i ht=>?_⟩;obtain⟨mq,q1,_⟩:=yix b1;obtain⟨mk,k1,_⟩:=yix b2;have q1:d.r.mods=some mq:=q1;have k1:e.r.mods=some mk:=k1;cases hte:ydx e.m e.r i with
   |false=>rfl
   | true =>
     exfalso
     have hpq:=pure2 q (by omega)
     have hgr:=grows k (q+1) (by omega) (by omega)
     have hn1:d.r.m.next<=e.m.next:=by rw[<-g5,g6,h4];exact hgr.ext.next
     have hnq:d.m.next<=d.r.m.next:=by have:=hpq.ext.next;rw[g5,<-g4]at this;exact this
     rcases yfl hte with t|⟨t,_⟩|⟨l,t1,t2⟩
     .rcases yfl ht with u|⟨u,_⟩|⟨l',u1,u2⟩
      .omega
      .rw[q1]at u;cases u
      .obtain⟨b,hb⟩:=hpq.mods l' (by rw[g5];exact u1) i u2
       have:=wfs q (by omega) i b hb
       rw[<-g4]at this;omega
     .rw[k1]at t;cases t
     .have hwt:e.w=true:=by
       cases hwt:e.w with
       |true=>rfl
       |false=>have:=h2.2.2 hwt;rw[this]at t1;cases t1;cases t2
      have:=s1 i (One.ymh (h2.2.1 hwt) t1 t2);rw[this]at ht;cases ht
 have hdst:∀q k,q<k->k<ops.size->anc ops.toList k q\/dstApart ops.toList ops[k]! ops[q]! = true:=by
  intro q k hqk hk;have h1:=hop k hk;have h2:=hop q (by omega)
  rcases ybjg hslots (i:=k) (j:=q) (by simpa using h1) (by simpa using h2) hqk with hb|hb
  .left;simpa[anc,anL]using hb
  .exact .inr hb
 refine⟨hgrow,fun id φ M w a Q hR hs hf hfr hQ=>wpIn_region_any hmix ?_⟩
 let EM:List Nat->AM:=fun s i=>last (fun j=>ydx (G j) (R j) i) (fun j=>(R j).m.b.get i) (M i) s
 let ES:List Nat->Nat->Option Value:=fun s t=>last (fun j=>decide ((ops[j]!).dst=some t)) (fun j=>some (R j).v) (f.t.get t) s
 have EM_snoc:∀s j,EM (s++[j])=tM (G j) (R j) (EM s):=fun s j=>by
  funext i
  exact ybee _ _ _ s j
 have ES_snoc:∀s j t,ES (s++[j]) t=if decide ((ops[j]!).dst=some t)=true then some (R j).v else ES s t:=fun s j t=>ybee _ _ _ s j
 have EM_seq:∀k,k<=ops.size->∀i b,(G k).b.get i=some b->EM (zH k) i=some b:=by
  intro k
  induction k with
  |zero=>intro _ i b hb;rw[hG0]at hb;exact hs i b hb
  | succ k ih =>
    intro hk i b hb;rw[zAV,EM_snoc];rw[<-hRm k hk]at hb;unfold tM;split
    .exact hb
    .rename_i ht
     exact ih (by omega) i b ((pure2 k hk).same i b (by simpa using ht) hb)
 have ES_seq:∀k,k<=ops.size->∀t v,(F k).t.get t=some v->ES (zH k) t=some v:=by
  intro k
  induction k with
  |zero=>intro _ t v hv;rw[hF0]at hv;exact hv
  | succ k ih =>
    intro hk t v hv;rw[zAV,ES_snoc];obtain⟨e,h1,h2,h3,h4,h5,h6,h7⟩:=hent k _ (hop k hk);rcases yot h7 with⟨q1,q2⟩|⟨d,q1,q2,q3,q4⟩
    .rw[q2]at hv;rw[q1,if_neg (by simp)]
     exact ih (by omega) t v hv
    .rw[q4]at hv;have:=T.get_set _ _ _ _ _ _ hv;rw[q1]
     by_cases hd:t=d
     .subst hd;rw[if_pos rfl]at this;rw[if_pos (by simp)]
      exact this
     .rw[if_neg hd]at this;rw[if_neg (by simp;exact fun q=>hd q.symm)]
      exact ih (by omega) t v this
 have ordM:∀i q k,q<k->k<ops.size->ydx (G q) (R q) i=true->ydx (G k) (R k) i=true->anc ops.toList k q:=by
  intro i q k hqk hk h1 h2;rcases sep q k hqk hk with h|h
  .exact h
  .rw[h.s3 i h1]at h2;cases h2
 have ordS:∀t q k,q<k->k<ops.size->decide ((ops[q]!).dst=some t)=true->decide ((ops[k]!).dst=some t)=true->anc ops.toList k q:=by
  intro t q k hqk hk h1 h2;rcases hdst q k hqk hk with h|h
  .exact h
  .simp only[decide_eq_true_eq]at h1 h2;unfold dstApart at h;rw[h1,h2]at h;simp[tmpsOf,h2,h1]at h
 have agreeM:∀(s:List Nat) (j i:Nat),Ord ops s->j<ops.size->j∉s->(∀e∈(ops[j]!).after.toList,Region.binds .any e=true->e.on∈s)->needs (G j) (R j) i->EM s i=EM (zH j) i:=by
  intro s j i ho hj hjs hje hn;show last _ _ _ s=last _ _ _ (zH j);rw[ycx,ycx _ _ (zH j)];rw[filter_eq ho (ordM i) (fun q hq ht=>?_) (fun q hq ht=>?_)]
  .rcases zAB q j with hlt|rfl|hgt
   .exact hlt
   .exact absurd hq hjs
   .rcases sep j q hgt (ho.lt q hq)with h|h
    .exact absurd (yoi hon ho q hq j h) hjs
    .rw[h.s2 i hn]at ht;cases ht
  .rcases sep q j hq hj with h|h
   .exact ybll hon ho (hop j hj) hje h
   .rw[h.s1 i hn]at ht;cases ht
 have agreeS:∀(s:List Nat) (j t:Nat),Ord ops s->j<ops.size->j∉s->(∀e∈(ops[j]!).after.toList,Region.binds .any e=true->e.on∈s)->t∈tmpsOf ops.toList ops[j]! -> ES s t=ES (zH j) t:=by
  intro s j t ho hj hjs hje hn;show last _ _ _ s=last _ _ _ (zH j);rw[ycx,ycx _ _ (zH j)];rw[filter_eq ho (ordS t) (fun q hq ht=>?_) (fun q hq ht=>?_)]
  .simp only[decide_eq_true_eq]at ht;rcases zAB q j with hlt|rfl|hgt
   .exact hlt
   .exact absurd hq hjs
   .rcases hdst j q hgt (ho.lt q hq)with h|h
    .exact absurd (yoi hon ho q hq j h) hjs
    .unfold dstApart at h;rw[ht]at h;simp only[zA,zAC]at h;have:=h.1;simp at this;exact absurd hn this
  .simp only[decide_eq_true_eq]at ht;rcases hdst q j hq hj with h|h
   .exact ybll hon ho (hop j hj) hje h
   .unfold dstApart at h;rw[ht]at h;simp only[zA,zAC]at h;have:=h.2;simp at this;exact absurd hn this
 have allM:∀(s:List Nat),Ord ops s->(∀q,q<ops.size->q∈s)->(∀i,EM s i=EM (zH ops.size) i)/\∀t,ES s t=ES (zH ops.size) t:=by
  intro s ho hall;refine⟨fun i=>?_,fun t=>?_⟩
  .show last _ _ _ s=last _ _ _ (zH ops.size);rw[ycx,ycx _ _ (zH ops.size)];rw[filter_eq ho (ordM i) (fun q hq _=>ho.lt q hq) (fun q hq _=>hall q hq)]
  .show last _ _ _ s=last _ _ _ (zH ops.size);rw[ycx,ycx _ _ (zH ops.size)];rw[filter_eq ho (ordS t) (fun q hq _=>ho.lt q hq) (fun q hq _=>hall q hq)]
 have finish:∀(s:List Nat) (φ':Phi) (a':Act) (w':World),Ord ops s->(∀q,q<ops.size->q∈s)->Rel φ' (EM s) w'->φ.le φ'->(∀i,¬(m.next<=i/\i<x.m.next)->φ' i=φ i)->a'.tmps.size=f.n->a'.defers=a.defers ->
  (∀t v,ES s t=some v->VR φ' v (a'.tmps.getD t undef))->WG φ M w φ' (EM s) w'->Q .normal a' w':=by
  intro s φ' a' w' ho hall hrel hle hout hsz hdf hsl hwg;obtain⟨e1,e2⟩:=allM s ho hall
  have hfn:∀k,k<=ops.size->(F k).n=f.n:=by
   intro k
   induction k with
   |zero=>intro _;rw[hF0]
   | succ k ih =>
     intro hk;obtain⟨e,h1,h2,h3,h4,h5,h6,h7⟩:=hent k _ (hop k hk);rcases yot h7 with⟨q1,q2⟩|⟨d,q1,q2,q3,q4⟩
     .rw[q2];exact ih (by omega)
     .rw[q3];exact ih (by omega)
  refine hQ a' w' φ' (EM s) ⟨hle,hout,hrel,fun i b hb=>?_,fun i hi hn=>?_,hwg⟩ ⟨by rw[hsz,<-hFn,hfn _ (zF _)],fun t v hv=>?_⟩ hdf
  .rw[e1 i];rw[<-hGn]at hb;exact EM_seq _ (zF _) i b hb
  .refine last_none _ _ s (M i) fun j hj=>?_;have hjn:=ho.lt j hj;cases ht:ydx (G j) (R j) i with
   |false=>rfl
   | true =>
     exfalso
     have g1:=grows j 0 (by omega) (by omega)
     have g2:=grows ops.size (j+1) (by omega) (zF _)
     rw[hG0]at g1;rw[hGn]at g2;rw[<-hRm j hjn]at g2
     have hold:(∃b,(G j).b.get i=some b)->(R j).m.low<=i->False:=by
      rintro⟨b,hb⟩ hlow;rcases g1.ext.dom i b hb with⟨b0,h0⟩|h0
      .rcases hn with hn|hn
       .rw[hn]at h0;cases h0
       .have:=g2.low;omega
      .have:=(pure2 j hjn).ext.next
       have:=g2.ext.next
       exact hi ⟨h0.1,by omega⟩
     rcases yfl ht with t|⟨_,t1,t2⟩|⟨l,t1,t2⟩
     .have:=g1.ext.next
      have:=g2.ext.next
      exact hi ⟨by omega,by omega⟩
     .exact hold t1 t2
     .obtain⟨b,hb⟩:=(pure2 j hjn).mods l t1 i t2;refine hold ⟨b,hb⟩ ?_;obtain⟨e,h1,h2,h3,h4,h5,h6,h7⟩:=hent j _ (hop j hjn)
      have hwt:e.w=true:=by
       cases hwt:e.w with
       |true=>rfl
       |false=>have:=h2.2.2 hwt;rw[h5,this]at t1;cases t1;cases t2
      rw[h5]at t1 ⊢;exact One.yzc (h2.2.1 hwt) t1 t2
  .refine hsl t v ?_;rw[e2 t];rw[<-hFn]at hv;exact ES_seq _ (zF _) t v hv
 have main : ∀ (fuel:Nat) (L:Array Bool) (s:List Nat) (φ':Phi) (a':Act) (w':World),(∀i,i<ops.size->L[i]?=some (decide (i∈s)))->((zH ops.size).filter fun i=>decide (i∉s)).length<=fuel ->
  Ord ops s->Rel φ' (EM s) w'->φ.le φ'->(∀i,¬(m.next<=i/\i<x.m.next)->φ' i=φ i)->(∀j,j<ops.size->j∉s->ygh φ' (G j).next (R j).m.next)->a'.tmps.size=f.n->a'.defers=a.defers ->
  (∀t v,ES s t=some v->VR φ' v (a'.tmps.getD t undef))->WG φ M w φ' (EM s) w'->wpAnyIn (wr rr) 0 P .any ops Q fuel L a' w':=by
  have alldone:∀(L:Array Bool) (s:List Nat),(∀i,i<ops.size->L[i]?=some (decide (i∈s)))->Region.ready .any ops L=[]->∀q,q<ops.size->q∈s:=by
   intro L s hL hr q
   induction q using zAU with
   | _ q ih =>
     intro hq;cases Decidable.em (q∈s)with
     |inl h=>exact h
     | inr hns =>
       exfalso
       have:q∈Region.ready .any ops L:=mem_ready.2 ⟨by rw[zD,hL q hq];simp[hns],_,hop q hq,fun e he hb=>by
        have hlt:=hon q _ (hop q hq) e (by simpa using he) hb
        have:=ih e.on hlt (by omega)
        rw[zD,hL e.on (by omega)];simp[this]⟩
       rw[hr]at this;cases this
  intro fuel
  induction fuel with
  | zero =>
    intro L s φ' a' w' hL hlen ho hrel hle hout hfresh hsz hdf hsl hwg
    have hall:∀q,q<ops.size->q∈s:=by
     intro q hq;have h0:(zH ops.size).filter (fun i=>decide (i∉s))=[]:=zAA (by omega)
     have:=List.filter_eq_nil_iff.1 h0 q (List.mem_range.2 hq)
     simpa using this
    refine⟨?_,finish s φ' a' w' ho hall hrel hle hout hsz hdf hsl hwg⟩;apply List.eq_nil_iff_forall_not_mem.2;intro j hj;obtain⟨h1,o,h2,_⟩:=mem_ready.1 hj;have hjn:=(Array.getElem?_eq_some_iff.1 h2).1;rw[zD,hL j hjn]at h1;simp at h1;exact h1 (hall j hjn)
  | succ fuel ih =>
    intro L s φ' a' w' hL hlen ho hrel hle hout hfresh hsz hdf hsl hwg;refine⟨fun hr=>finish s φ' a' w' ho (alldone L s hL hr) hrel hle hout hsz hdf hsl hwg,fun j hj=>?_⟩;obtain⟨h1,o,h2,h3⟩:=mem_ready.1 hj;have hjn:=(Array.getElem?_eq_some_iff.1 h2).1
    have hjs:j∉s:=by
     rw[zD,hL j hjn]at h1
     simpa using h1
    have hoj:ops[j]! = o:=by have:=hop j hjn;rw[h2]at this;exact(Option.some.inj this).symm
    have hje:∀e∈(ops[j]!).after.toList,Region.binds .any e=true->e.on∈s:=by
     rw[hoj];intro e he hb;have hlt:=hon j o h2 e he hb;have:=h3 e (by simpa using he) hb
     rw[zD,hL e.on (by omega)]at this
     simpa using this
    have hje':∀e∈o.after.toList,Region.binds .any e=true->e.on∈s:=by rw[<-hoj];exact hje
    have ho':=ho.snoc hon h2 hjs hje'
    have hL':∀i,i<ops.size->(L.setIfInBounds j true)[i]?=some (decide (i∈s++[j])):=by
     intro i hi;rw[zS]
     by_cases e:j=i
     .subst e
      have hjL:j<L.size:=by
       have:=hL j hjn;exact(Array.getElem?_eq_some_iff.1 this).1
      rw[if_pos rfl,if_pos hjL];simp
     .rw[if_neg e,hL i hi];congr 1;simp;exact fun q=>absurd q.symm e
    have hlen':((zH ops.size).filter fun i=>decide (i∉s++[j])).length<=fuel:=by
     have hsubl:((zH ops.size).filter fun i=>decide (i∉s++[j])).Sublist ((zH ops.size).filter fun i=>decide (i∉s)):=by
      have:(fun i=>decide (i∉s++[j]))=fun i=>(decide (i≠j)&&decide (i∉s)):=by
       funext i;simp[Bool.and_comm]
      rw[this,<-List.filter_filter];exact List.filter_sublist
     rcases zU fuel ((zH ops.size).filter fun i=>decide (i∉s++[j])).length with hlt|hge
     .exfalso
      have:=hsubl.eq_of_length (by have:=hsubl.length_le;omega)
      have hmem:j∈(zH ops.size).filter (fun i=>decide (i∉s)):=List.mem_filter.2 ⟨List.mem_range.2 hjn,by simpa using hjs⟩
      rw[<-this]at hmem;simp at hmem
     .exact hge
    obtain⟨e,k1,k2,k3,k4,k5,k6,k7⟩:=hent j o h2
    have hslot:∀t v,t∈tmpsOf ops.toList o->(F j).t.get t=some v->VR φ' v (a'.tmps.getD t undef):=by
     intro t v ht hv;refine hsl t v ?_;rw[agreeS s j t ho hjn hjs hje (by rw[hoj];exact ht)]
     exact ES_seq j (by omega) t v hv
    have hwant:Region.wanted o (yielded ops a'.tmps)=e.w:=by
     refine yff (φ:=φ') k2.1 fun i want oi d v hg hi hd hv=>hslot d v ?_ (by rw[<-k3];exact hv)
     unfold tmpsOf;rw[hg];simp[hi,hd]
    have next : ∀ (v':Value) (φ'':Phi) (w'':World),VR φ'' (R j).v v'->φ'.le φ''->(∀i,¬((G j).next<=i/\i<(R j).m.next)->φ'' i=φ' i)->Rel φ'' (EM (s++[j])) w''->WG φ' (EM s) w' φ'' (EM (s++[j])) w'' ->
     wpAnyIn (wr rr) 0 P .any ops Q fuel (L.setIfInBounds j true) (a'.put o.dst v') w'':=by
     intro v' φ'' w'' hv hle2 hout2 hrel2 hwg2;have gj:=grows j 0 (by omega) (by omega)
     have gn:=grows ops.size (j+1) (by omega) (zF _)
     rw[hG0]at gj;rw[hGn,<-k6]at gn;refine ih _ (s++[j]) φ'' _ w'' hL' hlen' ho' hrel2 (Phi.le_trans hle hle2) (fun i hi=>?_) (fun q hq hqs i hi1 hi2=>?_) ?_ ?_ (fun t v ht=>?_) (hwg.trans hwg2)
     .rw[hout2 i (fun q=>hi ⟨zM gj.ext.next q.1,zC q.2 gn.ext.next⟩)]
      exact hout i hi
     .have hqs':q∉s:=fun h=>hqs (zZ _ h);have hqj:q≠j:=fun h=>hqs (by simp[h])
      rw[hout2 i (fun c=>?_)]
      .exact hfresh q hq hqs' i hi1 hi2
      .rcases Nat.lt_or_gt_of_ne hqj with hlt|hgt
       .have:=(grows j (q+1) (by omega) (by omega)).ext.next
        rw[<-hRm q hq]at this;omega
       .have:=(grows q (j+1) (by omega) (by omega)).ext.next
        rw[<-k6]at this;omega
     .cases hd:o.dst with
      |none=>exact hsz
      |some d=>simp[Act.put,hsz]
     .cases o.dst<;>exact hdf
     .rw[ES_snoc,hoj]at ht;cases hd:o.dst with
      | none =>
        rw[hd]at ht;simp only[Act.put];exact(hsl t v (by simpa using ht)).mono hle2
      | some d =>
        rw[hd]at ht
        have hdn:d<a'.tmps.size:=by
         rw[hsz];rcases yot k7 with⟨q1,_⟩|⟨d',q1,q2,_,_⟩
         .rw[hd]at q1;cases q1
         .rw[hd]at q1;cases q1
          have hfn:∀k,k<=ops.size->(F k).n=f.n:=by
           intro k
           induction k with
           |zero=>intro _;rw[hF0]
           | succ k ih =>
             intro hk;obtain⟨e,h1,h2,h3,h4,h5,h6,h7⟩:=hent k _ (hop k hk);rcases yot h7 with⟨q1,q2⟩|⟨d,q1,q2,q3,q4⟩
             .rw[q2];exact ih (by omega)
             .rw[q3];exact ih (by omega)
          rw[<-hfn j (by omega)];exact q2
        by_cases htd:d=t
        .subst htd;simp at ht;subst ht;simp[Act.put,hdn];exact hv
        .rw[if_neg (by simpa using htd)]at ht
         have:=(hsl t v ht).mono hle2;simp only[Act.put,zD]at this ⊢;rw[zS,if_neg htd];exact this
    unfold wpOpIn;rw[h2];simp only[hwant];cases hwt:e.w with
    | true =>
      rw[if_pos rfl];have hev:=k2.2.1 hwt;rw[k3,k4]at hev;rw[<-k5]at hev;refine opIn hev.plain (hev.draw (wfs j (by omega)) hrel ?_ ?_ (hfresh j hjn hjs) fun v' w'' φ'' hone=>?_)
      .unfold Need
       have hneed:∀i b,needs (G j) (R j) i->(G j).b.get i=some b->EM s i=some b:=fun i b hn hb=>by
        rw[agreeM s j i ho hjn hjs hje hn];exact EM_seq j (by omega) i b hb
       split
       .rename_i hft
        exact fun i b hb=>hneed i b (by unfold needs;rw[hft];exact⟨b,hb⟩) hb
       .rename_i ft hft
        exact fun i hi b hb=>hneed i b (by unfold needs;rw[hft];exact hi) hb
      .intro y hy v hv;refine yii (f:=F j) (fun t v hyt ht=>hslot t v ?_ ht) hv;subst hyt;unfold tmpsOf;simp only[List.mem_append,List.mem_filterMap];exact .inl (.inl ⟨.tmp t,by simpa using hy,rfl⟩)
      .rw[EM_snoc]at next
       exact next v' φ'' w'' hone.vr hone.le hone.out hone.rel hone.wg
    | false =>
      rw[if_neg (by simp)]
      have hr:=k2.2.2 hwt;rw[<-k5,k4]at hr;have htn:∀i,ydx (G j) (R j) i=false:=fun i=>ygs (by rw[hr]) (by rw[hr]) i
      have hem:EM (s++[j])=EM s:=by
       rw[EM_snoc];funext i;unfold tM;rw[htn i];simp
      refine⟨fun _ _=>trivial,next undef φ' w' (by rw[hr];exact VR.undef) φ'.le_refl (fun _ _=>rfl) ?_ ?_⟩
      .rw[hem];exact hrel
      .rw[hem];exact WG.refl _ _ _
 have hnil:EM []=M:=rfl;refine main ops.size _ [] φ a _ (fun i hi=>by simp[hi]) ?_ Ord.nil (by rw[hnil];exact hR.heap rfl) φ.le_refl (fun _ _=>rfl) (fun j hj _=>?_) hf.size rfl (fun t v hv=>hf.get t v hv) ?_
 .exact zM (List.length_filter_le _ _) (by simp)
 .have g1:=grows j 0 (by omega) (by omega)
  have g2:=grows ops.size (j+1) (by omega) (zF _)
  rw[hG0]at g1;rw[hGn,<-hRm j hj]at g2;exact fun i h1 h2=>hfr i (zM g1.ext.next h1) (zC h2 g2.ext.next)
 .rw[hnil];exact⟨rfl,rfl,rfl,zF _,fun _ _ _=>rfl,fun _ _ h=>h⟩
theorem ybmu (hself:yem P self) (hmix:P.follows .mixedOrders=true) {rr:Option Nat}{ops:Array Oper}{f:Fr}{m:Mem}{x:FM}(hslots:slotsOk ops.toList (ancs ops.toList []).reverse=true)
 (h:evDraw P self ops.toList ops.toList 0 (ancs ops.toList []).reverse [] f m=some x) (hw:Wf m) :
 Grow m x.m/\∀(id:Nat) φ M w a Q,Rel φ M w->Sub m M->FrR φ f a->ygh φ m.next x.m.next->(∀a' w' φ' M',Good φ M w m x.m φ' M' w'->FrR φ' x.f a'->a'.defers=a.defers->Q .normal a' w')->(Code.region id ops true).wpIn (wr rr) 0 P Q a w:=by
 obtain⟨es,htr,_,hap⟩:=yqt hself h;exact ybcs hmix hslots htr hap hw
end
end Ev
end
section
namespace Ev
section
variable {α:Type}
theorem T.set_same:∀(f:Nat) (t:T α) (n:Nat) (x:Option α),n+1<2^f->(T.set f t n x).get n=x
 |0,_,n,_,h=>by simp at h
 |f+1,.leaf,0,x,_=>rfl
 |f+1,.node v l r,0,x,_=>rfl
 | f+1,.leaf,k+1,x,h=>by
   rw[T.set_leaf];have hk:k/2+1<2^f:=by rw[zAG]at h;omega
   by_cases e:even k=true
   .rw[if_pos e,T.get_succ,if_pos e];exact T.set_same f _ _ _ hk
   .rw[if_neg e,T.get_succ,if_neg e];exact T.set_same f _ _ _ hk
 | f+1,.node v l r,k+1,x,h=>by
   rw[T.set_node];have hk:k/2+1<2^f:=by rw[zAG]at h;omega
   by_cases e:even k=true
   .rw[if_pos e,T.get_succ,if_pos e];exact T.set_same f _ _ _ hk
   .rw[if_neg e,T.get_succ,if_neg e];exact T.set_same f _ _ _ hk
theorem T.set_other:∀(f:Nat) (t:T α) (n:Nat) (x:Option α) (j:Nat),n+1<2^f->j≠n->(T.set f t n x).get j=t.get j
 |0,_,n,_,_,h,_=>by simp at h
 |f+1,.leaf,0,x,0,_,hne=>absurd rfl hne
 |f+1,.leaf,0,x,j+1,_,_=>by rw[T.set_leaf0,T.get_succ];simp[T.get_leaf]
 |f+1,.node v l r,0,x,0,_,hne=>absurd rfl hne
 |f+1,.node v l r,0,x,j+1,_,_=>by rw[T.set_node0,T.get_succ,T.get_succ]
 | f+1,.leaf,k+1,x,0,h,_=>by
   rw[T.set_leaf]
   by_cases e:even k=true
   .rw[if_pos e];rfl
   .rw[if_neg e];rfl
 | f+1,.node v l r,k+1,x,0,h,_=>by
   rw[T.set_node]
   by_cases e:even k=true
   .rw[if_pos e];rfl
   .rw[if_neg e];rfl
 | f + 1,.leaf,k+1,x,j+1,h,hne=>by
   have hk:k/2+1<2^f:=by rw[zAG]at h;omega
   rw[T.set_leaf,T.get_leaf]
   by_cases e:even k=true
   .rw[if_pos e,T.get_succ]
    by_cases e':even j=true
    .rw[if_pos e'];have:=(ycl k).1 e;have:=(ycl j).1 e';rw[T.set_other f _ _ _ _ hk (by omega)];rfl
    .rw[if_neg e'];rfl
   .rw[if_neg e,T.get_succ]
    by_cases e':even j=true
    .rw[if_pos e'];rfl
    .rw[if_neg e'];have:=mt (ycl k).2 e;have:=mt (ycl j).2 e';rw[T.set_other f _ _ _ _ hk (by omega)];rfl
 | f + 1,.node v l r,k+1,x,j+1,h,hne=>by
   have hk:k/2+1<2^f:=by rw[zAG]at h;omega
   rw[T.set_node,T.get_succ v l r]
   by_cases e:even k=true
   .rw[if_pos e,T.get_succ]
    by_cases e':even j=true
    .rw[if_pos e',if_pos e'];have:=(ycl k).1 e;have:=(ycl j).1 e';exact T.set_other f _ _ _ _ hk (by omega)
    .rw[if_neg e',if_neg e']
   .rw[if_neg e,T.get_succ]
    by_cases e':even j=true
    .rw[if_pos e',if_pos e']
    .rw[if_neg e',if_neg e'];have:=mt (ycl k).2 e;have:=mt (ycl j).2 e';exact T.set_other f _ _ _ _ hk (by omega)
end
theorem T.set_at{α:Type}(t:T α)(n:Nat)(x:Option α)(j:Nat):(T.set (zO n) t n x).get j=if j=n then x else t.get j:=by
 have hb:n+1<2^(zO n):=Nat.lt_two_pow_self
 by_cases q:j=n
 .subst q;rw[if_pos rfl,T.set_same _ _ _ _ hb]
 .rw[if_neg q,T.set_other _ _ _ _ _ hb q]
theorem T.sets_at:∀(l:List Value) (t:T Value) (i j:Nat),(T.sets t i l).get j=if i<=j/\j<i+l.length then l[j-i]? else t.get j
 |[],t,i,j=>by rw[if_neg (by simp)];rfl
 | v :: l,t,i,j=>by
   unfold T.sets;rw[T.strict_eq,T.sets_at l _ _ j]
   by_cases c:i+1<=j/\j<i+1+l.length
   .rw[if_pos (by exact c),if_pos (by simp;omega),show j-i=(j-(i+1))+1 by omega]
    rfl
   .rw[if_neg (by exact c),T.set_at]
    by_cases q:j=i
    .subst q;rw[if_pos rfl,if_pos (by simp)]
     simp
    .rw[if_neg q,if_neg (by simp;omega)]
theorem ycq (l:List Value)(j:Nat):(tOf l).get j=l[j]?:=by
 unfold tOf;rw[T.sets_at l .leaf 0 j]
 by_cases c:0<=j/\j<0+l.length
 .rw[if_pos c];simp
 .rw[if_neg c,T.get_leaf,zW (by omega)]
theorem ybwd{l:List Value}(_:l.length<1000000000)(j:Nat):(tOf l).get j=l[j]?:=ycq l j
theorem yst{a b:Int}(h:eqInt a b=true):a=b:=by
 unfold eqInt at h;split at h
 .rw[zB h]
 .rw[zB h]
 .cases h
theorem ypm:∀{l k:List UInt8},eqBytes l k=true->l=k
 |[],[],_=>rfl
 | x::l,y::k,h=>by
   simp only[eqBytes,zA]at h;rw[ypm h.2,UInt8.toNat_inj.1 (zB h.1)]
 |[],_::_,h=>by cases h
 |_::_,[],h=>by cases h
theorem ybfj{a b:Addr}(h:eqAddr a b=true):a=b:=by
 simp only[eqAddr,zA]at h;obtain⟨⟨⟨h1,h2⟩,h3⟩,h4⟩:=h;obtain⟨a1,a2,a3⟩:=a;obtain⟨b1,b2,b3⟩:=b;have:=zB h1;have:=zB h2;simp at h3 h4
 simp_all
theorem ybrb{x y:Value}(h:eq1 x y=true):x=y:=by
 unfold eq1 at h;split at h
 .simp at h;rw[h]
 .simp only[zA,eqK,decide_eq_true_eq]at h;rw[h.1,yst h.2]
 .rename_i a b
  have:=ypm h
  have:a=b:=by
   apply ByteArray.ext;exact Array.toList_inj.1 this
  rw[this]
 .rfl
 .rw[ybfj h]
 .simp only[zA]at h;rw[zB h.1,zB h.2]
 .simp only[zA]at h;rw[ybfj h.1.1,zB h.1.2,zB h.2]
 .rw[zB h]
 .rfl
 .rfl
 .rfl
 .cases h
theorem ypg:∀{l k:List Value},eqL1 l k=true->l=k
 |[],[],_=>rfl
 | x::l,y::k,h=>by
   simp only[eqL1,zA]at h;rw[ypg h.2,ybrb h.1]
 |[],_::_,h=>by cases h
 |_::_,[],h=>by cases h
theorem ybuc{x y:Value}(h:eq2 x y=true):x=y:=by
 unfold eq2 at h;split at h
 .rw[Array.toList_inj.1 (ypg h)]
 .simp only[zA]at h;rw[zB h.1.1,Array.toList_inj.1 (ypg h.1.2),Array.toList_inj.1 (ypg h.2)]
 .exact ybrb h
theorem ybfw:∀{l k:List Value},eqL2 l k=true->l=k
 |[],[],_=>rfl
 | x::l,y::k,h=>by
   simp only[eqL2,zA]at h;rw[ybfw h.2,ybuc h.1]
 |[],_::_,h=>by cases h
 |_::_,[],h=>by cases h
theorem ydpf{x y:Value}(h:eqV x y=true):x=y:=by
 unfold eqV at h;split at h
 .rw[Array.toList_inj.1 (ybfw h)]
 .exact ybuc h
theorem yja{c:T Value}:∀{l:List Value}{j:Nat},cellsAre c j l=true->∀k v,l[k]?=some v->c.get (j+k)=some v
 |[],_,_,k,v,hv=>by simp at hv
 | u :: l,j,h,k,v,hv=>by
   unfold cellsAre at h;simp only[zA]at h;obtain⟨h1,h2⟩:=h;cases k with
   | zero =>
     simp at hv;subst hv;split at h1
     .rename_i x hx
      rw[zBB,hx,ybuc h1]
     .cases h1
   | succ k =>
     have:=yja h2 k v (by simpa using hv)
     rw[show j+(k+1)=zO j+k by omega]
     exact this
theorem yit{m:Mem}{b:BlkL}(h:blkIs m b=true):∃c,m.b.get b.i=some (.cells c b.l.length b.e b.z)/\b.l.length<1000000/\∀j v,j<b.l.length->(c.get j=some v↔b.l[j]?=some v):=by
 unfold blkIs at h;split at h
 .rename_i c n e z hg
  simp only[zA]at h;obtain⟨⟨⟨⟨h1,h2⟩,h3⟩,h4⟩,h5⟩:=h;have h1:=zB h1;have h2:=zB h2;have h3:=zB h3;subst h1 h2 h3;refine⟨c,hg,zC (zAR _) (zG h4),fun j v hj=>⟨fun hc=>?_,fun hl=>by have:=yja h5 j v hl;rwa [zBC]at this⟩⟩
  have h6:b.l[j]?=some b.l[j]:=List.getElem?_eq_getElem hj;have:=yja h5 j _ h6;rw[zBC,hc]at this;rw[h6,this]
 .cases h
theorem yih:∀{l:List BlkL}{t:T ABlk}{i:Nat}{x:ABlk},(blksT t l).get i=some x->(∃b∈l,b.i=i/\x=b.blk)\/t.get i=some x
 |[],_,_,_,h=>.inr h
 | b :: l,t,i,x,h=>by
   unfold blksT at h;rw[T.strict_eq]at h;rcases yih h with⟨b',h1,h2⟩|h1
   .exact .inl ⟨b',zJ _ h1,h2⟩
   .have:=T.get_set _ _ _ _ _ _ h1;split at this
    .rename_i e;cases this;exact .inl ⟨b,zI,e.symm,rfl⟩
    .exact .inr this
theorem yvt{low:Nat}:∀{l:List BlkL}{t:T ABlk}{i:Nat}{x:ABlk},(dropT t low l).get i=some x->t.get i=some x/\∀b∈l,b.i=i->¬low<=i
 |[],_,_,_,h=>⟨h,by simp⟩
 | b :: l,t,i,x,h=>by
   unfold dropT at h;rw[ybh]at h;split at h
   .rw[T.strict_eq]at h;obtain⟨h1,h2⟩:=yvt h;have:=T.get_set _ _ _ _ _ _ h1;split at this
    .cases this
    .rename_i hne
     refine⟨this,fun b' hb' hi=>?_⟩;rcases List.mem_cons.1 hb' with rfl|hb'
     .exact absurd hi.symm hne
     .exact h2 b' hb' hi
   .rename_i hlow
    obtain⟨h1,h2⟩:=yvt h;refine⟨h1,fun b' hb' hi=>?_⟩;rcases List.mem_cons.1 hb' with rfl|hb'
    .intro q;rw[hi]at hlow;exact hlow (zL q)
    .exact h2 b' hb' hi
def Ref(b b':ABlk):Prop:=b=b'\/∃c c' n e z,b = .cells c n e z/\b' = .cells c' n e z/\∀j v,j<n->c.get j=some v->c'.get j=some v
theorem Rel.refine{φ:Phi}{M N:AM}{w:World}(h:Rel φ M w)(hs:∀i b,N i=some b->∃b',M i=some b'/\Ref b b'):Rel φ N w:=by
 refine⟨⟨fun i b hb=>?_,fun i j x y li lj hne hx hy hi hj=>?_⟩,fun x hx=>⟨(h.gl x hx).1,fun⟨i,b,l,h1,h2,h3⟩=>(h.gl x hx).2 (by obtain⟨b',k1,_⟩:=hs i b h1;exact⟨i,b',l,k1,h2,h3⟩)⟩⟩
 .obtain⟨b',h1,h2⟩:=hs i b hb;obtain⟨l,k1,k2⟩:=h.blk i b' h1;refine⟨l,k1,?_⟩;rcases h2 with rfl|⟨c,c',n,e,z,rfl,rfl,h3⟩
  .exact k2
  .obtain⟨q1,q2,cs,qe,qf,q0,q3,q4,q5⟩:=k2;exact⟨q1,q2,cs,qe,qf,q0,q3,q4,fun j v hj hv=>q5 j v hj (h3 j v hj hv)⟩
 .obtain⟨x',h1,_⟩:=hs i x hx;obtain⟨y',h2,_⟩:=hs j y hy;exact h.inj i j x' y' li lj hne h1 h2 hi hj
theorem WG.dom{φ φ':Phi}{M₀ M' M M'':AM}{w w':World}(h:WG φ M₀ w φ' M' w')(h1:∀i b,M₀ i=some b->∃b',M i=some b')(h2:∀i b,M'' i=some b->∃b',M' i=some b'):WG φ M w φ' M'' w':=by
 have e1:∀k,Img φ M₀ k->Img φ M k:=fun k ⟨i,b,l,a1,a2,a3⟩=>by obtain⟨b',hb'⟩:=h1 i b a1;exact⟨i,b',l,hb',a2,a3⟩
 have e2:∀k,Img φ' M'' k->Img φ' M' k:=fun k ⟨i,b,l,a1,a2,a3⟩=>by obtain⟨b',hb'⟩:=h2 i b a1;exact⟨i,b',l,hb',a2,a3⟩
 exact⟨h.os,h.tape,h.output,h.size,fun k hk hn=>h.keep k hk (fun q=>hn (e1 k q)),fun k hk q=>e1 k (h.img k hk (e2 k q))⟩
theorem yblz.mono{P:Program}{g:FuncId}{args:Array Value}{w:World}{R R':Ending->World->Prop}(h:yblz P g args w R)(hr:∀e w',R e w'->R' e w'):yblz P g args w R':=by
 rcases h with⟨h1,h2⟩|⟨v,w',h1,h2⟩
 .exact .inl ⟨h1,h2.mono hr⟩
 .exact .inr ⟨v,w',h1,hr _ _ h2⟩
def ycy(P:Program)(f:Fact):Prop:=∃m',ybw P (.call f.g f.args f.mem) (.call f.v m')/\m'.next=f.next1/\f.low<=m'.low/\∀b∈f.post,f.low<=b.i/\blkIs m' b=true
theorem ykj{P:Program}{H:Hooks}{f:Fact}(hs:yem P (ev P H 3000))(h:f.check P H=true):ycy P f:=by
 unfold Fact.check at h;split at h
 .rename_i v m' he
  simp only[zA]at h;obtain⟨⟨⟨h1,h2⟩,h3⟩,h4⟩:=h;have hv:=ydpf h1;subst hv;refine⟨m',hs _ _ he,zB h2,zG h3,fun b hb=>?_⟩;have:=List.all_eq_true.1 h4 b hb;simp only[zA]at this;exact⟨zG this.1,this.2⟩
 .cases h
theorem yzh{P:Program}{f:Fact}{g:FuncId}{args:List Value}{m:Mem}(hok:ycy P f)(hfit:f.fits g args m=true):ybw P (.call g args m) (f.out m):=by
 obtain⟨m',hs,e1,e2,e3⟩:=hok;unfold Fact.fits at hfit;simp only[zA]at hfit;obtain⟨⟨⟨h1,h2⟩,h3⟩,h4⟩:=hfit;have h1:=zB h1;have h2:=zB h2;have h3:=ybfw h3;subst h1;subst h3;have hpre:∀b∈f.pre,∃c,m.b.get b.i=some (.cells c b.l.length b.e b.z)/\b.l.length<1000000/\∀j v,j<b.l.length->(c.get j=some v↔b.l[j]?=some v):=fun b hb=>yit (List.all_eq_true.1 h4 b hb)
 have hget:∀i x,f.mem.b.get i=some x->∃b∈f.pre,b.i=i/\x=b.blk:=fun i x hx=>by
  rcases yih hx with h|h
  .exact h
  .cases h
 intro hw
 have hwf:Wf f.mem:=fun i x hx=>by
  obtain⟨b,hb,rfl,rfl⟩:=hget i x hx;obtain⟨c,hc,_⟩:=hpre b hb;show b.i<f.next0;rw[h2];exact hw _ _ hc
 obtain⟨E,S⟩:=hs hwf;have En:m.next<=f.next1:=by have:=E.next;rw[e1]at this;show m.next<=_;rw[<-h2];exact this
 have hout:∀i x,(blksT (dropT m.b f.low f.pre) f.post).get i=some x->(∃b∈f.post,b.i=i/\x=b.blk)\/(m.b.get i=some x/\∀b∈f.pre,b.i=i->¬f.low<=i):=fun i x hx=>by
  rcases yih hx with h|h
  .exact .inl h
  .exact .inr (yvt h)
 have hpost:∀b∈f.post,∃c,m'.b.get b.i=some (.cells c b.l.length b.e b.z)/\∀j v,j<b.l.length->(c.get j=some v↔b.l[j]?=some v):=fun b hb=>by
  obtain⟨c,k1,_,k2⟩:=yit (e3 b hb).2;exact⟨c,k1,k2⟩
 have hdom:∀b∈f.post,(∃b0,m.b.get b.i=some b0)\/(m.next<=b.i/\b.i<f.next1):=fun b hb=>by
  obtain⟨c,k1,_⟩:=hpost b hb;rcases E.dom _ _ k1 with⟨b0,k2⟩|k2
  .obtain⟨b',q1,q2,_⟩:=hget _ _ k2;obtain⟨c',q3,_⟩:=hpre b' q1;rw[q2]at q3;exact .inl ⟨_,q3⟩
  .rw[e1]at k2;exact .inr ⟨by rw[<-h2];exact k2.1,k2.2⟩
 refine⟨⟨En,fun i x hx=>?_,fun i x hi hnf hx=>?_,fun i x hx=>?_⟩,fun φ M w args' hR hsub hv hfr=>?_⟩
 .rcases hout i x hx with⟨b,hb,rfl,rfl⟩|⟨h,_⟩
  .exact hdom b hb
  .exact .inl ⟨x,h⟩
 .have hi:i<f.low:=hi;rcases hout i x hx with⟨b,hb,rfl,rfl⟩|⟨h,_⟩
  .have:=(e3 b hb).1;omega
  .exact h
 .show i<f.next1;rcases hout i x hx with⟨b,hb,rfl,rfl⟩|⟨h,_⟩
  .rcases hdom b hb with⟨b0,k⟩|k
   .exact zC (hw _ _ k) En
   .exact k.2
  .exact zC (hw _ _ h) En
 .let M₀:AM := fun i=>match f.mem.b.get i with|some x=>some x|none=>M i
  have hM₀:∀i x,M₀ i=some x->∃x',M i=some x'/\Ref x x':=fun i x hx=>by
   show ∃x',M i=some x'/\Ref x x';cases hq:f.mem.b.get i with
   | none =>
     have:M₀ i=M i:=by show(match f.mem.b.get i with|some x=>some x|none=>M i)=_;rw[hq]
     rw[this]at hx;exact⟨x,hx,.inl rfl⟩
   | some y =>
     have:M₀ i=some y:=by show(match f.mem.b.get i with|some x=>some x|none=>M i)=_;rw[hq]
     rw[this]at hx;cases hx
     obtain⟨b,hb,rfl,rfl⟩:=hget i _ hq;obtain⟨c,k1,k2,k3⟩:=hpre b hb;exact⟨_,hsub _ _ k1,.inr ⟨_,c,_,_,_,rfl,rfl,fun j v hj hg=>(k3 j v hj).2 (ykg hg)⟩⟩
  have hsub₀:Sub f.mem M₀:=fun i x hx=>by show(match f.mem.b.get i with|some x=>some x|none=>M i)=_;rw[hx]
  refine(S φ M₀ w args' (hR.refine hM₀) hsub₀ hv (by rw[e1];show ygh φ f.next0 f.next1;rw[h2];exact hfr)).mono ?_
  rintro e w' ⟨v',rfl,φ',M',hgd,hvr⟩
  have hframe:∀i,¬(m.next<=i/\i<f.next1)->(f.mem.b.get i=none\/i<f.low)->M' i=M₀ i:=fun i hi hn =>
   hgd.frame i (by rw[e1];show ¬(f.next0<=i/\i<f.next1);rw[h2];exact hi) (hn.imp id fun q=>zC q e2)
  have hM₀n:∀i,f.mem.b.get i=none->M₀ i=M i:=fun i hq=>by show(match f.mem.b.get i with|some x=>some x|none=>M i)=_;rw[hq]
  have hM₀s:∀i x,f.mem.b.get i=some x->M₀ i=some x:=fun i x hq=>by show(match f.mem.b.get i with|some x=>some x|none=>M i)=_;rw[hq]
  let M'':AM:=fun i=>if i<f.low/\¬(m.next<=i/\i<f.next1)then M i else match (blksT (dropT m.b f.low f.pre) f.post).get i with
   |some x=>some x
   |none=>if (f.pre.any fun b=>zAE b.i i)=true then none else M' i
  have hpid:∀i,f.mem.b.get i≠none->(f.pre.any fun b=>zAE b.i i)=true:=fun i hq=>by
   cases hx:f.mem.b.get i with
   |none=>exact absurd hx hq
   | some x =>
     obtain⟨b,hb,rfl,_⟩:=hget i x hx;exact List.any_eq_true.2 ⟨b,hb,zAN _⟩
  have hM'' : ∀i x,M'' i=some x->∃x',M' i=some x'/\Ref x x':=by
   intro i x hx
   by_cases hc:i<f.low/\¬(m.next<=i/\i<f.next1)
   .have:M'' i=M i:=if_pos hc;rw[this]at hx;have hfr':=hframe i hc.2 (.inr hc.1);cases hq:f.mem.b.get i with
    |none=>rw[hM₀n i hq]at hfr';exact⟨x,by rw[hfr',hx],.inl rfl⟩
    | some y =>
      rw[hM₀s i y hq]at hfr';obtain⟨b,hb,rfl,rfl⟩:=hget i y hq;obtain⟨c,k1,k2,k3⟩:=hpre b hb;have:=hsub _ _ k1;rw[hx]at this;cases this
      exact⟨_,hfr',.inr ⟨c,_,_,_,_,rfl,rfl,fun j v hj hg=>by rw[ybwd (by omega)];exact(k3 j v hj).1 hg⟩⟩
   .have:M'' i=match (blksT (dropT m.b f.low f.pre) f.post).get i with
     |some x=>some x
     |none=>if (f.pre.any fun b=>zAE b.i i)=true then none else M' i:=if_neg hc
    rw[this]at hx;cases ho:(blksT (dropT m.b f.low f.pre) f.post).get i with
    | some y =>
      rw[ho]at hx;cases hx
      rcases hout i x ho with⟨b,hb,rfl,rfl⟩|⟨k1,k2⟩
      .obtain⟨c,q1,q2⟩:=hpost b hb;exact⟨_,hgd.sub _ _ q1,.inr ⟨_,c,_,_,_,rfl,rfl,fun j v hj hg=>(q2 j v hj).2 (ykg hg)⟩⟩
      .have hnf:¬(m.next<=i/\i<f.next1):=fun q=>by have:=hw i x k1;omega
       have hnp:f.mem.b.get i=none:=by
        cases hq:f.mem.b.get i with
        |none=>rfl
        | some y =>
          obtain⟨b,hb,hbi,_⟩:=hget i y hq;exact absurd ⟨by have:=k2 b hb hbi;omega,hnf⟩ hc
       exact⟨x,by rw[hframe i hnf (.inl hnp),hM₀n i hnp];exact hsub i x k1,.inl rfl⟩
    | none =>
      rw[ho]at hx;simp only at hx;split at hx
      .cases hx
      .exact⟨x,hx,.inl rfl⟩
  refine⟨v',rfl,φ',M'',⟨hgd.le,fun i hi=>hgd.out i (by rw[e1];show ¬(f.next0<=i/\i<f.next1);rw[h2];exact hi),hgd.rel.refine hM'',fun i x hx=>?_,fun i hi hn=>?_,hgd.wg.dom (fun i x hx=>?_) (fun i x hx=>?_)⟩,hvr⟩
  .show M'' i=some x
   by_cases hc:i<f.low/\¬(m.next<=i/\i<f.next1)
   .have:M'' i=M i:=if_pos hc;rw[this];rcases hout i x hx with⟨b,hb,rfl,rfl⟩|⟨k1,_⟩
    .have:=(e3 b hb).1;omega
    .exact hsub i x k1
   .have:M'' i=match (blksT (dropT m.b f.low f.pre) f.post).get i with
     |some x=>some x
     |none=>if (f.pre.any fun b=>zAE b.i i)=true then none else M' i:=if_neg hc
    have hx':(blksT (dropT m.b f.low f.pre) f.post).get i=some x:=hx;rw[this,hx']
  .show M'' i=M i;have hi:¬(m.next<=i/\i<f.next1):=hi
   by_cases hc:i<f.low/\¬(m.next<=i/\i<f.next1)
   .exact if_pos hc
   .have hn:m.b.get i=none:=by
     rcases hn with hn|hn
     .exact hn
     .exact absurd ⟨hn,hi⟩ hc
    have:M'' i=match (blksT (dropT m.b f.low f.pre) f.post).get i with
     |some x=>some x
     |none=>if (f.pre.any fun b=>zAE b.i i)=true then none else M' i:=if_neg hc
    rw[this]
    have hnp:∀b∈f.pre,b.i≠i:=fun b hb hbi=>by
     obtain⟨c,k1,_⟩:=hpre b hb;rw[hbi,hn]at k1;cases k1
    have ho:(blksT (dropT m.b f.low f.pre) f.post).get i=none:=by
     cases ho:(blksT (dropT m.b f.low f.pre) f.post).get i with
     |none=>rfl
     | some y =>
       rcases hout i y ho with⟨b,hb,rfl,rfl⟩|⟨k1,_⟩
       .rcases hdom b hb with⟨b0,k⟩|k
        .rw[hn]at k;cases k
        .exact absurd k hi
       .rw[hn]at k1;cases k1
    rw[ho]
    have hany:¬(f.pre.any fun b=>zAE b.i i)=true:=fun q=>by
     obtain⟨b,hb,hbi⟩:=List.any_eq_true.1 q;exact hnp b hb (zB hbi)
    simp only;rw[if_neg hany]
    have hmn:f.mem.b.get i=none:=by
     cases hq:f.mem.b.get i with
     |none=>rfl
     |some y=>obtain⟨b,hb,hbi,_⟩:=hget i y hq;exact absurd hbi (hnp b hb)
    rw[hframe i hi (.inl hmn),hM₀n i hmn]
  .obtain⟨x',k,_⟩:=hM₀ i x hx;exact⟨x',k⟩
  .obtain⟨x',k,_⟩:=hM'' i x hx;exact⟨x',k⟩
theorem yyo{P:Program}{g:FuncId}{args:List Value}{m:Mem}:∀{l:List Fact},(∀f∈l,ycy P f)->∀{out:Out},findIn g args m l=some out->ybw P (.call g args m) out
 |[],_,out,h=>by cases h
 | f::l,hl,out,h=>by
   change iteB (f.fits g args m) (some (f.out m)) (findIn g args m l)=some out at h
   rw[ybh]at h;split at h
   .rename_i hf;cases h;exact yzh (hl f zI) hf
   .exact yyo (fun x hx=>hl x (zJ _ hx)) h
theorem yqp{P:Program}{g:FuncId}{args:List Value}{m:Mem}:∀{l:List Chunk},(∀c∈l,∀f∈c.l,ycy P f)->∀{out:Out},findFact g args m l=some out->ybw P (.call g args m) out
 |[],_,out,h=>by cases h
 | c::l,hl,out,h=>by
   change iteB (zAO c.hi m.next) (findFact g args m l) (findIn g args m c.l)=some out at h
   rw[ybh]at h;split at h
   .exact yqp (fun x hx=>hl x (zJ _ hx)) h
   .exact yyo (hl c zI) h
end Ev
end
section
namespace Ev
open Go Go.RowKit
section
variable {P:Program}{self:Task->Option Out}{φ φ':Phi}{M M':AM}{w w':World}{f f':Fr}{m m' m'':Mem}{a:Act}
theorem ysh{g:Nat}{h:Option Nat}(e:hit g h=true):h=some g:=by
 unfold hit at e;split at e
 .rw[zB e]
 .cases e
theorem ycn.task{c:Code}{e:Exit}(h:Wf m->ycn P c f m e f' m'):ybw P (.code c f m) (.code e f' m'):=fun hw=>⟨(h hw).1.ext,(h hw).1.low,(h hw).2⟩
def El.enc(x:El):Array Value:=#[x.v0,x.v1]
def ybkv(P:Program)(g:FuncId):Prop:=(∀args w,(callFunc g args).run P w = .ok (.enter g args) w) /\
 ∀ (l:Nat) (A:Addr) (gv:GV) (St:List El->Phi->AM->World->Prop) (Stop:World->Prop) (φ:Phi) (M:AM) (w:World) (box:Value),
   (∀pre φ M w,St pre φ M w->∃m,Rel φ M w/\Sub m M/\graphOf m A=some gv) ->
   (∀pre φ M w w',St pre φ M w->Below w.heap.size w w'->St pre φ M w') ->
   (∀pre x post φ M w,St pre φ M w->flatAt 0 gv.ps=pre++x::post->YieldAt Fence.wide 0 P l x.enc w fun e w' =>
     (e = .returned (.bool true)/\∃φ' M',φ.le φ'/\St (pre++[x]) φ' M' w')\/(e = .returned (.bool false)/\Stop w')) ->
   St [] φ M w->VR φ (.pointer (some A)) box ->
   CallsIn Fence.wide 0 P g #[.func (.yield l) #[] #[],box] w fun e w'=>(∃v,e = .returned v)/\((∃φ' M',St (flatAt 0 gv.ps) φ' M' w')\/Stop w')
theorem Img.not_loop(hR:Rel φ M w){k:Nat}{x:Loop}(h:w.heap[k]?=some (.loop x)):¬Img φ M k:=by
 rintro⟨i,b,l,h1,h2,rfl⟩;obtain⟨l',h3,h4⟩:=hR.blk i b h1;rw[h2]at h3;cases h3
 cases b with
 |cells c n e z=>obtain⟨_,_,cs,_,_,_,h5,_⟩:=h4;rw[h]at h5;cases h5
 |map es cl=>have h5:w.heap[l.blk]?=some (.map es cl):=h4;rw[h]at h5;cases h5
theorem Good.put(h:Good φ M w m m' φ' M' w'){l:Nat}{x:Obj}(hll:∃y,w'.heap[l]?=some (.loop y))(hlo:w.heap.size<=l):Good φ M w m m' φ' M' (w'.putObj l x):=by
 have hl:¬Img φ' M' l:=Img.not_loop h.rel hll.choose_spec;refine⟨h.le,h.out,⟨⟨fun i b hb=>?_,h.rel.inj⟩,fun x hx=>⟨?_,(h.rel.gl x hx).2⟩⟩,h.sub,h.frame,?_⟩
 .obtain⟨lc,q1,q2⟩:=h.rel.blk i b hb;exact⟨lc,q1,q2.keep (World.putObj_heap_other fun e=>hl ⟨i,b,lc,hb,q1,e⟩)⟩
 .obtain⟨e,fz,q⟩:=(h.rel.gl x hx).1;exact⟨e,fz,(World.putObj_heap_other fun z=>by obtain⟨y,hy⟩:=hll;rw[z,hy]at q;cases q).trans q⟩
 .have hg:=h.wg;refine⟨hg.os,hg.tape,hg.output,by simp;exact hg.size,fun k hk hn=>?_,hg.img⟩
  rw[World.putObj_heap_other (by omega)]
  exact hg.keep k hk hn
theorem Good.below(h:Good φ M w m m' φ' M' w'){w'':World}(hb:Below w'.heap.size w' w''):Good φ M w m m' φ' M' w'' :=
 ⟨h.le,h.out,h.rel.keep fun k hk=>hb.block k hk,h.sub,h.frame,
   h.wg.trans ⟨hb.os,hb.tape,hb.output,hb.size,fun k hk _=>hb.block k hk,fun _ _ q=>q⟩⟩
theorem ygq{p q:Nat}{assign body:Code}{ok:Mem->Bool}{x:El}{l:List El}{out:Out}(h:evRounds self f p q assign body ok (x::l) m=some out) :
 ok m=true/\∃f1 f2 f3 m1 o2,Fr.putD x.v0 p f=some f1/\Fr.putD x.v1 q f1=some f2/\self (.code assign f2 m)=some (.code .normal f3 m1)/\self (.code body f3 m1)=some o2 /\
  afterRound f (evRounds self f p q assign body ok l) o2=some out:=by
 change iteB (ok m) (ob (evRound self f p q assign body x m) (afterRound f (evRounds self f p q assign body ok l))) none=some out at h
 obtain⟨h1,h2⟩:=ybf h;obtain⟨o2,h3,h4⟩:=yg h2;unfold evRound at h3;rw[ybl]at h3;obtain⟨f1,k1,h5⟩:=yg h3;obtain⟨f2,k2,h6⟩:=yg h5;obtain⟨o1,k3,h7⟩:=yg h6;unfold bodyRound at h7;split at h7
 .rename_i f3 m1
  exact⟨h1,f1,f2,f3,m1,o2,k1,k2,k3,h7,h4⟩
 .cases h7
theorem yhz{p q:Nat}{assign body:Code}{ok:Mem->Bool}{out:Out}(h:evRounds self f p q assign body ok [] m=some out):ok m=true/\out = .code .normal f m:=by
 change iteB (ok m) (some (.code .normal f m)) none=some out at h
 obtain⟨h1,h2⟩:=ybf h;cases h2
 exact⟨h1,rfl⟩
theorem ybjd{p q:Nat}{assign body:Code}{ok:Mem->Bool}{l:List El}{out:Out}(h:evRounds self f p q assign body ok l m=some out):ok m=true:=by
 cases l with
 |nil=>exact(yhz h).1
 |cons x l=>exact(ygq h).1
theorem yjm(hself:yem P self){p q:Nat}{assign body:Code}{ok:Mem->Bool}:∀{l:List El}{m:Mem}{out:Out},evRounds self f p q assign body ok l m=some out->Wf m->∃e m',out = .code e f m'/\Grow m m'
 | [],m,out,h,hw=>by
   obtain⟨_,rfl⟩:=yhz h;exact⟨_,m,rfl,Grow.refl hw⟩
 | x :: l,m,out,h,hw=>by
   obtain⟨_,f1,f2,f3,m1,o2,_,_,k3,k4,k5⟩:=ygq h;obtain⟨e1,g1,n1,q1,s1⟩:=yct hself k3 hw;cases q1
   obtain⟨e2,g2,n2,q2,s2⟩:=yct hself k4 s1.1.ext.wf;subst q2;have hg:=s1.1.trans s2.1;cases e2 with
   | normal =>
     obtain⟨e,m',r1,r2⟩:=yjm hself (l:=l) k5 s2.1.ext.wf;exact⟨e,m',r1,hg.trans r2⟩
   |ret=>cases k5;exact⟨_,_,rfl,hg⟩
   |exit id=>cases k5;exact⟨_,_,rfl,hg⟩
   |_=>cases k5
theorem FrR.putD{v v':Value}{k:Nat}{f1:Fr}(h:FrR φ f a)(hp:Fr.putD v k f=some f1)(hv:VR φ v v'):FrR φ f1 (a.put (some k) v'):=FrR.put (d:=some k) h hp hv
theorem ybzw:∀{x y:List (Int×Int)},eqLk x y=true->x=y
 |[],[],_=>rfl
 | x::l,y::k,h=>by
   have h:(eqInt x.1 y.1&&eqInt x.2 y.2&&eqLk l k)=true:=h;simp only[zA]at h;rw[ybzw h.2];congr 1;exact Prod.ext (yst h.1.1) (yst h.1.2)
 |[],_::_,h=>by cases h
 |_::_,[],h=>by cases h
theorem ycca:∀{x y:List (List (Int×Int))},eqPs x y=true->x=y
 |[],[],_=>rfl
 | x::l,y::k,h=>by
   have h:(eqLk x y&&eqPs l k)=true:=h;simp only[zA]at h;rw[ycca h.2,ybzw h.1]
 |[],_::_,h=>by cases h
 |_::_,[],h=>by cases h
theorem ycfg{A:Addr}{gv:GV}(h:sameG A gv m=true):graphOf m A=some gv:=by
 unfold sameG at h;split at h
 .rename_i k hk
  simp only[zA]at h;rw[hk];obtain⟨v,us,ps⟩:=k;obtain⟨v',us',ps'⟩:=gv;have e1:v=v':=ybrb h.1.1;have e2:us=us':=ypg h.1.2;have e3:ps=ps':=ycca h.2;rw[e1,e2,e3]
 .cases h
theorem yrh{p q:Nat}{assign body:Code}{ok:Mem->Bool}:∀{l:List El}{m:Mem}{out:Out},evRounds self f p q assign body ok l m=some out->∃e m',out = .code e f m'
 |[],m,out,h=>⟨_,m,(yhz h).2⟩
 | x::l,m,out,h=>by
   obtain⟨_,f1,f2,f3,m1,o2,_,_,_,_,k5⟩:=ygq h;unfold afterRound at k5;split at k5
   .exact yrh (l:=l) k5
   .cases k5;exact⟨_,_,rfl⟩
   .cases k5;exact⟨_,_,rfl⟩
   .cases k5
set_option maxHeartbeats 1000000 in
theorem ybgb {lk:Option Nat}(hlk:∀g,lk=some g->ybkv P g) (hself:yem P self) {gx:Operand}{ps:Array Tmp}{assign body:Code}{v:Value}{out:Out}
 (hv:f.get gx=some v) (h:evRange self lk f m ps.toList assign body v=some out):ybw P (.code (.rangeFunc gx ps assign body) f m) out:=by
 unfold evRange at h;split at h
 .rename_i g first captured
  split at h
  .rename_i p q A hps hfirst hcap
   obtain⟨hc,h2⟩:=ybf h;simp only[zA]at hc;obtain⟨⟨hg,hna⟩,hnb⟩:=hc;obtain⟨gv,hgv,h3⟩:=yg h2;have hit:=hlk g (ysh hg);obtain⟨e0,mf,rfl⟩:=yrh h3;have hps':ps = #[p,q]:=Array.toList_inj.1 hps;refine ycn.task fun hw=>⟨?_,fun φ M w a r hnr hR hs hf hfr=>?_⟩
   .obtain⟨e,m',q1,q2⟩:=yjm hself h3 hw;cases q1
    exact q2
   .obtain rfl:r=none:=by
     cases r with
     |none=>rfl
     |some l=>exact absurd (hnr rfl) (by simp[noRF])
    have hvr:=yii (a:=a) (fun t v _ ht=>hf.get t v ht) hv;obtain⟨x',y',e1,e2,e3⟩:=hvr.func_inv;rw[hfirst]at e2;rw[hcap]at e3;cases e2
    obtain⟨box,rfl,hbox⟩:=yfa e3;refine wpIn_rangeFunc ?_;intro fn _;obtain⟨rec,hrec⟩:∃rec:LoopState->Option Code->Loop,rec=fun st pe=>{ state:=st,pending:=pe,fn,tmps:=a.tmps,params:=ps,assign,body,defers:=w.heap.size }:=⟨_,rfl⟩;obtain⟨W1,hW1⟩:∃W1,(w.alloc (.deferred (some []))).alloc (.loop (rec .ready none))=W1:=⟨_,rfl⟩
    have hL1:W1.heap[w.heap.size+1]?=some (.loop (rec .ready none)):=by
     rw[<-hW1];have:=World.alloc_heap_new (w.alloc (.deferred (some []))) (.loop (rec .ready none));rwa [World.size_alloc]at this
    have hK1:W1.heap[w.heap.size]?=some (.deferred (some [])):=by
     rw[<-hW1];exact(Below.heap_alloc _ _ _ (by simp)).trans (World.alloc_heap_new w _)
    have hb1:Below w.heap.size w W1:=by
     rw[<-hW1];exact((Below.refl _ w).alloc (zF _) _).alloc (by simp) _
    refine⟨w.heap.size+1,[{ target:=.collected w.heap.size,args:=#[] }],W1,{ target:=.fn (.func g) #[box],args:=#[.func (.yield (w.heap.size+1)) #[] #[]] },W1,g,
     #[.func (.yield (w.heap.size+1)) #[] #[],box],W1,?_,?_,fun _ _=>trivial,?_,fun q=>(by cases q),?_⟩
    .rw[<-hW1,hrec];exact run_enterLoop_outer _ _ _ _ _
    .simp only[resolve,e1];simp[go_sem]
    .simp[invoke,go_sem,hit.1]
    .let St:List El->Phi->AM->World->Prop:=fun pre φ' M' W=>∃rest mi,flatAt 0 gv.ps=pre++rest/\evRounds self f p q assign body (sameG A gv) rest mi=some (.code e0 f mf)/\Grow m mi/\Good φ M w m mi φ' M' W /\
      W.heap[w.heap.size+1]?=some (.loop (rec .ready none))/\W.heap[w.heap.size]?=some (.deferred (some []))
     let Stop:World->Prop:=fun W=>∃c φ' M',((c=Code.ret/\e0 = .ret)\/∃id,c = .exit id/\e0 = .exit id)/\Good φ M w m mf φ' M' W /\
      W.heap[w.heap.size+1]?=some (.loop (rec .done (some c)))/\W.heap[w.heap.size]?=some (.deferred (some []))
     refine CallsIn.mono (hit.2 (w.heap.size+1) A gv St Stop φ M W1 box ?_ ?_ ?_ ?_ hbox) ?_
     .rintro pre φ' M' W ⟨rest,mi,_,k2,_,k4,_⟩;exact⟨mi,k4.rel,k4.sub,ycfg (ybjd k2)⟩
     .rintro pre φ' M' W W' ⟨rest,mi,k1,k2,k3,k4,k5,k6⟩ hb;exact⟨rest,mi,k1,k2,k3,k4.below hb,(hb.block _ (Array.getElem?_eq_some_iff.1 k5).1).trans k5,(hb.block _ (Array.getElem?_eq_some_iff.1 k6).1).trans k6⟩
     .rintro pre x post φ' M' W ⟨rest,mi,k1,k2,k3,hgd,hl,hd⟩ hfl;rw[k1]at hfl;have hrest:rest=x::post:=List.append_cancel_left hfl;subst hrest;obtain⟨_,f1,f2,f3,m1,o2,p1,p2,p3,p4,p5⟩:=ygq k2;obtain⟨e1',g1,n1,q1,s1⟩:=yct hself p3 k3.ext.wf;cases q1
      obtain⟨e2',g2,m2,q2,s2⟩:=yct hself p4 s1.1.ext.wf;subst q2
      have hm2:m2.next<=mf.next:=by
       cases e2' with
       | normal =>
         obtain⟨e,m',r1,r2⟩:=yjm hself (l:=post) p5 s2.1.ext.wf;cases r1
         exact r2.ext.next
       |ret=>cases p5;exact zF _
       |exit id=>cases p5;exact zF _
       |_=>cases p5
      have hfr1:ygh φ' mi.next mf.next:=hgd.fresh k3.ext hfr
      have hlt:w.heap.size+1<W.heap.size:=(Array.getElem?_eq_some_iff.1 hl).1;have hy:=run_yield (P:=P) (args:=x.enc) hl (by rw[hrec,hps'];rfl)
      rw[hrec]at hy;refine⟨fn,_,assign,body,hy,roundIn_of_wpIn (F:=Fence.wide) (n:=0) trivial ?_⟩;have hfr0:=((hf.mono hgd.le).putD p1 (VR.simple (v:=x.v0) rfl)).putD p2 (VR.atomA (v:=x.v1) rfl)
      have hfr2:FrR φ' f2 { tmps:=(ps.zip x.enc).foldl (fun tmps (t,a)=>tmps.setIfInBounds t a) a.tmps,defers:=[] }:=by
       have et:(ps.zip x.enc).foldl (fun tmps (t,a)=>tmps.setIfInBounds t a) a.tmps=((a.put (some p) x.v0).put (some q) x.v1).tmps:=by
        rw[hps'];simp[El.enc,Act.put]
       rw[et];exact⟨hfr0.size,hfr0.get⟩
      refine wpIn_mono (s1.2 φ' M' W _ (some (w.heap.size+1)) (fun _=>hna) hgd.rel hgd.sub hfr2 (hfr1.left (zM s2.1.ext.next hm2))) ?_
      rintro e' a1 w1 ⟨rfl,φ1,M1,hg1,hf1,_⟩;have hl1:w1.heap[w.heap.size+1]?=some (.loop (rec .ready none)):=(hg1.wg.keep _ hlt (Img.not_loop hgd.rel hl)).trans hl;have hd1:w1.heap[w.heap.size]?=some (.deferred (some [])):=(hg1.wg.keep _ (by omega) (Img.not_deferred hgd.rel hd)).trans hd
      have hlt1:w.heap.size+1<w1.heap.size:=(Array.getElem?_eq_some_iff.1 hl1).1;refine⟨_,run_beginRound hl1 (by rw[hrec]),?_⟩
      have G1:Good φ M w m m1 φ1 M1 w1:=Good.trans k3.ext s1.1.ext s1.1.low hgd hg1;have G1':=G1.put (l:=w.heap.size+1) (x:=.loop { rec .ready none with state:=.busy }) ⟨_,hl1⟩ (by omega)
      have hlb:(w1.putObj (w.heap.size+1) (.loop { rec .ready none with state:=.busy })).heap[w.heap.size+1]?=some (.loop { rec .ready none with state:=.busy }):=World.putObj_heap_same hlt1;have hdb:(w1.putObj (w.heap.size+1) (.loop { rec .ready none with state:=.busy })).heap[w.heap.size]?=some (.deferred (some [])):=(World.putObj_heap_other (by omega)).trans hd1
      refine wpIn_mono (s2.2 φ1 M1 _ a1 (some (w.heap.size+1)) (fun _=>hnb) G1'.rel G1'.sub hf1 ((hg1.fresh s1.1.ext hfr1).left hm2)) ?_;rintro e' a2 w2 ⟨rfl,φ2,M2,hg2,_,_⟩;have hltb:w.heap.size+1<(w1.putObj (w.heap.size+1) (.loop { rec .ready none with state:=.busy })).heap.size:=(Array.getElem?_eq_some_iff.1 hlb).1;have hl2:=(hg2.wg.keep _ hltb (Img.not_loop G1'.rel hlb)).trans hlb;have hd2:=(hg2.wg.keep _ (Array.getElem?_eq_some_iff.1 hdb).1 (Img.not_deferred G1'.rel hdb)).trans hdb
      have hlt2:w.heap.size+1<w2.heap.size:=(Array.getElem?_eq_some_iff.1 hl2).1;have G2:Good φ M w m m2 φ2 M2 w2:=Good.trans (k3.trans s1.1).ext s2.1.ext s2.1.low G1' hg2;have hle2:φ'.le φ2:=Phi.le_trans hg1.le hg2.le
      have fin:∀(jump:Option Code),(w2.putObj (w.heap.size+1) (.loop (rec (if jump.isNone then .ready else .done) jump))).heap[w.heap.size+1]?=some (.loop (rec (if jump.isNone then .ready else .done) jump)) /\
       (w2.putObj (w.heap.size+1) (.loop (rec (if jump.isNone then .ready else .done) jump))).heap[w.heap.size]?=some (.deferred (some []))/\Good φ M w m m2 φ2 M2 (w2.putObj (w.heap.size+1) (.loop (rec (if jump.isNone then .ready else .done) jump))) /\
       (Instr.endRound (w.heap.size+1) jump).run P w2 = .ok (.bool jump.isNone) (w2.putObj (w.heap.size+1) (.loop (rec (if jump.isNone then .ready else .done) jump))):=fun jump=>by
       refine⟨World.putObj_heap_same hlt2,(World.putObj_heap_other (by omega)).trans hd2,G2.put ⟨_,hl2⟩ (by omega),?_⟩
       have:=run_endRound (P:=P) jump hl2;rw[hrec]at this ⊢;exact this
      cases e' with
      | normal =>
        obtain⟨a1',a2',a3',a4'⟩:=fin none;exact⟨_,_,a4',.inl ⟨rfl,φ2,M2,hle2,post,m2,by rw[k1];simp,p5,(k3.trans s1.1).trans s2.1,a3',a1',a2'⟩⟩
      | ret =>
        obtain⟨a1',a2',a3',a4'⟩:=fin (some .ret);cases p5
        exact⟨_,_,a4',.inr ⟨rfl,.ret,φ2,M2,.inl ⟨rfl,rfl⟩,a3',a1',a2'⟩⟩
      | exit id =>
        obtain⟨a1',a2',a3',a4'⟩:=fin (some (.exit id));cases p5
        exact⟨_,_,a4',.inr ⟨rfl,.exit id,φ2,M2,.inr ⟨id,rfl,rfl⟩,a3',a1',a2'⟩⟩
      |_=>cases p5
     .refine⟨flatAt 0 gv.ps,m,rfl,h3,Grow.refl hw,(Good.refl hR hs).below hb1,hL1,hK1⟩
     .have fin:∀{φ' M' W c st},st ≠ .busy->Good φ M w m mf φ' M' W->W.heap[w.heap.size+1]?=some (.loop (rec st c))->W.heap[w.heap.size]?=some (.deferred (some [])) ->
       ∃ w4,(Instr.endLoop (w.heap.size+1)).run P W = .ok c w4/\Good φ M w m mf φ' M' w4/\FrR φ' f { a with defers:=[{ target:=.collected w.heap.size,args:=#[] }]++a.defers } /\
         Df w w4 a { a with defers:=[{ target:=.collected w.heap.size,args:=#[] }]++a.defers }:=by
       intro φ' M' W c st hst hgd hl hd;have hlt:w.heap.size+1<W.heap.size:=(Array.getElem?_eq_some_iff.1 hl).1;have hrun:=run_endLoop (P:=P) hl (by rw[hrec];exact hst)
       have hpend:(rec st c).pending=c:=by rw[hrec]
       rw[hpend]at hrun;refine⟨_,hrun,hgd.put ⟨_,hl⟩ (by omega),⟨(hf.mono hgd.le).size,(hf.mono hgd.le).get⟩,[{ target:=.collected w.heap.size,args:=#[] }],rfl,?_,fun d hd'=>?_⟩
       .exact List.pairwise_singleton _ _
       .rw[List.mem_singleton]at hd';subst hd';exact⟨w.heap.size,zF _,rfl,(World.putObj_heap_other (by omega)).trans hd⟩
      rintro e W ⟨⟨v,rfl⟩,(⟨φ',M',rest,mi,k1,k2,k3,hgd,hl,hd⟩|⟨c,φ',M',hc,hgd,hl,hd⟩)⟩
      .have hrest:rest=[]:=by
        have:=congrArg List.length k1;rw[List.length_append]at this;exact zAA (by omega)
       subst hrest;obtain⟨_,k5⟩:=yhz k2;cases k5
       obtain⟨w4,r1,r2,r3,r4⟩:=fin (by simp) hgd hl hd
       exact⟨none,w4,r1,rfl,φ',M',r2,r3,r4⟩
      .obtain⟨w4,r1,r2,r3,r4⟩:=fin (by simp) hgd hl hd
       rcases hc with⟨rfl,rfl⟩|⟨id,rfl,rfl⟩
       .exact⟨some .ret,w4,r1,wpIn_ret ⟨rfl,φ',M',r2,r3,r4⟩⟩
       .exact⟨some (.exit id),w4,r1,wpIn_exit ⟨rfl,φ',M',r2,r3,r4⟩⟩
  .cases h
 .cases h
end
end Ev
end
section
namespace Ev
open Go Go.RowKit
structure HooksOk(P:Program)(H:Hooks):Prop where
 catch_:∀g,H.catch_=some g->∀self,yem P self->∀args m out,evCatch self m args=some out->ybw P (.call g args m) out
 indexByte:∀g,H.indexByte=some g->∀args m out,evIndexByte m args=some out->ybw P (.call g args m) out
 symm:∀g,H.symm=some g->∀args m out,evSymm H.symB m args=some out->ybw P (.call g args m) out
 facts:∀c∈H.facts,∀f∈c.l,ycy P f
 links:∀g,H.links=some g->ybkv P g
section
variable {P:Program}{self:Task->Option Out}{H:Hooks}{f f':Fr}{m m':Mem}
theorem yvi{c:Code}{e:Exit}(hc:∀r Q a w,Q e a w->c.wpIn (wr r) 0 P Q a w):ybw P (.code c f m) (.code e f m) :=
 ycn.task fun hw=>⟨Grow.refl hw,fun φ M w a r _ hR hs hf _=>hc r _ a w ⟨rfl,φ,M,Good.refl hR hs,hf,Df.same rfl⟩⟩
theorem ywp(hmix:P.follows .mixedOrders=true){lk:Option Nat}(hlk:∀g,lk=some g->ybkv P g)(hself:yem P self){c:Code}{out:Out}(h:codeStep P self lk f m c=some out):ybw P (.code c f m) out:=by
 unfold codeStep at h;split at h
 .cases h;exact yvi fun r Q a w hq=>wpIn_skip hq
 .rename_i x y
  obtain⟨o1,h1,h2⟩:=yg h;unfold thenCode at h2;split at h2
  .rename_i f1 m1
   have:∃e f' m',out = .code e f' m':=by
    have:=hself _ _ h2;cases out with
    |code e f' m'=>exact⟨e,f',m',rfl⟩
    |call v m'=>exact this.elim
   obtain⟨e,f',m',rfl⟩:=this;refine ycn.task fun hw=>?_;obtain⟨e1,f2,m2,he,hs1⟩:=yct hself h1 hw;cases he
   obtain⟨e2,f3,m3,he,hs2⟩:=yct hself h2 hs1.1.ext.wf;cases he
   exact hs1.seq hs2
  .rename_i hne
   cases h2
   have:∃e f' m',out=Out.code e f' m':=by
    have:=hself _ _ h1;cases out with
    |code e f' m'=>exact⟨e,f',m',rfl⟩
    |call v m'=>exact this.elim
   obtain⟨e,f',m',rfl⟩:=this;refine ycn.task fun hw=>?_;obtain⟨e1,f2,m2,he,hs1⟩:=yct hself h1 hw;cases he
   refine⟨hs1.1,fun φ M w a r hn hR hs hf hfr=>wpIn_seq (wpIn_mono (hs1.2 φ M w a r (fun q=>(ysy (hn q)).1) hR hs hf hfr) ?_)⟩;intro e' a' w' hp;exact ykx (by rw[hp.1];intro q;subst q;exact hne _ _ rfl) hp
 .rename_i c x y
  obtain⟨v,hv,h2⟩:=yg h;unfold condStep at h2;split at h2
  .rename_i t
   have key:∀z:Code,self (.code z f m)=some out->(if t then x else y)=z->ybw P (.code (.cond c x y) f m) out:=by
    intro z hz he
    have:∃e f' m',out = .code e f' m':=by
     have:=hself _ _ hz;cases out with
     |code e f' m'=>exact⟨e,f',m',rfl⟩
     |call v m'=>exact this.elim
    obtain⟨e,f',m',rfl⟩:=this;refine ycn.task fun hw=>?_;obtain⟨e1,f2,m2,heq,hs1⟩:=yct hself hz hw;cases heq
    refine⟨hs1.1,fun φ M w a r hn hR hs hf hfr=>wpIn_cond (t:=t) ?_ (by rw[he];exact hs1.2 φ M w a r (fun q=>by have:=ybch (hn q);rw[<-he];cases t<;>first|exact this.2|exact this.1) hR hs hf hfr)⟩
    exact((yii (fun t v _ ht=>hf.get t v ht) hv).bool_iff t).2 rfl
   cases t with
   |true=>exact key x h2 rfl
   |false=>exact key y h2 rfl
  .cases h2
 .rename_i id b
  obtain⟨o1,h1,h2⟩:=yg h;unfold endBlock at h2;split at h2
  .rename_i i f1 m1
   rw[ybh]at h2;split at h2
   .rename_i hi
    have hi:=zB hi;subst hi;cases h2
    refine ycn.task fun hw=>?_;obtain⟨e1,f2,m2,heq,hs1⟩:=yct hself h1 hw;cases heq
    refine⟨hs1.1,fun φ M w a r hn hR hs hf hfr=>wpIn_block (wpIn_mono (hs1.2 φ M w a r hn hR hs hf hfr) ?_)⟩;rintro e' a' w' ⟨rfl,hp⟩;simp only[Exit.inBlock,if_true];exact⟨rfl,hp⟩
   .rename_i hi
    cases h2
    refine ycn.task fun hw=>?_;obtain⟨e1,f2,m2,heq,hs1⟩:=yct hself h1 hw;cases heq
    refine⟨hs1.1,fun φ M w a r hn hR hs hf hfr=>wpIn_block (wpIn_mono (hs1.2 φ M w a r hn hR hs hf hfr) ?_)⟩;rintro e' a' w' ⟨rfl,hp⟩;have hne:i≠id:=fun q=>hi (by rw[q];exact zAN _)
    simp only[Exit.inBlock,if_neg hne];exact⟨rfl,hp⟩
  .rename_i hne
   cases h2
   have:∃e f' m',out=Out.code e f' m':=by
    have:=hself _ _ h1;cases out with
    |code e f' m'=>exact⟨e,f',m',rfl⟩
    |call v m'=>exact this.elim
   obtain⟨e,f',m',rfl⟩:=this;refine ycn.task fun hw=>?_;obtain⟨e1,f2,m2,heq,hs1⟩:=yct hself h1 hw;cases heq
   refine⟨hs1.1,fun φ M w a r hn hR hs hf hfr=>wpIn_block (wpIn_mono (hs1.2 φ M w a r hn hR hs hf hfr) ?_)⟩;intro e' a' w' hp;have he:=hp.1;subst he;cases e' with
   |exit i=>exact absurd rfl (hne i f' m')
   |_=>exact hp
 .rename_i b
  by_cases hw:Wf m
  .have hall:=fun rr hrr=>yrr (rr:=rr) hself hrr _ f m out h hw;obtain⟨e,f',m',rfl,hg,_⟩:=hall none (fun q=>by cases q)
   refine ycn.task fun _=>⟨hg,fun φ M w a r hn hR hs hf hfr=>?_⟩;obtain⟨e2,f2,m2,he,_,hr⟩:=hall r hn;cases he
   exact wpIn_loop_rounds _ (hr φ M w a _ hR hs hf hfr fun a' w' φ' M' hgd hf' hd=>⟨rfl,φ',M',hgd,hf',hd⟩)
  .cases out with
   |code e f' m'=>exact fun q=>absurd q hw
   | call v m' =>
     exfalso
     have:∀n f m v m',evLoop self b n f m≠some (.call v m'):=by
      intro n
      induction n with
      |zero=>intro f m v m' q;cases q
      | succ n ih =>
        intro f m v m' q;rcases yvp q with⟨f1,m1,_,q2⟩|⟨q1,_⟩
        .exact ih _ _ _ _ q2
        .exact hself _ _ q1
     exact this _ _ _ _ _ h
 .rename_i id;cases h;exact yvi fun r Q a w hq=>wpIn_exit hq
 .cases h;exact yvi fun r Q a w hq=>wpIn_ret hq
 .rename_i id ops d
  unfold regionStep at h;cases d with
  | false =>
    change ob (evOps P self ops.toList ops.toList f m) endRegion=some out at h
    obtain⟨x,h1,h2⟩:=yg h;cases h2
    refine ycn.task fun hw=>?_;have hall:=fun rr=>ymp (rr:=rr) hself (ops:=ops) ops.toList f m x h1 hw;exact⟨(hall none).1,fun φ M w a r _ hR hs hf hfr=>wpIn_region_list ((hall r).2 φ M w a _ hR hs hf hfr fun a' w' φ' M' hgd hf' hd=>⟨rfl,φ',M',hgd,hf',Df.same hd⟩)⟩
  | true =>
    change drawStep P self ops.toList (ancs ops.toList []).reverse f m=some out at h
    unfold drawStep at h;obtain⟨hsl,h1⟩:=ybf h;obtain⟨x,h2,h3⟩:=yg h1;cases h3
    refine ycn.task fun hw=>?_;have hall:=fun rr=>ybmu (rr:=rr) hself hmix hsl h2 hw;exact⟨(hall none).1,fun φ M w a r _ hR hs hf hfr=>(hall r).2 id φ M w a _ hR hs hf hfr fun a' w' φ' M' hgd hf' hd=>⟨rfl,φ',M',hgd,hf',Df.same hd⟩⟩
 .rename_i g ps assign body
  obtain⟨v,hv,h2⟩:=yg h;exact ybgb hlk hself hv h2
 .cases h
theorem ybej(hmix:P.follows .mixedOrders=true)(hn:yoz P)(hH:HooksOk P H)(hself:yem P self):yem P (evStep P self H):=by
 intro t out h;cases t with
 |code c f m=>exact ywp hmix hH.links hself h
 | call g args m =>
   change callStep P self H g args m=some out at h
   unfold callStep at h;cases hff:findFact g args m H.facts with
   | some o1 =>
     rw[hff]at h;cases h
     exact yqp hH.facts hff
   |none =>
   rw[hff]at h
   change callStep1 P self H g args m=some out at h
   unfold callStep1 at h;rw[ybh]at h;split at h
   .rename_i hc;exact hH.catch_ g (ysh hc) self hself args m out h
   .rw[ybh]at h;split at h
    .rename_i hc;exact hH.indexByte g (ysh hc) args m out h
    .rw[ybh]at h;split at h
     .rename_i hc;exact hH.symm g (ysh hc) args m out h
     .obtain⟨fn,hg,h2⟩:=yg h;exact ybam hn hself hg h2
theorem yon(hmix:P.follows .mixedOrders=true)(hn:yoz P)(hH:HooksOk P H):∀n,yem P (ev P H n)
 |0=>fun t out h=>by cases h
 |n+1=>ybej hmix hn hH (yon hmix hn hH n)
theorem wf0:Wf mem0:=fun i b h=>by cases h
theorem yccw(hmix:P.follows .mixedOrders=true)(hn:yoz P)(hH:HooksOk P H){n:Nat}{g:FuncId}{args:List Value}{v:Value}{m':Mem}(h:ev P H n (.call g args mem0)=some (.call v m'))(ha:args.all atomA=true)(hg:∃fn c,P.funcs[g]?=some fn/\fn.body=some c)(w:World)(hG:GlW w) :
 Calls P g args.toArray w fun e w'=>∃v' φ M,e = .returned v'/\VR φ v v'/\Rel φ M w'/\Sub m' M/\Below w.heap.size w w':=by
 have hs:=(yon hmix hn hH n _ _ h wf0).2 (fun _=>none) (fun _=>none) w args ⟨⟨fun i b hb=>(by cases hb),fun i j x y li lj _ hx=>(by cases hx)⟩,fun x hx=>⟨hG x hx,fun⟨i,b,l,h1,_⟩=>by cases h1⟩⟩ (fun i b hb=>by cases hb) (VRL.atomA ha) (fun _ _ _=>rfl)
 obtain⟨fn,c,h1,h2⟩:=hg;rcases hs with⟨_,hc⟩|⟨v',w',hrun,_⟩
 .refine hc.mono ?_;rintro e w' ⟨v',rfl,φ',M',hgd,hv⟩;refine⟨v',φ',M',rfl,hv,hgd.rel,hgd.sub,hgd.wg.os,hgd.wg.tape,hgd.wg.output,hgd.wg.size,fun k hk=>hgd.wg.keep k hk ?_⟩;rintro⟨i,b,l,hb,_⟩;cases hb
 .rw[yby hn h1 h2]at hrun;cases hrun
def outV:Option Out->Option Value
 |some (.call v _)=>some v
 |_=>none
theorem yyv(hmix:P.follows .mixedOrders=true)(hn:yoz P)(hH:HooksOk P H){n:Nat}{g:FuncId}{args:List Value}{v:Value}(h:outV (ev P H n (.call g args mem0))=some v)(ha:args.all atomA=true)(hva:atomA v=true)(hg:∃fn c,P.funcs[g]?=some fn/\fn.body=some c)(w:World)(hG:GlW w) :
 Calls P g args.toArray w fun e w'=>e = .returned v/\Below w.heap.size w w':=by
 unfold outV at h;split at h
 .rename_i v' m' he
  cases h
  refine(yccw hmix hn hH he ha hg w hG).mono ?_;rintro e w' ⟨v',φ,M,rfl,hv,_,_,hb⟩;rw[hv.eq_atomA hva];exact⟨rfl,hb⟩
 .cases h
end
end Ev
end
section
namespace Sh
noncomputable section
open Go Ev
abbrev Nm:=Nat×Nat
inductive SV where
 |i (k:IntKind) (n:Int)
 |b (x:Bool)
 |a (v:Value)
 |sl (z n:Nat) (g:Nat->List SV)
 |rf (c:List SV)
 |ag (c:List SV)
 |tp (c:List SV)
 |pt (β:Nm) (i j:Nat)
 |os (β:Nm) (o n:Nat) (ap:Bool)
 |fn (g:FuncId) (f c:List SV)
 |ex (Q:(Nat->Option ABlk)->Value->Prop) (v:SV)
 |bad
structure OB where
 e:TypeId
 bx:Bool
 z:Nat
 n:Nat
 g:Nat->List SV
inductive Fam where
 |one (b:Option OB)
 |many (g:Nat->Option OB)
def Fam.at:Fam->Nat->Option OB
 |.one b,i=>if i=0 then b else none
 |.many g,i=>g i
abbrev Own:=List (Nat×Fam)
structure SS where
 f:List (Nat×SV)
 o:Own
def look{α:Type}(l:List (Nat×α))(t:Nat):Option α:=match l with
 |[]=>none
 |(k,v)::l=>if k=t then some v else look l t
def lookO(l:Own)(β:Nm):Option OB:=match look l β.1 with
 |some F=>F.at β.2
 |none=>none
def yrj(F:Option Fam)(i:Nat)(b:Option OB):Fam:=match F with
 |some (.many g)=>.many (fun j=>if j=i then b else g j)
 |_=>.one b
def SS.put(s:SS)(d:Option Nat)(v:SV):SS:=match d with
 |none=>s
 |some t=>⟨(t,v)::s.f,s.o⟩
def SS.own(s:SS)(β:Nm)(b:Option OB):SS:=⟨s.f,(β.1,yrj (look s.o β.1) β.2 b)::s.o⟩
def ofV:Value->SV
 |.int k n=>.i k n
 |.bool x=>.b x
 |v=>.a v
def ybka:Value->Option SV
 |.int k n=>some (.i k n)
 |.bool x=>some (.b x)
 |.agg cs=>if cs.toList.all simple then some (.ag (cs.toList.map ofV))else none
 |v=>if simple v then some (.a v)else none
def SS.get(s:SS):Operand->Option SV
 |.tmp t=>look s.f t
 |.const v=>ybka v
 |.global _=>none
 |.func g=>some (.fn g [] [])
def SS.gets(s:SS):List Operand->Option (List SV)
 |[]=>some []
 | x::l=>match s.get x,s.gets l with
   |some v,some vs=>some (v::vs)
   |_,_=>none
def SS.pget(s:SS)(x:Operand):Option SV:=match s.get x with
 |some (.ex _ v)=>some v
 |r=>r
inductive SOp where
 |mv (x:Operand)
 |pick (c a b:Operand)
 |alloc (e:TypeId) (n:Nat) (z:List SV)
 |box (e:TypeId) (x:Operand)
 |build (z:List SV) (ps:List (Nat×Nat×Operand))
 |bslice (e z n:Nat) (zs:List SV) (ps:List (Nat×Nat×Operand))
 |load (ag:Bool) (n:Nat) (x:Operand)
 |store (n:Nat) (x y:Operand)
 |nilck (x:Operand)
 |faddr (o n:Nat) (x:Operand)
 |field (ag:Bool) (o n:Nat) (x:Operand)
 |idx (z:Nat) (x k:Operand)
 |idxA (n z:Nat) (x k:Operand)
 |extract (x:Operand) (k:Nat)
 |mkfn (g:FuncId) (a b:List Operand)
 |mk (e z by_:Nat) (zs:List SV) (l c:Operand)
 |cut (z:Nat) (x:Operand) (lo hi:Option Operand)
 |cutA (n z:Nat) (x:Operand) (lo hi:Option Operand)
 |len (x:Operand)
 |app (e z by_:Nat) (s x:Operand)
 |mm (mx:Bool) (x y:Operand)
 |bin (op:BinOp) (x y:Operand)
 |wsub (x y:Operand)
 |wadd (x y:Operand)
 |beq (ne:Bool) (x y:Operand)
 |seq (ne:Bool) (ks:List Bool) (x y:Operand)
 |stri (l:List Nat) (k:Operand)
 |un (op:UnOp) (x:Operand)
 |conv (k:IntKind) (x:Operand)
 |call (f:Operand) (xs:List Operand)
 |no
structure SOper where
 op:SOp
 dst:Option Nat
 g:Option (Nat×Bool)
 an:Nat
inductive SC where
 |skip
 |seq (a b:SC)
 |cond (c:Operand) (a b:SC)
 |block (id:Nat) (b:SC)
 |loop (b:SC)
 |exit (id:Nat)
 |ret
 |reg (d:Bool) (ops:List SOper)
 |range (g:Operand) (ps:List Nat) (a b:SC)
 |no
structure SRec where
 rd:List Nm
 wr:List Nm
 nw:List Nm
 fz:Bool
 cl:Bool
 gr:Bool
 mu:Bool
def SRec.no:SRec:=⟨[],[],[],false,false,false,false⟩
def SRec.top:SRec:=⟨[],[],[],true,true,true,true⟩
structure XR where
 c:Prop
 r:SRec
 v:SV
 s:SS
def part(ag:Bool)(o n:Nat)(l:List SV):Option SV :=
 if o+n<=l.length then(if ag then some (.ag ((l.drop o).take n))else if n=1 then(l.drop o).head? else none)else none
def SV.cells:SV->List SV
 |.ag c=>c
 |v=>[v]
def one1:SV->Bool
 |.ag _ | .tp _ | .bad=>false
 |.ex _ v=>one1 v
 |_=>true
def splice(l:List SV)(o:Nat)(new:List SV):List SV:=l.take o++new++l.drop (o+new.length)
def fill(s:SS)(l:List SV):List (Nat×Nat×Operand)->Option (List SV)
 |[]=>some l
 | (o,n,x)::ps=>match s.get x with
   |none=>none
   |some v=>if v.cells.length=n/\o+n<=l.length/\v.cells.all one1=true then fill s (splice l o v.cells) ps else none
def OB.set(b:OB)(i j:Nat)(l:List SV):OB :=
 ⟨b.e,b.bx,b.z,b.n,if b.n=1/\b.bx=true then(let c:=splice (b.g 0) j l;fun _=>c)else fun k=>if k=i then splice (b.g i) j l else b.g k⟩
structure Row where
 c:Prop
 n:Nat
 g:Nat->List SV
 rd:List Nm
 fz:Bool
def yrq(s:SS)(z:Nat):SV->Option Row
 |.sl z' n g=>if z'=z then some ⟨True,n,g,[],true⟩else none
 | .os β o n _=>match lookO s.o β with
   |some b=>if b.z=z then some ⟨o+n<=b.n,n,fun k=>b.g (o+k),[β],false⟩else none
   |none=>none
 |.a (.slice none 0 0)=>some ⟨True,0,fun _=>[],[],false⟩
 |_=>none
def inK(k:IntKind)(n:Int):Prop:=k.min<=n/\n<=k.max
def xbin(op:BinOp):SV->SV->Option (Prop×SV)
 | .i k x,.i k' y=>match op with
   |.add=>if k=k' then some (inK k (x+y),.i k (x+y))else none
   |.sub=>if k=k' then some (inK k (x-y),.i k (x-y))else none
   |.mul=>if k=k' then some (inK k (x*y),.i k (x*y))else none
   |.quo=>if k=k' then some (y≠0/\inK k (x.tdiv y),.i k (x.tdiv y))else none
   |.rem=>if k=k' then some (y≠0,.i k (x.tmod y))else none
   |.shl=>some (0<=y/\y<k.bits,.i k (k.wrap (x*2^y.toNat)))
   |.shr=>some (0<=y/\y<k.bits,.i k (x.fdiv (2^y.toNat)))
   |.and=>if k=k' then some (True,.i k (k.wrap (zN k.bits x&&&zN k.bits y).toNat))else none
   |.or=>if k=k' then some (True,.i k (k.wrap (zN k.bits x|||zN k.bits y).toNat))else none
   |.xor=>if k=k' then some (True,.i k (k.wrap (zN k.bits x ^^^ zN k.bits y).toNat))else none
   |.andNot=>if k=k' then some (True,.i k (k.wrap (zN k.bits x &&& ~~~zN k.bits y).toNat))else none
   |.eql=>if k=k' then some (True,.b (x==y))else none
   |.neq=>if k=k' then some (True,.b (x != y))else none
   |.lss=>if k=k' then some (True,.b (decide (x<y)))else none
   |.leq=>if k=k' then some (True,.b (decide (x<=y)))else none
   |.gtr=>if k=k' then some (True,.b (decide (x>y)))else none
   |.geq=>if k=k' then some (True,.b (decide (x>=y)))else none
 |_,_=>none
def xun(op:UnOp):SV->Option (Prop×SV)
 | .i k x=>match op with
   |.neg=>if k.signed=true then some (inK k (0-x),.i k (0-x))else some (True,.i k (k.wrap (0-x)))
   |.xor=>some (True,.i k (k.wrap (zN k.bits (if k.signed then -1 else k.max) ^^^ zN k.bits x).toNat))
   |_=>none
 | .b x=>match op with
   |.not=>some (True,.b !x)
   |_=>none
 |_=>none
def ybnz(s:SS):Option (Prop×SV)->Option XR
 |some (c,v)=>some ⟨c,SRec.no,v,s⟩
 |none=>none
def ywf(s:SS)(ag:Bool)(n:Nat):SV->Option XR
 | .rf c=>match part ag 0 n c with
   |some v=>some ⟨True,⟨[],[],[],true,false,false,false⟩,v,s⟩
   |none=>none
 | .pt β i j=>match lookO s.o β with
   | some b=>if j+n<=b.z then(match part ag j n (b.g i)with
     |some v=>some ⟨i<b.n,⟨[β],[],[],false,false,false,false⟩,v,s⟩
     |none=>none)else none
   |none=>none
 |_=>none
def ybbj(s:SS)(n:Nat)(v:SV):SV->Option XR
 | .pt β i j=>match lookO s.o β with
   | some b=>if v.cells.length=n/\j+n<=b.z/\v.cells.all one1=true then
      some ⟨i<b.n,⟨[β],[β],[],false,false,false,false⟩,.tp [],s.own β (some (b.set i j v.cells))⟩else none
   |none=>none
 |_=>none
def idxX(s:SS)(n:Int)(z:Nat):SV->Option XR
 |.sl z' m g=>if z'=z then some ⟨0<=n/\n<m,SRec.no,.rf (g n.toNat),s⟩else none
 | .os β o m _=>match lookO s.o β with
   |some b=>if b.z=z then some ⟨0<=n/\n<m,SRec.no,.pt β (o+n.toNat) 0,s⟩else none
   |none=>none
 |_=>none
def natX(s:SS)(d:Nat):Option Operand->Option (Int)
 |none=>some d
 | some x=>match s.get x with
   |some (.i _ n)=>some n
   |_=>none
def eqL:List Bool->List SV->List SV->Option Bool
 |[],[],[]=>some true
 |false::ks,.i k n::l,.i k' m::l'=>if k=k' then(eqL ks l l').map (decide (n=m) && ·)else none
 |true::ks,.b x::l,.b y::l'=>(eqL ks l l').map ((x==y) && ·)
 |_,_,_=>none
def ynu(s:SS)(e d:Nat):Bool:=(look s.o d).isNone&&decide (e<1000000000)
def xOp (s:SS)(d:Option Nat):SOp->Option XR
 | .mv x=>match s.get x with
   |some v=>some ⟨True,SRec.no,v,s⟩
   |none=>none
 | .pick c a b=>match s.get c with
   | some (.b t)=>(match s.get (if t then a else b)with
     |some v=>some ⟨True,SRec.no,v,s⟩
     |none=>none)
   |_=>none
 | .alloc e n z=>match d with
   |some β=>if ynu s e β then some ⟨True,⟨[],[],[(β,0)],false,false,false,false⟩,.pt (β,0) 0 0,s.own (β,0) (some ⟨e,true,z.length,n,fun _=>z⟩)⟩else none
   |none=>none
 | .box e x=>match d,s.get x with
   |some β,some v=>if ynu s e β/\v.cells.all one1=true then some ⟨True,⟨[],[],[(β,0)],false,false,false,false⟩,.pt (β,0) 0 0,s.own (β,0) (some ⟨e,true,v.cells.length,1,fun _=>v.cells⟩)⟩else none
   |_,_=>none
 | .build z ps=>match fill s z ps with
   |some l=>some ⟨True,SRec.no,.ag l,s⟩
   |none=>none
 | .bslice e z n zs ps=>match d,fill s zs ps with
   |some β,some l=>if ynu s e β then some ⟨True,⟨[],[],[(β,0)],false,false,false,false⟩,.os (β,0) 0 n true,s.own (β,0) (some ⟨e,false,z,n,fun k=>(l.drop (k*z)).take z⟩)⟩else none
   |_,_=>none
 | .load ag n x=>match s.get x with
   |some p=>ywf s ag n p
   |none=>none
 | .store n x y=>match s.get x,s.get y with
   |some p,some v=>ybbj s n v p
   |_,_=>none
 | .nilck x=>match s.get x with
   |some (.rf c)=>some ⟨True,SRec.no,.rf c,s⟩
   |some (.pt β i j)=>some ⟨True,SRec.no,.pt β i j,s⟩
   |_=>none
 | .faddr o n x=>match s.get x with
   |some (.rf c)=>if o+n<=c.length then some ⟨True,SRec.no,.rf ((c.drop o).take n),s⟩else none
   |some (.pt β i j)=>some ⟨True,SRec.no,.pt β i (j+o),s⟩
   |_=>none
 | .field ag o n x=>match s.get x with
   | some (.ag c)=>(match part ag o n c with
     |some v=>some ⟨True,SRec.no,v,s⟩
     |none=>none)
   |_=>none
 | .idx z x k=>match s.pget x,s.get k with
   |some p,some (.i _ n)=>idxX s n z p
   |_,_=>none
 | .idxA m z x k=>match s.get x,s.get k with
   | some (.pt β i j),some (.i _ n)=>(match lookO s.o β with
     |some b=>if b.z=z then some ⟨0<=n/\n<m,SRec.no,.pt β (i+n.toNat) j,s⟩else some ⟨0<=n/\n<m,SRec.no,.pt β i (j+n.toNat*z),s⟩
     |none=>none)
   |some (.rf c),some (.i _ n)=>some ⟨0<=n/\n<m/\n.toNat*z+z<=c.length,SRec.no,.rf ((c.drop (n.toNat*z)).take z),s⟩
   |_,_=>none
 | .extract x k=>match s.get x with
   | some (.tp c)=>(match c[k]? with
     |some v=>some ⟨True,SRec.no,v,s⟩
     |none=>none)
   |_=>none
 | .mkfn g a b=>match s.gets a,s.gets b with
   |some a,some b=>some ⟨True,SRec.no,.fn g a b,s⟩
   |_,_=>none
 | .mk e z by_ zs l c=>match d,s.get l,s.get c with
   |some β,some (.i _ n),some (.i _ m)=>if ynu s e β then some ⟨n=m/\0<=n/\by_*n.toNat<=1000000/\n.toNat<=1000000,⟨[],[],[(β,0)],false,false,false,false⟩,.os (β,0) 0 n.toNat true,s.own (β,0) (some ⟨e,false,z,n.toNat,fun _=>zs⟩)⟩else none
   |_,_,_=>none
 | .cut z x lo hi=>match s.pget x with
   | some (.sl z' m g)=>(match natX s m hi,natX s 0 lo with
     |some h,some l=>if z'=z then some ⟨0<=l/\l<=h/\h<=m/\0<m,⟨[],[],[],true,false,false,false⟩,.sl z (h.toNat-l.toNat) (fun k=>g (l.toNat+k)),s⟩else none
     |_,_=>none)
   | some (.os β o m c)=>(match natX s m hi,natX s 0 lo,lookO s.o β with
     |some h,some l,some b=>if b.z=z/\b.bx=false then some ⟨0<=l/\l<=h/\h<=m,⟨[β],[],[],false,false,false,false⟩,.os β (o+l.toNat) (h.toNat-l.toNat) (c&&hi.isNone),s⟩else none
     |_,_,_=>none)
   |_=>none
 | .cutA m z x lo hi=>match s.get x with
   | some (.pt β 0 0)=>(match natX s m hi,natX s 0 lo,lookO s.o β with
     |some h,some l,some b=>if b.n=m/\b.z=z/\b.bx=true then some ⟨0<=l/\l<=h/\h<=m/\m<=1000000,⟨[β],[],[],false,false,false,false⟩,.os β l.toNat (h.toNat-l.toNat) false,s⟩else none
     |_,_,_=>none)
   |_=>none
 | .len x=>match s.pget x with
   |some (.sl _ n _)=>some ⟨True,SRec.no,.i .i64 n,s⟩
   |some (.os _ _ n _)=>some ⟨True,SRec.no,.i .i64 n,s⟩
   |some (.a (.slice none 0 0))=>some ⟨True,SRec.no,.i .i64 0,s⟩
   |_=>none
 | .app e z by_ x y=>match d,s.get x,s.pget y with
   | some β,some x,some y=>(match yrq s z y with
     | some q=>if ynu s e β then(if q.n=0 then(match x with
       |.a (.slice none 0 0)=>some ⟨q.c,SRec.no,.a (.slice none 0 0),s⟩
       |.os γ p n true=>some ⟨q.c/\n*by_<=100000000/\n<=100000000,SRec.no,.os γ p n true,s⟩
       |_=>none)else(match x with
       | .a (.slice none 0 0)=>some ⟨q.c/\0<q.n/\q.n*by_<=100000000/\q.n<=100000000,⟨q.rd,[],[(β,0)],q.fz,false,false,false⟩,.os (β,0) 0 q.n true,
          s.own (β,0) (some ⟨e,false,z,q.n,q.g⟩)⟩
       | .os γ p n true=>(match lookO s.o γ with
         | some b=>if b.e=e/\b.z=z/\b.bx=false then some ⟨q.c/\p+n<=b.n/\0<q.n/\(n+q.n)*by_<=100000000/\n+q.n<=100000000,⟨γ::q.rd,[γ],[(β,0)],q.fz,false,false,false⟩,.os (β,0) 0 (n+q.n) true,
           (s.own γ none).own (β,0) (some ⟨e,false,z,n+q.n,fun k=>if k<n then b.g (p+k)else q.g (k-n)⟩)⟩else none
         |none=>none)
       |_=>none))else none
     |none=>none)
   |_,_,_=>none
 | .mm mx x y=>match s.get x,s.get y with
   |some (.i k n),some (.i k' m)=>if k=k' then some ⟨True,SRec.no,.i k (if mx then max n m else min n m),s⟩else none
   |_,_=>none
 | .bin op x y=>match s.get x,s.get y with
   |some v,some w=>ybnz s (xbin op v w)
   |_,_=>none
 | .wsub x y=>match s.get x,s.get y with
   |some (.i k n),some (.i k' m)=>if k=k' then some ⟨True,SRec.no,.i k (k.wrap (n-m)),s⟩else none
   |_,_=>none
 | .wadd x y=>match s.get x,s.get y with
   |some (.i k n),some (.i k' m)=>if k=k' then some ⟨True,SRec.no,.i k (k.wrap (n+m)),s⟩else none
   |_,_=>none
 | .beq ne x y=>match s.get x,s.get y with
   |some (.b a),some (.b b)=>some ⟨True,SRec.no,.b (if ne then a != b else a==b),s⟩
   |_,_=>none
 | .seq ne ks x y=>match s.get x,s.get y with
   | some (.ag l),some (.ag l')=>(match eqL ks l l' with
     |some q=>some ⟨True,SRec.no,.b (if ne then !q else q),s⟩
     |none=>none)
   |_,_=>none
 | .stri l k=>match s.get k with
   |some (.i _ n)=>some ⟨0<=n/\n<l.length,SRec.no,.i .u8 ((l.getD n.toNat 0:Nat):Int),s⟩
   |_=>none
 | .un op x=>match s.get x with
   |some v=>ybnz s (xun op v)
   |_=>none
 | .conv k x=>match s.get x with
   |some (.i _ n)=>some ⟨True,SRec.no,.i k (k.wrap n),s⟩
   |_=>none
 |.call _ _=>none
 |.no=>none
def slots:List SV->Nat->List (Nat×SV)
 |[],_=>[]
 |v::l,i=>(i,v)::slots l (i+1)
def view(o:Own):Nat->SV->SV
 |0,_=>.bad
 | n + 1,v=>match v with
   | .pt β i j=>(match lookO o β with
     |some b=>.rf ((((b.g i).drop j)).map (view o n))
     |none=>.bad)
   | .os β p m _=>(match lookO o β with
     |some b=>.sl b.z m (fun k=>(b.g (p+k)).map (view o n))
     |none=>.bad)
   |.ag c=>.ag (c.map (view o n))
   |.tp c=>.tp (c.map (view o n))
   |.fn g a b=>.fn g (a.map (view o n)) (b.map (view o n))
   |v=>v
def allP(p:SV->Prop):List SV->Prop
 |[]=>True
 |x::l=>p x/\allP p l
def vok(o:Own):Nat->SV->Prop
 |0,_=>False
 | n + 1,v=>match v with
   | .pt β i j=>(match lookO o β with
     |some b=>(i<b.n/\j<=b.z)/\allP (vok o n) ((b.g i).drop j)
     |none=>False)
   | .os β p m _=>(match lookO o β with
     |some b=>p+m<=b.n/\∀k,k<m->allP (vok o n) (b.g (p+k))
     |none=>False)
   |.ag c=>allP (vok o n) c
   |.tp c=>allP (vok o n) c
   |.fn _ a b=>allP (vok o n) a/\allP (vok o n) b
   |.bad=>False
   |_=>True
def owned:Nat->SV->Bool
 |0,_=>true
 | n+1,v=>match v with
   |.pt .. | .os .. | .bad=>true
   |.ag c | .tp c=>c.any (owned n)
   |.fn _ a b=>a.any (owned n)||b.any (owned n)
   |_=>false
def scalar:Nat->SV->Bool
 |0,_=>false
 | n+1,v=>match v with
   |.i .. | .b .. | .a ..=>true
   |.ag c | .tp c=>c.all (scalar n)
   |_=>false
end
end Sh
end
section
namespace Sh
open Go Ev
def Le(F G:AM):Prop:=∀i b,F i=some b->G i=some b
theorem Le.refl(F:AM):Le F F:=fun _ _ h=>h
theorem Le.trans{F G H:AM}(a:Le F G)(b:Le G H):Le F H:=fun i x h=>b i x (a i x h)
abbrev Om:=Nm->Option (Option (Nat×Nat))
def om0:Om:=fun _=>none
def Om.le(ω ψ:Om):Prop:=∀β x,ω β=some x->ψ β=some x
theorem yxo(ω:Om):Om.le om0 ω:=fun _ _ h=>by cases h
theorem Om.le_refl(ω:Om):Om.le ω ω:=fun _ _ h=>h
def Z0(u:Value):Prop:=u = .slice none 0 0\/∃b o c,u = .slice (some ⟨b,o,none⟩) 0 c
mutual
inductive RV (F:AM):Om->SV->Value->Prop
 |i {ω k n}:RV F ω (.i k n) (.int k n)
 |b {ω x}:RV F ω (.b x) (.bool x)
 |a {ω v} (h:simple v=true):RV F ω (.a v) v
 |sl0 {ω z g u} (h:Z0 u):RV F ω (.sl z 0 g) u
 | sl {ω z n g bk o c T N e zz} {L:Nat->List Value}(hF:F bk=some (.cells T N e zz)) (hz:zz=z\/zz=0) (hN:o+n*z<=N) (hl:∀k,k<n->(L k).length=z)
    (ht:∀k,k<n->∀j,j<z->T.get (o+k*z+j)=(L k)[j]?) (hc:∀k,k<n->RVL F om0 (g k) (L k)) (h1:∀k,k<n->(g k).all one1=true):RV F ω (.sl z n g) (.slice (some ⟨bk,o,none⟩) n c)
 |rf {ω c bk o T N e zz} {L:List Value}(hF:F bk=some (.cells T N e zz)) (hN:o+L.length<=N) (ht:∀j,j<L.length->T.get (o+j)=L[j]?) (hc:RVL F om0 c L) (h1:c.all one1=true):RV F ω (.rf c) (.pointer (some ⟨bk,o,none⟩))
 |ag {ω c} {L:List Value}(h:RVL F ω c L):RV F ω (.ag c) (.agg L.toArray)
 |tp {ω c} {L:List Value}(h:RVL F ω c L):RV F ω (.tp c) (.tuple L.toArray)
 |fn {ω g a b} {A B:List Value}(ha:RVL F ω a A) (hb:RVL F ω b B):RV F ω (.fn g a b) (.func (.func g) A.toArray B.toArray)
 |pt {ω β i j k z} (h:ω β=some (some (k,z))):RV F ω (.pt β i j) (.pointer (some ⟨k,i*z+j,none⟩))
 |os {ω β o n ap c k z} (h:ω β=some (some (k,z))) (hb:ap=true->c=CU\/(c=n/\n<CU)):RV F ω (.os β o n ap) (.slice (some ⟨k,o*z,none⟩) n c)
 |ex {ω Q v u} (hQ:Q F u) (hm:∀A B w,Le A B->Q A w->Q B w) (h:RV F om0 v u):RV F ω (.ex Q v) u
 |os0 {ω β ap} (h:ω β=some none):RV F ω (.os β 0 0 ap) (.slice none 0 0)
inductive RVL (F:AM):Om->List SV->List Value->Prop
 |nil {ω}:RVL F ω [] []
 |cons {ω v u l L} (h:RV F ω v u) (hl:RVL F ω l L):RVL F ω (v::l) (u::L)
end
section
variable {F G:AM}{ω ψ:Om}
mutual
theorem RV.mono(hF:Le F G):∀{ω ψ:Om},ω.le ψ->∀{v:SV}{u:Value},RV F ω v u->RV G ψ v u
 |_,_,_,_,_,.i=>.i
 |_,_,_,_,_,.b=>.b
 |_,_,_,_,_,.a h=>.a h
 |_,_,_,_,_,.sl0 h=>.sl0 h
 |_,_,_,_,_,.sl h1 hz h2 h3 h4 h5 h6=>.sl (hF _ _ h1) hz h2 h3 h4 (fun k hk=>RVL.mono hF (Om.le_refl _) (h5 k hk)) h6
 |_,_,_,_,_,.rf h1 h2 h3 h4 h5=>.rf (hF _ _ h1) h2 h3 (RVL.mono hF (Om.le_refl _) h4) h5
 |_,_,ho,_,_,.ag h=>.ag (RVL.mono hF ho h)
 |_,_,ho,_,_,.tp h=>.tp (RVL.mono hF ho h)
 |_,_,ho,_,_,.fn h1 h2=>.fn (RVL.mono hF ho h1) (RVL.mono hF ho h2)
 |_,_,ho,_,_,.pt h=>.pt (ho _ _ h)
 |_,_,ho,_,_,.os h hb=>.os (ho _ _ h) hb
 |_,_,ho,_,_,.os0 h=>.os0 (ho _ _ h)
 |_,_,_,_,_,.ex h1 h2 h3=>.ex (h2 _ _ _ hF h1) h2 (RV.mono hF (Om.le_refl _) h3)
theorem RVL.mono(hF:Le F G):∀{ω ψ:Om},ω.le ψ->∀{v:List SV}{u:List Value},RVL F ω v u->RVL G ψ v u
 |_,_,_,_,_,.nil=>.nil
 |_,_,ho,_,_,.cons h hl=>.cons (RV.mono hF ho h) (RVL.mono hF ho hl)
end
theorem RVL.length:∀{l:List SV}{L:List Value},RVL F ω l L->l.length=L.length
 |_,_,.nil=>rfl
 |_,_,.cons _ h=>by simp[RVL.length h]
theorem RVL.get:∀{l:List SV}{L:List Value},RVL F ω l L->∀{i:Nat}{v:SV},l[i]?=some v->∃u,L[i]?=some u/\RV F ω v u
 |_,_,.nil,i,v,h=>by simp at h
 |_,_,.cons a _,0,v,h=>by simp at h;subst h;exact⟨_,rfl,a⟩
 | _,_,.cons _ b,i+1,v,h=>by
   obtain⟨u,h1,h2⟩:=RVL.get b (i:=i) (by simpa using h)
   exact⟨u,by simpa using h1,h2⟩
theorem RVL.append:∀{l k:List SV}{L K:List Value},RVL F ω l L->RVL F ω k K->RVL F ω (l++k) (L++K)
 |_,_,_,_,.nil,h=>h
 |_,_,_,_,.cons a b,h=>.cons a (b.append h)
theorem RVL.drop:∀{l:List SV}{L:List Value},RVL F ω l L->∀(n:Nat),RVL F ω (l.drop n) (L.drop n)
 |_,_,h,0=>by simpa using h
 |_,_,.nil,n+1=>by simpa using RVL.nil
 |_,_,.cons _ b,n+1=>by simpa using b.drop n
theorem RVL.take:∀{l:List SV}{L:List Value},RVL F ω l L->∀(n:Nat),RVL F ω (l.take n) (L.take n)
 |_,_,_,0=>by simpa using RVL.nil
 |_,_,.nil,n+1=>by simpa using RVL.nil
 |_,_,.cons a b,n+1=>by simpa using RVL.cons a (b.take n)
theorem ydlo{v:Value}(h:simple v=true):RV F ω (ofV v) v:=by
 unfold ofV;split
 .exact .i
 .exact .b
 .exact .a h
theorem yqb:∀{l:List Value},l.all simple=true->RVL F ω (l.map ofV) l
 |[],_=>.nil
 | v::l,h=>by
   simp only[List.all_cons,zA]at h;exact .cons (ydlo h.1) (yqb h.2)
theorem ybbm{v:Value}{x:SV}(h:ybka v=some x):constA v=some v/\RV F ω x v:=by
 unfold ybka at h;split at h
 .cases h;exact⟨rfl,.i⟩
 .cases h;exact⟨rfl,.b⟩
 .rename_i cs
  split at h
  .rename_i hs
   cases h
   refine⟨?_,?_⟩
   .unfold constA;rw[ybh,if_pos (show atomA (.agg cs)=true from hs)]
   .have:=RV.ag (F:=F) (ω:=ω) (yqb hs)
    simpa using this
  .cases h
 .split at h
  .rename_i hs
   cases h
   refine⟨?_,.a hs⟩;unfold constA;rw[ybh,if_pos];cases v<;>first|exact hs|rfl|cases hs
  .cases h
end
end Sh
end
section
namespace Sh
noncomputable section
open Go Ev
def SRec.pure(r:SRec):Bool:=r.rd.isEmpty&&r.wr.isEmpty&&r.nw.isEmpty && !r.fz && !r.cl && !r.gr && !r.mu
def nmem(l:List Nm)(x:Nm):Bool:=l.any fun y=>decide (y.1=x.1)&&decide (y.2=x.2)
def ynt(a b:SRec):Bool :=
 (a.mu && !b.pure)||(b.mu && !a.pure) ||
 ((a.wr.any fun x=>nmem b.rd x||nmem b.wr x||nmem b.nw x)||(b.wr.any fun x=>nmem a.rd x||nmem a.wr x||nmem a.nw x) ||
 (a.rd.any fun x=>nmem b.nw x)||(b.rd.any fun x=>nmem a.nw x) ||
 (a.cl&&(!b.wr.isEmpty || !b.nw.isEmpty||b.gr))||(b.cl&&(!a.wr.isEmpty || !a.nw.isEmpty||a.gr)))
def clash(a b:SRec):Bool :=
 (a.mu && !b.pure)||(b.mu && !a.pure) ||
 ((a.wr.any fun x=>nmem b.rd x||nmem b.wr x||nmem b.nw x)||(b.wr.any fun x=>nmem a.rd x||nmem a.wr x||nmem a.nw x) ||
 (a.rd.any fun x=>nmem b.nw x)||(b.rd.any fun x=>nmem a.nw x) ||
 (a.cl&&(!b.wr.isEmpty || !b.nw.isEmpty||b.gr))||(b.cl&&(!a.wr.isEmpty || !a.nw.isEmpty||a.gr))||(b.gr&&a.fz))
theorem ybac{a b:SRec}(h:clash a b=false):ynt a b=false/\(b.gr=false\/a.fz=false):=by
 unfold clash at h;unfold ynt;simp only[zAL,zT]at h ⊢;exact⟨⟨h.1,h.2.1⟩,h.2.2⟩
def fits(d:Bool)(an:Nat)(r:SRec)(rs:List (Nat×SRec)):Bool:=!d||rs.all fun q=>zK an q.1 || !(clash r q.2)
def ybkk(r:SRec):Bool:=!r.mu&&r.wr.isEmpty&&r.nw.isEmpty && !r.cl
def ychz(d:Bool)(an:Nat)(old:Bool)(r:SRec)(rs:List (Nat×SRec)):Bool:=match old with
 |false=>fits d an r rs
 |true=>!d||rs.all fun q=>zK an q.1 || !(ynt r q.2)
def yjv(rs:List (Nat×SRec))(t:Nat):Bool:=rs.any fun q=>decide (q.1=1000+t)
def yjw(d:Bool)(dst:Option Nat)(old:Bool)(rs:List (Nat×SRec)):List (Nat×SRec):=match d,dst,old with
 |true,some t,false=>(1000+t,SRec.no)::rs
 |_,_,_=>rs
def oldV:Option SV->Bool
 |some v=>!(owned 5 v)
 |none=>false
def oldX(s:SS)(rs:List (Nat×SRec)):Operand->Bool
 |.tmp t=>!(yjv rs t)&&oldV (look s.f t)
 |_=>false
def ybqb(s:SS)(rs:List (Nat×SRec)):SOp->Bool
 |.mv x=>oldX s rs x
 |.load _ _ x=>oldX s rs x
 |.faddr _ _ x=>oldX s rs x
 |.idx _ x _=>oldX s rs x
 |.pick .. | .alloc .. | .box .. | .build .. | .bslice .. | .store .. | .nilck .. | .field .. | .idxA .. | .extract .. | .mkfn .. | .mk .. | .cut .. | .cutA .. | .len .. | .app .. | .mm .. | .bin .. | .wsub .. | .wadd .. | .beq .. | .seq .. | .stri .. | .un .. | .conv .. | .call .. | .no=>false
def dim(q:Nat×SRec):Nat×SRec:=(q.1,if q.2.pure=true then q.2 else SRec.top)
def Sim(v w:SV):Prop:=∀F ω u,RV F ω v u->RV F ω w u
def ren(h:Nm->Nm):Nat->SV->SV
 |0,v=>v
 | n+1,v=>match v with
   |.pt β i j=>.pt (h β) i j
   |.os β o k c=>.os (h β) o k c
   |.ag c=>.ag (c.map (ren h n))
   |.tp c=>.tp (c.map (ren h n))
   |.fn g a b=>.fn g (a.map (ren h n)) (b.map (ren h n))
   |v=>v
def cln(L:Nm->Bool):Nat->SV->Bool
 |0,_=>false
 | n+1,v=>match v with
   |.pt β _ _=>L β
   |.os β _ _ _=>L β
   |.ag c=>c.all (cln L n)
   |.tp c=>c.all (cln L n)
   |.fn _ a b=>a.all (cln L n)&&b.all (cln L n)
   |_=>true
def ydk(fr:List Nm)(o:Own):Nat->SV->SV
 |0,v=>v
 | n + 1,v=>match v with
   | .pt β i j=>if nmem fr β=true then(match lookO o β with
     |some b=>.rf ((b.g i).drop j)
     |none=>.bad)else .pt β i j
   | .os β p m c=>if nmem fr β=true then(match lookO o β with
     |some b=>.sl b.z m (fun k=>b.g (p+k))
     |none=>.bad)else .os β p m c
   |.ag c=>.ag (c.map (ydk fr o n))
   |.tp c=>.tp (c.map (ydk fr o n))
   |.fn g a b=>.fn g (a.map (ydk fr o n)) (b.map (ydk fr o n))
   |v=>v
def pok(fr:List Nm)(o:Own):Nat->SV->Prop
 |0,_=>True
 | n + 1,v=>match v with
   | .pt β i j=>nmem fr β=true->(match lookO o β with
     |some b=>i<b.n/\j<=b.z
     |none=>False)
   | .os β p m _=>nmem fr β=true->(match lookO o β with
     |some b=>p+m<=b.n
     |none=>False)
   |.ag c=>allP (pok fr o n) c
   |.tp c=>allP (pok fr o n) c
   |.fn _ a b=>allP (pok fr o n) a/\allP (pok fr o n) b
   |_=>True
def live(o:Own)(β:Nm):Bool:=(lookO o β).isSome
def lv(vir:List Nat)(o:Own)(β:Nm):Bool:=live o β && !(vir.elem β.1)
def Tel(h:Nm->Nm)(vir:List Nat)(fr:List Nm)(o t:Own)(v w:SV):Prop :=
 (pok fr o 5 v/\Sim (ydk fr o 5 v) (ren h 5 w)/\cln (lv vir t) 5 w=true)\/(v = .a (.slice none 0 0)/\∃β,w = .os β 0 0 true/\vir.elem β.1=true/\live t β=true)
def telL(h:Nm->Nm)(vir:List Nat)(fr:List Nm)(o t:Own):List SV->List SV->Prop
 |[],[]=>True
 |v::l,w::k=>Tel h vir fr o t v w/\one1 w=true/\telL h vir fr o t l k
 |_,_=>False
def yuc(h:Nm->Nm)(vir:List Nat)(fr:List Nm)(t:Own)(s:SS)(p:Nat×SV):Prop:=∃v,look s.f p.1=some v/\Tel h vir fr s.o t v p.2
def ybmj(h:Nm->Nm)(vir:List Nat)(fr:List Nm)(t:Own)(s:SS)(β:Nm)(b:OB):Prop :=
 ∃c,lookO s.o (h β)=some c/\(c.e=b.e/\c.bx=b.bx/\c.z=b.z/\c.n=b.n/\nmem fr (h β)=false)/\∀i,i<b.n->telL h vir fr s.o t (c.g i) (b.g i)
def own1(h:Nm->Nm)(vir:List Nat)(fr:List Nm)(t:Own)(s:SS)(β:Nm)(b:OB):Prop :=
 if vir.elem β.1=true then b.n=0/\b.bx=false else ybmj h vir fr t s β b
def yma(h:Nm->Nm)(vir:List Nat)(fr:List Nm)(t:Own)(s:SS):Nat×Fam->Prop
 |(_,.one none)=>True
 |(β,.one (some b))=>own1 h vir fr t s (β,0) b
 |(β,.many g)=>∀i b,g i=some b->own1 h vir fr t s (β,i) b
def allQ{α:Type}(p:α->Prop):List α->Prop
 |[]=>True
 |x::l=>p x/\allQ p l
def idxF(F:Fam)(p:Nat->Prop):Prop:=match F with
 |.one none=>True
 |.one (some _)=>p 0
 |.many g=>∀i,(g i).isSome=true->p i
def ydln(h:Nm->Nm)(p q:Nat×Fam):Prop:=idxF p.2 fun i=>idxF q.2 fun j=>h (p.1,i)=h (q.1,j)->p.1=q.1/\i=j
def ybfr(h:Nm->Nm)(vir:List Nat)(o:Own):Prop:=allQ (fun p=>vir.elem p.1=true\/allQ (fun q=>vir.elem q.1=true\/ydln h p q) o) o
def yze(o:Own)(fr:List Nm):Prop:=allQ (fun β=>∃b,lookO o β=some b/\∀k,k<b.n->(b.g k).any (owned 5)=false) fr
structure WeakBy(h:Nm->Nm)(vir:List Nat)(fr:List Nm)(s t:SS):Prop where
 frz:yze s.o fr
 inj:ybfr h vir t.o
 slot:allQ (yuc h vir fr t.o s) t.f
 own:allQ (yma h vir fr t.o s) t.o
def rid(ρ:List (Nat×(Nat->Nm)))(β:Nm):Nm:=match look ρ β.1 with
 |some h=>h β.2
 |none=>β
def nuF(ρ:List (Nat×Nat))(base b:Nat):Nat:=match look ρ b with
 |some c=>c
 |none=>base+b
def nu(ρ:List (Nat×Nat))(base:Nat)(β:Nm):Nm:=(nuF ρ base β.1,β.2)
def to1(ρ:List (Nat×Nat))(β:Nm):Nm:=match look ρ β.1 with
 |some c=>(c,β.2)
 |none=>β
def OB.ren(h:Nm->Nm)(b:OB):OB:=⟨b.e,b.bx,b.z,b.n,fun k=>(b.g k).map (Sh.ren h 5)⟩
def Fam.ren(h:Nm->Nm):Fam->Fam
 |.one none=>.one none
 |.one (some b)=>.one (some (b.ren h))
 | .many g=>.many fun i=>match g i with
   |some b=>some (b.ren h)
   |none=>none
def yfj(l:List (Nat×SV)):List Nat->List (Nat×SV)
 |[]=>[]
 | t::ts=>match look l t with
   |some v=>(t,v)::yfj l ts
   |none=>yfj l ts
def yeh(l:Own):List Nat->Own
 |[]=>[]
 | t::ts=>match look l t with
   |some v=>(t,v)::yeh l ts
   |none=>yeh l ts
def okN(ρ:List (Nat×Nat))(pr:List Nm)(kb:List Nat)(β:Nm):Bool:=kb.elem β.1||pr.any fun q=>(match look ρ q.1 with
 |some c=>decide (c=β.1)
 |none=>false)&&decide (q.2=β.2)
def yge(L:Nm->Bool)(b:OB):Prop:=∀k,k<b.n->(b.g k).all (cln L 5)=true
def ycz(L:Nm->Bool)(F:Fam):Prop:=match F with
 |.one none=>True
 |.one (some b)=>yge L b
 |.many g=>∀i b,g i=some b->yge L b
def yms(s:SS)(ρ:List (Nat×Nat))(base:Nat)(keep kb:List Nat)(o:Own):SS:=⟨yfj s.f keep,o.map (fun p=>(nuF ρ base p.1,p.2.ren (nu ρ base)))++yeh s.o kb⟩
def difN:List Nat->Bool
 |[]=>true
 |x::l=>!(l.elem x)&&difN l
structure ItS where
 n:Nat
 el:Nat->List SV
 pr:List Nm
 own:Nat->Own->Prop
 adv:Nat->Own->Own
structure CC where
 ct:FuncId->List SV->(SV->Prop)->Prop
 cm:FuncId->List Nm->Own->List SV->(SV->Own->Prop)->Prop
 it:FuncId->List SV->ItS->Prop
 pr:List Nm
 mu:List FuncId
variable (C:CC)
def ybg(d:Bool)(rs:List (Nat×SRec))(s:SS)(i an:Nat)(dst:Option Nat)(nx:List (Nat×SRec)->SS->Prop)(sc:Bool)(r:SV):Prop :=
 fits d an ⟨[],[],[],true,true,!sc,false⟩ rs=true/\nx (yjw d dst false ((i,⟨[],[],[],true,true,!sc,false⟩)::rs)) (s.put dst r)
def yrx(d:Bool)(rs:List (Nat×SRec))(s:SS)(i:Nat)(dst:Option Nat)(nx:List (Nat×SRec)->SS->Prop)(ρ:List (Nat×Nat))(base:Nat)(keep kb:List Nat)(r:SV)(o:Own):Prop :=
 (difN (o.map fun p=>nuF ρ base p.1)=true/\(o.all fun p=>!(kb.elem (nuF ρ base p.1)))=true)/\nx (yjw d dst false ((i,SRec.top)::rs.map dim)) ((yms s ρ base keep kb o).put dst (ren (nu ρ base) 5 r))
structure Kept(pc:List Nm)(s:SS)(ρ:List (Nat×Nat))(pr:List Nm)(o:Own)(keep kb:List Nat):Prop where
 prl:allQ (fun β=>live o β=true) pr
 apart:∀p∈ρ,kb.elem p.2=false
 slot:allQ (fun p=>cln (okN ρ pr kb) 5 p.2=true) (yfj s.f keep)
 own:allQ (fun p=>ycz (okN ρ pr kb) p.2) (yeh s.o kb)
 pin:allQ (fun β=>okN ρ pr kb β=true) pc
def ydfd(d:Bool)(an:Nat)(o:Own)(rs:List (Nat×SRec)):Bool:=fits d an SRec.top rs||(o.isEmpty&&rs.all fun p=>zK an p.1||(p.2.pure||ybkk p.2))
def ycdu(d:Bool)(rs:List (Nat×SRec))(s:SS)(i an:Nat)(dst:Option Nat)(nx:List (Nat×SRec)->SS->Prop)(g:FuncId)(xs:List SV):Prop :=
 ∃ (ρ:List (Nat×Nat)) (base:Nat) (keep kb:List Nat) (pr:List Nm) (o:Own) (as:List SV),
   xs.length=as.length/\WeakBy (to1 ρ) [] [] ⟨slots xs 0,s.o⟩ ⟨slots as 0,o⟩/\(∀p∈o,(look ρ p.1).isSome=true)/\ydfd d an o rs=true/\Kept C.pr s ρ pr o keep kb /\
    C.cm g pr o as (yrx d rs s i dst nx ρ base keep kb)
def ybwa(d:Bool)(rs:List (Nat×SRec))(s:SS)(i an:Nat)(dst:Option Nat)(nx:List (Nat×SRec)->SS->Prop):Option SV->Option (List SV)->Prop
 | some (.fn g a b),some xs=>if C.mu.elem g=true then ycdu C d rs s i an dst nx g (a++xs++b)else if (a++xs++b).any (owned 5)then
    (allP (vok s.o 5) (a++xs++b)/\C.ct g ((a++xs++b).map (view s.o 5)) fun r=>scalar 5 r=true/\ybg d rs s i an dst nx true r)\/ycdu C d rs s i an dst nx g (a++xs++b)
   else C.ct g (a++xs++b) fun r=>ybg d rs s i an dst nx (scalar 5 r) r
 |_,_=>False
def opO(d:Bool)(rs:List (Nat×SRec))(i an:Nat)(dst:Option Nat)(nx:List (Nat×SRec)->SS->Prop)(old:Bool):Option XR->Prop
 |some r=>r.c/\ychz d an old r.r rs=true/\nx (yjw d dst old ((i,r.r)::rs)) (r.s.put dst r.v)
 |none=>False
def runO(d:Bool)(rs:List (Nat×SRec))(s:SS)(i an:Nat)(dst:Option Nat)(nx:List (Nat×SRec)->SS->Prop)(op:SOp):Prop:=match op with
 |.call f xs=>ybwa C d rs s i an dst nx (s.get f) (s.gets xs)
 |op=>opO d rs i an dst nx (d&&ybqb s rs op) (xOp s dst op)
def yti(d:Bool)(rs:List (Nat×SRec))(s:SS)(i an:Nat)(dst:Option Nat)(nx:List (Nat×SRec)->SS->Prop)(op:SOp)(t:Nat)(w:Bool):Option SV->Prop
 |some (.b c)=>(c=w->runO C d rs (s.put (some t) (.b w)) i an dst nx op)/\(c = !w->nx rs ((s.put (some t) (.b !w)).put dst (.tp [])))
 |some (.tp [])=>nx rs (s.put dst (.tp []))
 |_=>False
def ymz(d:Bool)(K:SS->Prop):List SOper->Nat->List (Nat×SRec)->SS->Prop
 |[],_,_,s=>K s
 | o::l,i,rs,s=>match o.g with
   |none=>runO C d rs s i o.an o.dst (ymz d K l (i+1)) o.op
   |some (t,w)=>yti C d rs s i o.an o.dst (ymz d K l (i+1)) o.op t w (look s.f t)
end
end Sh
end
section
namespace Sh
open Go Ev
def ycia(F:AM)(ω:Om)(m:Mem)(β:Nm)(ob:OB):Prop :=
 (∃k T,∃L:Nat->List Value,ω β=some (some (k,ob.z))/\ob.e≠CU/\m.b.get k=some (.cells T (ob.n*ob.z) ob.e (if ob.bx then 0 else ob.z)) /\
   ∀i,i<ob.n->(L i).length=ob.z/\RVL F ω (ob.g i) (L i)/\(ob.g i).all one1=true/\∀j,j<ob.z->T.get (i*ob.z+j)=(L i)[j]?)\/(ω β=some none/\ob.n=0/\ob.bx=false)
structure Conc(lo:Nat)(F:AM)(ω:Om)(s:SS)(f:Fr)(m:Mem):Prop where
 wf:Wf m
 low:lo<=m.low
 nxt:lo<=m.next
 sub:∀i b,F i=some b->m.b.get i=some b
 own:∀β ob,lookO s.o β=some ob->ycia F ω m β ob
 dom:∀β:Nm,look s.o β.1=none->ω β=none
 inj:∀β γ k z k' z',ω β=some (some (k,z))->ω γ=some (some (k',z'))->β≠γ->k≠k'
 apart:∀β k z,ω β=some (some (k,z))->F k=none/\lo<=k/\k<m.next
 fr:∀t v,look s.f t=some v->∃u,f.t.get t=some u/\RV F ω v u
section
variable {P:Program}{lo:Nat}{F:AM}{ω:Om}{s:SS}{f:Fr}{m:Mem}{o:Oper}
theorem Conc.get(h:Conc lo F ω s f m){x:Operand}{v:SV}(hx:s.get x=some v):∃u,f.get x=some u/\RV F ω v u:=by
 cases x with
 |tmp t=>exact h.fr t v hx
 |const c=>exact⟨c,(ybbm (F:=F) (ω:=ω) hx).1,(ybbm hx).2⟩
 |global g=>cases hx
 |func g=>cases hx;exact⟨_,rfl,by simpa using RV.fn (F:=F) (ω:=ω) (g:=g) .nil .nil⟩
theorem Conc.pget(h:Conc lo F ω s f m){x:Operand}{v:SV}(hx:s.pget x=some v):∃u,f.get x=some u/\RV F ω v u:=by
 unfold SS.pget at hx;split at hx
 .rename_i Q w hw
  cases hx
  obtain⟨u,h1,h2⟩:=h.get hw;cases h2 with
  |ex _ _ h3=>exact⟨u,h1,h3.mono (Le.refl _) (yxo _)⟩
 .exact h.get hx
theorem Conc.gets(h:Conc lo F ω s f m):∀{xs:List Operand}{vs:List SV},s.gets xs=some vs->∃us,valsA f xs=some us/\RVL F ω vs us
 |[],vs,hx=>by cases hx;exact⟨[],rfl,.nil⟩
 | x :: xs,vs,hx=>by
   unfold SS.gets at hx;split at hx
   .rename_i v ws h1 h2
    cases hx
    obtain⟨u,e1,r1⟩:=h.get h1;obtain⟨us,e2,r2⟩:=h.gets h2;refine⟨u::us,?_,.cons r1 r2⟩;unfold valsA;rw[e1];simp only[e2]
   .cases hx
def OpS(P:Program)(lo:Nat)(F:AM)(ω:Om)(f:Fr)(m:Mem)(o:Oper)(r:XR):Prop :=
 ∃ r0 ω',evOp P f o m=some r0/\ω.le ω'/\Conc lo F ω' r.s f (m.app r0.e)/\RV F ω' r.v r0.v /\
   (∀β k z,ω' β=some (some (k,z))->ω β=some (some (k,z))\/m.next<=k) /\
   (∀x∈r0.foot,(∃β z,β∈r.r.rd/\ω β=some (some (x,z)))\/(r.r.fz=true/\∃b,F x=some b)) /\
   (∀x∈r0.e.mods,∃β z,β∈r.r.wr/\ω β=some (some (x,z)))/\(r.r.nw=[]->r0.e.adds=false)/\(r0.e.adds=true->∃β z,β∈r.r.nw/\ω' β=some (some (m.next,z)))
theorem OpS.pure (hc:Conc lo F ω s f m) {u:Value}{ft:List Nat}(h:evOp P f o m=some ⟨u,.none,ft⟩) {c:Prop}{r:SRec}{v:SV}(hv:RV F ω v u)
 (hft:∀x∈ft,(∃β z,β∈r.rd/\ω β=some (some (x,z)))\/(r.fz=true/\∃b,F x=some b)):OpS P lo F ω f m o ⟨c,r,v,s⟩ :=
 ⟨_,ω,h,Om.le_refl _,hc,hv,fun _ _ _ h=>.inl h,hft,fun x hx=>(by cases hx),fun _=>rfl,fun q=>(by cases q)⟩
theorem OpS.idle(hc:Conc lo F ω s f m){u:Value}(h:evOp P f o m=some ⟨u,.none,[]⟩){c:Prop}{r:SRec}{v:SV}(hv:RV F ω v u):OpS P lo F ω f m o ⟨c,r,v,s⟩ :=
 OpS.pure hc h hv (fun x hx=>by cases hx)
theorem s_mv(hc:Conc lo F ω s f m){x:Operand}{v:SV}(hop:o.op = .move x\/o.op = .assign x)(hx:s.get x=some v){c:Prop}{r:SRec}:OpS P lo F ω f m o ⟨c,r,v,s⟩:=by
 obtain⟨u,e,hr⟩:=hc.get hx;refine OpS.idle hc (u:=u) ?_ hr;unfold evOp;rcases hop with h|h<;>rw[h]<;>show ob (f.get x) val=_<;>rw[e]<;>rfl
theorem RV.bool_inv{t:Bool}{u:Value}(h:RV F ω (.b t) u):u = .bool t:=by cases h;rfl
theorem RV.int_inv{k:IntKind}{n:Int}{u:Value}(h:RV F ω (.i k n) u):u = .int k n:=by cases h;rfl
theorem ydkm(hc:Conc lo F ω s f m){x y w:Operand}{t:Bool}{v:SV}(hop:o.op = .pick x y w)(hx:s.get x=some (.b t))(hy:s.get (if t then y else w)=some v){c:Prop}{r:SRec}:OpS P lo F ω f m o ⟨c,r,v,s⟩:=by
 obtain⟨u,e,hr⟩:=hc.get hx;obtain⟨u',e',hr'⟩:=hc.get hy;cases hr.bool_inv
 refine OpS.idle hc (u:=u') ?_ hr';unfold evOp;rw[hop];show ob (f.get x) (evPick f y w)=_;rw[e];show ob (f.get (iteB t y w)) val=_;rw[ybh,e'];rfl
theorem ygz{T:T Value}:∀{L:List Value}{o:Nat},(∀j,j<L.length->T.get (o+j)=L[j]?)->getCells T o L.length=some L
 |[],_,_=>rfl
 | v::L,o,h=>by
   show(match T.get o with|none=>none|some v=>match getCells T (o+1) L.length with|none=>none|some l=>some (v::l))=_
   have h0:=h 0 (by simp)
   rw[zBB]at h0;rw[h0];simp only[List.getElem?_cons_zero];rw[ygz (L:=L) (o:=o+1) (fun j hj=>by have:=h (j+1) (by simp;omega);rw[show o+1+j=o+(j+1)by omega,this];simp)]
theorem yul{ag:Bool}{p n:Nat}{l:List SV}{L:List Value}{v:SV}(h:part ag p n l=some v)(hl:RVL F ω l L) :
 p+n<=L.length/\((ag=true/\RV F ω v (.agg ((L.drop p).take n).toArray))\/(ag=false/\n=1/\∃u,L[p]?=some u/\RV F ω v u)):=by
 unfold part at h;split at h
 .rename_i hle
  rw[hl.length]at hle;refine⟨hle,?_⟩;split at h
  .rename_i ha
   cases h
   exact .inl ⟨ha,.ag ((hl.drop p).take n)⟩
  .rename_i ha
   split at h
   .rename_i hn
    have hg:l[p]?=some v:=by rw[List.head?_drop]at h;exact h
    obtain⟨u,h1,h2⟩:=hl.get hg;exact .inr ⟨by simpa using ha,hn,u,h1,h2⟩
   .cases h
 .cases h
theorem yso {t:TypeId}{d:TypeDesc}{i:TypeInfo}(hd:P.underlying t=some d) (hi:P.info? t=some i) {bk p:Nat}{T:T Value}{N e zz:Nat}(hb:m.b.get bk=some (.cells T N e zz))
 {L:List Value}{q:Nat}(hN:q+L.length<=N) (hT:∀j,j<L.length->T.get (q+j)=L[j]?) (hp:p+i.size<=L.length) {v:SV}
 (hv:(isAggD d=true/\RV F ω v (.agg ((L.drop p).take i.size).toArray))\/(isAggD d=false/\i.size=1/\∃u,L[p]?=some u/\RV F ω v u)) :
 ∃u,loadA P m t ⟨bk,q+p,none⟩=some u/\RV F ω v u:=by
 unfold loadA;rw[hb,hd,hi];simp only;rcases hv with⟨ha,hr⟩|⟨ha,hn,u,hu,hr⟩
 .rw[ha];simp only[cond_true];rw[zL (show q+p+i.size<=N by omega)]
  simp only[cond_true];have hlen:((L.drop p).take i.size).length=i.size:=by simp;omega
  have:=ygz (T:=T) (L:=(L.drop p).take i.size) (o:=q+p) (fun j hj=>by
   rw[hlen]at hj;rw[show q+p+j=q+(p+j)by omega,hT _ (by omega)]
   simp[List.getElem?_drop,hj])
  rw[hlen]at this;rw[this];exact⟨_,rfl,hr⟩
 .rw[ha];simp only[cond_false];rw[show zAO (q+p) N=true from zL (show q+p+1<=N by omega)]
  simp only[cond_true];exact⟨u,by rw[hT p (by omega)];exact hu,hr⟩
theorem RV.rf_inv{c:List SV}{u:Value}(h:RV F ω (.rf c) u):∃bk p T N e zz L,u = .pointer (some ⟨bk,p,none⟩)/\F bk=some (.cells T N e zz)/\p+L.length<=N/\(∀j,j<L.length->T.get (p+j)=L[j]?)/\RVL F om0 c L/\c.all one1=true:=by
 cases h with
 |rf h1 h2 h3 h4 h5=>exact⟨_,_,_,_,_,_,_,rfl,h1,h2,h3,h4,h5⟩
theorem RV.pt_inv{β:Nm}{i j:Nat}{u:Value}(h:RV F ω (.pt β i j) u):∃k z,ω β=some (some (k,z))/\u = .pointer (some ⟨k,i*z+j,none⟩):=by
 cases h with
 |pt h=>exact⟨_,_,h,rfl⟩
theorem Conc.ownAt(hc:Conc lo F ω s f m){β:Nm}{k z:Nat}{b:OB}(hb:lookO s.o β=some b)(hk:ω β=some (some (k,z))):z=b.z/\∃T,∃L:Nat->List Value,m.b.get k=some (.cells T (b.n*b.z) b.e (if b.bx then 0 else b.z)) /\
 ∀i,i<b.n->(L i).length=b.z/\RVL F ω (b.g i) (L i)/\(b.g i).all one1=true/\∀j,j<b.z->T.get (i*b.z+j)=(L i)[j]?:=by
 rcases hc.own β b hb with⟨k',T,L,h1,_,h2,h3⟩|⟨h1,_⟩
 .rw[hk]at h1;cases h1;exact⟨rfl,T,L,h2,h3⟩
 .rw[hk]at h1;cases h1
theorem Conc.ownE(hc:Conc lo F ω s f m){β:Nm}{k z:Nat}{b:OB}(hb:lookO s.o β=some b)(hk:ω β=some (some (k,z))):b.e≠CU:=by
 rcases hc.own β b hb with⟨k',T,L,h1,h0,h2,h3⟩|⟨h1,_⟩
 .exact h0
 .rw[hk]at h1;cases h1
theorem ycxu (hc:Conc lo F ω s f m) {t:TypeId}{x:Operand}{d:TypeDesc}{i:TypeInfo}(hop:o.op = .load t x) (hd:P.underlying t=some d) (hi:P.info? t=some i) {p:SV}(hx:s.get x=some p)
 {r:XR}(h:ywf s (isAggD d) i.size p=some r) (hr:r.c):OpS P lo F ω f m o r:=by
 obtain⟨u,e,hu⟩:=hc.get hx
 have hev:∀{a:Addr}{v:Value},u = .pointer (some a)->loadA P m t a=some v->evOp P f o m=some ⟨v,.none,[a.block]⟩:=by
  intro a v h1 h2;unfold evOp;rw[hop];show ob (f.get x) (evLoad P t m)=_;rw[e,h1];show ob (loadA P m t a) _=_;rw[h2];rfl
 unfold ywf at h;split at h
 .rename_i c
  split at h
  .rename_i v hv
   cases h
   obtain⟨bk,q,T,N,e',zz,L,rfl,h1,h2,h3,h4,_⟩:=hu.rf_inv;obtain⟨hp,hpv⟩:=yul hv h4;obtain⟨w,w1,w2⟩:=yso (F:=F) hd hi (hc.sub _ _ h1) (q:=q) h2 h3 hp hpv;exact OpS.pure hc (hev rfl w1) (w2.mono (Le.refl _) (yxo _)) (fun y hy=>by simp at hy;subst hy;exact .inr ⟨rfl,_,h1⟩)
  .cases h
 .rename_i β a j
  split at h
  .rename_i b hb
   split at h
   .rename_i hz
    split at h
    .rename_i v hv
     cases h
     obtain⟨k,z,hk,rfl⟩:=hu.pt_inv;obtain⟨rfl,T,L,g1,g2⟩:=hc.ownAt hb hk;obtain⟨l1,l2,_,l3⟩:=g2 a hr;obtain⟨hp,hpv⟩:=yul hv l2;have hr:a<b.n:=hr;obtain⟨w,w1,w2⟩:=yso (F:=F) hd hi g1 (q:=a*b.z) (L:=L a) (by rw[l1];have:=Nat.mul_le_mul_right b.z (Nat.succ_le_of_lt hr);rw[Nat.succ_mul]at this;omega) (fun y hy=>l3 y (by omega)) hp hpv
     exact OpS.pure hc (hev rfl w1) w2 (fun y hy=>by simp at hy;subst hy;exact .inl ⟨β,b.z,by simp,hk⟩)
    .cases h
   .cases h
  .cases h
 .cases h
end
end Sh
end
end Go.Proofs.YtiejahgklcjhkaaGreatDoor
