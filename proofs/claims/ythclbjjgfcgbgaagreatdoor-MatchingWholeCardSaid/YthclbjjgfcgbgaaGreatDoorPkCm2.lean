/- Joined. -/
import Derived.Test.YthclbjjgfcgbgaaGreatDoorPkCm1
import Derived.OrdersIn
import Derived.LoopNIn
import Derived.RangeFuncNested
import Derived.TacticsIn
set_option linter.unusedSimpArgs false
set_option linter.unusedVariables false
open Nat renaming lt_of_lt_of_le->zA,eq_of_beq_eq_true->zB,le_of_ble_eq_true->zD,le_refl->zI,ble_eq_true_of_le->zK,testBit->zL,le_trans->zM,succ->zN,min_le_right->zO,lt_or_ge->zS,lt_trichotomy->zZ,ble->zAC,beq->zAD,pow_succ->zAF,min_le_left->zAG,lt_succ_self->zAM,strongRecOn->zAP,min->zAR,blt->zAS,lt_irrefl->zAV,beq_refl->zAX,zero_add->zAY
open Bool renaming and_eq_true->zC,and_eq_false_iff->zU,or_eq_true->zW,not_eq_true'->zAA,cond_eq_ite->zAE
open Array renaming getD_eq_getD_getElem?->zF,getElem?_setIfInBounds->zQ,getElem?_toList->zT,getElem?_eq_getElem->zAB,replicate->zAO
open List renaming range->zG,mem_cons_self->zH,mem_cons_of_mem->zJ,getElem?_eq_none->zV,foldl_cons->zX,mem_append_left->zY,mem_filter->zAH,pairwise_append->zAI,append_assoc->zAK,range_succ->zAQ,mapM_cons->zAT,getD->zAU
open Go.Sem renaming run_bind->zAJ,run_pure->zAW
open Go.Result renaming andThen_ok->zAL
open Option renaming bind_some->zAN
open Go
namespace Go.Proofs.YthclbjjgfcgbgaaGreatDoor
section
namespace Ev
structure FrR(φ:Phi)(f:Fr)(a:Act):Prop where
 size:a.tmps.size=f.n
 get:∀t v,f.t.get t=some v->VR φ v (a.tmps.getD t undef)
def Sub(m:Mem)(M:AM):Prop:=∀i b,m.b.get i=some b->M i=some b
def ygv(φ:Phi)(lo hi:Nat):Prop:=∀i,lo<=i->i<hi->φ i=none
def Wf(m:Mem):Prop:=∀i b,m.b.get i=some b->i<m.next
structure Ext(m m':Mem):Prop where
 next:m.next<=m'.next
 dom:∀i b,m'.b.get i=some b->(∃b₀,m.b.get i=some b₀)\/(m.next<=i/\i<m'.next)
 old:∀i b,i<m'.low->¬(m.next<=i/\i<m'.next)->m'.b.get i=some b->m.b.get i=some b
 wf:Wf m'
structure Good(φ:Phi)(M:AM)(w:World)(m m':Mem)(φ':Phi)(M':AM)(w':World):Prop where
 le:φ.le φ'
 out:∀i,¬(m.next<=i/\i<m'.next)->φ' i=φ i
 rel:Rel φ' M' w'
 sub:Sub m' M'
 frame:∀i,¬(m.next<=i/\i<m'.next)->(m.b.get i=none\/i<m'.low)->M' i=M i
 wg:WG φ M w φ' M' w'
def wr(r:Option Nat):Fence:={ Fence.wide with round:=r }
def Marks(lo:Nat)(w:World)(ms:List Deferred):Prop:=ms.Pairwise (fun x y=>x.target≠y.target)/\∀d∈ms,∃D,lo<=D/\d.target = .collected D/\w.heap[D]?=some (.deferred (some []))
def InR(r:Option Nat)(w:World):Prop:=∀l,r=some l->∃x,w.heap[l]?=some (.loop x)
theorem InR.none(w:World):InR none w:=fun _ q=>by cases q
def Df(w w':World)(a a':Act):Prop:=∃ms,a'.defers=ms++a.defers/\Marks w.heap.size w' ms
theorem Marks.nil{lo:Nat}{w:World}:Marks lo w []:=⟨List.Pairwise.nil,fun _ h=>by cases h⟩
theorem Df.same{w w':World}{a a':Act}(h:a'.defers=a.defers):Df w w' a a':=⟨[],h,Marks.nil⟩
theorem Img.not_deferred{φ:Phi}{M:AM}{w:World}(hR:Rel φ M w){k:Nat}{x:Option (List Deferred)}(h:w.heap[k]?=some (.deferred x)):¬Img φ M k:=by
 rintro⟨i,b,l,h1,h2,rfl⟩;obtain⟨l',h3,h4⟩:=hR.blk i b h1;rw[h2]at h3;cases h3
 cases b with
 |cells c n e z=>obtain⟨_,_,cs,_,_,_,h5,_⟩:=h4;rw[h]at h5;cases h5
 |map es cl=>have h5:w.heap[l.blk]?=some (.map es cl):=h4;rw[h]at h5;cases h5
theorem Img.not_loop{φ:Phi}{M:AM}{w:World}(hR:Rel φ M w){k:Nat}{x:Loop}(h:w.heap[k]?=some (.loop x)):¬Img φ M k:=by
 rintro⟨i,b,l,h1,h2,rfl⟩;obtain⟨l',h3,h4⟩:=hR.blk i b h1;rw[h2]at h3;cases h3
 cases b with
 |cells c n e z=>obtain⟨_,_,cs,_,_,_,h5,_⟩:=h4;rw[h]at h5;cases h5
 |map es cl=>have h5:w.heap[l.blk]?=some (.map es cl):=h4;rw[h]at h5;cases h5
theorem InR.step{φ φ':Phi}{M M':AM}{w w':World}{r:Option Nat}(h:InR r w)(hR:Rel φ M w)(hg:WG φ M w φ' M' w'):InR r w':=fun l q=>by
 obtain⟨x,hx⟩:=h l q;exact⟨x,(hg.keep l (Array.getElem?_eq_some_iff.1 hx).1 (Img.not_loop hR hx)).trans hx⟩
theorem Marks.step{φ φ':Phi}{M M':AM}{w w':World}{lo:Nat}{ms:List Deferred}(h:Marks lo w ms)(hR:Rel φ M w)(hg:WG φ M w φ' M' w'):Marks lo w' ms:=by
 refine⟨h.1,fun d hd=>?_⟩;obtain⟨D,h1,h2,h3⟩:=h.2 d hd;exact⟨D,h1,h2,(hg.keep D (Array.getElem?_eq_some_iff.1 h3).1 (Img.not_deferred hR h3)).trans h3⟩
theorem Df.trans{φ φ':Phi}{M M':AM}{w w' w'':World}{a a' a'':Act}(h:Df w w' a a')(hsz:w.heap.size<=w'.heap.size)(hR:Rel φ M w')(hg:WG φ M w' φ' M' w'')(h':Df w' w'' a' a''):Df w w'' a a'':=by
 obtain⟨ms,e1,k1⟩:=h;obtain⟨ms',e2,k2⟩:=h';have k3:=k1.step hR hg;refine⟨ms'++ms,by rw[e2,e1,zAK],?_,fun d hd=>?_⟩
 .rw[zAI];refine⟨k2.1,k3.1,fun x hx y hy=>?_⟩;obtain⟨D,a1,a2,_⟩:=k2.2 x hx;obtain⟨D',b1,b2,b3⟩:=k1.2 y hy;have:=(Array.getElem?_eq_some_iff.1 b3).1;rw[a2,b2];intro q;cases q
  omega
 .rcases List.mem_append.1 hd with h|h
  .obtain⟨D,a1,a2,a3⟩:=k2.2 d h;exact⟨D,by omega,a2,a3⟩
  .exact k3.2 d h
def ycly(φ:Phi)(M:AM)(w:World)(m:Mem)(e:Exit)(f':Fr)(m':Mem)(a:Act):Exit->Act->World->Prop :=
 fun e' a' w'=>e'=e/\∃φ' M',Good φ M w m m' φ' M' w'/\FrR φ' f' a'/\Df w w' a a'
def ydvf(φ:Phi)(M:AM)(w:World)(m:Mem)(v:Value)(m':Mem):Ending->World->Prop :=
 fun e w'=>∃v',e = .returned v'/\∃φ' M',Good φ M w m m' φ' M' w'/\VR φ' v v'
def ybkg(P:Program)(g:FuncId)(args:Array Value)(w:World)(R:Ending->World->Prop):Prop :=
 ((callFunc g args).run P w = .ok (.enter g args) w/\Calls P g args w R)\/(∃v w',(callFunc g args).run P w = .ok (.value v) w'/\R (.returned v) w')
def ycb(P:Program):Task->Out->Prop
 |.code c f m,.code e f' m'=>Wf m->Ext m m'/\m'.low<=m.low/\∀φ M w a r,InR r w->Rel φ M w->Sub m M->FrR φ f a->ygv φ m.next m'.next->c.wpIn (wr r) 0 P (ycly φ M w m e f' m' a) a w
 |.call g args m,.call v m'=>Wf m->Ext m m'/\∀φ M w args',Rel φ M w->Sub m M->VRL φ args args'->ygv φ m.next m'.next->ybkg P g args'.toArray w (ydvf φ M w m v m')
 |_,_=>False
def yex(P:Program)(self:Task->Option Out):Prop:=∀t o,self t=some o->ycb P t o
section
variable {P:Program}{self:Task->Option Out}{φ φ':Phi}{M M':AM}{w w':World}{f f':Fr}{m m' m'':Mem}{a:Act}
theorem Ext.refl(h:Wf m):Ext m m:=⟨zI _,fun _ b h=>.inl ⟨b,h⟩,fun _ _ _ _ h=>h,h⟩
theorem Ext.trans(hl:m''.low<=m'.low)(a:Ext m m')(b:Ext m' m''):Ext m m'':=by
 refine⟨zM a.next b.next,fun i x hx=>?_,fun i x h1 h2 h3=>a.old i x (zA h1 hl) (fun q=>h2 ⟨q.1,zA q.2 b.next⟩) (b.old i x h1 (fun q=>h2 ⟨zM a.next q.1,q.2⟩) h3),b.wf⟩
 rcases b.dom i x hx with⟨y,hy⟩|⟨h1,h2⟩
 .rcases a.dom i y hy with h|⟨h1,h2⟩
  .exact .inl h
  .exact .inr ⟨h1,zA h2 b.next⟩
 .exact .inr ⟨zM a.next h1,h2⟩
theorem Good.refl(hR:Rel φ M w)(hs:Sub m M):Good φ M w m m φ M w:=⟨φ.le_refl,fun _ _=>rfl,hR,hs,fun _ _ _=>rfl,WG.refl _ _ _⟩
theorem Good.trans{φ'':Phi}{M'':AM}{w'':World}(e:Ext m m')(e':Ext m' m'')(hl:m''.low<=m'.low)(a:Good φ M w m m' φ' M' w')(b:Good φ' M' w' m' m'' φ'' M'' w''):Good φ M w m m'' φ'' M'' w'':=by
 refine⟨Phi.le_trans a.le b.le,fun i hi=>?_,b.rel,b.sub,fun i hi hn=>?_,a.wg.trans b.wg⟩
 .rw[b.out i (fun h=>hi ⟨zM e.next h.1,h.2⟩),a.out i (fun h=>hi ⟨h.1,zA h.2 e'.next⟩)]
 .have h1:¬(m.next<=i/\i<m'.next):=fun h=>hi ⟨h.1,zA h.2 e'.next⟩
  have h2:¬(m'.next<=i/\i<m''.next):=fun h=>hi ⟨zM e.next h.1,h.2⟩
  have h3:m'.b.get i=none\/i<m''.low:=by
   rcases hn with hn|hn
   .left
    cases hg:m'.b.get i with
    |none=>rfl
    | some x =>
      rcases e.dom i x hg with⟨y,hy⟩|h
      .rw[hn]at hy;cases hy
      .exact absurd h h1
   .exact .inr hn
  rw[b.frame i h2 h3];exact a.frame i h1 (hn.imp id fun q=>zA q hl)
theorem ygv.left{lo mid hi:Nat}(h:ygv φ lo hi)(hm:mid<=hi):ygv φ lo mid:=fun i h1 h2=>h i h1 (zA h2 hm)
theorem Good.fresh(g:Good φ M w m m' φ' M' w')(e:Ext m m'){hi:Nat}(h:ygv φ m.next hi):ygv φ' m'.next hi:=fun i h1 h2=>by
 rw[g.out i (fun q=>absurd q.2 (Nat.not_lt.2 h1))];exact h i (zM e.next h1) h2
theorem yow(next:Nat)(b:T ABlk)(low:Nat)(e:Eff):Mem.appE next b low e=match e with
 |.none=>⟨next,b,low⟩
 |.new x=>⟨next+1,T.set (zN next) b next (some x),low⟩
 |.upd i x=>⟨next,T.set (zN i) b i (some x),zAR low i⟩
 |.move i x=>⟨next+1,T.set (zN next) (T.set (zN i) b i none) next (some x),zAR low i⟩:=by
 cases e<;>simp only[Mem.appE,Mem.mk1,ybp,T.strict_eq]
theorem yob(m:Mem)(e:Eff):(m.app e).next=if e.adds then m.next+1 else m.next:=by
 obtain⟨next,b,low⟩:=m
 show(Mem.appE next b low e).next=_
 rw[yow];cases e<;>rfl
theorem yph{e:Eff}{i:Nat}{x:ABlk}(h:(m.app e).b.get i=some x):appM m.b.get m.next e i=some x:=by
 obtain⟨next,b,low⟩:=m
 change (Mem.appE next b low e).b.get i=some x at h
 rw[yow]at h;cases e with
 |none=>exact h
 | new y =>
   dsimp only at h
   have:=T.get_set _ _ _ _ _ _ h;simp only[appM,upd];split at this
   .rename_i e;rw[if_pos e];exact this
   .rename_i e;rw[if_neg e];exact this
 | upd j y =>
   dsimp only at h
   have:=T.get_set _ _ _ _ _ _ h;simp only[appM,upd];split at this
   .rename_i e;rw[if_pos e];exact this
   .rename_i e;rw[if_neg e];exact this
 | move j y =>
   dsimp only at h
   have:=T.get_set _ _ _ _ _ _ h;simp only[appM,upd];split at this
   .rename_i e;rw[if_pos e];exact this
   .rename_i e
    rw[if_neg e];have:=T.get_set _ _ _ _ _ _ this;split at this
    .cases this
    .rename_i e;rw[if_neg e];exact this
theorem ysz(m:Mem)(e:Eff):(m.app e).low<=m.low/\∀i∈e.mods,(m.app e).low<=i:=by
 obtain⟨next,b,low⟩:=m
 show(Mem.appE next b low e).low<=low/\∀i∈e.mods,(Mem.appE next b low e).low<=i
 rw[yow];cases e with
 |none=>exact⟨zI _,fun i hi=>by simp[Eff.mods]at hi⟩
 |new x=>exact⟨zI _,fun i hi=>by simp[Eff.mods]at hi⟩
 |upd j x=>exact⟨zAG _ _,fun i hi=>by simp[Eff.mods]at hi;subst hi;exact zO _ _⟩
 |move j x=>exact⟨zAG _ _,fun i hi=>by simp[Eff.mods]at hi;subst hi;exact zO _ _⟩
theorem ybzh{N:AM}{next:Nat}{e:Eff}(h:∀i b,M i=some b->N i=some b):∀i b,appM M next e i=some b->appM N next e i=some b:=by
 intro i b hb;cases e<;>simp only[appM,upd]at hb ⊢
 .exact h i b hb
 all_goals
  split at hb
  .rename_i q;rw[if_pos q];exact hb
  .rename_i q
   rw[if_neg q]
   first
    |exact h i b hb
    | (split at hb
       .cases hb
       .rename_i q;rw[if_neg q];exact h i b hb)
theorem yhd{next i:Nat}{e:Eff}(h1:e.adds=true->i≠next)(h2:i∉e.mods):appM M next e i=M i:=by
 cases e with
 |none=>rfl
 |new x=>simp[appM,upd,h1 rfl]
 |upd j x=>simp[Eff.mods]at h2;simp[appM,upd,h2]
 |move j x=>simp[Eff.mods]at h2;simp[appM,upd,h1 rfl,h2]
theorem ycdm(hw:Wf m){e:Eff}(hmods:∀i∈e.mods,∃b,m.b.get i=some b):Ext m (m.app e):=by
 have hn:=yob m e;refine⟨by rw[hn];split<;>omega,fun i b hb=>?_,fun i b h1 h2 h3=>?_,fun i b hb=>?_⟩
 rotate_left
 .have:=yph h3;rw[yhd (fun q e=>h2 ⟨by omega,by rw[hn,if_pos q];omega⟩) (fun q=>by have:=(ysz m e).2 i q;omega)]at this
  exact this
 rotate_left
 .have:=yph hb
  by_cases h2:i∈e.mods
  .exact .inl (hmods i h2)
  .by_cases h1:e.adds=true/\i=m.next
   .right;rw[hn,if_pos h1.1];omega
   .rw[yhd (fun q r=>h1 ⟨q,r⟩) h2]at this;exact .inl ⟨b,this⟩
 .have:=yph hb
  by_cases h2:i∈e.mods
  .obtain⟨y,hy⟩:=hmods i h2;have:=hw i y hy;rw[hn];split<;>omega
  .by_cases h1:e.adds=true/\i=m.next
   .rw[hn,if_pos h1.1];omega
   .rw[yhd (fun q r=>h1 ⟨q,r⟩) h2]at this;have:=hw i b this;rw[hn];split<;>omega
theorem ybhj{i:TypeInfo}{elem:TypeId}{ad:Addr}{sLen k sCap:Nat}{new:List Value}{fx:List Nat}{b:ABlk}{r:R}(hb:m.b.get ad.block=some b)(h:appSome m i elem ad sLen k sCap new fx b=some r) :
 ∀j∈r.e.mods,j∈r.foot/\∃b,m.b.get j=some b:=by
 unfold appSome at h;split at h
 .obtain⟨_,h9⟩:=ybd h;rw[ybe]at h9;split at h9
  .unfold appIn at h9;obtain⟨_,h10⟩:=ybd h9;rw[ybp]at h10;cases h10
   intro j hj;simp[Eff.mods]at hj;subst hj;exact⟨by simp,_,hb⟩
  .unfold appOut at h9;rw[ybe]at h9;split at h9
   .rw[ycc h9];intro j hj;have:j=ad.block:=by simpa[Eff.mods]using hj
    subst this;exact⟨by simp,_,hb⟩
   .obtain⟨old,_,h10⟩:=yg h9;rw[ycc h10];intro j hj
    have:j=ad.block:=by
     rw[ybe]at hj;split at hj
     .simpa[Eff.mods]using hj
     .simp[Eff.mods]at hj
    subst this;exact⟨by simp,_,hb⟩
 .cases h
theorem ycn{r:R}{P:Prop}{j:Nat}(h:r.e = .none\/∃b,r.e = .new b)(hj:j∈r.e.mods):P:=by
 rcases h with h|⟨b,h⟩<;>(rw[h]at hj;simp[Eff.mods]at hj)
theorem yvp{v:Value}{r:R}(h:val v=some r):r.e = .none:=by rw[yfl h]
theorem ymk{o:Oper}{r:R}(h:pureA P f o=some r):r.e = .none:=by
 unfold pureA at h;split at h
 .cases h
 .rw[zAE]at h;split at h
  .split at h
   .rw[zAE]at h;split at h
    .cases h;rfl
    .cases h
   .cases h
  .cases h
theorem yzs{ad:Addr}{k:Nat}{r:R}(h:addrAt ad k=some r):r.e = .none:=by rw[(yjz h).2]
theorem ybai{o:Oper}{r:R}(h:evOp P f o m=some r):∀i∈r.e.mods,i∈r.foot/\∃b,m.b.get i=some b:=by
 unfold evOp at h;split at h
 .obtain⟨_,_,h⟩:=yg h;exact fun i hi=>ycn (.inl (yvp h)) hi
 .obtain⟨_,_,h⟩:=yg h;exact fun i hi=>ycn (.inl (yvp h)) hi
 .obtain⟨_,_,h⟩:=yg h;unfold evPick at h;split at h
  .obtain⟨_,_,h⟩:=yg h;exact fun i hi=>ycn (.inl (yvp h)) hi
  .cases h
 .obtain⟨_,_,h⟩:=yg h;obtain⟨_,_,h⟩:=yg h;cases h;exact fun i hi=>ycn (.inr ⟨_,rfl⟩) hi
 .obtain⟨_,_,h⟩:=yg h;obtain⟨_,h⟩:=ybd h;cases h;exact fun i hi=>ycn (.inr ⟨_,rfl⟩) hi
 .obtain⟨_,_,h⟩:=yg h;obtain⟨_,_,h⟩:=yg h;obtain⟨_,_,h⟩:=yg h;obtain⟨_,_,h⟩:=yg h;unfold evBuild1 at h;split at h
  .obtain⟨_,_,h⟩:=yg h;obtain⟨_,_,h⟩:=yg h;exact fun i hi=>ycn (.inl (yvp h)) hi
  .obtain⟨_,_,h⟩:=yg h;obtain⟨_,_,h⟩:=yg h;exact fun i hi=>ycn (.inl (yvp h)) hi
  .cases h
 .obtain⟨_,_,h⟩:=yg h;obtain⟨_,_,h⟩:=yg h;unfold evBuildSlice at h;split at h
  .obtain⟨_,_,h⟩:=yg h;obtain⟨_,_,h⟩:=yg h;obtain⟨_,h⟩:=ybd h;obtain⟨_,_,h⟩:=yg h;cases h;exact fun i hi=>ycn (.inr ⟨_,rfl⟩) hi
  .cases h
 .obtain⟨_,_,h⟩:=yg h;unfold evLoad at h;split at h
  .obtain⟨_,_,h⟩:=yg h;cases h;exact fun i hi=>ycn (.inl rfl) hi
  .cases h
 .obtain⟨_,_,h⟩:=yg h;obtain⟨_,_,h⟩:=yg h;unfold evStore at h;split at h
  .obtain⟨e,he,h⟩:=yg h;cases h
   unfold storeA at he;split at he
   .rename_i hb _
    simp only at he;rw[zAE]at he;split at he
    .cases he
     intro i hi;simp[Eff.mods]at hi;subst hi;exact⟨by simp,_,hb⟩
    .cases he
   .cases he
  .cases h
 .obtain⟨_,_,h⟩:=yg h;unfold evNilCheck at h;split at h
  .exact fun i hi=>ycn (.inl (yvp h)) hi
  .cases h
 .obtain⟨_,_,h⟩:=yg h;unfold evFieldAddr at h;split at h
  .obtain⟨_,_,h⟩:=yg h;unfold evFieldAddr1 at h;split at h
   .obtain⟨_,_,h⟩:=yg h;obtain⟨_,_,h⟩:=yg h;rw[ybe]at h;split at h
    .cases h
    .exact fun i hi=>ycn (.inl (yzs h)) hi
   .cases h
  .cases h
 .obtain⟨_,_,h⟩:=yg h;unfold evFieldOf at h;split at h
  .obtain⟨_,_,h⟩:=yg h;unfold evFieldOf1 at h;split at h
   .obtain⟨_,_,h⟩:=yg h;obtain⟨_,_,h⟩:=yg h;exact fun i hi=>ycn (.inl (yvp h)) hi
   .cases h
  .cases h
 .obtain⟨_,_,h⟩:=yg h;obtain⟨_,_,h⟩:=yg h;unfold evIndexAddr at h;split at h
  .obtain⟨_,_,h⟩:=yg h;unfold evIndex1 at h;split at h
   .split at h
    .obtain⟨_,h⟩:=ybd h;obtain⟨_,_,h⟩:=yg h;exact fun i hi=>ycn (.inl (yzs h)) hi
    .cases h
   .split at h
    .obtain⟨_,h⟩:=ybd h;obtain⟨_,_,h⟩:=yg h;exact fun i hi=>ycn (.inl (yzs h)) hi
    .cases h
   .cases h
  .cases h
 .obtain⟨_,_,h⟩:=yg h;unfold evExtract at h;split at h
  .obtain⟨_,_,h⟩:=yg h;exact fun i hi=>ycn (.inl (yvp h)) hi
  .cases h
 .obtain⟨_,_,h⟩:=yg h;obtain⟨_,_,h⟩:=yg h;unfold evMakeFunc at h;split at h
  .exact fun i hi=>ycn (.inl (yvp h)) hi
  .cases h
 .obtain⟨_,_,h⟩:=yg h;obtain⟨_,_,h⟩:=yg h;unfold evMakeSlice at h;split at h
  .obtain⟨_,_,h⟩:=yg h;unfold evMakeSlice1 at h;split at h
   .obtain⟨_,_,h⟩:=yg h;obtain⟨_,_,h⟩:=yg h;obtain⟨_,h⟩:=ybd h;cases h;exact fun i hi=>ycn (.inr ⟨_,rfl⟩) hi
   .cases h
  .cases h
 .obtain⟨_,_,h⟩:=yg h;obtain⟨_,_,h⟩:=yg h;obtain⟨_,_,h⟩:=yg h;obtain⟨_,_,h⟩:=yg h;unfold sliceA at h;split at h
  .obtain⟨_,_,h⟩:=yg h;obtain⟨_,_,h⟩:=yg h;cases h;exact fun i hi=>ycn (.inl rfl) hi
  .obtain⟨_,_,h⟩:=yg h;obtain⟨_,_,h⟩:=yg h;obtain⟨_,_,_,_,_,rfl⟩:=yhz h;exact fun i hi=>ycn (.inl rfl) hi
  .obtain⟨_,_,h⟩:=yg h;obtain⟨_,_,h⟩:=yg h;obtain⟨_,_,h⟩:=yg h;cases h;exact fun i hi=>ycn (.inl rfl) hi
  .obtain⟨_,_,h⟩:=yg h;obtain⟨_,_,h⟩:=yg h;obtain⟨_,h⟩:=ybd h;obtain⟨_,_,_,_,_,rfl⟩:=yhz h;exact fun i hi=>ycn (.inl rfl) hi
  .cases h
 .cases h;exact fun i hi=>ycn (.inr ⟨_,rfl⟩) hi
 .obtain⟨_,_,h⟩:=yg h;obtain⟨_,_,h⟩:=yg h;obtain⟨_,_,h⟩:=yg h;unfold evLookup at h;split at h
  .obtain⟨_,h⟩:=ybd h;obtain⟨_,_,h⟩:=yg h;unfold evLookup1 at h;split at h
   .obtain⟨_,_,h⟩:=yg h;obtain⟨_,h⟩:=ybd h;cases h;exact fun i hi=>ycn (.inl rfl) hi
   .cases h
  .cases h
 .obtain⟨_,_,h⟩:=yg h;obtain⟨_,_,h⟩:=yg h;obtain⟨_,_,h⟩:=yg h;obtain⟨_,_,h⟩:=yg h;unfold evMapSet at h;split at h
  .obtain⟨_,h⟩:=ybd h;obtain⟨_,hb,h⟩:=yg h;unfold evMapSet1 at h;split at h
   .obtain⟨_,_,h⟩:=yg h;cases h
    intro i hi;simp[Eff.mods]at hi;subst hi;exact⟨by simp,_,hb⟩
   .cases h
  .cases h
 .rename_i c _
  obtain⟨callee,args,ats⟩:=c;unfold evCallB at h;simp only at h;split at h
  .obtain⟨_,_,h⟩:=yg h;unfold evLen at h;split at h
   .obtain⟨_,_,h⟩:=yg h;split at h
    .rw[ybp]at h;exact fun i hi=>ycn (.inl (yvp h)) hi
    .cases h
   .exact fun i hi=>ycn (.inl (ymk h)) hi
  .obtain⟨_,_,h⟩:=yg h;unfold evAppend at h;split at h
   .obtain⟨_,h⟩:=ybd h;obtain⟨_,_,h⟩:=yg h;split at h
    .unfold appendA at h;obtain⟨_,_,h⟩:=yg h;obtain⟨_,_,h⟩:=yg h;unfold appendA1 at h;obtain⟨_,h⟩:=ybd h;rw[ybe]at h;split at h
     .unfold appNone at h;split at h
      .cases h;exact fun i hi=>ycn (.inl rfl) hi
      .cases h
     .unfold appendA2 at h;split at h
      .rw[ycc h];exact fun i hi=>ycn (.inr ⟨_,rfl⟩) hi
      .obtain⟨_,hb,h⟩:=yg h;exact ybhj hb h
      .cases h
    .cases h
   .cases h
  .exact fun i hi=>ycn (.inl (ymk h)) hi
  .exact fun i hi=>ycn (.inl (ymk h)) hi
  .cases h
 .exact fun i hi=>ycn (.inl (ymk h)) hi
 .exact fun i hi=>ycn (.inl (ymk h)) hi
 .exact fun i hi=>ycn (.inl (ymk h)) hi
 .exact fun i hi=>ycn (.inl (ymk h)) hi
 .cases h
end
end Ev
end
section
namespace Ev
section
variable {P:Program}{self:Task->Option Out}{φ φ':Phi}{M M':AM}{w w':World}{f f':Fr}{m m' m'':Mem}{a:Act}{o:Oper}{r:R2}
theorem FrR.mono(h:FrR φ f a)(hle:φ.le φ'):FrR φ' f a:=⟨h.size,fun t v hv=>(h.get t v hv).mono hle⟩
theorem yjj{x:Operand}{v:Value}(hf:∀t v,x = .tmp t->f.t.get t=some v->VR φ v (a.tmps.getD t undef))(h:f.get x=some v):VR φ v (a.eval x):=by
 cases x with
 |tmp t=>exact hf t v rfl h
 | const u =>
   unfold Fr.get constA at h;obtain⟨h1,h2⟩:=ybd h;cases h2
   exact VR.atomA h1
 |global g=>cases h
 |func g=>unfold Fr.get at h;cases h;exact VR.func .nil .nil
theorem FrR.ov(h:FrR φ f a)(o:Oper):OV φ f o a.eval:=fun _ _ _ hv=>yjj (fun t v _ ht=>h.get t v ht) hv
theorem ynb{d:Option Tmp}{v:Value}(h:f.put d v=some f'):(d=none/\f'=f)\/∃k,d=some k/\k<f.n/\f'.n=f.n/\f'.t=T.set (zN k) f.t k (some v):=by
 cases d with
 |none=>cases h;exact .inl ⟨rfl,rfl⟩
 | some k =>
   right
   obtain⟨n,t⟩:=f
   change Fr.putD v k ⟨n,t⟩=some f' at h
   unfold Fr.putD at h;obtain⟨h1,h2⟩:=ybd h;unfold Fr.set1 at h2;rw[force_eq,T.strict_eq]at h2;cases h2
   exact⟨k,rfl,zA (zAM _) (zD h1),rfl,rfl⟩
theorem FrR.put{d:Option Tmp}{v v':Value}(h:FrR φ f a)(hp:f.put d v=some f')(hv:VR φ v v'):FrR φ f' (a.put d v'):=by
 rcases ynb hp with⟨rfl,rfl⟩|⟨k,rfl,hk,h1,h2⟩
 .exact h
 .refine⟨by simp[Act.put,h.size,h1],fun t u hu=>?_⟩
  rw[h2]at hu;have:=T.get_set _ _ _ _ _ _ hu;have hks:k<a.tmps.size:=by rw[h.size];exact hk
  by_cases e:t=k
  .subst e;rw[if_pos rfl]at this;cases this
   simp[Act.put,hks];exact hv
  .rw[if_neg e]at this;have:=h.get t u this;simp only[Act.put,zF]at this ⊢;rw[zQ,if_neg (fun q=>e q.symm)];exact this
theorem VR.undef:VR φ undef undef:=VR.tuple .nil
theorem VR.bool_iff{v v':Value}(h:VR φ v v')(b:Bool):v' = .bool b↔v = .bool b:=by
 cases h with
 |simple _=>rfl
 |ptr _=>constructor<;>intro h<;>cases h
 |slice _ _ _ _ _=>constructor<;>intro h<;>cases h
 |map _=>constructor<;>intro h<;>cases h
 |func _ _=>constructor<;>intro h<;>cases h
 |agg _=>constructor<;>intro h<;>cases h
 |tuple _=>constructor<;>intro h<;>cases h
theorem yfr{ops:Array Oper}{b:Bool}(h:wantedA ops.toList f o=some b)(hf:∀j want oj d v,o.guard=some (j,want)->ops[j]?=some oj->oj.dst=some d->f.t.get d=some v->VR φ v (a.tmps.getD d undef)) :
 Region.wanted o (yielded ops a.tmps)=b:=by
 unfold wantedA at h;unfold Region.wanted;cases hg:o.guard with
 |none=>rw[hg]at h;cases h;rfl
 | some g =>
   obtain⟨j,want⟩:=g;rw[hg]at h
   change wantedG ops.toList f (j,want)=some b at h
   unfold wantedG at h;simp only[zT]at h;show(yielded ops a.tmps j==some want)=b;unfold yielded;cases hj:ops[j]? with
   |none=>rw[hj]at h;cases h;rfl
   | some oj =>
     rw[hj]at h;simp only[zAN]
     change wantedD f want oj.dst=some b at h
     cases hd:oj.dst with
     |none=>rw[hd]at h;cases h;rfl
     | some d =>
       rw[hd]at h;obtain⟨v,hv,h2⟩:=yg h;cases h2
       have hvr:=hf j want oj d v hg hj hd hv;simp only[zAN];rw[zF]at hvr;cases ht:a.tmps[d]? with
       | none =>
         rw[ht]at hvr
         have:boolIs want v=false:=by
          unfold boolIs;split
          .rename_i q;have:=(hvr.bool_iff q).2 rfl;cases this
          .rfl
         rw[this];rfl
       | some u =>
         rw[ht]at hvr;simp only[Option.getD_some]at hvr
         by_cases hq:∃q,u = .bool q
         .obtain⟨q,rfl⟩:=hq;have:=(hvr.bool_iff q).1 rfl;subst this;show(some q==some want)=(q==want);cases q<;>cases want<;>rfl
         .have e1:boolIs want v=false:=by
           unfold boolIs;split
           .rename_i q;exact absurd ⟨q,(hvr.bool_iff q).2 rfl⟩ hq
           .rfl
          rw[e1];split
          .rename_i q e2;cases e2;exact absurd ⟨q,rfl⟩ hq
          .rfl
theorem VR.func_inv{g:FuncId}{x y:Array Value}{v':Value}(h:VR φ (.func (.func g) x y) v'):∃x' y':List Value,v' = .func (.func g) x'.toArray y'.toArray/\VRL φ x.toList x'/\VRL φ y.toList y':=by
 generalize e:Value.func (.func g) x y=v at h
 cases h with
 |simple h=>subst e;simp[Ev.simple]at h
 |func ha hc=>cases e;exact⟨_,_,rfl,by simpa using ha,by simpa using hc⟩
 |_=>cases e
noncomputable def yee(m:Mem)(r:R2)(i:Nat):Bool:=(zAC m.next i&&zAS i r.m.next)||(match r.mods with|none=>(m.b.get i).isSome&&zAC r.m.low i|some l=>l.elem i)
noncomputable def tM(m:Mem)(r:R2)(M:AM):AM:=fun i=>if yee m r i=true then r.m.b.get i else M i
structure OneOk(φ:Phi)(M:AM)(w:World)(m:Mem)(r:R2)(v':Value)(φ':Phi)(w':World):Prop where
 vr:VR φ' r.v v'
 le:φ.le φ'
 out:∀i,¬(m.next<=i/\i<r.m.next)->φ' i=φ i
 rel:Rel φ' (tM m r M) w'
 wg:WG φ M w φ' (tM m r M) w'
structure OnePure(m:Mem)(r:R2):Prop where
 ext:Ext m r.m
 low:r.m.low<=m.low
 same:∀i b,yee m r i=false->r.m.b.get i=some b->m.b.get i=some b
 mods:∀l,r.mods=some l->∀i∈l,∃b,m.b.get i=some b
def Need(m:Mem)(r:R2)(M:AM):Prop:=match r.foot with
 |none=>Sub m M
 |some ft=>∀i∈ft,∀b,m.b.get i=some b->M i=some b
theorem yfz{i:Nat}(h:yee m r i=false):¬(m.next<=i/\i<r.m.next)/\((r.mods=none/\(m.b.get i=none\/i<r.m.low))\/∃l,r.mods=some l/\i∉l):=by
 unfold yee at h;simp only[Bool.or_eq_false_iff,zU]at h;refine⟨fun q=>?_,?_⟩
 .rcases h.1 with h1|h1
  .rw[zK q.1]at h1;cases h1
  .rw[show zAS i r.m.next=true from zK q.2]at h1;cases h1
 .have h2:=h.2;split at h2
  .rename_i e
   refine .inl ⟨e,?_⟩;rw[zU]at h2;rcases h2 with h2|h2
   .exact .inl (by simpa using h2)
   .right
    rcases zS i r.m.low with q|q
    .exact q
    .rw[zK q]at h2;cases h2
  .rename_i l hl
   exact .inr ⟨l,hl,by simpa using h2⟩
theorem yge{i:Nat}(h:yee m r i=true):(m.next<=i/\i<r.m.next)\/(r.mods=none/\(∃b,m.b.get i=some b)/\r.m.low<=i)\/∃l,r.mods=some l/\i∈l:=by
 unfold yee at h;simp only[zW,zC]at h;rcases h with h|h
 .exact .inl ⟨zD h.1,zD h.2⟩
 .right
  split at h
  .rename_i e
   simp only[zC]at h;exact .inl ⟨e,Option.isSome_iff_exists.1 h.1,zD h.2⟩
  .rename_i l hl;exact .inr ⟨l,hl,by simpa using h⟩
theorem ydz(low:Nat)(m:Mem):backM low m=⟨m.next,m.b,zAR low m.low⟩:=by
 obtain⟨n,b,l⟩:=m;show Mem.mk1 n b (zAR low l)=_;simp only[Mem.mk1,ybp,T.strict_eq]
theorem yho(h:evOne P self f o m=some r) :
 (∃r0,evOp P f o m=some r0/\r=⟨r0.v,m.app r0.e,some r0.foot,some r0.e.mods⟩) \/
 (∃fx args ats g first captured vs v m',o.op = .call { callee:=.value fx,args:=args,argTypes:=ats }/\f.get fx=some (.func (.func g) first captured)/\valsA f args.toList=some vs /\
   self (.call g (first.toList++vs++captured.toList) m)=some (.call v m')/\r=⟨v,backM m.low m',none,iteB (zAC m.next m'.low) (some []) none⟩):=by
 unfold evOne evOne1 at h;split at h
 .rename_i fx args ats hop
  obtain⟨g,hg,h2⟩:=yg h;obtain⟨vs,hvs,h3⟩:=yg h2;unfold evCall at h3;split at h3
  .rename_i g' first captured
   obtain⟨out,hout,h4⟩:=yg h3;unfold afterCall at h4;split at h4
   .rename_i v m'
    cases h4
    exact .inr ⟨fx,args,ats,g',first,captured,vs,v,m',hop,hg,hvs,hout,rfl⟩
   .cases h4
  .cases h3
 .obtain⟨r0,h1,h2⟩:=yg h;cases h2
  exact .inl ⟨r0,h1,rfl⟩
theorem ywo(hself:yex P self)(h:evOne P self f o m=some r)(hw:Wf m):OnePure m r:=by
 rcases yho h with⟨r0,h1,rfl⟩|⟨fx,args,ats,g,first,captured,vs,v,m',hop,hg,hvs,hs,rfl⟩
 .have heff:=ybai h1;refine⟨ycdm hw (fun i hi=>(heff i hi).2),(ysz m r0.e).1,fun i b ht hb=>?_,fun l hl i hi=>?_⟩
  .obtain⟨t1,⟨t2,_⟩|⟨l,t2,t3⟩⟩:=yfz ht
   .cases t2
   cases t2
   have:=yph hb;rw[yhd (fun q e=>t1 ⟨by rw[e];exact zI _,by rw[e];show _<(m.app r0.e).next;rw[yob,if_pos q];omega⟩) t3]at this
   exact this
  .cases hl;exact(heff i hi).2
 .have hsound:=hself _ _ hs hw;refine⟨?_,?_,fun i b ht hb=>?_,fun l hl i hi=>?_⟩
  .rw[ydz];exact⟨hsound.1.next,hsound.1.dom,fun i b h1=>hsound.1.old i b (zA h1 (zO _ _)),hsound.1.wf⟩
  .rw[ydz];exact zAG _ _
  .obtain⟨t1,⟨t2,t3⟩|⟨l,t2,t3⟩⟩:=yfz ht
   .rw[ydz]at t1 t3 hb;rcases t3 with t3|t3
    .rcases hsound.1.dom i b hb with⟨b0,h0⟩|h0
     .rw[t3]at h0;cases h0
     .exact absurd h0 t1
    .exact hsound.1.old i b (zA t3 (zO _ _)) t1 hb
   rw[ydz]at t1 hb;rw[ybe]at t2;split at t2
   .rename_i hle
    have hle:=zD hle;refine hsound.1.old i b ?_ t1 hb;rcases hsound.1.dom i b hb with⟨b0,h0⟩|h0
    .exact zA (hw i b0 h0) hle
    .exact absurd h0 t1
   .cases t2
  .rw[ybe]at hl;split at hl
   .cases hl;cases hi
   .cases hl
theorem yeb{fx:Operand}{args:Array Operand}{ats:Array TypeId}(hop:o.op = .call { callee:=.value fx,args:=args,argTypes:=ats }):fx∈o.op.operands/\∀x∈args.toList,x∈o.op.operands:=by
 rw[hop];simp[Op.operands,Call.operands];exact fun x hx=>.inr hx
theorem yli{ρ:Operand->Value}{fx:Operand}{args:Array Operand}{ats:Array TypeId}{g:FuncId}{x y:List Value}(hop:o.op = .call { callee:=.value fx,args:=args,argTypes:=ats })(hg:ρ fx = .func (.func g) x.toArray y.toArray) :
 execOp ρ o=callFunc g (x++args.toList.map ρ++y).toArray:=by
 unfold execOp;rw[hop];simp only[resolve,hg,Deferred.ofValue];show invoke (.fn (.func g) y.toArray) (x.toArray++args.map ρ)=_;simp only[invoke];congr 1;apply Array.toList_inj.1;simp
theorem ybbs (hself:yex P self) (h:evOne P self f o m=some r) (hw:Wf m) (hR:Rel φ M w) (hsub:Sub m M) (hf:FrR φ f a) (hfr:ygv φ m.next r.m.next) {K:Act->World->Prop}{Q:Exit->Act->World->Prop}
 (hK:∀v' w' φ' M',Good φ M w m r.m φ' M' w'->VR φ' r.v v'->K (a.put o.dst v') w'):o.wp P a w K Q:=by
 rcases yho h with⟨r0,h1,rfl⟩|⟨fx,args,ats,g,first,captured,vs,v,m',hop,hg,hvs,hs,rfl⟩
 .have heff:=ybai h1;have hn:=yob m r0.e
  have hok:OpOk P (execOp a.eval o) φ M w m.next r0.v r0.e:=yye h1 hR (hf.ov o) (fun i _=>hsub i)
   (fun hq=>hfr m.next (zI _) (by show _<(m.app r0.e).next;rw[hn,if_pos hq];omega))
  obtain⟨φ',w',nx,q1,q2,q3,q4,q5,q6,q7⟩:=hok
  have hgood:Good φ M w m (m.app r0.e) φ' (appM M m.next r0.e) w':=by
   refine⟨q3,fun i hi=>?_,q6,fun i b hb=>ybzh hsub i b (yph hb),fun i hi hnl=>?_,q7⟩
   .cases hq:r0.e.adds with
    |false=>rw[q5 hq]
    |true=>exact q4 i (fun e=>hi ⟨by omega,by rw[hn,if_pos hq];omega⟩)
   .refine yhd (fun hq e=>hi ⟨by omega,by rw[hn,if_pos hq];omega⟩) (fun hmem=>?_)
    rcases hnl with hnl|hnl
    .obtain⟨b,hb⟩:=(heff i hmem).2;rw[hnl]at hb;cases hb
    .have:=(ysz m r0.e).2 i hmem;omega
  unfold Oper.wp;rw[q1];cases nx with
  |value v'=>exact hK v' w' φ' _ hgood q2
  | skip =>
    have hv:r0.v=undef:=q2;exact hK undef w' φ' _ hgood (by show VR φ' r0.v undef;rw[hv];exact VR.undef)
  |_=>exact q2.elim
 .have hsound:=hself _ _ hs hw;obtain⟨m1,m2⟩:=yeb hop;obtain⟨x',y',e1,e2,e3⟩:=(hf.ov o fx m1 _ hg).func_inv;have hargs:=ydx (φ:=φ) (ρ:=a.eval) hvs (fun x hx=>hf.ov o x (m2 x hx));have hcall:=hsound.2 φ M w (x'++args.toList.map a.eval++y') hR hsub ((e2.append hargs).append e3) (by rw[ydz]at hfr;exact hfr)
  have hgood:∀{φ' M' w'},Good φ M w m m' φ' M' w'->Good φ M w m (backM m.low m') φ' M' w':=fun hgd=>by
   rw[ydz];exact⟨hgd.le,hgd.out,hgd.rel,hgd.sub,fun i hi hn=>hgd.frame i hi (hn.imp id fun q=>zA q (zO _ _)),hgd.wg⟩
  unfold Oper.wp;rw[yli hop e1];rcases hcall with⟨hrun,hc⟩|⟨v',w',hrun,v'',hv'',φ',M',hgd,hvr⟩
  .rw[hrun,Oper.upon_enter];refine hc.mono ?_;rintro e w' ⟨v',rfl,φ',M',hgd,hvr⟩;exact hK v' w' φ' M' (hgood hgd) hvr
  .rw[hrun];cases hv''
   exact hK v' w' φ' M' (hgood hgd) hvr
theorem opIn{r:Option Nat}{K:Act->World->Prop}{Q:Exit->Act->World->Prop}(hd:∀c,o.op ≠ .defer c)(h:o.wp P a w K Q):o.wpIn (wr r) 0 P a w K Q:=by
 refine⟨fun _ _=>trivial,?_⟩;rw[Oper.semAt_eq _ _ _ hd];unfold Oper.wp at h
 revert h
 generalize (execOp a.eval o).run P w=x
 intro h;cases x with
 |halt hx w'=>cases hx<;>first|exact h|exact h.elim
 | ok nx w' =>
   cases nx with
   |value v=>exact h
   |skip=>exact h
   |defer d=>exact h
   |enter f args=>exact⟨fun q=>(by cases q),callsIn_wide.2 h⟩
   | row row args =>
     refine⟨fun q=>(by cases q),fun c cs _=>?_⟩
     obtain⟨v,w'',r1,s⟩:=h c cs;exact⟨v,w'',r1,stepsIn_wide.2 s⟩
   |_=>exact h.elim
theorem ytn(h:evOne P self f o m=some r):∀c,o.op ≠ .defer c:=by
 intro c hc;unfold evOne at h;rw[hc]at h
 change ob (evOp P f o m) (afterOp m)=some r at h
 obtain⟨x,h1,_⟩:=yg h;unfold evOp at h1;rw[hc]at h1;cases h1
theorem ybra (hself:yex P self) (h:evOne P self f o m=some r) (hw:Wf m) (hR:Rel φ M w) (hneed:Need m r M) (hov:OV φ f o a.eval) (hfr:ygv φ m.next r.m.next) {K:Act->World->Prop}{Q:Exit->Act->World->Prop}
 (hK:∀v' w' φ',OneOk φ M w m r v' φ' w'->K (a.put o.dst v') w'):o.wp P a w K Q:=by
 rcases yho h with⟨r0,h1,rfl⟩|⟨fx,args,ats,g,first,captured,vs,v,m',hop,hg,hvs,hs,rfl⟩
 .have hn := yob m r0.e
  have hok:OpOk P (execOp a.eval o) φ M w m.next r0.v r0.e:=yye h1 hR hov hneed
   (fun hq=>hfr m.next (zI _) (by show _<(m.app r0.e).next;rw[hn,if_pos hq];omega))
  obtain⟨φ',w',nx,q1,q2,q3,q4,q5,q6,q7⟩:=hok
  have hsubM:∀i b,tM m ⟨r0.v,m.app r0.e,some r0.foot,some r0.e.mods⟩ M i=some b->appM M m.next r0.e i=some b:=by
   intro i b hb;unfold tM at hb;split at hb
   .rename_i ht
    have hb':=yph hb;rcases yge ht with t|⟨t,_⟩|⟨l,t1,t2⟩
    ·-- fresh
     have t2:i<(m.app r0.e).next:=t.2
     rw[hn]at t2;split at t2
     .rename_i hq
      have:i=m.next:=by omega
      subst this
      revert hb'
      cases he:r0.e with
      |none=>rw[he]at hq;cases hq
      |new x=>simp[appM,upd]
      |upd j x=>rw[he]at hq;cases hq
      |move j x=>simp[appM,upd]
     .omega
    .cases t
    .cases t1
     revert hb'
     cases he:r0.e<;>rw[he]at t2<;>simp[Eff.mods]at t2<;>subst t2<;>simp[appM,upd]
   .rename_i ht
    have ht:yee m ⟨r0.v,m.app r0.e,some r0.foot,some r0.e.mods⟩ i=false:=by simpa using ht
    obtain⟨t1,⟨t2,_⟩|⟨l,t2,t3⟩⟩:=yfz ht
    .cases t2
    cases t2
    rw[yhd (fun q e=>t1 ⟨by omega,by show _<(m.app r0.e).next;rw[hn,if_pos q];omega⟩) t3]
    exact hb
  have hone:∀{v'},VR φ' r0.v v'->OneOk φ M w m ⟨r0.v,m.app r0.e,some r0.foot,some r0.e.mods⟩ v' φ' w':=fun hv=>by
   refine⟨hv,q3,fun i hi=>?_,q6.sub hsubM,q7.sub hsubM⟩;cases hq:r0.e.adds with
   |false=>rw[q5 hq]
   |true=>exact q4 i (fun e=>hi ⟨by omega,by show _<(m.app r0.e).next;rw[hn,if_pos hq];omega⟩)
  unfold Oper.wp;rw[q1];cases nx with
  |value v'=>exact hK v' w' φ' (hone q2)
  | skip =>
    have hv:r0.v=undef:=q2;exact hK undef w' φ' (hone (by rw[hv];exact VR.undef))
  |_=>exact q2.elim
 .have hsound:=hself _ _ hs hw;obtain⟨m1,m2⟩:=yeb hop;obtain⟨x',y',e1,e2,e3⟩:=(hov fx m1 _ hg).func_inv;have hargs:=ydx (φ:=φ) (ρ:=a.eval) hvs (fun x hx=>hov x (m2 x hx));have hsub:Sub m M:=hneed;have hcall:=hsound.2 φ M w (x'++args.toList.map a.eval++y') hR hsub ((e2.append hargs).append e3) (by rw[ydz]at hfr;exact hfr)
  have hone : ∀{φ' M' w' v'},Good φ M w m m' φ' M' w'->VR φ' v v'->OneOk φ M w m ⟨v,backM m.low m',none,iteB (zAC m.next m'.low) (some []) none⟩ v' φ' w':=fun {φ' M' w' v'} hgd hv=>by
   have hsubM:∀i b,tM m ⟨v,backM m.low m',none,iteB (zAC m.next m'.low) (some []) none⟩ M i=some b->M' i=some b:=by
    intro i b hb;unfold tM at hb;split at hb
    .rw[ydz]at hb;exact hgd.sub i b hb
    .rename_i ht
     have ht:yee m ⟨v,backM m.low m',none,iteB (zAC m.next m'.low) (some []) none⟩ i=false:=by simpa using ht
     obtain⟨t1,⟨t2,t3⟩|⟨l,t2,t3⟩⟩:=yfz ht
     .rw[ydz]at t1 t3;rw[hgd.frame i t1 (t3.imp id fun q=>zA q (zO _ _))];exact hb
     rw[ydz]at t1;rw[ybe]at t2;split at t2
     .rename_i hle
      have hle:=zD hle;rw[hgd.frame i t1 ?_]
      .exact hb
      .cases hq:m.b.get i with
       |none=>exact .inl rfl
       |some b0=>exact .inr (zA (hw i b0 hq) hle)
     .cases t2
   exact⟨hv,hgd.le,by rw[ydz];exact hgd.out,hgd.rel.sub hsubM,hgd.wg.sub hsubM⟩
  unfold Oper.wp;rw[yli hop e1];rcases hcall with⟨hrun,hc⟩|⟨v',w',hrun,v'',hv'',φ',M',hgd,hvr⟩
  .rw[hrun,Oper.upon_enter];refine hc.mono ?_;rintro e w' ⟨v',rfl,φ',M',hgd,hvr⟩;exact hK v' w' φ' (hone hgd hvr)
  .rw[hrun];cases hv''
   exact hK v' w' φ' (hone hgd hvr)
end
noncomputable def T.filt{α:Type}:T α->(Nat->Bool)->T α
 |.leaf,_=>.leaf
 |.node v l r,p=>.node (if p 0 then v else none) (T.filt l fun j=>p (2*j+1)) (T.filt r fun j=>p (2*j+2))
theorem T.filt_get{α:Type}:∀(t:T α) (p:Nat->Bool) (i:Nat),(T.filt t p).get i=if p i then t.get i else none
 |.leaf,p,i=>by show none=_;rw[T.get_leaf];split<;>rfl
 |.node v l r,p,0=>by show(T.node _ _ _).get 0=_;rw[T.get_zero,T.get_zero]
 | .node v l r,p,k+1=>by
   show(T.node _ _ _).get (k+1)=_;rw[T.get_succ,T.get_succ]
   by_cases h:even k=true
   .have:=(ycg k).1 h;rw[if_pos h,if_pos h,T.filt_get l];rw[show 2*(k/2)+1=k+1 by omega]
   .have:=mt (ycg k).2 h;rw[if_neg h,if_neg h,T.filt_get r];rw[show 2*(k/2)+2=k+1 by omega]
noncomputable def Mem.only(m:Mem)(ft:List Nat):Mem:=⟨m.next,T.filt m.b fun i=>ft.elem i,m.low⟩
theorem ydb{m:Mem}{ft:List Nat}{i:Nat}{b:ABlk}:(m.only ft).b.get i=some b↔i∈ft/\m.b.get i=some b:=by
 show(T.filt m.b _).get i=some b↔_;rw[T.filt_get];simp
noncomputable def T.join{α:Type}:T α->T α->(Nat->Bool)->T α
 |.leaf,b,p=>T.filt b p
 |.node v l r,.leaf,p=>T.filt (.node v l r) fun i=>!(p i)
 |.node v l r,.node v' l' r',p=>.node (if p 0 then v' else v) (T.join l l' fun j=>p (2*j+1)) (T.join r r' fun j=>p (2*j+2))
theorem T.join_get{α:Type}:∀(a b:T α) (p:Nat->Bool) (i:Nat),(T.join a b p).get i=if p i then b.get i else a.get i
 |.leaf,b,p,i=>by show(T.filt b p).get i=_;rw[T.filt_get,T.get_leaf]
 | .node v l r,.leaf,p,i=>by
   show(T.filt (.node v l r) fun i=>!(p i)).get i=_;rw[T.filt_get,T.get_leaf];cases p i<;>rfl
 | .node v l r,.node v' l' r',p,0=>by
   show(T.node _ _ _).get 0=_;rw[T.get_zero,T.get_zero,T.get_zero]
 | .node v l r,.node v' l' r',p,k+1=>by
   show(T.node _ _ _).get (k+1)=_;rw[T.get_succ,T.get_succ,T.get_succ]
   by_cases h:even k=true
   .have:=(ycg k).1 h;rw[if_pos h,if_pos h,if_pos h,T.join_get l];rw[show 2*(k/2)+1=k+1 by omega]
   .have:=mt (ycg k).2 h;rw[if_neg h,if_neg h,if_neg h,T.join_get r];rw[show 2*(k/2)+2=k+1 by omega]
noncomputable def Mem.grow(m m':Mem):Mem:=⟨m'.next,T.join m.b m'.b fun i=>zAC m.next i,m.low⟩
theorem yij{m m':Mem}{i:Nat}:(m.grow m').b.get i=if m.next<=i then m'.b.get i else m.b.get i:=by
 show(T.join m.b m'.b _).get i=_;rw[T.join_get]
 by_cases q:m.next<=i
 .rw[if_pos q,if_pos (zK q)]
 .rw[if_neg q,if_neg (fun h=>q (zD h))]
def yebk(P:Program)(f:Fr)(o:Oper)(m:Mem)(r:R2):Prop :=
 ∃ fx args ats g first captured vs v m' ft,o.op = .call { callee:=.value fx,args:=args,argTypes:=ats }/\f.get fx=some (.func (.func g) first captured)/\valsA f args.toList=some vs /\
   ycb P (.call g (first.toList++vs++captured.toList) (m.only ft)) (.call v m')/\m.next<=m'.low/\r=⟨v,m.grow m',some ft,some []⟩
def One(P:Program)(f:Fr)(o:Oper)(m:Mem)(r:R2):Prop:=(∃self,yex P self/\evOne P self f o m=some r)\/yebk P f o m r
section
variable {P:Program}{φ:Phi}{M:AM}{w:World}{f:Fr}{m:Mem}{a:Act}{o:Oper}{r:R2}
theorem yeo{ft:List Nat}(h:Wf m):Wf (m.only ft):=fun i b hb=>h i b (ydb.1 hb).2
theorem One.pure(h:One P f o m r)(hw:Wf m):OnePure m r:=by
 rcases h with⟨self,hself,h⟩|⟨fx,args,ats,g,first,captured,vs,v,m',ft,hop,hg,hvs,hs,hlow,rfl⟩
 .exact ywo hself h hw
 .have hn:=(hs (yeo hw)).1.next
  have hwf:=(hs (yeo hw)).1.wf
  have back:∀i b,¬(m.next<=i/\i<m'.next)->(m.grow m').b.get i=some b->m.b.get i=some b:=fun i b hn hb=>by
   rw[yij]at hb;split at hb
   .rename_i q;exact absurd ⟨q,hwf i b hb⟩ hn
   .exact hb
  exact⟨⟨hn,fun i b hb=>by
   rw[yij]at hb;split at hb
   .rename_i q;exact .inr ⟨q,hwf i b hb⟩
   .exact .inl ⟨b,hb⟩,fun i b _ hn hb=>back i b hn hb,fun i b hb=>by
   rw[yij]at hb;split at hb
   .exact hwf i b hb
   .exact zA (hw i b hb) hn⟩,zI _,fun i b ht hb=>back i b (yfz ht).1 hb,fun l hl i hi=>by cases hl;cases hi⟩
theorem One.plain(h:One P f o m r):∀c,o.op ≠ .defer c:=by
 rcases h with⟨self,hself,h⟩|⟨fx,args,ats,g,first,captured,vs,v,m',ft,hop,_⟩
 .exact ytn h
 .intro c q;rw[hop]at q;cases q
theorem yut{φ':Phi}{M':AM}{w':World}{m':Mem}{ft:List Nat}(hw:Wf m)(hlow:m.next<=m'.low)(hgd:Good φ M w (m.only ft) m' φ' M' w') :
 ∀i b,(if m.next<=i/\i<m'.next then M' i else M i)=some b->M' i=some b:=by
 intro i b hb;split at hb
 .exact hb
 .rename_i hn
  rw[hgd.frame i hn ?_]
  .exact hb
  .rcases zS i m.next with q|q
   .exact .inr (zA q hlow)
   .left
    cases hq:(m.only ft).b.get i with
    |none=>rfl
    |some x=>have:=yeo hw i x hq;exact absurd this (Nat.not_lt.2 q)
theorem One.seq (h:One P f o m r) (hw:Wf m) (hR:Rel φ M w) (hsub:Sub m M) (hf:FrR φ f a) (hfr:ygv φ m.next r.m.next) {K:Act->World->Prop}{Q:Exit->Act->World->Prop}
 (hK:∀v' w' φ' M',Good φ M w m r.m φ' M' w'->VR φ' r.v v'->K (a.put o.dst v') w'):o.wp P a w K Q:=by
 rcases h with⟨self,hself,h⟩|⟨fx,args,ats,g,first,captured,vs,v,m',ft,hop,hg,hvs,hs,hlow,rfl⟩
 .exact ybbs hself h hw hR hsub hf hfr hK
 .have hsound:=hs (yeo hw);obtain⟨m1,m2⟩:=yeb hop;obtain⟨x',y',e1,e2,e3⟩:=(hf.ov o fx m1 _ hg).func_inv;have hargs:=ydx (φ:=φ) (ρ:=a.eval) hvs (fun x hx=>hf.ov o x (m2 x hx));have hcall:=hsound.2 φ M w (x'++args.toList.map a.eval++y') hR (fun i b hb=>hsub i b (ydb.1 hb).2) ((e2.append hargs).append e3) hfr
  have hgood:∀{φ' M' w'},Good φ M w (m.only ft) m' φ' M' w'->Good φ M w m (m.grow m') φ' (fun i=>if m.next<=i/\i<m'.next then M' i else M i) w':=fun hgd =>
   ⟨hgd.le,hgd.out,hgd.rel.sub (yut hw hlow hgd),fun i b hb=>by
     rw[yij]at hb;split at hb
     .rename_i q;rw[if_pos ⟨q,hsound.1.wf i b hb⟩];exact hgd.sub i b hb
     .rw[if_neg (fun q=>by have:=hw i b hb;omega)];exact hsub i b hb,fun i hi _=>if_neg hi,hgd.wg.sub (yut hw hlow hgd)⟩
  unfold Oper.wp;rw[yli hop e1];rcases hcall with⟨hrun,hc⟩|⟨v',w',hrun,v'',hv'',φ',M',hgd,hvr⟩
  .rw[hrun,Oper.upon_enter];refine hc.mono ?_;rintro e w' ⟨v',rfl,φ',M',hgd,hvr⟩;exact hK v' w' φ' _ (hgood hgd) hvr
  .rw[hrun];cases hv''
   exact hK v' w' φ' _ (hgood hgd) hvr
theorem One.draw (h:One P f o m r) (hw:Wf m) (hR:Rel φ M w) (hneed:Need m r M) (hov:OV φ f o a.eval) (hfr:ygv φ m.next r.m.next) {K:Act->World->Prop}{Q:Exit->Act->World->Prop}
 (hK:∀v' w' φ',OneOk φ M w m r v' φ' w'->K (a.put o.dst v') w'):o.wp P a w K Q:=by
 rcases h with⟨self,hself,h⟩|⟨fx,args,ats,g,first,captured,vs,v,m',ft,hop,hg,hvs,hs,hlow,rfl⟩
 .exact ybra hself h hw hR hneed hov hfr hK
 .have hsound:=hs (yeo hw);obtain⟨m1,m2⟩:=yeb hop;obtain⟨x',y',e1,e2,e3⟩:=(hov fx m1 _ hg).func_inv;have hargs:=ydx (φ:=φ) (ρ:=a.eval) hvs (fun x hx=>hov x (m2 x hx));have hcall:=hsound.2 φ M w (x'++args.toList.map a.eval++y') hR (fun i b hb=>hneed i (ydb.1 hb).1 b (ydb.1 hb).2) ((e2.append hargs).append e3) hfr
  have hone:∀{φ' M' w' v'},Good φ M w (m.only ft) m' φ' M' w'->VR φ' v v'->OneOk φ M w m ⟨v,m.grow m',some ft,some []⟩ v' φ' w':=fun {φ' M' w' v'} hgd hv=>by
   have hsubM:∀i b,tM m ⟨v,m.grow m',some ft,some []⟩ M i=some b->M' i=some b:=by
    intro i b hb;unfold tM at hb;split at hb
    .rename_i ht
     rcases yge ht with t|⟨t,_⟩|⟨l,t1,t2⟩
     .rw[yij,if_pos t.1]at hb;exact hgd.sub i b hb
     .cases t
     .cases t1;cases t2
    .rename_i ht
     have ht:yee m ⟨v,m.grow m',some ft,some []⟩ i=false:=by simpa using ht
     refine yut hw hlow hgd i b ?_;rw[if_neg (show ¬(m.next<=i/\i<m'.next)from(yfz ht).1)]
     exact hb
   exact⟨hv,hgd.le,hgd.out,hgd.rel.sub hsubM,hgd.wg.sub hsubM⟩
  unfold Oper.wp;rw[yli hop e1];rcases hcall with⟨hrun,hc⟩|⟨v',w',hrun,v'',hv'',φ',M',hgd,hvr⟩
  .rw[hrun,Oper.upon_enter];refine hc.mono ?_;rintro e w' ⟨v',rfl,φ',M',hgd,hvr⟩;exact hK v' w' φ' (hone hgd hvr)
  .rw[hrun];cases hv''
   exact hK v' w' φ' (hone hgd hvr)
end
end Ev
end
section
namespace Ev
section
variable {P:Program}{self:Task->Option Out}{φ φ':Phi}{M M':AM}{w w':World}{f f':Fr}{m m' m'':Mem}{a:Act}
theorem Act.put_defers(a:Act)(d:Option Tmp)(v:Value):(a.put d v).defers=a.defers:=by cases d<;>rfl
structure Grow(m m':Mem):Prop where
 ext:Ext m m'
 low:m'.low<=m.low
theorem Grow.refl(h:Wf m):Grow m m:=⟨Ext.refl h,zI _⟩
theorem Grow.trans(a:Grow m m')(b:Grow m' m''):Grow m m'':=⟨Ext.trans b.low a.ext b.ext,zM b.low a.low⟩
theorem ybqa{ops:List Oper}{o:Oper}{l:List Oper}{x:FM}(h:evOps P self ops (o::l) f m=some x) :
 (wantedA ops f o=some false/\∃f1,f.put o.dst undef=some f1/\evOps P self ops l f1 m=some x) \/
 (wantedA ops f o=some true/\∃r f1,evOne P self f o m=some r/\f.put o.dst r.v=some f1/\evOps P self ops l f1 r.m=some x):=by
 change ob (wantedA ops f o) (evOps1 P self o (evOps P self ops l) f m)=some x at h
 obtain⟨b,hb,h2⟩:=yg h;cases b with
 | false =>
   left
   change putNext m (evOps P self ops l) (f.put o.dst undef)=some x at h2
   obtain⟨f1,h3,h4⟩:=yg h2;exact⟨hb,f1,h3,h4⟩
 | true =>
   right
   change (ob (evOne P self f o m) fun r=>putNext r.m (evOps P self ops l) (f.put o.dst r.v))=some x at h2
   obtain⟨r,h3,h4⟩:=yg h2;obtain⟨f1,h5,h6⟩:=yg h4;exact⟨hb,r,f1,h3,h5,h6⟩
theorem yml(hself:yex P self){ops:Array Oper}{rr:Option Nat}:∀(l:List Oper) (f:Fr) (m:Mem) (x:FM),evOps P self ops.toList l f m=some x->Wf m ->
 Grow m x.m/\∀φ M w a Q,Rel φ M w->Sub m M->FrR φ f a->ygv φ m.next x.m.next->(∀a' w' φ' M',Good φ M w m x.m φ' M' w'->FrR φ' x.f a'->a'.defers=a.defers->Q .normal a' w')->wpListIn (wr rr) 0 P ops Q l a w
 | [],f,m,x,h,hw=>by
   cases h
   exact⟨Grow.refl hw,fun φ M w a Q hR hs hf _ hQ=>hQ a w φ M (Good.refl hR hs) hf rfl⟩
 | o :: l,f,m,x,h,hw=>by
   rcases ybqa h with⟨hwant,f1,h1,h2⟩|⟨hwant,r,f1,h1,h2,h3⟩
   .obtain⟨g1,g2⟩:=yml hself l f1 m x h2 hw;refine⟨g1,fun φ M w a Q hR hs hf hfr hQ=>wpListIn_step fun K hK=>?_⟩;rw[yfr (φ:=φ) hwant (fun _ _ _ d v _ _ _ hv=>hf.get d v hv)];exact⟨fun _ _=>trivial,hK _ _ (g2 φ M w _ Q hR hs (hf.put h1 VR.undef) hfr fun a' w' φ' M' q1 q2 q3=>hQ a' w' φ' M' q1 q2 (q3.trans (Act.put_defers _ _ _)))⟩
   .have hp:=ywo hself h1 hw;obtain⟨g1,g2⟩:=yml hself l f1 r.m x h3 hp.ext.wf;refine⟨Grow.trans ⟨hp.ext,hp.low⟩ g1,fun φ M w a Q hR hs hf hfr hQ=>wpListIn_step fun K hK=>?_⟩;rw[yfr (φ:=φ) hwant (fun _ _ _ d v _ _ _ hv=>hf.get d v hv)];refine opIn (ytn h1) (ybbs hself h1 hw hR hs hf (hfr.left g1.ext.next) fun v' w' φ' M' hg hv=>hK _ _ ?_)
    refine g2 φ' M' w' _ Q hg.rel hg.sub ((hf.mono hg.le).put h2 hv) (hg.fresh hp.ext hfr) fun a' w'' φ'' M'' hg' hf' hd=>?_;exact hQ a' w'' φ'' M'' (Good.trans hp.ext g1.ext g1.low hg hg') hf' (hd.trans (Act.put_defers _ _ _))
def yda(P:Program)(c:Code)(f:Fr)(m:Mem)(e:Exit)(f':Fr)(m':Mem):Prop :=
 Grow m m'/\∀φ M w a r,InR r w->Rel φ M w->Sub m M->FrR φ f a->ygv φ m.next m'.next->c.wpIn (wr r) 0 P (ycly φ M w m e f' m' a) a w
theorem ydc(hself:yex P self){c:Code}{out:Out}(h:self (.code c f m)=some out)(hw:Wf m):∃e f' m',out = .code e f' m'/\yda P c f m e f' m':=by
 have:=hself _ _ h;cases out with
 |code e f' m'=>obtain⟨h1,h2,h3⟩:=this hw;exact⟨e,f',m',rfl,⟨h1,h2⟩,h3⟩
 |call v m'=>exact this.elim
theorem yda.seq{c d:Code}{f1 f2:Fr}{m1 m2:Mem}{e:Exit}(h1:yda P c f m .normal f1 m1)(h2:yda P d f1 m1 e f2 m2):yda P (.seq c d) f m e f2 m2:=by
 refine⟨h1.1.trans h2.1,fun φ M w a r hn hR hs hf hfr=>wpIn_seq (wpIn_mono (h1.2 φ M w a r hn hR hs hf (hfr.left h2.1.ext.next)) ?_)⟩
 rintro e' a' w' ⟨rfl,φ',M',hg,hf',hd⟩;refine wpIn_mono (h2.2 φ' M' w' a' r (hn.step hR hg.wg) hg.rel hg.sub hf' (hg.fresh h1.1.ext hfr)) ?_;rintro e' a'' w'' ⟨rfl,φ'',M'',hg',hf'',hd'⟩;exact⟨rfl,φ'',M'',Good.trans h1.1.ext h2.1.ext h2.1.low hg hg',hf'',hd.trans hg.wg.size hg.rel hg'.wg hd'⟩
theorem ylh{e:Exit}{K:Act->World->Prop}{Q:Exit->Act->World->Prop}{a:Act}{w:World}(he:e ≠ .normal)(h:Q e a w):Exit.then K Q e a w:=by
 cases e<;>first|exact absurd rfl he|exact h
theorem ysy{c:Code}{n:Nat}{out:Out}(h:evLoop self c (n+1) f m=some out) :
 (∃f1 m1,self (.code c f m)=some (.code .normal f1 m1)/\evLoop self c n f1 m1=some out)\/(self (.code c f m)=some out/\∀f1 m1,out ≠ .code .normal f1 m1):=by
 change ob (self (.code c f m)) (again (evLoop self c n))=some out at h
 obtain⟨o1,h1,h2⟩:=yg h;unfold again at h2;split at h2
 .rename_i f1 m1;exact .inl ⟨f1,m1,h1,h2⟩
 .rename_i hne;cases h2;exact .inr ⟨h1,fun f1 m1 e=>hne f1 m1 e⟩
theorem yqu(hself:yex P self){c:Code}{rr:Option Nat}:∀(n:Nat) (f:Fr) (m:Mem) (out:Out),evLoop self c n f m=some out->Wf m->∃e f' m',out = .code e f' m'/\Grow m m' /\
 ∀φ M w a Q,InR rr w->Rel φ M w->Sub m M->FrR φ f a->ygv φ m.next m'.next->(∀a' w' φ' M',Good φ M w m m' φ' M' w'->FrR φ' f' a'->Df w w' a a'->Q e a' w')->Code.roundsIn (wr rr) 0 P c Q n a w
 |0,f,m,out,h,hw=>by cases h
 | n + 1,f,m,out,h,hw=>by
   rcases ysy h with⟨f1,m1,h1,h2⟩|⟨h1,hne⟩
   .obtain⟨e0,f0,m0,he,hs1⟩:=ydc hself h1 hw;cases he
    obtain⟨e,f',m',rfl,hg2,hs2⟩:=yqu hself n f1 m1 out h2 hs1.1.ext.wf;refine⟨e,f',m',rfl,hs1.1.trans hg2,fun φ M w a Q hrr hR hs hf hfr hQ=>?_⟩;rw[roundsIn_succ];refine wpIn_mono (hs1.2 φ M w a rr hrr hR hs hf (hfr.left hg2.ext.next)) ?_
    rintro e' a' w' ⟨rfl,φ',M',hg,hf',hd⟩;exact hs2 φ' M' w' a' Q (hrr.step hR hg.wg) hg.rel hg.sub hf' (hg.fresh hs1.1.ext hfr) fun a'' w'' φ'' M'' hg' hf'' hd'=>hQ a'' w'' φ'' M'' (Good.trans hs1.1.ext hg2.ext hg2.low hg hg') hf'' (hd.trans hg.wg.size hg.rel hg'.wg hd')
   .obtain⟨e,f',m',rfl,hs1⟩:=ydc hself h1 hw;refine⟨e,f',m',rfl,hs1.1,fun φ M w a Q hrr hR hs hf hfr hQ=>?_⟩;rw[roundsIn_succ];refine wpIn_mono (hs1.2 φ M w a rr hrr hR hs hf hfr) ?_;rintro e' a' w' ⟨rfl,φ',M',hg,hf',hd⟩;exact ylh (by intro q;subst q;exact hne f' m' rfl) (hQ a' w' φ' M' hg hf' hd)
theorem ypa(hR:Rel φ M w)(hs:Sub m M)(hf:FrR φ f a):∀{l:List ResultVar}{vs:List Value},resA P m f l=some vs ->
 ∃ vs',VRL φ vs vs'/\(l.mapM (fun(x:ResultVar)=>match x with
   |.tmp t=>pure (a.tmps.getD t undef)
   |.cell ad t=>do loadVar t (<-asAddr (a.tmps.getD ad undef))):Sem (List Value)).run P w = .ok vs' w
 |[],vs,h=>by cases h;exact⟨[],.nil,rfl⟩
 | .tmp t::l,vs,h=>by
   unfold resA at h;split at h
   .rename_i v r hv hr
    cases h
    obtain⟨vs',e1,e2⟩:=ypa hR hs hf hr;refine⟨a.tmps.getD t undef::vs',.cons (hf.get t v hv) e1,?_⟩;simp only[zAT,zAJ,zAW,zAL,e2]
   .cases h
 | .cell ad t::l,vs,h=>by
   unfold resA at h;split at h
   .rename_i adr r hv hr
    split at h
    .rename_i v hl
     cases h
     obtain⟨vs',e1,e2⟩:=ypa hR hs hf hr;obtain⟨a',u,q1,q2,q3⟩:=ybfp hl hR (fun b=>hs adr.block b) (hf.get ad _ hv);refine⟨u::vs',.cons q3 e1,?_⟩;have hA:(asAddr (a.tmps.getD ad undef)).run P w = .ok a' w:=by rw[q1];rfl
     simp only[zAT,zAJ,hA,zAW,zAL,q2,e2]
    .cases h
   .cases h
theorem yyq{fn:Func}(hR:Rel φ M w)(hs:Sub m M)(hf:FrR φ f a){vs:List Value}(h:resA P m f fn.results.toList=some vs) :
 ∃v',(results fn a.tmps).run P w = .ok v' w/\VR φ (oneOrTuple vs) v':=by
 obtain⟨vs',e1,e2⟩:=ypa hR hs hf h
 have hrun:(fn.results.mapM (fun(x:ResultVar)=>match x with
  |.tmp t=>pure (a.tmps.getD t undef)
  |.cell ad t=>do loadVar t (<-asAddr (a.tmps.getD ad undef))):Sem (Array Value)).run P w = .ok vs'.toArray w:=by
  rw[Array.mapM_eq_mapM_toList,Sem.run_map,e2];rfl
 refine⟨if h:vs'.toArray.size=1 then vs'.toArray[0]else .tuple vs'.toArray,?_,?_⟩
 .unfold results;rw[zAJ]
  erw [hrun]
  rfl
 .have hlen:=e1.length;unfold oneOrTuple;split
  .rename_i v
   obtain⟨v',rfl,q⟩:=ygi e1
   simpa using q
  .rename_i hne
   rw[dif_neg]
   .exact VR.tuple e1
   .intro hq;simp at hq;rw[hq]at hlen
    match vs,hlen,hne with
    |[v],_,hne=>exact hne v rfl
def ypr (P : Program) : Prop := ∀ (g : FuncId) (fn : Func), P.funcs[g]? = some fn -> fn.body.isSome = true -> (fn.name == "runtime.NumGoroutine") = false
theorem yug{args args':List Value}(h:VRL φ args args')(n:Nat) :
 FrR φ ⟨Nat.max args.length n,tOf args⟩ { tmps:=args'.toArray++zAO (n-args'.toArray.size) undef,defers:=[] }:=by
 have hl:=h.length;refine⟨by show _=max args.length n;simp;omega,fun t v hv=>?_⟩
 obtain⟨v',h1,h2⟩:=h.get (yko hv)
 have hlt:t<args'.length:=by
  rcases zS t args'.length with q|q
  .exact q
  .rw[zV q]at h1;cases h1
 have:(args'.toArray++zAO (n-args'.toArray.size) undef).getD t undef=v':=by
  rw[zF,Array.getElem?_append_left (by simpa using hlt)]
  simp[h1]
 rw[this];exact h2
theorem ybx(hn:ypr P){g:FuncId}{fn:Func}{c:Code}(hg:P.funcs[g]?=some fn)(hb:fn.body=some c)(args:Array Value)(w:World):(callFunc g args).run P w = .ok (.enter g args) w:=by
 have h1:=hn g fn hg (by rw[hb];rfl)
 have h2 : ¬ (fn.name = "runtime.NumGoroutine") := by simpa using h1
 simp[callFunc,program,Sem.run,hg,hb,h2]
theorem yqj{fn:Func}{vs:List Value}{ds:List Deferred}:∀{w':World}{M':AM}{φ':Phi},Good φ M w m m' φ' M' w'->FrR φ' f a->resA P m' f fn.results.toList=some vs ->
 Marks w.heap.size w' ds->LeavesInM Fence.wide 0 P fn a.tmps (fun e w'=>∃v',e = .returned v'/\∃φ' M',Good φ M w m m' φ' M' w'/\VR φ' (oneOrTuple vs) v') ds .returning w':=by
 induction ds with
 | nil =>
   intro w' M' φ' hgd hf hvs _;obtain⟨v',r1,r2⟩:=yyq hgd.rel hgd.sub hf hvs;exact⟨v',r1,v',rfl,φ',M',hgd,r2⟩
 | cons d ds ih =>
   intro w' M' φ' hgd hf hvs hm;obtain⟨D,h1,h2,h3⟩:=hm.2 d (zH ..);have hpw:=List.pairwise_cons.1 hm.1;have hkeep:∀k,Img φ' M' k->(w'.putObj D (.deferred none)).heap[k]?=w'.heap[k]?:=fun k hk=>World.putObj_heap_other (fun q=>Img.not_deferred hgd.rel h3 (q▸hk));refine⟨by simp,.inl ⟨D,w'.putObj D (.deferred none),h2,run_takeDeferred h3,ih ⟨hgd.le,hgd.out,⟨⟨fun i b hb=>?_,hgd.rel.inj⟩,fun x hx=>⟨?_,(hgd.rel.gl x hx).2⟩⟩,hgd.sub,hgd.frame,?_⟩ hf hvs ⟨hpw.2,fun x hx=>?_⟩⟩⟩
   .obtain⟨l,q1,q2⟩:=hgd.rel.blk i b hb;exact⟨l,q1,q2.keep (hkeep _ ⟨i,b,l,hb,q1,rfl⟩)⟩
   .obtain⟨e,fz,q⟩:=(hgd.rel.gl x hx).1;exact⟨e,fz,(World.putObj_heap_other fun z=>by rw[z,h3]at q;cases q).trans q⟩
   .have hg:=hgd.wg;refine⟨hg.os,hg.tape,hg.output,by simp;exact hg.size,fun k hk hn=>?_,hg.img⟩
    rw[World.putObj_heap_other (by omega)]
    exact hg.keep k hk hn
   .obtain⟨D',k1,k2,k3⟩:=hm.2 x (zJ _ hx);refine⟨D',k1,k2,?_⟩;rw[World.putObj_heap_other ?_]
    .exact k3
    .rintro rfl;exact hpw.1 x hx (h2.trans k2.symm)
theorem yzz(hn:ypr P)(hself:yex P self){g:FuncId}{fn:Func}{args:List Value}{out:Out}(hg:P.funcs[g]?=some fn)(h:enterFn P self args m fn=some out):ycb P (.call g args m) out:=by
 unfold enterFn at h;obtain⟨c,hc,h2⟩:=yg h;unfold enterBody at h2;rw[ybp,T.strict_eq]at h2;obtain⟨o1,h3,h4⟩:=yg h2
 clear h h2
 have hleave:∀(f1:Fr) (m1:Mem) (e:Exit),(e = .normal\/e = .ret)->o1 = .code e f1 m1->leaveFn P m fn.results.toList f1 m1=some out->ycb P (.call g args m) out:=by
  intro f1 m1 e he ho h5;subst ho;unfold leaveFn at h5;obtain⟨vs,hvs,h6⟩:=yg h5;cases h6
  have hwf:Wf m->Wf (enterM m):=fun h=>h
  have key:Wf m->Grow (enterM m) m1/\∀φ M w args',Rel φ M w->Sub m M->VRL φ args args'->ygv φ m.next m1.next ->
   Calls P g args'.toArray w (fun e w'=>∃v',e = .returned v'/\∃φ' M',Good φ M w (enterM m) m1 φ' M' w'/\VR φ' (oneOrTuple vs) v'):=by
   intro hw;obtain⟨e0,f0,m0,heq,hs1⟩:=ydc hself h3 (hwf hw);cases heq
   refine⟨hs1.1,fun φ M w args' hR hs hv hfr=>callsIn_wide.1 (callsIn_of_wp_marks (n:=0) hg hc trivial ?_)⟩;refine wpIn_mono (hs1.2 φ M w _ none (InR.none _) hR hs (yug hv fn.ntmps) hfr) ?_;rintro e' a' w' ⟨rfl,φ',M',hgd,hf',hd⟩;obtain⟨ms,hms,hmk⟩:=hd;have hl:=yqj hgd hf' hvs hmk;rw[show ms=a'.defers by rw[hms];simp]at hl
   rcases he with rfl|rfl
   .exact hl
   .exact hl
  unfold leave;rw[ybe];split
  .rename_i hcond
   simp only[zC]at hcond;have hlow:=zD hcond.1;intro hw;obtain⟨k1,k2⟩:=key hw;refine⟨⟨k1.ext.next,fun i b hb=>.inl ⟨b,hb⟩,fun i b _ _ hb=>hb,fun i b hb=>zA (hw i b hb) k1.ext.next⟩,fun φ M w args' hR hs hv hfr=>.inl ⟨ybx hn hg hc _ _,?_⟩⟩
   refine(k2 φ M w args' hR hs hv hfr).mono ?_;rintro e' w' ⟨v',rfl,φ',M',hgd,hvr⟩;have hfr':∀i,¬(m.next<=i/\i<m1.next)->(m.b.get i=none\/i<m1.low)->M' i=M i:=hgd.frame
   refine⟨v',rfl,φ',M',⟨hgd.le,hgd.out,hgd.rel,fun i b hb=>?_,hfr',hgd.wg⟩,hvr⟩;have hi:=hw i b hb;rw[hfr' i (fun q=>by omega) (.inr (zA hi hlow))]
   exact hs i b hb
  .intro hw;obtain⟨k1,k2⟩:=key hw;refine⟨⟨k1.ext.next,k1.ext.dom,k1.ext.old,k1.ext.wf⟩,fun φ M w args' hR hs hv hfr=>.inl ⟨ybx hn hg hc _ _,?_⟩⟩
   refine(k2 φ M w args' hR hs hv hfr).mono ?_;rintro e' w' ⟨v',rfl,φ',M',hgd,hvr⟩;exact⟨v',rfl,φ',M',⟨hgd.le,hgd.out,hgd.rel,hgd.sub,hgd.frame,hgd.wg⟩,hvr⟩
 unfold endFn at h4;split at h4
 .rename_i f1 m1;exact hleave f1 m1 .normal (.inl rfl) rfl h4
 .rename_i f1 m1;exact hleave f1 m1 .ret (.inr rfl) rfl h4
 .cases h4
end
end Ev
end
section
namespace Ev
section
variable {P:Program}{self:Task->Option Out}{f:Fr}{m:Mem}
structure Ent where
 f:Fr
 m:Mem
 w:Bool
 r:R2
def yciq(P:Program)(ops:List Oper)(o:Oper)(e:Ent):Prop :=
 wantedA ops e.f o=some e.w/\(e.w=true->One P e.f o e.m e.r)/\(e.w=false->e.r=⟨undef,e.m,some [],some []⟩)
def Ent.rec'(i:Nat)(e:Ent):Rec:=⟨i,e.r.foot,e.r.mods,e.m.next,e.r.m.next⟩
def Ent.idle(e:Ent):Bool:=Ev.idle e.r e.m.next e.r.m.next
def Ap(i j:Nat)(e q:Ent):Prop:=e.idle=true\/q.idle=true\/apart2 (e.rec' i) (q.rec' j)=true
theorem yof{e:Ent}(h:e.r=⟨undef,e.m,some [],some []⟩):e.idle=true:=by
 unfold Ent.idle Ev.idle;rw[h];show zAD e.m.next e.m.next=true
 exact zAX _
inductive Trace (P:Program) (ops:List Oper) (x:FM):List Oper->List Ent->Fr->Mem->Prop
 |nil:Trace P ops x [] [] x.f x.m
 |cons {o:Oper}{l:List Oper}{e:Ent}{es:List Ent}{f1:Fr}(he:yciq P ops o e) (hp:e.f.put o.dst e.r.v=some f1) (h:Trace P ops x l es f1 e.r.m):Trace P ops x (o::l) (e::es) e.f e.m
theorem yre(hself:yex P self){ops:List Oper}{x:FM}:∀{l:List Oper}{i:Nat}{an:List Nat}{rs:List Rec}{f:Fr}{m:Mem},evDraw P self ops l i an rs f m=some x ->
 ∃ es,Trace P ops x l es f m/\(∀k e,es[k]?=some e->∀rc∈rs,zL (an.getD k 0) rc.i=true\/e.idle=true\/apart2 (e.rec' (i+k)) rc=true) /\
   (∀k q e d,q<k->es[k]?=some e->es[q]?=some d->zL (an.getD k 0) (i+q)=true\/Ap (i+k) (i+q) e d)
 | [],i,an,rs,f,m,h=>by
   cases h
   exact⟨[],.nil,by simp,by simp⟩
 | o :: l,i,an,rs,f,m,h=>by
   unfold evDraw at h;obtain⟨b,hb,h2⟩:=yg h;have hget:∀k,an.getD (k+1) 0=an.tail.getD k 0:=fun k=>by cases an<;>simp[zAU]
   have hhead:an.getD 0 0=an.headD 0:=by cases an<;>rfl
   have join : ∀(e:Ent) (f1:Fr) (rs':List Rec),e.f=f->e.m=m->yciq P ops o e->e.f.put o.dst e.r.v=some f1->evDraw P self ops l (zN i) an.tail rs' f1 e.r.m=some x ->
    (∀rc∈rs,rc∈rs')->(e.idle=true\/(e.rec' i∈rs'/\∀rc∈rs,zL (an.headD 0) rc.i=true\/apart2 (e.rec' i) rc=true)) ->
    ∃ es,Trace P ops x (o::l) es f m/\(∀k e,es[k]?=some e->∀rc∈rs,zL (an.getD k 0) rc.i=true\/e.idle=true\/apart2 (e.rec' (i+k)) rc=true) /\
      (∀k q e d,q<k->es[k]?=some e->es[q]?=some d->zL (an.getD k 0) (i+q)=true\/Ap (i+k) (i+q) e d):=by
    intro e f1 rs' hef hem hok hput hev hsub hcase;obtain⟨es,t1,t2,t3⟩:=yre hself hev;subst hef hem;refine⟨e::es,.cons hok hput t1,fun k e' hk rc hrc=>?_,fun k q e' d hlt hk hq=>?_⟩
    .cases k with
     | zero =>
       simp at hk;subst hk;rw[hhead];rcases hcase with h|⟨_,h⟩
       .exact .inr (.inl h)
       .rcases h rc hrc with h|h
        .exact .inl h
        .exact .inr (.inr h)
     | succ k =>
       rw[hget];have:=t2 k e' (by simpa using hk) rc (hsub rc hrc)
       rw[show i+(k+1)=zN i+k by omega]
       exact this
    .cases k with
     |zero=>omega
     | succ k =>
       rw[hget,show i+(k+1)=zN i+k by omega]
       cases q with
       | zero =>
         simp at hq;subst hq;rcases hcase with h|⟨h,_⟩
         .exact .inr (.inr (.inl h))
         .rcases t2 k e' (by simpa using hk) _ h with h|h|h
          .exact .inl h
          .exact .inr (.inl h)
          .exact .inr (.inr (.inr h))
       | succ q =>
         rw[show i+(q+1)=zN i+q by omega]
         exact t3 k q e' d (by omega) (by simpa using hk) (by simpa using hq)
   cases b with
   | false =>
     change putNext m (evDraw P self ops l (zN i) an.tail rs) (f.put o.dst undef)=some x at h2
     obtain⟨f1,h3,h4⟩:=yg h2;exact join ⟨f,m,false,⟨undef,m,some [],some []⟩⟩ f1 rs rfl rfl ⟨hb,fun h=>(by cases h),fun _=>rfl⟩ h3 h4 (fun _ h=>h) (.inl (yof rfl))
   | true =>
     change ob (evOne P self f o m) (evDraw2 o i (an.headD 0) rs (evDraw P self ops l (zN i) an.tail) f m)=some x at h2
     obtain⟨r,h3,h4⟩:=yg h2;unfold evDraw2 at h4;rw[ybe]at h4;split at h4
     .rename_i hidle
      obtain⟨f1,h5,h6⟩:=yg h4;exact join ⟨f,m,true,r⟩ f1 rs rfl rfl ⟨hb,fun _=>.inl ⟨self,hself,h3⟩,fun h=>(by cases h)⟩ h5 h6 (fun _ h=>h) (.inl hidle)
     .unfold evDraw3 at h4;obtain⟨hall,h5⟩:=ybd h4;obtain⟨f1,h6,h7⟩:=yg h5;refine join ⟨f,m,true,r⟩ f1 _ rfl rfl ⟨hb,fun _=>.inl ⟨self,hself,h3⟩,fun h=>(by cases h)⟩ h6 h7 (fun _ h=>zJ _ h) (.inr ⟨zH,fun rc hrc=>?_⟩)
      have:=List.all_eq_true.1 hall rc hrc;rw[zW]at this;exact this
end
noncomputable def anL(ops:List Oper)(i:Nat):Nat:=((ancs ops []).reverse).getD i 0
theorem yte:∀(l:List Oper) (acc:List Nat),∃new:List Nat,ancs l acc=new++acc/\new.length=l.length /\
 ∀i o,l[i]?=some o->new.reverse[i]?=some (ancOf o ((new.reverse.take i).reverse++acc))
 |[],acc=>⟨[],rfl,rfl,by simp⟩
 | o :: l,acc=>by
   obtain⟨new,h1,h2,h3⟩:=yte l (ancOf o acc::acc);refine⟨new++[ancOf o acc],by rw[ancs,h1];simp,by simp[h2],fun i o' hi=>?_⟩
   cases i with
   |zero=>simp at hi;subst hi;simp
   | succ i =>
     have:=h3 i o' (by simpa using hi)
     simp only[List.reverse_append,List.reverse_cons,List.reverse_nil,List.nil_append,List.singleton_append,List.getElem?_cons_succ,List.take_succ_cons,zAK];exact this
theorem yclc{ops:List Oper}{i:Nat}{o:Oper}(h:ops[i]?=some o):anL ops i=ancOf o ((((ancs ops []).reverse).take i).reverse):=by
 obtain⟨new,h1,h2,h3⟩:=yte ops [];have:=h3 i o h;unfold anL;rw[h1];simp only[List.append_nil]at this ⊢;rw[zAU,this];rfl
theorem yxm(acc:List Nat):∀(es:List Edge) (s:Nat) (q:Nat),zL (es.foldl (fun s e=>bif Region.binds .any e then s|||2^e.on|||acc.getD (acc.length-1-e.on) 0 else s) s) q=true ->
 zL s q=true\/∃e∈es,Region.binds .any e=true/\(q=e.on\/zL (acc.getD (acc.length-1-e.on) 0) q=true)
 |[],s,q,h=>.inl h
 | e :: es,s,q,h=>by
   rw[zX]at h;rcases yxm acc es _ q h with h|⟨e',h1,h2⟩
   .cases hb:Region.binds .any e with
    |false=>rw[hb]at h;exact .inl h
    | true =>
      rw[hb]at h;simp only[cond_true,Nat.testBit_or,zW]at h;rcases h with(h|h)|h
      .exact .inl h
      .right
       rw[Nat.testBit_two_pow]at h;exact⟨e,zH,hb,.inl (by simpa using Eq.symm (by simpa using h))⟩
      .exact .inr ⟨e,zH,hb,.inr h⟩
   .exact .inr ⟨e',zJ _ h1,h2⟩
theorem yblc{ops:List Oper}{i q:Nat}{o:Oper}(h:ops[i]?=some o)(hon:∀e∈o.after.toList,Region.binds .any e=true->e.on<i)(hq:zL (anL ops i) q=true) :
 ∃e∈o.after.toList,Region.binds .any e=true/\(q=e.on\/zL (anL ops e.on) q=true):=by
 rw[yclc h]at hq;unfold ancOf at hq;rcases yxm _ _ 0 q hq with h0|⟨e,h1,h2,h3⟩
 .simp at h0
 .refine⟨e,h1,h2,h3.imp id fun h3=>?_⟩;have hlt:=hon e h1 h2
  have hi:i<ops.length:=by
   rcases zS i ops.length with q|q
   .exact q
   .rw[zV q]at h;cases h
  obtain⟨new,g1,g2,_⟩:=yte ops [];have hlen:((ancs ops []).reverse.take i).length=i:=by rw[g1];simp[g2];omega
  unfold anL;rw[zAU,List.length_reverse,hlen]at h3;rw[List.getElem?_reverse (by rw[hlen];omega),hlen,show i-1-(i-1-e.on)=e.on by omega,List.getElem?_take_of_lt hlt]at h3
  exact h3
theorem ybie{ops:List Oper}{an:List Nat}(h:slotsOk ops an=true){i:Nat}{o:Oper}(ho:ops[i]?=some o):∀e∈o.after.toList,Region.binds .any e=true->e.on<i:=by
 intro e he hb;unfold slotsOk at h;have:=List.all_eq_true.1 h (o,i) (List.mem_zipIdx_iff_getElem?.2 (by simpa using ho))
 simp only[zC]at this;have:=List.all_eq_true.1 this.1 e he;rw[hb]at this;simp at this;exact this
theorem ybgw{ops:List Oper}{an:List Nat}(h:slotsOk ops an=true){i j:Nat}{o o':Oper}(ho:ops[i]?=some o)(ho':ops[j]?=some o')(hlt:j<i):zL (an.getD i 0) j=true\/dstApart ops o o'=true:=by
 unfold slotsOk at h;have:=List.all_eq_true.1 h (o,i) (List.mem_zipIdx_iff_getElem?.2 (by simpa using ho))
 simp only[zC]at this;have:=List.all_eq_true.1 this.2 (o',j) (List.mem_zipIdx_iff_getElem?.2 (by simpa using ho'))
 simp only[zW]at this;rcases this with(h1|h1)|h1
 .have:=zD h1;omega
 .exact .inl h1
 .exact .inr h1
end Ev
end
section
namespace Ev
theorem yxe:∀{l k:List Nat},l.Pairwise (· < ·)->k.Pairwise (· < ·)->(∀x,x∈l↔x∈k)->l=k
 |[],[],_,_,_=>rfl
 |[],y::k,_,_,h=>absurd ((h y).2 zH) (by simp)
 |x::l,[],_,_,h=>absurd ((h x).1 zH) (by simp)
 | x :: l,y::k,hl,hk,h=>by
   rw[List.pairwise_cons]at hl hk
   have hxy:x=y:=by
    rcases List.mem_cons.1 ((h x).1 zH)with e|e
    .exact e
    .rcases List.mem_cons.1 ((h y).2 zH)with e'|e'
     .exact e'.symm
     .have:=hk.1 x e;have:=hl.1 y e';omega
   subst hxy;congr 1;refine yxe hl.2 hk.2 fun z=>⟨fun hz=>?_,fun hz=>?_⟩
   .rcases List.mem_cons.1 ((h z).1 (zJ _ hz))with e|e
    .subst e;exact absurd (hl.1 z hz) (zAV _)
    .exact e
   .rcases List.mem_cons.1 ((h z).2 (zJ _ hz))with e|e
    .subst e;exact absurd (hk.1 z hz) (zAV _)
    .exact e
def last{α:Type}(τ:Nat->Bool)(v:Nat->α)(a:α)(s:List Nat):α:=s.foldl (fun acc j=>if τ j=true then v j else acc) a
theorem ybbn{α:Type}(τ:Nat->Bool)(v:Nat->α)(a:α)(s:List Nat)(j:Nat):last τ v a (s++[j])=if τ j=true then v j else last τ v a s:=by
 simp[last,List.foldl_append]
theorem ydg{α:Type}(τ:Nat->Bool)(v:Nat->α):∀(s:List Nat) (a:α),last τ v a s=last τ v a (s.filter τ)
 |[],a=>rfl
 | j :: s,a=>by
   cases h:τ j with
   |true=>rw[List.filter_cons_of_pos h];simp only[last,zX,h,if_true];exact ydg τ v s (v j)
   | false =>
     rw[List.filter_cons_of_neg (by simp[h])]
     have:=ydg τ v s a;simp only[last,zX,h]at this ⊢
     simpa using this
theorem last_none{α:Type}(τ:Nat->Bool)(v:Nat->α):∀(s:List Nat) (a:α),(∀j∈s,τ j=false)->last τ v a s=a
 |[],a,_=>rfl
 | j::s,a,h=>by
   have h1:=h j zH;have:=last_none τ v s a fun k hk=>h k (zJ _ hk);simp only[last,zX,h1]at this ⊢
   simpa using this
abbrev anc(ops:List Oper)(i q:Nat):Prop:=zL (anL ops i) q=true
structure Ord(ops:Array Oper)(s:List Nat):Prop where
 nd:s.Nodup
 lt:∀i∈s,i<ops.size
 closed:∀i∈s,∀o,ops[i]?=some o->∀e∈o.after.toList,Region.binds .any e=true->e.on∈s
 pw:s.Pairwise fun x y=>¬anc ops.toList x y
section
variable {ops:Array Oper}{s:List Nat}
theorem yoh(hon:∀i o,ops[i]?=some o->∀e∈o.after.toList,Region.binds .any e=true->e.on<i)(h:Ord ops s):∀(i:Nat),i∈s->∀q,anc ops.toList i q->q∈s:=by
 intro i
 induction i using zAP with
 | _ i ih =>
   intro hi q hq;have hlt:=h.lt i hi;have ho:ops[i]?=some ops[i]:=zAB hlt;obtain⟨e,h1,h2,h3⟩:=yblc (ops:=ops.toList) (by rw[zT];exact ho) (hon i _ ho) hq
   have hmem:=h.closed i hi _ ho e h1 h2;rcases h3 with rfl|h3
   .exact hmem
   .exact ih e.on (hon i _ ho e h1 h2) hmem q h3
theorem ybnx(hon:∀i o,ops[i]?=some o->∀e∈o.after.toList,Region.binds .any e=true->e.on<i)(h:Ord ops s){j:Nat}{o:Oper}(ho:ops[j]?=some o)(hj:∀e∈o.after.toList,Region.binds .any e=true->e.on∈s){q:Nat}(hq:anc ops.toList j q):q∈s:=by
 obtain⟨e,h1,h2,h3⟩:=yblc (ops:=ops.toList) (by rw[zT];exact ho) (hon j _ ho) hq
 rcases h3 with rfl|h3
 .exact hj e h1 h2
 .exact yoh hon h e.on (hj e h1 h2) q h3
theorem Ord.nil:Ord ops []:=⟨List.nodup_nil,by simp,by simp,List.Pairwise.nil⟩
theorem Ord.snoc(hon:∀i o,ops[i]?=some o->∀e∈o.after.toList,Region.binds .any e=true->e.on<i)(h:Ord ops s){j:Nat}{o:Oper}(ho:ops[j]?=some o)(hns:j∉s)(hj:∀e∈o.after.toList,Region.binds .any e=true->e.on∈s):Ord ops (s++[j]):=by
 refine⟨?_,fun i hi=>?_,fun i hi o' ho' e he hb=>?_,?_⟩
 .rw[List.nodup_append];exact⟨h.nd,by simp,fun x hx y hy=>by simp at hy;subst hy;intro e;subst e;exact hns hx⟩
 .rcases List.mem_append.1 hi with hi|hi
  .exact h.lt i hi
  .simp at hi;subst hi;exact(Array.getElem?_eq_some_iff.1 ho).1
 .rcases List.mem_append.1 hi with hi|hi
  .exact zY _ (h.closed i hi o' ho' e he hb)
  .simp at hi;subst hi;rw[ho]at ho';cases ho'
   exact zY _ (hj e he hb)
 .rw[zAI];refine⟨h.pw,by simp,fun x hx y hy=>?_⟩
  simp at hy;subst hy;exact fun q=>hns (yoh hon h x hx y q)
theorem filter_eq(h:Ord ops s){τ:Nat->Bool}{j:Nat}(h1:∀q k,q<k->k<ops.size->τ q=true->τ k=true->anc ops.toList k q)(h2:∀q∈s,τ q=true->q<j)(h3:∀q,q<j->τ q=true->q∈s):s.filter τ=(zG j).filter τ:=by
 refine yxe ?_ (List.Pairwise.filter _ List.pairwise_lt_range) fun x=>?_
 .have hp:(s.filter τ).Pairwise (fun x y=>¬anc ops.toList x y/\x≠y):=by
   refine List.Pairwise.filter _ ?_;exact h.pw.and h.nd
  refine List.Pairwise.imp_of_mem ?_ hp;intro x y hx hy hxy;rw[zAH]at hx hy;rcases zZ x y with q|q|q
  .exact q
  .exact absurd q hxy.2
  .exact absurd (h1 y x q (h.lt x hx.1) hy.2 hx.2) hxy.1
 .rw[zAH,zAH,List.mem_range];exact⟨fun q=>⟨h2 x q.1 q.2,q.2⟩,fun q=>⟨h3 x q.1 q.2,q.2⟩⟩
end
section
variable {P:Program}{self:Task->Option Out}{x:FM}
theorem Trace.run{ops:List Oper}:∀{l:List Oper}{es:List Ent}{f:Fr}{m:Mem},Trace P ops x l es f m->∃(F:Nat->Fr) (G:Nat->Mem),F 0=f/\G 0=m/\F l.length=x.f/\G l.length=x.m /\
 ∀k o,l[k]?=some o->∃e,es[k]?=some e/\yciq P ops o e/\e.f=F k/\e.m=G k/\e.r.m=G (k+1)/\e.f.put o.dst e.r.v=some (F (k+1))
 |_,_,_,_,.nil=>⟨fun _=>x.f,fun _=>x.m,rfl,rfl,rfl,rfl,by simp⟩
 | _,_,_,_,.cons (o:=o) (l:=l) (e:=e) (es:=es) (f1:=f1) he hp h=>by
   obtain⟨F,G,h1,h2,h3,h4,h5⟩:=Trace.run h;refine⟨fun k=>match k with|0=>e.f|k+1=>F k,fun k=>match k with|0=>e.m|k+1=>G k,rfl,rfl,h3,h4,fun k o' hk=>?_⟩
   cases k with
   |zero=>simp at hk;subst hk;exact⟨e,rfl,he,rfl,rfl,h2.symm,by rw[hp];exact congrArg some h1.symm⟩
   |succ k=>exact h5 k o' (by simpa using hk)
end
end Ev
end
section
namespace Ev
section
variable {P:Program}{self:Task->Option Out}
def needs(m:Mem)(r:R2)(i:Nat):Prop:=match r.foot with
 |none=>∃b,m.b.get i=some b
 |some ft=>i∈ft
structure Sep(m:Mem)(r:R2)(m':Mem)(r':R2):Prop where
 s1:∀i,needs m r i->yee m' r' i=false
 s2:∀i,needs m' r' i->yee m r i=false
 s3:∀i,yee m' r' i=true->yee m r i=false
theorem yhe{m:Mem}{r:R2}(h1:r.mods=some [])(h2:m.next=r.m.next)(i:Nat):yee m r i=false:=by
 cases h:yee m r i with
 |false=>rfl
 | true =>
   rcases yge h with t|⟨t,_⟩|⟨l,t1,t2⟩
   .omega
   .rw[h1]at t;cases t
   .rw[h1]at t1;cases t1;cases t2
theorem ywj{r:R2}{lo hi:Nat}(h:Ev.idle r lo hi=true):r.foot=some []/\r.mods=some []/\lo=hi:=by
 unfold Ev.idle at h;split at h
 .rename_i h1 h2;exact⟨h1,h2,zB h⟩
 .cases h
theorem yjo{a b:Rec}(h:before1 a b=true):∃ms,b.mods=some ms/\((a.foot=none/\ms=[]/\b.lo=b.hi)\/∃fs,a.foot=some fs/\∀x∈fs,x∉ms/\¬(b.lo<=x/\x<b.hi)):=by
 unfold before1 at h;split at h
 .cases h
 .rename_i ms hms
  refine⟨ms,hms,?_⟩;split at h
  .rename_i hf
   simp only[zC]at h;exact .inl ⟨hf,by simpa using h.1,zB h.2⟩
  .rename_i fs hf
   refine .inr ⟨fs,hf,fun x hx=>?_⟩;have:=List.all_eq_true.1 h x hx;simp only[zC,zAA,zU]at this;refine⟨by simpa using this.1,fun q=>?_⟩
   rcases this.2 with t|t
   .rw[zK q.1]at t;cases t
   .rw[show zAS x b.hi=true from zK q.2]at t;cases t
theorem ytx{i j:Nat}{e q:Ent}(h:before1 (e.rec' i) (q.rec' j)=true):∀k,needs e.m e.r k->yee q.m q.r k=false:=by
 intro k hk;obtain⟨ms,h1,h2⟩:=yjo h;have h1:q.r.mods=some ms:=h1;rcases h2 with⟨h2,h3,h4⟩|⟨fs,h2,h3⟩
 .subst h3;exact yhe h1 h4 k
 .have h2:e.r.foot=some fs:=h2;unfold needs at hk;rw[h2]at hk;obtain⟨t1,t2⟩:=h3 k hk;cases ht:yee q.m q.r k with
  |false=>rfl
  | true =>
    rcases yge ht with t|⟨t,_⟩|⟨l,t3,t4⟩
    .exact absurd t t2
    .rw[h1]at t;cases t
    .rw[h1]at t3;cases t3;exact absurd t4 t1
theorem ymr{f:Fr}{o:Oper}{m:Mem}{r:R2}(h:evOne P self f o m=some r){l:List Nat}(hl:r.mods=some l){i:Nat}(hi:i∈l):needs m r i:=by
 rcases yho h with⟨r0,h1,rfl⟩|⟨fx,args,ats,g,first,captured,vs,v,m',hop,hg,hvs,hs,rfl⟩
 .cases hl;exact(ybai h1 i hi).1
 .rw[ybe]at hl;split at hl
  .cases hl;cases hi
  .cases hl
theorem ybak{f:Fr}{o:Oper}{m:Mem}{r:R2}(h:evOne P self f o m=some r){l:List Nat}(hl:r.mods=some l){i:Nat}(hi:i∈l):r.m.low<=i:=by
 rcases yho h with⟨r0,h1,rfl⟩|⟨fx,args,ats,g,first,captured,vs,v,m',hop,hg,hvs,hs,rfl⟩
 .cases hl;exact(ysz m r0.e).2 i hi
 .rw[ybe]at hl;split at hl
  .cases hl;cases hi
  .cases hl
theorem One.ymr{f:Fr}{o:Oper}{m:Mem}{r:R2}(h:One P f o m r){l:List Nat}(hl:r.mods=some l){i:Nat}(hi:i∈l):needs m r i:=by
 rcases h with⟨self,_,h⟩|⟨fx,args,ats,g,first,captured,vs,v,m',ft,hop,hg,hvs,hs,hlow,rfl⟩
 .exact Ev.ymr h hl hi
 .cases hl;cases hi
theorem One.ybak{f:Fr}{o:Oper}{m:Mem}{r:R2}(h:One P f o m r){l:List Nat}(hl:r.mods=some l){i:Nat}(hi:i∈l):r.m.low<=i:=by
 rcases h with⟨self,_,h⟩|⟨fx,args,ats,g,first,captured,vs,v,m',ft,hop,hg,hvs,hs,hlow,rfl⟩
 .exact Ev.ybak h hl hi
 .cases hl;cases hi
theorem ybcr (hmix:P.follows .mixedOrders=true) {rr:Option Nat}{ops:Array Oper}{f:Fr}{m:Mem}{x:FM}(hslots:slotsOk ops.toList (ancs ops.toList []).reverse=true)
 {es:List Ent}(htr:Trace P ops.toList x ops.toList es f m) (hap:∀k q e d,q<k->es[k]?=some e->es[q]?=some d->zL ((ancs ops.toList []).reverse.getD k 0) (0+q)=true\/Ap (0+k) (0+q) e d) (hw:Wf m) :
 Grow m x.m/\∀(id:Nat) φ M w a Q,Rel φ M w->Sub m M->FrR φ f a->ygv φ m.next x.m.next->(∀a' w' φ' M',Good φ M w m x.m φ' M' w'->FrR φ' x.f a'->a'.defers=a.defers->Q .normal a' w')->(Code.region id ops true).wpIn (wr rr) 0 P Q a w:=by
 obtain⟨F,G,hF0,hG0,hFn,hGn,hst⟩:=htr.run;simp only[Array.length_toList]at hFn hGn;have hon:∀i o,ops[i]?=some o->∀e∈o.after.toList,Region.binds .any e=true->e.on<i:=fun i o ho=>ybie hslots (by simpa using ho)
 let R:Nat->R2:=fun k=>match es[k]? with|some e=>e.r|none=>⟨undef,x.m,some [],some []⟩
 have hent:∀k o,ops[k]?=some o->∃e,es[k]?=some e/\yciq P ops.toList o e/\e.f=F k/\e.m=G k/\R k=e.r/\(R k).m=G (k+1)/\(F k).put o.dst (R k).v=some (F (k+1)):=by
  intro k o ho;obtain⟨e,h1,h2,h3,h4,h5,h6⟩:=hst k o (by simpa using ho)
  have hR:R k=e.r:=by show(match es[k]? with|some e=>e.r|none=>_)=_;rw[h1]
  exact⟨e,h1,h2,h3,h4,hR,by rw[hR];exact h5,by rw[hR,<-h3];exact h6⟩
 have hop:∀k,k<ops.size->ops[k]?=some ops[k]!:=fun k hk=>by rw[zAB hk];simp[hk]
 have pure1:∀k,k<ops.size->Wf (G k)->OnePure (G k) (R k):=by
  intro k hk hwk;obtain⟨e,h1,h2,h3,h4,h5,h6,h7⟩:=hent k _ (hop k hk);cases hwt:e.w with
  |true=>rw[h5,<-h4];rw[<-h4]at hwk;exact(h2.2.1 hwt).pure hwk
  | false =>
    have:=h2.2.2 hwt;rw[h5,this,h4];exact⟨Ext.refl hwk,zI _,fun i b _ hb=>hb,fun l hl i hi=>by cases hl;cases hi⟩
 have wfs:∀k,k<=ops.size->Wf (G k):=by
  intro k
  induction k with
  |zero=>intro _;rw[hG0];exact hw
  | succ k ih =>
    intro hk;have:=pure1 k hk (ih (by omega))
    obtain⟨e,h1,h2,h3,h4,h5,h6,h7⟩:=hent k _ (hop k hk);rw[<-h6];exact this.ext.wf
 have pure2:∀k,k<ops.size->OnePure (G k) (R k):=fun k hk=>pure1 k hk (wfs k (by omega))
 have hRm:∀k,k<ops.size->(R k).m=G (k+1):=fun k hk=>(hent k _ (hop k hk)).choose_spec.2.2.2.2.2.1
 have grows:∀k q,q<=k->k<=ops.size->Grow (G q) (G k):=by
  intro k
  induction k with
  | zero=>intro q hq hk;obtain rfl:q=0:=by omega
          exact Grow.refl (wfs 0 hk)
  | succ k ih =>
    intro q hq hk;rcases zS q (k+1)with hlt|hge
    .refine(ih q (by omega) (by omega)).trans ?_
     have:=pure2 k hk;rw[<-hRm k hk];exact⟨this.ext,this.low⟩
    .obtain rfl:q=k+1:=by omega
     exact Grow.refl (wfs _ hk)
 have hgrow:Grow m x.m:=by rw[<-hG0,<-hGn];exact grows _ 0 (by omega) (zI _)
 have sep:∀q k,q<k->k<ops.size->anc ops.toList k q\/Sep (G k) (R k) (G q) (R q):=by
  intro q k hqk hk;obtain⟨e,h1,h2,h3,h4,h5,h6,h7⟩:=hent k _ (hop k hk);obtain⟨d,g1,g2,g3,g4,g5,g6,g7⟩:=hent q _ (hop q (by omega))
  rcases hap k q e d hqk h1 g1 with hb|hb
  .left;simpa[anc,anL]using hb
  right
  rw[h5,g5,<-h4,<-g4];unfold Ap at hb;rcases hb with hb|hb|hb
  .obtain⟨i1,i2,i3⟩:=ywj hb;exact⟨fun i hn=>(by unfold needs at hn;rw[i1]at hn;exact absurd hn (by simp)),fun i _=>yhe i2 i3 i,fun i _=>yhe i2 i3 i⟩
  .obtain⟨i1,i2,i3⟩:=ywj hb;exact⟨fun i _=>yhe i2 i3 i,fun i hn=>(by unfold needs at hn;rw[i1]at hn;exact absurd hn (by simp)),fun i ht=>(by rw[yhe i2 i3 i]at ht;cases ht)⟩
  .unfold apart2 at hb;simp only[zC]at hb;obtain⟨⟨b1,b2⟩,b3⟩:=hb;have s1:=ytx b1;have s2:=ytx b2;refine⟨s1,s2,fun i ht=>?_⟩;obtain⟨mq,q1,_⟩:=yjo b1;obtain⟨mk,k1,_⟩:=yjo b2;have q1:d.r.mods=some mq:=q1;have k1:e.r.mods=some mk:=k1;cases hte:yee e.m e.r i with
   |false=>rfl
   | true =>
     exfalso
     have hpq:=pure2 q (by omega)
     have hgr:=grows k (q+1) (by omega) (by omega)
     have hn1:d.r.m.next<=e.m.next:=by rw[<-g5,g6,h4];exact hgr.ext.next
     have hnq:d.m.next<=d.r.m.next:=by have:=hpq.ext.next;rw[g5,<-g4]at this;exact this
     rcases yge hte with t|⟨t,_⟩|⟨l,t1,t2⟩
     .rcases yge ht with u|⟨u,_⟩|⟨l',u1,u2⟩
      .omega
      .rw[q1]at u;cases u
      .obtain⟨b,hb⟩:=hpq.mods l' (by rw[g5];exact u1) i u2
       have:=wfs q (by omega) i b hb
       rw[<-g4]at this;omega
     .rw[k1]at t;cases t
     .have hwt:e.w=true:=by
       cases hwt:e.w with
       |true=>rfl
       |false=>have:=h2.2.2 hwt;rw[this]at t1;cases t1;cases t2
      have:=s1 i (One.ymr (h2.2.1 hwt) t1 t2);rw[this]at ht;cases ht
 have hdst:∀q k,q<k->k<ops.size->anc ops.toList k q\/dstApart ops.toList ops[k]! ops[q]! = true:=by
  intro q k hqk hk;have h1:=hop k hk;have h2:=hop q (by omega)
  rcases ybgw hslots (i:=k) (j:=q) (by simpa using h1) (by simpa using h2) hqk with hb|hb
  .left;simpa[anc,anL]using hb
  .exact .inr hb
 refine⟨hgrow,fun id φ M w a Q hR hs hf hfr hQ=>wpIn_region_any hmix ?_⟩
 let EM:List Nat->AM:=fun s i=>last (fun j=>yee (G j) (R j) i) (fun j=>(R j).m.b.get i) (M i) s
 let ES:List Nat->Nat->Option Value:=fun s t=>last (fun j=>decide ((ops[j]!).dst=some t)) (fun j=>some (R j).v) (f.t.get t) s
 have EM_snoc:∀s j,EM (s++[j])=tM (G j) (R j) (EM s):=fun s j=>by
  funext i
  exact ybbn _ _ _ s j
 have ES_snoc:∀s j t,ES (s++[j]) t=if decide ((ops[j]!).dst=some t)=true then some (R j).v else ES s t:=fun s j t=>ybbn _ _ _ s j
 have EM_seq:∀k,k<=ops.size->∀i b,(G k).b.get i=some b->EM (zG k) i=some b:=by
  intro k
  induction k with
  |zero=>intro _ i b hb;rw[hG0]at hb;exact hs i b hb
  | succ k ih =>
    intro hk i b hb;rw[zAQ,EM_snoc];rw[<-hRm k hk]at hb;unfold tM;split
    .exact hb
    .rename_i ht
     exact ih (by omega) i b ((pure2 k hk).same i b (by simpa using ht) hb)
 have ES_seq:∀k,k<=ops.size->∀t v,(F k).t.get t=some v->ES (zG k) t=some v:=by
  intro k
  induction k with
  |zero=>intro _ t v hv;rw[hF0]at hv;exact hv
  | succ k ih =>
    intro hk t v hv;rw[zAQ,ES_snoc];obtain⟨e,h1,h2,h3,h4,h5,h6,h7⟩:=hent k _ (hop k hk);rcases ynb h7 with⟨q1,q2⟩|⟨d,q1,q2,q3,q4⟩
    .rw[q2]at hv;rw[q1,if_neg (by simp)]
     exact ih (by omega) t v hv
    .rw[q4]at hv;have:=T.get_set _ _ _ _ _ _ hv;rw[q1]
     by_cases hd:t=d
     .subst hd;rw[if_pos rfl]at this;rw[if_pos (by simp)]
      exact this
     .rw[if_neg hd]at this;rw[if_neg (by simp;exact fun q=>hd q.symm)]
      exact ih (by omega) t v this
 have ordM:∀i q k,q<k->k<ops.size->yee (G q) (R q) i=true->yee (G k) (R k) i=true->anc ops.toList k q:=by
  intro i q k hqk hk h1 h2;rcases sep q k hqk hk with h|h
  .exact h
  .rw[h.s3 i h1]at h2;cases h2
 have ordS:∀t q k,q<k->k<ops.size->decide ((ops[q]!).dst=some t)=true->decide ((ops[k]!).dst=some t)=true->anc ops.toList k q:=by
  intro t q k hqk hk h1 h2;rcases hdst q k hqk hk with h|h
  .exact h
  .simp only[decide_eq_true_eq]at h1 h2;unfold dstApart at h;rw[h1,h2]at h;simp[tmpsOf,h2,h1]at h
 have agreeM:∀(s:List Nat) (j i:Nat),Ord ops s->j<ops.size->j∉s->(∀e∈(ops[j]!).after.toList,Region.binds .any e=true->e.on∈s)->needs (G j) (R j) i->EM s i=EM (zG j) i:=by
  intro s j i ho hj hjs hje hn;show last _ _ _ s=last _ _ _ (zG j);rw[ydg,ydg _ _ (zG j)];rw[filter_eq ho (ordM i) (fun q hq ht=>?_) (fun q hq ht=>?_)]
  .rcases zZ q j with hlt|rfl|hgt
   .exact hlt
   .exact absurd hq hjs
   .rcases sep j q hgt (ho.lt q hq)with h|h
    .exact absurd (yoh hon ho q hq j h) hjs
    .rw[h.s2 i hn]at ht;cases ht
  .rcases sep q j hq hj with h|h
   .exact ybnx hon ho (hop j hj) hje h
   .rw[h.s1 i hn]at ht;cases ht
 have agreeS:∀(s:List Nat) (j t:Nat),Ord ops s->j<ops.size->j∉s->(∀e∈(ops[j]!).after.toList,Region.binds .any e=true->e.on∈s)->t∈tmpsOf ops.toList ops[j]! -> ES s t=ES (zG j) t:=by
  intro s j t ho hj hjs hje hn;show last _ _ _ s=last _ _ _ (zG j);rw[ydg,ydg _ _ (zG j)];rw[filter_eq ho (ordS t) (fun q hq ht=>?_) (fun q hq ht=>?_)]
  .simp only[decide_eq_true_eq]at ht;rcases zZ q j with hlt|rfl|hgt
   .exact hlt
   .exact absurd hq hjs
   .rcases hdst j q hgt (ho.lt q hq)with h|h
    .exact absurd (yoh hon ho q hq j h) hjs
    .unfold dstApart at h;rw[ht]at h;simp only[zC,zAA]at h;have:=h.1;simp at this;exact absurd hn this
  .simp only[decide_eq_true_eq]at ht;rcases hdst q j hq hj with h|h
   .exact ybnx hon ho (hop j hj) hje h
   .unfold dstApart at h;rw[ht]at h;simp only[zC,zAA]at h;have:=h.2;simp at this;exact absurd hn this
 have allM:∀(s:List Nat),Ord ops s->(∀q,q<ops.size->q∈s)->(∀i,EM s i=EM (zG ops.size) i)/\∀t,ES s t=ES (zG ops.size) t:=by
  intro s ho hall;refine⟨fun i=>?_,fun t=>?_⟩
  .show last _ _ _ s=last _ _ _ (zG ops.size);rw[ydg,ydg _ _ (zG ops.size)];rw[filter_eq ho (ordM i) (fun q hq _=>ho.lt q hq) (fun q hq _=>hall q hq)]
  .show last _ _ _ s=last _ _ _ (zG ops.size);rw[ydg,ydg _ _ (zG ops.size)];rw[filter_eq ho (ordS t) (fun q hq _=>ho.lt q hq) (fun q hq _=>hall q hq)]
 have finish:∀(s:List Nat) (φ':Phi) (a':Act) (w':World),Ord ops s->(∀q,q<ops.size->q∈s)->Rel φ' (EM s) w'->φ.le φ'->(∀i,¬(m.next<=i/\i<x.m.next)->φ' i=φ i)->a'.tmps.size=f.n->a'.defers=a.defers ->
  (∀t v,ES s t=some v->VR φ' v (a'.tmps.getD t undef))->WG φ M w φ' (EM s) w'->Q .normal a' w':=by
  intro s φ' a' w' ho hall hrel hle hout hsz hdf hsl hwg;obtain⟨e1,e2⟩:=allM s ho hall
  have hfn:∀k,k<=ops.size->(F k).n=f.n:=by
   intro k
   induction k with
   |zero=>intro _;rw[hF0]
   | succ k ih =>
     intro hk;obtain⟨e,h1,h2,h3,h4,h5,h6,h7⟩:=hent k _ (hop k hk);rcases ynb h7 with⟨q1,q2⟩|⟨d,q1,q2,q3,q4⟩
     .rw[q2];exact ih (by omega)
     .rw[q3];exact ih (by omega)
  refine hQ a' w' φ' (EM s) ⟨hle,hout,hrel,fun i b hb=>?_,fun i hi hn=>?_,hwg⟩ ⟨by rw[hsz,<-hFn,hfn _ (zI _)],fun t v hv=>?_⟩ hdf
  .rw[e1 i];rw[<-hGn]at hb;exact EM_seq _ (zI _) i b hb
  .refine last_none _ _ s (M i) fun j hj=>?_;have hjn:=ho.lt j hj;cases ht:yee (G j) (R j) i with
   |false=>rfl
   | true =>
     exfalso
     have g1:=grows j 0 (by omega) (by omega)
     have g2:=grows ops.size (j+1) (by omega) (zI _)
     rw[hG0]at g1;rw[hGn]at g2;rw[<-hRm j hjn]at g2
     have hold:(∃b,(G j).b.get i=some b)->(R j).m.low<=i->False:=by
      rintro⟨b,hb⟩ hlow;rcases g1.ext.dom i b hb with⟨b0,h0⟩|h0
      .rcases hn with hn|hn
       .rw[hn]at h0;cases h0
       .have:=g2.low;omega
      .have:=(pure2 j hjn).ext.next
       have:=g2.ext.next
       exact hi ⟨h0.1,by omega⟩
     rcases yge ht with t|⟨_,t1,t2⟩|⟨l,t1,t2⟩
     .have:=g1.ext.next
      have:=g2.ext.next
      exact hi ⟨by omega,by omega⟩
     .exact hold t1 t2
     .obtain⟨b,hb⟩:=(pure2 j hjn).mods l t1 i t2;refine hold ⟨b,hb⟩ ?_;obtain⟨e,h1,h2,h3,h4,h5,h6,h7⟩:=hent j _ (hop j hjn)
      have hwt:e.w=true:=by
       cases hwt:e.w with
       |true=>rfl
       |false=>have:=h2.2.2 hwt;rw[h5,this]at t1;cases t1;cases t2
      rw[h5]at t1 ⊢;exact One.ybak (h2.2.1 hwt) t1 t2
  .refine hsl t v ?_;rw[e2 t];rw[<-hFn]at hv;exact ES_seq _ (zI _) t v hv
 have main : ∀ (fuel:Nat) (L:Array Bool) (s:List Nat) (φ':Phi) (a':Act) (w':World),(∀i,i<ops.size->L[i]?=some (decide (i∈s)))->((zG ops.size).filter fun i=>decide (i∉s)).length<=fuel ->
  Ord ops s->Rel φ' (EM s) w'->φ.le φ'->(∀i,¬(m.next<=i/\i<x.m.next)->φ' i=φ i)->(∀j,j<ops.size->j∉s->ygv φ' (G j).next (R j).m.next)->a'.tmps.size=f.n->a'.defers=a.defers ->
  (∀t v,ES s t=some v->VR φ' v (a'.tmps.getD t undef))->WG φ M w φ' (EM s) w'->wpAnyIn (wr rr) 0 P .any ops Q fuel L a' w':=by
  have alldone:∀(L:Array Bool) (s:List Nat),(∀i,i<ops.size->L[i]?=some (decide (i∈s)))->Region.ready .any ops L=[]->∀q,q<ops.size->q∈s:=by
   intro L s hL hr q
   induction q using zAP with
   | _ q ih =>
     intro hq;cases Decidable.em (q∈s)with
     |inl h=>exact h
     | inr hns =>
       exfalso
       have:q∈Region.ready .any ops L:=mem_ready.2 ⟨by rw[zF,hL q hq];simp[hns],_,hop q hq,fun e he hb=>by
        have hlt:=hon q _ (hop q hq) e (by simpa using he) hb
        have:=ih e.on hlt (by omega)
        rw[zF,hL e.on (by omega)];simp[this]⟩
       rw[hr]at this;cases this
  intro fuel
  induction fuel with
  | zero =>
    intro L s φ' a' w' hL hlen ho hrel hle hout hfresh hsz hdf hsl hwg
    have hall:∀q,q<ops.size->q∈s:=by
     intro q hq;have h0:(zG ops.size).filter (fun i=>decide (i∉s))=[]:=List.eq_nil_of_length_eq_zero (by omega)
     have:=List.filter_eq_nil_iff.1 h0 q (List.mem_range.2 hq)
     simpa using this
    refine⟨?_,finish s φ' a' w' ho hall hrel hle hout hsz hdf hsl hwg⟩;apply List.eq_nil_iff_forall_not_mem.2;intro j hj;obtain⟨h1,o,h2,_⟩:=mem_ready.1 hj;have hjn:=(Array.getElem?_eq_some_iff.1 h2).1;rw[zF,hL j hjn]at h1;simp at h1;exact h1 (hall j hjn)
  | succ fuel ih =>
    intro L s φ' a' w' hL hlen ho hrel hle hout hfresh hsz hdf hsl hwg;refine⟨fun hr=>finish s φ' a' w' ho (alldone L s hL hr) hrel hle hout hsz hdf hsl hwg,fun j hj=>?_⟩;obtain⟨h1,o,h2,h3⟩:=mem_ready.1 hj;have hjn:=(Array.getElem?_eq_some_iff.1 h2).1
    have hjs:j∉s:=by
     rw[zF,hL j hjn]at h1
     simpa using h1
    have hoj:ops[j]! = o:=by have:=hop j hjn;rw[h2]at this;exact(Option.some.inj this).symm
    have hje:∀e∈(ops[j]!).after.toList,Region.binds .any e=true->e.on∈s:=by
     rw[hoj];intro e he hb;have hlt:=hon j o h2 e he hb;have:=h3 e (by simpa using he) hb
     rw[zF,hL e.on (by omega)]at this
     simpa using this
    have hje':∀e∈o.after.toList,Region.binds .any e=true->e.on∈s:=by rw[<-hoj];exact hje
    have ho':=ho.snoc hon h2 hjs hje'
    have hL':∀i,i<ops.size->(L.setIfInBounds j true)[i]?=some (decide (i∈s++[j])):=by
     intro i hi;rw[zQ]
     by_cases e:j=i
     .subst e
      have hjL:j<L.size:=by
       have:=hL j hjn;exact(Array.getElem?_eq_some_iff.1 this).1
      rw[if_pos rfl,if_pos hjL];simp
     .rw[if_neg e,hL i hi];congr 1;simp;exact fun q=>absurd q.symm e
    have hlen':((zG ops.size).filter fun i=>decide (i∉s++[j])).length<=fuel:=by
     have hsubl:((zG ops.size).filter fun i=>decide (i∉s++[j])).Sublist ((zG ops.size).filter fun i=>decide (i∉s)):=by
      have:(fun i=>decide (i∉s++[j]))=fun i=>(decide (i≠j)&&decide (i∉s)):=by
       funext i;simp[Bool.and_comm]
      rw[this,<-List.filter_filter];exact List.filter_sublist
     rcases zS fuel ((zG ops.size).filter fun i=>decide (i∉s++[j])).length with hlt|hge
     .exfalso
      have:=hsubl.eq_of_length (by have:=hsubl.length_le;omega)
      have hmem:j∈(zG ops.size).filter (fun i=>decide (i∉s)):=List.mem_filter.2 ⟨List.mem_range.2 hjn,by simpa using hjs⟩
      rw[<-this]at hmem;simp at hmem
     .exact hge
    obtain⟨e,k1,k2,k3,k4,k5,k6,k7⟩:=hent j o h2
    have hslot:∀t v,t∈tmpsOf ops.toList o->(F j).t.get t=some v->VR φ' v (a'.tmps.getD t undef):=by
     intro t v ht hv;refine hsl t v ?_;rw[agreeS s j t ho hjn hjs hje (by rw[hoj];exact ht)]
     exact ES_seq j (by omega) t v hv
    have hwant:Region.wanted o (yielded ops a'.tmps)=e.w:=by
     refine yfr (φ:=φ') k2.1 fun i want oi d v hg hi hd hv=>hslot d v ?_ (by rw[<-k3];exact hv)
     unfold tmpsOf;rw[hg];simp[hi,hd]
    have next : ∀ (v':Value) (φ'':Phi) (w'':World),VR φ'' (R j).v v'->φ'.le φ''->(∀i,¬((G j).next<=i/\i<(R j).m.next)->φ'' i=φ' i)->Rel φ'' (EM (s++[j])) w''->WG φ' (EM s) w' φ'' (EM (s++[j])) w'' ->
     wpAnyIn (wr rr) 0 P .any ops Q fuel (L.setIfInBounds j true) (a'.put o.dst v') w'':=by
     intro v' φ'' w'' hv hle2 hout2 hrel2 hwg2;have gj:=grows j 0 (by omega) (by omega)
     have gn:=grows ops.size (j+1) (by omega) (zI _)
     rw[hG0]at gj;rw[hGn,<-k6]at gn;refine ih _ (s++[j]) φ'' _ w'' hL' hlen' ho' hrel2 (Phi.le_trans hle hle2) (fun i hi=>?_) (fun q hq hqs i hi1 hi2=>?_) ?_ ?_ (fun t v ht=>?_) (hwg.trans hwg2)
     .rw[hout2 i (fun q=>hi ⟨zM gj.ext.next q.1,zA q.2 gn.ext.next⟩)]
      exact hout i hi
     .have hqs':q∉s:=fun h=>hqs (zY _ h);have hqj:q≠j:=fun h=>hqs (by simp[h])
      rw[hout2 i (fun c=>?_)]
      .exact hfresh q hq hqs' i hi1 hi2
      .rcases Nat.lt_or_gt_of_ne hqj with hlt|hgt
       .have:=(grows j (q+1) (by omega) (by omega)).ext.next
        rw[<-hRm q hq]at this;omega
       .have:=(grows q (j+1) (by omega) (by omega)).ext.next
        rw[<-k6]at this;omega
     .cases hd:o.dst with
      |none=>exact hsz
      |some d=>simp[Act.put,hsz]
     .cases o.dst<;>exact hdf
     .rw[ES_snoc,hoj]at ht;cases hd:o.dst with
      | none =>
        rw[hd]at ht;simp only[Act.put];exact(hsl t v (by simpa using ht)).mono hle2
      | some d =>
        rw[hd]at ht
        have hdn:d<a'.tmps.size:=by
         rw[hsz];rcases ynb k7 with⟨q1,_⟩|⟨d',q1,q2,_,_⟩
         .rw[hd]at q1;cases q1
         .rw[hd]at q1;cases q1
          have hfn:∀k,k<=ops.size->(F k).n=f.n:=by
           intro k
           induction k with
           |zero=>intro _;rw[hF0]
           | succ k ih =>
             intro hk;obtain⟨e,h1,h2,h3,h4,h5,h6,h7⟩:=hent k _ (hop k hk);rcases ynb h7 with⟨q1,q2⟩|⟨d,q1,q2,q3,q4⟩
             .rw[q2];exact ih (by omega)
             .rw[q3];exact ih (by omega)
          rw[<-hfn j (by omega)];exact q2
        by_cases htd:d=t
        .subst htd;simp at ht;subst ht;simp[Act.put,hdn];exact hv
        .rw[if_neg (by simpa using htd)]at ht
         have:=(hsl t v ht).mono hle2;simp only[Act.put,zF]at this ⊢;rw[zQ,if_neg htd];exact this
    unfold wpOpIn;rw[h2];simp only[hwant];cases hwt:e.w with
    | true =>
      rw[if_pos rfl];have hev:=k2.2.1 hwt;rw[k3,k4]at hev;rw[<-k5]at hev;refine opIn hev.plain (hev.draw (wfs j (by omega)) hrel ?_ ?_ (hfresh j hjn hjs) fun v' w'' φ'' hone=>?_)
      .unfold Need
       have hneed:∀i b,needs (G j) (R j) i->(G j).b.get i=some b->EM s i=some b:=fun i b hn hb=>by
        rw[agreeM s j i ho hjn hjs hje hn];exact EM_seq j (by omega) i b hb
       split
       .rename_i hft
        exact fun i b hb=>hneed i b (by unfold needs;rw[hft];exact⟨b,hb⟩) hb
       .rename_i ft hft
        exact fun i hi b hb=>hneed i b (by unfold needs;rw[hft];exact hi) hb
      .intro y hy v hv;refine yjj (f:=F j) (fun t v hyt ht=>hslot t v ?_ ht) hv;subst hyt;unfold tmpsOf;simp only[List.mem_append,List.mem_filterMap];exact .inl (.inl ⟨.tmp t,by simpa using hy,rfl⟩)
      .rw[EM_snoc]at next
       exact next v' φ'' w'' hone.vr hone.le hone.out hone.rel hone.wg
    | false =>
      rw[if_neg (by simp)]
      have hr:=k2.2.2 hwt;rw[<-k5,k4]at hr;have htn:∀i,yee (G j) (R j) i=false:=fun i=>yhe (by rw[hr]) (by rw[hr]) i
      have hem:EM (s++[j])=EM s:=by
       rw[EM_snoc];funext i;unfold tM;rw[htn i];simp
      refine⟨fun _ _=>trivial,next undef φ' w' (by rw[hr];exact VR.undef) φ'.le_refl (fun _ _=>rfl) ?_ ?_⟩
      .rw[hem];exact hrel
      .rw[hem];exact WG.refl _ _ _
 have hnil:EM []=M:=rfl;refine main ops.size _ [] φ a _ (fun i hi=>by simp[hi]) ?_ Ord.nil (by rw[hnil];exact hR.heap rfl) φ.le_refl (fun _ _=>rfl) (fun j hj _=>?_) hf.size rfl (fun t v hv=>hf.get t v hv) ?_
 .exact zM (List.length_filter_le _ _) (by simp)
 .have g1:=grows j 0 (by omega) (by omega)
  have g2:=grows ops.size (j+1) (by omega) (zI _)
  rw[hG0]at g1;rw[hGn,<-hRm j hj]at g2;exact fun i h1 h2=>hfr i (zM g1.ext.next h1) (zA h2 g2.ext.next)
 .rw[hnil];exact⟨rfl,rfl,rfl,zI _,fun _ _ _=>rfl,fun _ _ h=>h⟩
theorem ybqm (hself:yex P self) (hmix:P.follows .mixedOrders=true) {rr:Option Nat}{ops:Array Oper}{f:Fr}{m:Mem}{x:FM}(hslots:slotsOk ops.toList (ancs ops.toList []).reverse=true)
 (h:evDraw P self ops.toList ops.toList 0 (ancs ops.toList []).reverse [] f m=some x) (hw:Wf m) :
 Grow m x.m/\∀(id:Nat) φ M w a Q,Rel φ M w->Sub m M->FrR φ f a->ygv φ m.next x.m.next->(∀a' w' φ' M',Good φ M w m x.m φ' M' w'->FrR φ' x.f a'->a'.defers=a.defers->Q .normal a' w')->(Code.region id ops true).wpIn (wr rr) 0 P Q a w:=by
 obtain⟨es,htr,_,hap⟩:=yre hself h;exact ybcr hmix hslots htr hap hw
end
end Ev
end
section
namespace Ev
section
variable {α:Type}
theorem T.set_same:∀(f:Nat) (t:T α) (n:Nat) (x:Option α),n+1<2^f->(T.set f t n x).get n=x
 |0,_,n,_,h=>by simp at h
 |f+1,.leaf,0,x,_=>rfl
 |f+1,.node v l r,0,x,_=>rfl
 | f+1,.leaf,k+1,x,h=>by
   rw[T.set_leaf];have hk:k/2+1<2^f:=by rw[zAF]at h;omega
   by_cases e:even k=true
   .rw[if_pos e,T.get_succ,if_pos e];exact T.set_same f _ _ _ hk
   .rw[if_neg e,T.get_succ,if_neg e];exact T.set_same f _ _ _ hk
 | f+1,.node v l r,k+1,x,h=>by
   rw[T.set_node];have hk:k/2+1<2^f:=by rw[zAF]at h;omega
   by_cases e:even k=true
   .rw[if_pos e,T.get_succ,if_pos e];exact T.set_same f _ _ _ hk
   .rw[if_neg e,T.get_succ,if_neg e];exact T.set_same f _ _ _ hk
theorem T.set_other:∀(f:Nat) (t:T α) (n:Nat) (x:Option α) (j:Nat),n+1<2^f->j≠n->(T.set f t n x).get j=t.get j
 |0,_,n,_,_,h,_=>by simp at h
 |f+1,.leaf,0,x,0,_,hne=>absurd rfl hne
 |f+1,.leaf,0,x,j+1,_,_=>by rw[T.set_leaf0,T.get_succ];simp[T.get_leaf]
 |f+1,.node v l r,0,x,0,_,hne=>absurd rfl hne
 |f+1,.node v l r,0,x,j+1,_,_=>by rw[T.set_node0,T.get_succ,T.get_succ]
 | f+1,.leaf,k+1,x,0,h,_=>by
   rw[T.set_leaf]
   by_cases e:even k=true
   .rw[if_pos e];rfl
   .rw[if_neg e];rfl
 | f+1,.node v l r,k+1,x,0,h,_=>by
   rw[T.set_node]
   by_cases e:even k=true
   .rw[if_pos e];rfl
   .rw[if_neg e];rfl
 | f + 1,.leaf,k+1,x,j+1,h,hne=>by
   have hk:k/2+1<2^f:=by rw[zAF]at h;omega
   rw[T.set_leaf,T.get_leaf]
   by_cases e:even k=true
   .rw[if_pos e,T.get_succ]
    by_cases e':even j=true
    .rw[if_pos e'];have:=(ycg k).1 e;have:=(ycg j).1 e';rw[T.set_other f _ _ _ _ hk (by omega)];rfl
    .rw[if_neg e'];rfl
   .rw[if_neg e,T.get_succ]
    by_cases e':even j=true
    .rw[if_pos e'];rfl
    .rw[if_neg e'];have:=mt (ycg k).2 e;have:=mt (ycg j).2 e';rw[T.set_other f _ _ _ _ hk (by omega)];rfl
 | f + 1,.node v l r,k+1,x,j+1,h,hne=>by
   have hk:k/2+1<2^f:=by rw[zAF]at h;omega
   rw[T.set_node,T.get_succ v l r]
   by_cases e:even k=true
   .rw[if_pos e,T.get_succ]
    by_cases e':even j=true
    .rw[if_pos e',if_pos e'];have:=(ycg k).1 e;have:=(ycg j).1 e';exact T.set_other f _ _ _ _ hk (by omega)
    .rw[if_neg e',if_neg e']
   .rw[if_neg e,T.get_succ]
    by_cases e':even j=true
    .rw[if_pos e',if_pos e']
    .rw[if_neg e',if_neg e'];have:=mt (ycg k).2 e;have:=mt (ycg j).2 e';exact T.set_other f _ _ _ _ hk (by omega)
end
theorem T.set_at{α:Type}(t:T α)(n:Nat)(x:Option α)(j:Nat):(T.set (zN n) t n x).get j=if j=n then x else t.get j:=by
 have hb:n+1<2^(zN n):=Nat.lt_two_pow_self
 by_cases q:j=n
 .subst q;rw[if_pos rfl,T.set_same _ _ _ _ hb]
 .rw[if_neg q,T.set_other _ _ _ _ _ hb q]
theorem T.sets_at:∀(l:List Value) (t:T Value) (i j:Nat),(T.sets t i l).get j=if i<=j/\j<i+l.length then l[j-i]? else t.get j
 |[],t,i,j=>by rw[if_neg (by simp)];rfl
 | v :: l,t,i,j=>by
   unfold T.sets;rw[T.strict_eq,T.sets_at l _ _ j]
   by_cases c:i+1<=j/\j<i+1+l.length
   .rw[if_pos (by exact c),if_pos (by simp;omega),show j-i=(j-(i+1))+1 by omega]
    rfl
   .rw[if_neg (by exact c),T.set_at]
    by_cases q:j=i
    .subst q;rw[if_pos rfl,if_pos (by simp)]
     simp
    .rw[if_neg q,if_neg (by simp;omega)]
theorem ydf (l:List Value)(j:Nat):(tOf l).get j=l[j]?:=by
 unfold tOf;rw[T.sets_at l .leaf 0 j]
 by_cases c:0<=j/\j<0+l.length
 .rw[if_pos c];simp
 .rw[if_neg c,T.get_leaf,zV (by omega)]
theorem ybwe{l:List Value}(_:l.length<1000000000)(j:Nat):(tOf l).get j=l[j]?:=ydf l j
theorem ysb{a b:Int}(h:eqInt a b=true):a=b:=by
 unfold eqInt at h;split at h
 .rw[zB h]
 .rw[zB h]
 .cases h
theorem ypi:∀{l k:List UInt8},eqBytes l k=true->l=k
 |[],[],_=>rfl
 | x::l,y::k,h=>by
   simp only[eqBytes,zC]at h;rw[ypi h.2,UInt8.toNat_inj.1 (zB h.1)]
 |[],_::_,h=>by cases h
 |_::_,[],h=>by cases h
theorem ybdx{a b:Addr}(h:eqAddr a b=true):a=b:=by
 simp only[eqAddr,zC]at h;obtain⟨⟨⟨h1,h2⟩,h3⟩,h4⟩:=h;obtain⟨a1,a2,a3⟩:=a;obtain⟨b1,b2,b3⟩:=b;have:=zB h1;have:=zB h2;simp at h3 h4
 simp_all
theorem ybxt{x y:Value}(h:eq1 x y=true):x=y:=by
 unfold eq1 at h;split at h
 .simp at h;rw[h]
 .simp only[zC,eqK,decide_eq_true_eq]at h;rw[h.1,ysb h.2]
 .rename_i a b
  have:=ypi h
  have:a=b:=by
   apply ByteArray.ext;exact Array.toList_inj.1 this
  rw[this]
 .rfl
 .rw[ybdx h]
 .simp only[zC]at h;rw[zB h.1,zB h.2]
 .simp only[zC]at h;rw[ybdx h.1.1,zB h.1.2,zB h.2]
 .rw[zB h]
 .rfl
 .rfl
 .rfl
 .cases h
theorem ypg:∀{l k:List Value},eqL1 l k=true->l=k
 |[],[],_=>rfl
 | x::l,y::k,h=>by
   simp only[eqL1,zC]at h;rw[ypg h.2,ybxt h.1]
 |[],_::_,h=>by cases h
 |_::_,[],h=>by cases h
theorem ybxh{x y:Value}(h:eq2 x y=true):x=y:=by
 unfold eq2 at h;split at h
 .rw[Array.toList_inj.1 (ypg h)]
 .simp only[zC]at h;rw[zB h.1.1,Array.toList_inj.1 (ypg h.1.2),Array.toList_inj.1 (ypg h.2)]
 .exact ybxt h
theorem ybgf:∀{l k:List Value},eqL2 l k=true->l=k
 |[],[],_=>rfl
 | x::l,y::k,h=>by
   simp only[eqL2,zC]at h;rw[ybgf h.2,ybxh h.1]
 |[],_::_,h=>by cases h
 |_::_,[],h=>by cases h
theorem ydqh{x y:Value}(h:eqV x y=true):x=y:=by
 unfold eqV at h;split at h
 .rw[Array.toList_inj.1 (ybgf h)]
 .exact ybxh h
theorem yjs{c:T Value}:∀{l:List Value}{j:Nat},cellsAre c j l=true->∀k v,l[k]?=some v->c.get (j+k)=some v
 |[],_,_,k,v,hv=>by simp at hv
 | u :: l,j,h,k,v,hv=>by
   unfold cellsAre at h;simp only[zC]at h;obtain⟨h1,h2⟩:=h;cases k with
   | zero =>
     simp at hv;subst hv;split at h1
     .rename_i x hx
      rw[Nat.add_zero,hx,ybxh h1]
     .cases h1
   | succ k =>
     have:=yjs h2 k v (by simpa using hv)
     rw[show j+(k+1)=zN j+k by omega]
     exact this
theorem yjf{m:Mem}{b:BlkL}(h:blkIs m b=true):∃c,m.b.get b.i=some (.cells c b.l.length b.e b.z)/\b.l.length<1000000/\∀j v,j<b.l.length->(c.get j=some v↔b.l[j]?=some v):=by
 unfold blkIs at h;split at h
 .rename_i c n e z hg
  simp only[zC]at h;obtain⟨⟨⟨⟨h1,h2⟩,h3⟩,h4⟩,h5⟩:=h;have h1:=zB h1;have h2:=zB h2;have h3:=zB h3;subst h1 h2 h3;refine⟨c,hg,zA (zAM _) (zD h4),fun j v hj=>⟨fun hc=>?_,fun hl=>by have:=yjs h5 j v hl;rwa [zAY]at this⟩⟩
  have h6:b.l[j]?=some b.l[j]:=List.getElem?_eq_getElem hj;have:=yjs h5 j _ h6;rw[zAY,hc]at this;rw[h6,this]
 .cases h
theorem yji:∀{l:List BlkL}{t:T ABlk}{i:Nat}{x:ABlk},(blksT t l).get i=some x->(∃b∈l,b.i=i/\x=b.blk)\/t.get i=some x
 |[],_,_,_,h=>.inr h
 | b :: l,t,i,x,h=>by
   unfold blksT at h;rw[T.strict_eq]at h;rcases yji h with⟨b',h1,h2⟩|h1
   .exact .inl ⟨b',zJ _ h1,h2⟩
   .have:=T.get_set _ _ _ _ _ _ h1;split at this
    .rename_i e;cases this;exact .inl ⟨b,zH,e.symm,rfl⟩
    .exact .inr this
theorem yus{low:Nat}:∀{l:List BlkL}{t:T ABlk}{i:Nat}{x:ABlk},(dropT t low l).get i=some x->t.get i=some x/\∀b∈l,b.i=i->¬low<=i
 |[],_,_,_,h=>⟨h,by simp⟩
 | b :: l,t,i,x,h=>by
   unfold dropT at h;rw[ybe]at h;split at h
   .rw[T.strict_eq]at h;obtain⟨h1,h2⟩:=yus h;have:=T.get_set _ _ _ _ _ _ h1;split at this
    .cases this
    .rename_i hne
     refine⟨this,fun b' hb' hi=>?_⟩;rcases List.mem_cons.1 hb' with rfl|hb'
     .exact absurd hi.symm hne
     .exact h2 b' hb' hi
   .rename_i hlow
    obtain⟨h1,h2⟩:=yus h;refine⟨h1,fun b' hb' hi=>?_⟩;rcases List.mem_cons.1 hb' with rfl|hb'
    .intro q;rw[hi]at hlow;exact hlow (zK q)
    .exact h2 b' hb' hi
def Ref(b b':ABlk):Prop:=b=b'\/∃c c' n e z,b = .cells c n e z/\b' = .cells c' n e z/\∀j v,j<n->c.get j=some v->c'.get j=some v
theorem Rel.refine{φ:Phi}{M N:AM}{w:World}(h:Rel φ M w)(hs:∀i b,N i=some b->∃b',M i=some b'/\Ref b b'):Rel φ N w:=by
 refine⟨⟨fun i b hb=>?_,fun i j x y li lj hne hx hy hi hj=>?_⟩,fun x hx=>⟨(h.gl x hx).1,fun⟨i,b,l,h1,h2,h3⟩=>(h.gl x hx).2 (by obtain⟨b',k1,_⟩:=hs i b h1;exact⟨i,b',l,k1,h2,h3⟩)⟩⟩
 .obtain⟨b',h1,h2⟩:=hs i b hb;obtain⟨l,k1,k2⟩:=h.blk i b' h1;refine⟨l,k1,?_⟩;rcases h2 with rfl|⟨c,c',n,e,z,rfl,rfl,h3⟩
  .exact k2
  .obtain⟨q1,q2,cs,qe,qf,q0,q3,q4,q5⟩:=k2;exact⟨q1,q2,cs,qe,qf,q0,q3,q4,fun j v hj hv=>q5 j v hj (h3 j v hj hv)⟩
 .obtain⟨x',h1,_⟩:=hs i x hx;obtain⟨y',h2,_⟩:=hs j y hy;exact h.inj i j x' y' li lj hne h1 h2 hi hj
theorem WG.dom{φ φ':Phi}{M₀ M' M M'':AM}{w w':World}(h:WG φ M₀ w φ' M' w')(h1:∀i b,M₀ i=some b->∃b',M i=some b')(h2:∀i b,M'' i=some b->∃b',M' i=some b'):WG φ M w φ' M'' w':=by
 have e1:∀k,Img φ M₀ k->Img φ M k:=fun k ⟨i,b,l,a1,a2,a3⟩=>by obtain⟨b',hb'⟩:=h1 i b a1;exact⟨i,b',l,hb',a2,a3⟩
 have e2:∀k,Img φ' M'' k->Img φ' M' k:=fun k ⟨i,b,l,a1,a2,a3⟩=>by obtain⟨b',hb'⟩:=h2 i b a1;exact⟨i,b',l,hb',a2,a3⟩
 exact⟨h.os,h.tape,h.output,h.size,fun k hk hn=>h.keep k hk (fun q=>hn (e1 k q)),fun k hk q=>e1 k (h.img k hk (e2 k q))⟩
theorem ybkg.mono{P:Program}{g:FuncId}{args:Array Value}{w:World}{R R':Ending->World->Prop}(h:ybkg P g args w R)(hr:∀e w',R e w'->R' e w'):ybkg P g args w R':=by
 rcases h with⟨h1,h2⟩|⟨v,w',h1,h2⟩
 .exact .inl ⟨h1,h2.mono hr⟩
 .exact .inr ⟨v,w',h1,hr _ _ h2⟩
def yeq(P:Program)(f:Fact):Prop:=∃m',ycb P (.call f.g f.args f.mem) (.call f.v m')/\m'.next=f.next1/\f.low<=m'.low/\∀b∈f.post,f.low<=b.i/\blkIs m' b=true
theorem ybfs{P:Program}{H:Hooks}{f:Fact}(hs:yex P (ev P H 3000))(h:f.check P H=true):yeq P f:=by
 unfold Fact.check at h;split at h
 .rename_i v m' he
  simp only[zC]at h;obtain⟨⟨⟨h1,h2⟩,h3⟩,h4⟩:=h;have hv:=ydqh h1;subst hv;refine⟨m',hs _ _ he,zB h2,zD h3,fun b hb=>?_⟩;have:=List.all_eq_true.1 h4 b hb;simp only[zC]at this;exact⟨zD this.1,this.2⟩
 .cases h
theorem yzd{P:Program}{f:Fact}{g:FuncId}{args:List Value}{m:Mem}(hok:yeq P f)(hfit:f.fits g args m=true):ycb P (.call g args m) (f.out m):=by
 obtain⟨m',hs,e1,e2,e3⟩:=hok;unfold Fact.fits at hfit;simp only[zC]at hfit;obtain⟨⟨⟨h1,h2⟩,h3⟩,h4⟩:=hfit;have h1:=zB h1;have h2:=zB h2;have h3:=ybgf h3;subst h1;subst h3;have hpre:∀b∈f.pre,∃c,m.b.get b.i=some (.cells c b.l.length b.e b.z)/\b.l.length<1000000/\∀j v,j<b.l.length->(c.get j=some v↔b.l[j]?=some v):=fun b hb=>yjf (List.all_eq_true.1 h4 b hb)
 have hget:∀i x,f.mem.b.get i=some x->∃b∈f.pre,b.i=i/\x=b.blk:=fun i x hx=>by
  rcases yji hx with h|h
  .exact h
  .cases h
 intro hw
 have hwf:Wf f.mem:=fun i x hx=>by
  obtain⟨b,hb,rfl,rfl⟩:=hget i x hx;obtain⟨c,hc,_⟩:=hpre b hb;show b.i<f.next0;rw[h2];exact hw _ _ hc
 obtain⟨E,S⟩:=hs hwf;have En:m.next<=f.next1:=by have:=E.next;rw[e1]at this;show m.next<=_;rw[<-h2];exact this
 have hout:∀i x,(blksT (dropT m.b f.low f.pre) f.post).get i=some x->(∃b∈f.post,b.i=i/\x=b.blk)\/(m.b.get i=some x/\∀b∈f.pre,b.i=i->¬f.low<=i):=fun i x hx=>by
  rcases yji hx with h|h
  .exact .inl h
  .exact .inr (yus h)
 have hpost:∀b∈f.post,∃c,m'.b.get b.i=some (.cells c b.l.length b.e b.z)/\∀j v,j<b.l.length->(c.get j=some v↔b.l[j]?=some v):=fun b hb=>by
  obtain⟨c,k1,_,k2⟩:=yjf (e3 b hb).2;exact⟨c,k1,k2⟩
 have hdom:∀b∈f.post,(∃b0,m.b.get b.i=some b0)\/(m.next<=b.i/\b.i<f.next1):=fun b hb=>by
  obtain⟨c,k1,_⟩:=hpost b hb;rcases E.dom _ _ k1 with⟨b0,k2⟩|k2
  .obtain⟨b',q1,q2,_⟩:=hget _ _ k2;obtain⟨c',q3,_⟩:=hpre b' q1;rw[q2]at q3;exact .inl ⟨_,q3⟩
  .rw[e1]at k2;exact .inr ⟨by rw[<-h2];exact k2.1,k2.2⟩
 refine⟨⟨En,fun i x hx=>?_,fun i x hi hnf hx=>?_,fun i x hx=>?_⟩,fun φ M w args' hR hsub hv hfr=>?_⟩
 .rcases hout i x hx with⟨b,hb,rfl,rfl⟩|⟨h,_⟩
  .exact hdom b hb
  .exact .inl ⟨x,h⟩
 .have hi:i<f.low:=hi;rcases hout i x hx with⟨b,hb,rfl,rfl⟩|⟨h,_⟩
  .have:=(e3 b hb).1;omega
  .exact h
 .show i<f.next1;rcases hout i x hx with⟨b,hb,rfl,rfl⟩|⟨h,_⟩
  .rcases hdom b hb with⟨b0,k⟩|k
   .exact zA (hw _ _ k) En
   .exact k.2
  .exact zA (hw _ _ h) En
 .let M₀:AM := fun i=>match f.mem.b.get i with|some x=>some x|none=>M i
  have hM₀:∀i x,M₀ i=some x->∃x',M i=some x'/\Ref x x':=fun i x hx=>by
   show ∃x',M i=some x'/\Ref x x';cases hq:f.mem.b.get i with
   | none =>
     have:M₀ i=M i:=by show(match f.mem.b.get i with|some x=>some x|none=>M i)=_;rw[hq]
     rw[this]at hx;exact⟨x,hx,.inl rfl⟩
   | some y =>
     have:M₀ i=some y:=by show(match f.mem.b.get i with|some x=>some x|none=>M i)=_;rw[hq]
     rw[this]at hx;cases hx
     obtain⟨b,hb,rfl,rfl⟩:=hget i _ hq;obtain⟨c,k1,k2,k3⟩:=hpre b hb;exact⟨_,hsub _ _ k1,.inr ⟨_,c,_,_,_,rfl,rfl,fun j v hj hg=>(k3 j v hj).2 (yko hg)⟩⟩
  have hsub₀:Sub f.mem M₀:=fun i x hx=>by show(match f.mem.b.get i with|some x=>some x|none=>M i)=_;rw[hx]
  refine(S φ M₀ w args' (hR.refine hM₀) hsub₀ hv (by rw[e1];show ygv φ f.next0 f.next1;rw[h2];exact hfr)).mono ?_
  rintro e w' ⟨v',rfl,φ',M',hgd,hvr⟩
  have hframe:∀i,¬(m.next<=i/\i<f.next1)->(f.mem.b.get i=none\/i<f.low)->M' i=M₀ i:=fun i hi hn =>
   hgd.frame i (by rw[e1];show ¬(f.next0<=i/\i<f.next1);rw[h2];exact hi) (hn.imp id fun q=>zA q e2)
  have hM₀n:∀i,f.mem.b.get i=none->M₀ i=M i:=fun i hq=>by show(match f.mem.b.get i with|some x=>some x|none=>M i)=_;rw[hq]
  have hM₀s:∀i x,f.mem.b.get i=some x->M₀ i=some x:=fun i x hq=>by show(match f.mem.b.get i with|some x=>some x|none=>M i)=_;rw[hq]
  let M'':AM:=fun i=>if i<f.low/\¬(m.next<=i/\i<f.next1)then M i else match (blksT (dropT m.b f.low f.pre) f.post).get i with
   |some x=>some x
   |none=>if (f.pre.any fun b=>zAD b.i i)=true then none else M' i
  have hpid:∀i,f.mem.b.get i≠none->(f.pre.any fun b=>zAD b.i i)=true:=fun i hq=>by
   cases hx:f.mem.b.get i with
   |none=>exact absurd hx hq
   | some x =>
     obtain⟨b,hb,rfl,_⟩:=hget i x hx;exact List.any_eq_true.2 ⟨b,hb,zAX _⟩
  have hM'' : ∀i x,M'' i=some x->∃x',M' i=some x'/\Ref x x':=by
   intro i x hx
   by_cases hc:i<f.low/\¬(m.next<=i/\i<f.next1)
   .have:M'' i=M i:=if_pos hc;rw[this]at hx;have hfr':=hframe i hc.2 (.inr hc.1);cases hq:f.mem.b.get i with
    |none=>rw[hM₀n i hq]at hfr';exact⟨x,by rw[hfr',hx],.inl rfl⟩
    | some y =>
      rw[hM₀s i y hq]at hfr';obtain⟨b,hb,rfl,rfl⟩:=hget i y hq;obtain⟨c,k1,k2,k3⟩:=hpre b hb;have:=hsub _ _ k1;rw[hx]at this;cases this
      exact⟨_,hfr',.inr ⟨c,_,_,_,_,rfl,rfl,fun j v hj hg=>by rw[ybwe (by omega)];exact(k3 j v hj).1 hg⟩⟩
   .have:M'' i=match (blksT (dropT m.b f.low f.pre) f.post).get i with
     |some x=>some x
     |none=>if (f.pre.any fun b=>zAD b.i i)=true then none else M' i:=if_neg hc
    rw[this]at hx;cases ho:(blksT (dropT m.b f.low f.pre) f.post).get i with
    | some y =>
      rw[ho]at hx;cases hx
      rcases hout i x ho with⟨b,hb,rfl,rfl⟩|⟨k1,k2⟩
      .obtain⟨c,q1,q2⟩:=hpost b hb;exact⟨_,hgd.sub _ _ q1,.inr ⟨_,c,_,_,_,rfl,rfl,fun j v hj hg=>(q2 j v hj).2 (yko hg)⟩⟩
      .have hnf:¬(m.next<=i/\i<f.next1):=fun q=>by have:=hw i x k1;omega
       have hnp:f.mem.b.get i=none:=by
        cases hq:f.mem.b.get i with
        |none=>rfl
        | some y =>
          obtain⟨b,hb,hbi,_⟩:=hget i y hq;exact absurd ⟨by have:=k2 b hb hbi;omega,hnf⟩ hc
       exact⟨x,by rw[hframe i hnf (.inl hnp),hM₀n i hnp];exact hsub i x k1,.inl rfl⟩
    | none =>
      rw[ho]at hx;simp only at hx;split at hx
      .cases hx
      .exact⟨x,hx,.inl rfl⟩
  refine⟨v',rfl,φ',M'',⟨hgd.le,fun i hi=>hgd.out i (by rw[e1];show ¬(f.next0<=i/\i<f.next1);rw[h2];exact hi),hgd.rel.refine hM'',fun i x hx=>?_,fun i hi hn=>?_,hgd.wg.dom (fun i x hx=>?_) (fun i x hx=>?_)⟩,hvr⟩
  .show M'' i=some x
   by_cases hc:i<f.low/\¬(m.next<=i/\i<f.next1)
   .have:M'' i=M i:=if_pos hc;rw[this];rcases hout i x hx with⟨b,hb,rfl,rfl⟩|⟨k1,_⟩
    .have:=(e3 b hb).1;omega
    .exact hsub i x k1
   .have:M'' i=match (blksT (dropT m.b f.low f.pre) f.post).get i with
     |some x=>some x
     |none=>if (f.pre.any fun b=>zAD b.i i)=true then none else M' i:=if_neg hc
    have hx':(blksT (dropT m.b f.low f.pre) f.post).get i=some x:=hx;rw[this,hx']
  .show M'' i=M i;have hi:¬(m.next<=i/\i<f.next1):=hi
   by_cases hc:i<f.low/\¬(m.next<=i/\i<f.next1)
   .exact if_pos hc
   .have hn:m.b.get i=none:=by
     rcases hn with hn|hn
     .exact hn
     .exact absurd ⟨hn,hi⟩ hc
    have:M'' i=match (blksT (dropT m.b f.low f.pre) f.post).get i with
     |some x=>some x
     |none=>if (f.pre.any fun b=>zAD b.i i)=true then none else M' i:=if_neg hc
    rw[this]
    have hnp:∀b∈f.pre,b.i≠i:=fun b hb hbi=>by
     obtain⟨c,k1,_⟩:=hpre b hb;rw[hbi,hn]at k1;cases k1
    have ho:(blksT (dropT m.b f.low f.pre) f.post).get i=none:=by
     cases ho:(blksT (dropT m.b f.low f.pre) f.post).get i with
     |none=>rfl
     | some y =>
       rcases hout i y ho with⟨b,hb,rfl,rfl⟩|⟨k1,_⟩
       .rcases hdom b hb with⟨b0,k⟩|k
        .rw[hn]at k;cases k
        .exact absurd k hi
       .rw[hn]at k1;cases k1
    rw[ho]
    have hany:¬(f.pre.any fun b=>zAD b.i i)=true:=fun q=>by
     obtain⟨b,hb,hbi⟩:=List.any_eq_true.1 q;exact hnp b hb (zB hbi)
    simp only;rw[if_neg hany]
    have hmn:f.mem.b.get i=none:=by
     cases hq:f.mem.b.get i with
     |none=>rfl
     |some y=>obtain⟨b,hb,hbi,_⟩:=hget i y hq;exact absurd hbi (hnp b hb)
    rw[hframe i hi (.inl hmn),hM₀n i hmn]
  .obtain⟨x',k,_⟩:=hM₀ i x hx;exact⟨x',k⟩
  .obtain⟨x',k,_⟩:=hM'' i x hx;exact⟨x',k⟩
theorem yxa{P:Program}{g:FuncId}{args:List Value}{m:Mem}:∀{l:List Fact},(∀f∈l,yeq P f)->∀{out:Out},findIn g args m l=some out->ycb P (.call g args m) out
 |[],_,out,h=>by cases h
 | f::l,hl,out,h=>by
   change iteB (f.fits g args m) (some (f.out m)) (findIn g args m l)=some out at h
   rw[ybe]at h;split at h
   .rename_i hf;cases h;exact yzd (hl f zH) hf
   .exact yxa (fun x hx=>hl x (zJ _ hx)) h
theorem yqf{P:Program}{g:FuncId}{args:List Value}{m:Mem}:∀{l:List Chunk},(∀c∈l,∀f∈c.l,yeq P f)->∀{out:Out},findFact g args m l=some out->ycb P (.call g args m) out
 |[],_,out,h=>by cases h
 | c::l,hl,out,h=>by
   change iteB (zAS c.hi m.next) (findFact g args m l) (findIn g args m c.l)=some out at h
   rw[ybe]at h;split at h
   .exact yqf (fun x hx=>hl x (zJ _ hx)) h
   .exact yxa (hl c zH) h
end Ev
end
end Go.Proofs.YthclbjjgfcgbgaaGreatDoor
