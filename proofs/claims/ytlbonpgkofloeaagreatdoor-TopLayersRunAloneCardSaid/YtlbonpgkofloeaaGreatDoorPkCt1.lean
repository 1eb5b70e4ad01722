/- Joined. -/
import Derived.Test.YtlbonpgkofloeaaGreatDoorPkCt0
import Derived.OrdersIn
import Derived.LoopNIn
import Derived.RangeFuncNested
import Derived.TacticsIn
set_option linter.unusedSimpArgs false
set_option linter.unusedVariables false
open Nat renaming eq_of_beq_eq_true->zA,lt_of_lt_of_le->zC,le_refl->zD,le_of_ble_eq_true->zF,ble_eq_true_of_le->zJ,testBit->zL,le_trans->zM,succ->zO,min_le_right->zQ,lt_or_ge->zU,lt_trichotomy->zAB,ble->zAE,beq->zAF,pow_succ->zAH,min_le_left->zAI,beq_refl->zAN,blt->zAO,lt_succ_self->zAR,strongRecOn->zAU,min->zAW,lt_irrefl->zAZ,add_zero->zBB,zero_add->zBC
open Bool renaming and_eq_true->zB,and_eq_false_iff->zT,or_eq_true->zX,not_eq_true'->zAC,cond_eq_ite->zAG,or_eq_false_iff->zAL
open Array renaming getD_eq_getD_getElem?->zG,getElem?_setIfInBounds->zS,getElem?_toList->zV,getElem?_eq_getElem->zAD,replicate->zAT
open List renaming range->zH,mem_cons_self->zI,mem_cons_of_mem->zK,getElem?_eq_none->zW,foldl_cons->zY,mem_append_left->zZ,eq_nil_of_length_eq_zero->zAA,mem_filter->zAJ,pairwise_append->zAK,append_assoc->zAP,range_succ->zAV,mapM_cons->zAX,getD->zAY
open BitVec renaming ofInt->zN
open Go.Sem renaming run_bind->zAM,run_pure->zBA
open Go.Result renaming andThen_ok->zAQ
open Option renaming bind_some->zAS
open Go
namespace Go.Proofs.YtlbonpgkofloeaaGreatDoor
section
namespace Ev
structure FrR(φ:Phi)(f:Fr)(a:Act):Prop where
 size:a.tmps.size=f.n
 get:∀t v,f.t.get t=some v->VR φ v (a.tmps.getD t undef)
def Sub(m:Mem)(M:AM):Prop:=∀i b,m.b.get i=some b->M i=some b
def yhm(φ:Phi)(c b:Nat):Prop:=∀i,c<=i->i<b->φ i=none
def Wf(m:Mem):Prop:=∀i b,m.b.get i=some b->i<m.next
structure Ext(m m':Mem):Prop where
 next:m.next<=m'.next
 dom:∀i b,m'.b.get i=some b->(∃b₀,m.b.get i=some b₀)\/(m.next<=i/\i<m'.next)
 old:∀i b,i<m'.low->¬(m.next<=i/\i<m'.next)->m'.b.get i=some b->m.b.get i=some b
 wf:Wf m'
structure Good(φ:Phi)(M:AM)(w:World)(m m':Mem)(φ':Phi)(M':AM)(w':World):Prop where
 le:φ.le φ'
 out:∀i,¬(m.next<=i/\i<m'.next)->φ' i=φ i
 rel:Rel φ' M' w'
 sub:Sub m' M'
 frame:∀i,¬(m.next<=i/\i<m'.next)->(m.b.get i=none\/i<m'.low)->M' i=M i
 wg:WG φ M w φ' M' w'
def wr(r:Option Nat):Fence:={ Fence.wide with round:=r }
def Marks(c:Nat)(w:World)(b:List Deferred):Prop:=b.Pairwise (fun x y=>x.target≠y.target)/\∀d∈b,∃D,c<=D/\d.target = .collected D/\w.heap[D]?=some (.deferred (some []))
def InR(r:Option Nat)(w:World):Prop:=∀l,r=some l->∃x,w.heap[l]?=some (.loop x)
theorem InR.none(w:World):InR none w:=fun _ q=>by cases q
def Df(w w':World)(a a':Act):Prop:=∃b,a'.defers=b++a.defers/\Marks w.heap.size w' b
theorem Marks.nil{b:Nat}{w:World}:Marks b w []:=⟨List.Pairwise.nil,fun _ h=>by cases h⟩
theorem Df.same{w w':World}{a a':Act}(h:a'.defers=a.defers):Df w w' a a':=⟨[],h,Marks.nil⟩
theorem Img.not_deferred{φ:Phi}{M:AM}{w:World}(v:Rel φ M w){k:Nat}{x:Option (List Deferred)}(h:w.heap[k]?=some (.deferred x)):¬Img φ M k:=by
 rintro⟨i,b,l,t,u,rfl⟩;obtain⟨A,g,j⟩:=v.blk i b t;rw[u]at g;cases g
 cases b with
 |cells c n e z=>obtain⟨_,_,y,_,_,_,d,_⟩:=j;rw[h]at d;cases d
 |map q p=>have d:w.heap[l.blk]?=some (.map q p):=j;rw[h]at d;cases d
theorem Img.not_loop{φ:Phi}{M:AM}{w:World}(v:Rel φ M w){k:Nat}{x:Loop}(h:w.heap[k]?=some (.loop x)):¬Img φ M k:=by
 rintro⟨i,b,l,t,u,rfl⟩;obtain⟨A,g,j⟩:=v.blk i b t;rw[u]at g;cases g
 cases b with
 |cells c n e z=>obtain⟨_,_,y,_,_,_,d,_⟩:=j;rw[h]at d;cases d
 |map q p=>have d:w.heap[l.blk]?=some (.map q p):=j;rw[h]at d;cases d
theorem InR.step{φ φ':Phi}{M M':AM}{w w':World}{r:Option Nat}(h:InR r w)(c:Rel φ M w)(d:WG φ M w φ' M' w'):InR r w':=fun l q=>by
 obtain⟨x,b⟩:=h l q;exact⟨x,(d.keep l (Array.getElem?_eq_some_iff.1 b).1 (Img.not_loop c b)).trans b⟩
theorem Marks.step{φ φ':Phi}{M M':AM}{w w':World}{c:Nat}{e:List Deferred}(h:Marks c w e)(j:Rel φ M w)(l:WG φ M w φ' M' w'):Marks c w' e:=by
 refine⟨h.1,fun d k=>?_⟩;obtain⟨D,g,i,b⟩:=h.2 d k;exact⟨D,g,i,(l.keep D (Array.getElem?_eq_some_iff.1 b).1 (Img.not_deferred j b)).trans b⟩
theorem Df.trans{φ φ':Phi}{M M':AM}{w w' b:World}{a a' c:Act}(h:Df w w' a a')(E:w.heap.size<=w'.heap.size)(A:Rel φ M w')(C:WG φ M w' φ' M' b)(z:Df w' b a' c):Df w b a c:=by
 obtain⟨H,u,j⟩:=h;obtain⟨i,v,g⟩:=z;have k:=j.step A C;refine⟨i++H,by rw[v,u,zAP],?_,fun d B=>?_⟩
 .rw[zAK];refine⟨g.1,k.1,fun x F y G=>?_⟩;obtain⟨D,l,e,_⟩:=g.2 x F;obtain⟨I,J,p,t⟩:=j.2 y G;have:=(Array.getElem?_eq_some_iff.1 t).1;rw[e,p];intro q;cases q
  omega
 .rcases List.mem_append.1 B with h|h
  .obtain⟨D,l,e,n⟩:=g.2 d h;exact⟨D,by omega,e,n⟩
  .exact k.2 d h
def ycol(φ:Phi)(M:AM)(w:World)(m:Mem)(e:Exit)(f':Fr)(m':Mem)(a:Act):Exit->Act->World->Prop :=
 fun c b w'=>c=e/\∃φ' M',Good φ M w m m' φ' M' w'/\FrR φ' f' b/\Df w w' a b
def ydjo(φ:Phi)(M:AM)(w:World)(m:Mem)(v:Value)(m':Mem):Ending->World->Prop :=
 fun e w'=>∃b,e = .returned b/\∃φ' M',Good φ M w m m' φ' M' w'/\VR φ' v b
def ybrf(P:Program)(g:FuncId)(args:Array Value)(w:World)(R:Ending->World->Prop):Prop :=
 ((callFunc g args).run P w = .ok (.enter g args) w/\Calls P g args w R)\/(∃v w',(callFunc g args).run P w = .ok (.value v) w'/\R (.returned v) w')
def yca(P:Program):Task->Out->Prop
 |.code c f m,.code e f' m'=>Wf m->Ext m m'/\m'.low<=m.low/\∀φ M w a r,InR r w->Rel φ M w->Sub m M->FrR φ f a->yhm φ m.next m'.next->c.wpIn (wr r) 0 P (ycol φ M w m e f' m' a) a w
 |.call g d m,.call v m'=>Wf m->Ext m m'/\∀φ M w b,Rel φ M w->Sub m M->VRL φ d b->yhm φ m.next m'.next->ybrf P g b.toArray w (ydjo φ M w m v m')
 |_,_=>False
def yfo(P:Program)(self:Task->Option Out):Prop:=∀t o,self t=some o->yca P t o
section
variable {P:Program}{self:Task->Option Out}{φ φ':Phi}{M M':AM}{w w':World}{f f':Fr}{m m' m'':Mem}{a:Act}
theorem Ext.refl(h:Wf m):Ext m m:=⟨zD _,fun _ b h=>.inl ⟨b,h⟩,fun _ _ _ _ h=>h,h⟩
theorem Ext.trans(g:m''.low<=m'.low)(a:Ext m m')(b:Ext m' m''):Ext m m'':=by
 refine⟨zM a.next b.next,fun i x j=>?_,fun i x c d e=>a.old i x (zC c g) (fun q=>d ⟨q.1,zC q.2 b.next⟩) (b.old i x c (fun q=>d ⟨zM a.next q.1,q.2⟩) e),b.wf⟩
 rcases b.dom i x j with⟨y,k⟩|⟨c,d⟩
 .rcases a.dom i y k with h|⟨c,d⟩
  .exact .inl h
  .exact .inr ⟨c,zC d b.next⟩
 .exact .inr ⟨zM a.next c,d⟩
theorem Good.refl(b:Rel φ M w)(c:Sub m M):Good φ M w m m φ M w:=⟨φ.le_refl,fun _ _=>rfl,b,c,fun _ _ _=>rfl,WG.refl _ _ _⟩
theorem Good.trans{c:Phi}{g:AM}{k:World}(e:Ext m m')(l:Ext m' m'')(z:m''.low<=m'.low)(a:Good φ M w m m' φ' M' w')(b:Good φ' M' w' m' m'' c g k):Good φ M w m m'' c g k:=by
 refine⟨Phi.le_trans a.le b.le,fun i j=>?_,b.rel,b.sub,fun i j d=>?_,a.wg.trans b.wg⟩
 .rw[b.out i (fun h=>j ⟨zM e.next h.1,h.2⟩),a.out i (fun h=>j ⟨h.1,zC h.2 l.next⟩)]
 .have n:¬(m.next<=i/\i<m'.next):=fun h=>j ⟨h.1,zC h.2 l.next⟩
  have t:¬(m'.next<=i/\i<m''.next):=fun h=>j ⟨zM e.next h.1,h.2⟩
  have u:m'.b.get i=none\/i<m''.low:=by
   rcases d with d|d
   .left
    cases v:m'.b.get i with
    |none=>rfl
    | some x =>
      rcases e.dom i x v with⟨y,p⟩|h
      .rw[d]at p;cases p
      .exact absurd h n
   .exact .inr d
  rw[b.frame i t u];exact a.frame i n (d.imp id fun q=>zC q z)
theorem yhm.left{d b c:Nat}(h:yhm φ d c)(j:b<=c):yhm φ d b:=fun i e g=>h i e (zC g j)
theorem Good.fresh(g:Good φ M w m m' φ' M' w')(e:Ext m m'){c:Nat}(h:yhm φ m.next c):yhm φ' m'.next c:=fun i b d=>by
 rw[g.out i (fun q=>absurd q.2 (Nat.not_lt.2 b))];exact h i (zM e.next b) d
theorem yrz(next:Nat)(b:T ABlk)(low:Nat)(e:Eff):Mem.appE next b low e=match e with
 |.none=>⟨next,b,low⟩
 |.new x=>⟨next+1,T.set (zO next) b next (some x),low⟩
 |.upd i x=>⟨next,T.set (zO i) b i (some x),zAW low i⟩
 |.move i x=>⟨next+1,T.set (zO next) (T.set (zO i) b i none) next (some x),zAW low i⟩:=by
 cases e<;>simp only[Mem.appE,Mem.mk1,ybo,T.strict_eq]
theorem yqi(m:Mem)(e:Eff):(m.app e).next=if e.adds then m.next+1 else m.next:=by
 obtain⟨next,b,low⟩:=m
 show(Mem.appE next b low e).next=_
 rw[yrz];cases e<;>rfl
theorem ysf{e:Eff}{i:Nat}{x:ABlk}(h:(m.app e).b.get i=some x):appM m.b.get m.next e i=some x:=by
 obtain⟨next,b,low⟩:=m
 change (Mem.appE next b low e).b.get i=some x at h
 rw[yrz]at h;cases e with
 |none=>exact h
 | new y =>
   dsimp only at h
   have:=T.get_set _ _ _ _ _ _ h;simp only[appM,upd];split at this
   .rename_i e;rw[if_pos e];exact this
   .rename_i e;rw[if_neg e];exact this
 | upd j y =>
   dsimp only at h
   have:=T.get_set _ _ _ _ _ _ h;simp only[appM,upd];split at this
   .rename_i e;rw[if_pos e];exact this
   .rename_i e;rw[if_neg e];exact this
 | move j y =>
   dsimp only at h
   have:=T.get_set _ _ _ _ _ _ h;simp only[appM,upd];split at this
   .rename_i e;rw[if_pos e];exact this
   .rename_i e
    rw[if_neg e];have:=T.get_set _ _ _ _ _ _ this;split at this
    .cases this
    .rename_i e;rw[if_neg e];exact this
theorem yvs(m:Mem)(e:Eff):(m.app e).low<=m.low/\∀i∈e.mods,(m.app e).low<=i:=by
 obtain⟨next,b,low⟩:=m
 show(Mem.appE next b low e).low<=low/\∀i∈e.mods,(Mem.appE next b low e).low<=i
 rw[yrz];cases e with
 |none=>exact⟨zD _,fun i c=>by simp[Eff.mods]at c⟩
 |new x=>exact⟨zD _,fun i c=>by simp[Eff.mods]at c⟩
 |upd j x=>exact⟨zAI _ _,fun i c=>by simp[Eff.mods]at c;subst c;exact zQ _ _⟩
 |move j x=>exact⟨zAI _ _,fun i c=>by simp[Eff.mods]at c;subst c;exact zQ _ _⟩
theorem ybzd{N:AM}{next:Nat}{e:Eff}(h:∀i b,M i=some b->N i=some b):∀i b,appM M next e i=some b->appM N next e i=some b:=by
 intro i b c;cases e<;>simp only[appM,upd]at c ⊢
 .exact h i b c
 all_goals
  split at c
  .rename_i q;rw[if_pos q];exact c
  .rename_i q
   rw[if_neg q]
   first
    |exact h i b c
    | (split at c
       .cases c
       .rename_i q;rw[if_neg q];exact h i b c)
theorem yib{next i:Nat}{e:Eff}(c:e.adds=true->i≠next)(b:i∉e.mods):appM M next e i=M i:=by
 cases e with
 |none=>rfl
 |new x=>simp[appM,upd,c rfl]
 |upd j x=>simp[Eff.mods]at b;simp[appM,upd,b]
 |move j x=>simp[Eff.mods]at b;simp[appM,upd,c rfl,b]
theorem ycif(k:Wf m){e:Eff}(c:∀i∈e.mods,∃b,m.b.get i=some b):Ext m (m.app e):=by
 have h:=yqi m e;refine⟨by rw[h];split<;>omega,fun i b j=>?_,fun i b g d l=>?_,fun i b j=>?_⟩
 rotate_left
 .have:=ysf l;rw[yib (fun q e=>d ⟨by omega,by rw[h,if_pos q];omega⟩) (fun q=>by have:=(yvs m e).2 i q;omega)]at this
  exact this
 rotate_left
 .have:=ysf j
  by_cases d:i∈e.mods
  .exact .inl (c i d)
  .by_cases g:e.adds=true/\i=m.next
   .right;rw[h,if_pos g.1];omega
   .rw[yib (fun q r=>g ⟨q,r⟩) d]at this;exact .inl ⟨b,this⟩
 .have:=ysf j
  by_cases d:i∈e.mods
  .obtain⟨y,n⟩:=c i d;have:=k i y n;rw[h];split<;>omega
  .by_cases g:e.adds=true/\i=m.next
   .rw[h,if_pos g.1];omega
   .rw[yib (fun q r=>g ⟨q,r⟩) d]at this;have:=k i b this;rw[h];split<;>omega
theorem ybkq{i:TypeInfo}{elem:TypeId}{l:Addr}{sLen k sCap:Nat}{new:List Value}{p:List Nat}{b:ABlk}{r:R}(n:m.b.get l.block=some b)(h:appSome m i elem l sLen k sCap new p b=some r) :
 ∀j∈r.e.mods,j∈r.foot/\∃b,m.b.get j=some b:=by
 unfold appSome at h;split at h
 .obtain⟨_,d⟩:=ybi h;rw[ybh]at d;split at d
  .unfold appIn at d;obtain⟨_,c⟩:=ybi d;rw[ybo]at c;cases c
   intro j g;simp[Eff.mods]at g;subst g;exact⟨by simp,_,n⟩
  .unfold appOut at d;rw[ybh]at d;split at d
   .rw[ycg d];intro j g;have:j=l.block:=by simpa[Eff.mods]using g
    subst this;exact⟨by simp,_,n⟩
   .obtain⟨q,_,c⟩:=yg d;rw[ycg c];intro j g
    have:j=l.block:=by
     rw[ybh]at g;split at g
     .simpa[Eff.mods]using g
     .simp[Eff.mods]at g
    subst this;exact⟨by simp,_,n⟩
 .cases h
theorem ycs{r:R}{P:Prop}{j:Nat}(h:r.e = .none\/∃b,r.e = .new b)(c:j∈r.e.mods):P:=by
 rcases h with h|⟨b,h⟩<;>(rw[h]at c;simp[Eff.mods]at c)
theorem yyz{v:Value}{r:R}(h:val v=some r):r.e = .none:=by rw[ygi h]
theorem yok{o:Oper}{r:R}(h:pureA P f o=some r):r.e = .none:=by
 unfold pureA at h;split at h
 .cases h
 .rw[zAG]at h;split at h
  .split at h
   .rw[zAG]at h;split at h
    .cases h;rfl
    .cases h
   .cases h
  .cases h
theorem ybdb{b:Addr}{k:Nat}{r:R}(h:addrAt b k=some r):r.e = .none:=by rw[(ykm h).2]
theorem ybdu{o:Oper}{r:R}(h:evOp P f o m=some r):∀i∈r.e.mods,i∈r.foot/\∃b,m.b.get i=some b:=by
 unfold evOp at h;split at h
 .obtain⟨_,_,h⟩:=yg h;exact fun i d=>ycs (.inl (yyz h)) d
 .obtain⟨_,_,h⟩:=yg h;exact fun i d=>ycs (.inl (yyz h)) d
 .obtain⟨_,_,h⟩:=yg h;unfold evPick at h;split at h
  .obtain⟨_,_,h⟩:=yg h;exact fun i d=>ycs (.inl (yyz h)) d
  .cases h
 .obtain⟨_,_,h⟩:=yg h;obtain⟨_,_,h⟩:=yg h;cases h;exact fun i d=>ycs (.inr ⟨_,rfl⟩) d
 .obtain⟨_,_,h⟩:=yg h;obtain⟨_,h⟩:=ybi h;cases h;exact fun i d=>ycs (.inr ⟨_,rfl⟩) d
 .obtain⟨_,_,h⟩:=yg h;obtain⟨_,_,h⟩:=yg h;obtain⟨_,_,h⟩:=yg h;obtain⟨_,_,h⟩:=yg h;unfold evBuild1 at h;split at h
  .obtain⟨_,_,h⟩:=yg h;obtain⟨_,_,h⟩:=yg h;exact fun i d=>ycs (.inl (yyz h)) d
  .obtain⟨_,_,h⟩:=yg h;obtain⟨_,_,h⟩:=yg h;exact fun i d=>ycs (.inl (yyz h)) d
  .cases h
 .obtain⟨_,_,h⟩:=yg h;obtain⟨_,_,h⟩:=yg h;unfold evBuildSlice at h;split at h
  .obtain⟨_,_,h⟩:=yg h;obtain⟨_,_,h⟩:=yg h;obtain⟨_,h⟩:=ybi h;obtain⟨_,_,h⟩:=yg h;cases h;exact fun i d=>ycs (.inr ⟨_,rfl⟩) d
  .cases h
 .obtain⟨_,_,h⟩:=yg h;unfold evLoad at h;split at h
  .obtain⟨_,_,h⟩:=yg h;cases h;exact fun i d=>ycs (.inl rfl) d
  .cases h
 .obtain⟨_,_,h⟩:=yg h;obtain⟨_,_,h⟩:=yg h;unfold evStore at h;split at h
  .obtain⟨e,g,h⟩:=yg h;cases h
   unfold storeA at g;split at g
   .rename_i j _
    simp only at g;rw[zAG]at g;split at g
    .cases g
     intro i d;simp[Eff.mods]at d;subst d;exact⟨by simp,_,j⟩
    .cases g
   .cases g
  .cases h
 .obtain⟨_,_,h⟩:=yg h;unfold evNilCheck at h;split at h
  .exact fun i d=>ycs (.inl (yyz h)) d
  .cases h
 .obtain⟨_,_,h⟩:=yg h;unfold evFieldAddr at h;split at h
  .obtain⟨_,_,h⟩:=yg h;unfold evFieldAddr1 at h;split at h
   .obtain⟨_,_,h⟩:=yg h;obtain⟨_,_,h⟩:=yg h;rw[ybh]at h;split at h
    .cases h
    .exact fun i d=>ycs (.inl (ybdb h)) d
   .cases h
  .cases h
 .obtain⟨_,_,h⟩:=yg h;unfold evFieldOf at h;split at h
  .obtain⟨_,_,h⟩:=yg h;unfold evFieldOf1 at h;split at h
   .obtain⟨_,_,h⟩:=yg h;obtain⟨_,_,h⟩:=yg h;exact fun i d=>ycs (.inl (yyz h)) d
   .cases h
  .cases h
 .obtain⟨_,_,h⟩:=yg h;obtain⟨_,_,h⟩:=yg h;unfold evIndexAddr at h;split at h
  .obtain⟨_,_,h⟩:=yg h;unfold evIndex1 at h;split at h
   .split at h
    .obtain⟨_,h⟩:=ybi h;obtain⟨_,_,h⟩:=yg h;exact fun i d=>ycs (.inl (ybdb h)) d
    .cases h
   .split at h
    .obtain⟨_,h⟩:=ybi h;obtain⟨_,_,h⟩:=yg h;exact fun i d=>ycs (.inl (ybdb h)) d
    .cases h
   .cases h
  .cases h
 .obtain⟨_,_,h⟩:=yg h;unfold evExtract at h;split at h
  .obtain⟨_,_,h⟩:=yg h;exact fun i d=>ycs (.inl (yyz h)) d
  .cases h
 .obtain⟨_,_,h⟩:=yg h;obtain⟨_,_,h⟩:=yg h;unfold evMakeFunc at h;split at h
  .exact fun i d=>ycs (.inl (yyz h)) d
  .cases h
 .obtain⟨_,_,h⟩:=yg h;obtain⟨_,_,h⟩:=yg h;unfold evMakeSlice at h;split at h
  .obtain⟨_,_,h⟩:=yg h;unfold evMakeSlice1 at h;split at h
   .obtain⟨_,_,h⟩:=yg h;obtain⟨_,_,h⟩:=yg h;obtain⟨_,h⟩:=ybi h;cases h;exact fun i d=>ycs (.inr ⟨_,rfl⟩) d
   .cases h
  .cases h
 .obtain⟨_,_,h⟩:=yg h;obtain⟨_,_,h⟩:=yg h;obtain⟨_,_,h⟩:=yg h;obtain⟨_,_,h⟩:=yg h;unfold sliceA at h;split at h
  .obtain⟨_,_,h⟩:=yg h;obtain⟨_,_,h⟩:=yg h;cases h;exact fun i d=>ycs (.inl rfl) d
  .obtain⟨_,_,h⟩:=yg h;obtain⟨_,_,h⟩:=yg h;obtain⟨_,_,_,_,_,rfl⟩:=yiz h;exact fun i d=>ycs (.inl rfl) d
  .obtain⟨_,_,h⟩:=yg h;obtain⟨_,_,h⟩:=yg h;obtain⟨_,_,h⟩:=yg h;cases h;exact fun i d=>ycs (.inl rfl) d
  .obtain⟨_,_,h⟩:=yg h;obtain⟨_,_,h⟩:=yg h;obtain⟨_,h⟩:=ybi h;obtain⟨_,_,_,_,_,rfl⟩:=yiz h;exact fun i d=>ycs (.inl rfl) d
  .cases h
 .cases h;exact fun i d=>ycs (.inr ⟨_,rfl⟩) d
 .obtain⟨_,_,h⟩:=yg h;obtain⟨_,_,h⟩:=yg h;obtain⟨_,_,h⟩:=yg h;unfold evLookup at h;split at h
  .obtain⟨_,h⟩:=ybi h;obtain⟨_,_,h⟩:=yg h;unfold evLookup1 at h;split at h
   .obtain⟨_,_,h⟩:=yg h;obtain⟨_,h⟩:=ybi h;cases h;exact fun i d=>ycs (.inl rfl) d
   .cases h
  .cases h
 .obtain⟨_,_,h⟩:=yg h;obtain⟨_,_,h⟩:=yg h;obtain⟨_,_,h⟩:=yg h;obtain⟨_,_,h⟩:=yg h;unfold evMapSet at h;split at h
  .obtain⟨_,h⟩:=ybi h;obtain⟨_,j,h⟩:=yg h;unfold evMapSet1 at h;split at h
   .obtain⟨_,_,h⟩:=yg h;cases h
    intro i d;simp[Eff.mods]at d;subst d;exact⟨by simp,_,j⟩
   .cases h
  .cases h
 .rename_i c _
  obtain⟨k,l,n⟩:=c;unfold evCallB at h;simp only at h;split at h
  .obtain⟨_,_,h⟩:=yg h;unfold evLen at h;split at h
   .obtain⟨_,_,h⟩:=yg h;split at h
    .rw[ybo]at h;exact fun i d=>ycs (.inl (yyz h)) d
    .cases h
   .exact fun i d=>ycs (.inl (yok h)) d
  .obtain⟨_,_,h⟩:=yg h;unfold evAppend at h;split at h
   .obtain⟨_,h⟩:=ybi h;obtain⟨_,_,h⟩:=yg h;split at h
    .unfold appendA at h;obtain⟨_,_,h⟩:=yg h;obtain⟨_,_,h⟩:=yg h;unfold appendA1 at h;obtain⟨_,h⟩:=ybi h;rw[ybh]at h;split at h
     .unfold appNone at h;split at h
      .cases h;exact fun i d=>ycs (.inl rfl) d
      .cases h
     .unfold appendA2 at h;split at h
      .rw[ycg h];exact fun i d=>ycs (.inr ⟨_,rfl⟩) d
      .obtain⟨_,j,h⟩:=yg h;exact ybkq j h
      .cases h
    .cases h
   .cases h
  .exact fun i d=>ycs (.inl (yok h)) d
  .exact fun i d=>ycs (.inl (yok h)) d
  .cases h
 .exact fun i d=>ycs (.inl (yok h)) d
 .exact fun i d=>ycs (.inl (yok h)) d
 .exact fun i d=>ycs (.inl (yok h)) d
 .exact fun i d=>ycs (.inl (yok h)) d
 .cases h
end
end Ev
end
section
namespace Ev
section
variable {P:Program}{self:Task->Option Out}{φ φ':Phi}{M M':AM}{w w':World}{f f':Fr}{m m' m'':Mem}{a:Act}{o:Oper}{r:R2}
theorem FrR.mono(h:FrR φ f a)(b:φ.le φ'):FrR φ' f a:=⟨h.size,fun t v c=>(h.get t v c).mono b⟩
theorem ykf{x:Operand}{v:Value}(d:∀t v,x = .tmp t->f.t.get t=some v->VR φ v (a.tmps.getD t undef))(h:f.get x=some v):VR φ v (a.eval x):=by
 cases x with
 |tmp t=>exact d t v rfl h
 | const u =>
   unfold Fr.get constA at h;obtain⟨b,c⟩:=ybi h;cases c
   exact VR.atomA b
 |global g=>cases h
 |func g=>unfold Fr.get at h;cases h;exact VR.func .nil .nil
theorem FrR.ov(h:FrR φ f a)(o:Oper):OV φ f o a.eval:=fun _ _ _ c=>ykf (fun t v _ b=>h.get t v b) c
theorem yqr{d:Option Tmp}{v:Value}(h:f.put d v=some f'):(d=none/\f'=f)\/∃k,d=some k/\k<f.n/\f'.n=f.n/\f'.t=T.set (zO k) f.t k (some v):=by
 cases d with
 |none=>cases h;exact .inl ⟨rfl,rfl⟩
 | some k =>
   right
   obtain⟨n,t⟩:=f
   change Fr.putD v k ⟨n,t⟩=some f' at h
   unfold Fr.putD at h;obtain⟨c,b⟩:=ybi h;unfold Fr.set1 at b;rw[force_eq,T.strict_eq]at b;cases b
   exact⟨k,rfl,zC (zAR _) (zF c),rfl,rfl⟩
theorem FrR.put{d:Option Tmp}{v v':Value}(h:FrR φ f a)(j:f.put d v=some f')(l:VR φ v v'):FrR φ f' (a.put d v'):=by
 rcases yqr j with⟨rfl,rfl⟩|⟨k,rfl,hk,g,i⟩
 .exact h
 .refine⟨by simp[Act.put,h.size,g],fun t u c=>?_⟩
  rw[i]at c;have:=T.get_set _ _ _ _ _ _ c;have b:k<a.tmps.size:=by rw[h.size];exact hk
  by_cases e:t=k
  .subst e;rw[if_pos rfl]at this;cases this
   simp[Act.put,b];exact l
  .rw[if_neg e]at this;have:=h.get t u this;simp only[Act.put,zG]at this ⊢;rw[zS,if_neg (fun q=>e q.symm)];exact this
theorem VR.undef:VR φ undef undef:=VR.tuple .nil
theorem VR.bool_iff{v v':Value}(h:VR φ v v')(b:Bool):v' = .bool b↔v = .bool b:=by
 cases h with
 |simple _=>rfl
 |ptr _=>constructor<;>intro h<;>cases h
 |slice _ _ _ _ _=>constructor<;>intro h<;>cases h
 |map _=>constructor<;>intro h<;>cases h
 |func _ _=>constructor<;>intro h<;>cases h
 |agg _=>constructor<;>intro h<;>cases h
 |tuple _=>constructor<;>intro h<;>cases h
theorem ygm{ops:Array Oper}{b:Bool}(h:wantedA ops.toList f o=some b)(C:∀j c i d v,o.guard=some (j,c)->ops[j]?=some i->i.dst=some d->f.t.get d=some v->VR φ v (a.tmps.getD d undef)) :
 Region.wanted o (yielded ops a.tmps)=b:=by
 unfold wantedA at h;unfold Region.wanted;cases l:o.guard with
 |none=>rw[l]at h;cases h;rfl
 | some g =>
   obtain⟨j,c⟩:=g;rw[l]at h
   change wantedG ops.toList f (j,c)=some b at h
   unfold wantedG at h;simp only[zV]at h;show(yielded ops a.tmps j==some c)=b;unfold yielded;cases n:ops[j]? with
   |none=>rw[n]at h;cases h;rfl
   | some i =>
     rw[n]at h;simp only[zAS]
     change wantedD f c i.dst=some b at h
     cases k:i.dst with
     |none=>rw[k]at h;cases h;rfl
     | some d =>
       rw[k]at h;obtain⟨v,D,B⟩:=yg h;cases B
       have e:=C j c i d v l n k D;simp only[zAS];rw[zG]at e;cases y:a.tmps[d]? with
       | none =>
         rw[y]at e
         have:boolIs c v=false:=by
          unfold boolIs;split
          .rename_i q;have:=(e.bool_iff q).2 rfl;cases this
          .rfl
         rw[this];rfl
       | some u =>
         rw[y]at e;simp only[Option.getD_some]at e
         by_cases p:∃q,u = .bool q
         .obtain⟨q,rfl⟩:=p;have:=(e.bool_iff q).1 rfl;subst this;show(some q==some c)=(q==c);cases q<;>cases c<;>rfl
         .have z:boolIs c v=false:=by
           unfold boolIs;split
           .rename_i q;exact absurd ⟨q,(e.bool_iff q).2 rfl⟩ p
           .rfl
          rw[z];split
          .rename_i q A;cases A;exact absurd ⟨q,rfl⟩ p
          .rfl
theorem VR.func_inv{g:FuncId}{x y:Array Value}{v':Value}(h:VR φ (.func (.func g) x y) v'):∃b c:List Value,v' = .func (.func g) b.toArray c.toArray/\VRL φ x.toList b/\VRL φ y.toList c:=by
 generalize e:Value.func (.func g) x y=v at h
 cases h with
 |simple h=>subst e;simp[Ev.simple]at h
 |func d i=>cases e;exact⟨_,_,rfl,by simpa using d,by simpa using i⟩
 |_=>cases e
noncomputable def yer(m:Mem)(r:R2)(i:Nat):Bool:=(zAE m.next i&&zAO i r.m.next)||(match r.mods with|none=>(m.b.get i).isSome&&zAE r.m.low i|some l=>l.elem i)
noncomputable def tM(m:Mem)(r:R2)(M:AM):AM:=fun i=>if yer m r i=true then r.m.b.get i else M i
structure OneOk(φ:Phi)(M:AM)(w:World)(m:Mem)(r:R2)(v':Value)(φ':Phi)(w':World):Prop where
 vr:VR φ' r.v v'
 le:φ.le φ'
 out:∀i,¬(m.next<=i/\i<r.m.next)->φ' i=φ i
 rel:Rel φ' (tM m r M) w'
 wg:WG φ M w φ' (tM m r M) w'
structure OnePure(m:Mem)(r:R2):Prop where
 ext:Ext m r.m
 low:r.m.low<=m.low
 same:∀i b,yer m r i=false->r.m.b.get i=some b->m.b.get i=some b
 mods:∀l,r.mods=some l->∀i∈l,∃b,m.b.get i=some b
def Need(m:Mem)(r:R2)(M:AM):Prop:=match r.foot with
 |none=>Sub m M
 |some c=>∀i∈c,∀b,m.b.get i=some b->M i=some b
theorem ygu{i:Nat}(h:yer m r i=false):¬(m.next<=i/\i<r.m.next)/\((r.mods=none/\(m.b.get i=none\/i<r.m.low))\/∃l,r.mods=some l/\i∉l):=by
 unfold yer at h;simp only[zAL,zT]at h;refine⟨fun q=>?_,?_⟩
 .rcases h.1 with d|d
  .rw[zJ q.1]at d;cases d
  .rw[show zAO i r.m.next=true from zJ q.2]at d;cases d
 .have c:=h.2;split at c
  .rename_i e
   refine .inl ⟨e,?_⟩;rw[zT]at c;rcases c with c|c
   .exact .inl (by simpa using c)
   .right
    rcases zU i r.m.low with q|q
    .exact q
    .rw[zJ q]at c;cases c
  .rename_i l g
   exact .inr ⟨l,g,by simpa using c⟩
theorem ygx{i:Nat}(h:yer m r i=true):(m.next<=i/\i<r.m.next)\/(r.mods=none/\(∃b,m.b.get i=some b)/\r.m.low<=i)\/∃l,r.mods=some l/\i∈l:=by
 unfold yer at h;simp only[zX,zB]at h;rcases h with h|h
 .exact .inl ⟨zF h.1,zF h.2⟩
 .right
  split at h
  .rename_i e
   simp only[zB]at h;exact .inl ⟨e,Option.isSome_iff_exists.1 h.1,zF h.2⟩
  .rename_i l c;exact .inr ⟨l,c,by simpa using h⟩
theorem yen(low:Nat)(m:Mem):backM low m=⟨m.next,m.b,zAW low m.low⟩:=by
 obtain⟨n,b,l⟩:=m;show Mem.mk1 n b (zAW low l)=_;simp only[Mem.mk1,ybo,T.strict_eq]
theorem yig(h:evOne P self f o m=some r) :
 (∃d,evOp P f o m=some d/\r=⟨d.v,m.app d.e,some d.foot,some d.e.mods⟩) \/
 (∃j args c g first b n v m',o.op = .call { callee:=.value j,args:=args,argTypes:=c }/\f.get j=some (.func (.func g) first b)/\valsA f args.toList=some n /\
   self (.call g (first.toList++n++b.toList) m)=some (.call v m')/\r=⟨v,backM m.low m',none,iteB (zAE m.next m'.low) (some []) none⟩):=by
 unfold evOne evOne1 at h;split at h
 .rename_i j args c q
  obtain⟨g,z,p⟩:=yg h;obtain⟨n,t,k⟩:=yg p;unfold evCall at k;split at k
  .rename_i u first b
   obtain⟨out,i,l⟩:=yg k;unfold afterCall at l;split at l
   .rename_i v m'
    cases l
    exact .inr ⟨j,args,c,u,first,b,n,v,m',q,z,t,i,rfl⟩
   .cases l
  .cases k
 .obtain⟨d,y,p⟩:=yg h;cases p
  exact .inl ⟨d,y,rfl⟩
theorem ybba(p:yfo P self)(h:evOne P self f o m=some r)(B:Wf m):OnePure m r:=by
 rcases yig h with⟨E,z,rfl⟩|⟨J,C,F,g,first,t,L,v,m',G,K,I,H,rfl⟩
 .have k:=ybdu z;refine⟨ycif B (fun i y=>(k i y).2),(yvs m E.e).1,fun i b A j=>?_,fun l u i y=>?_⟩
  .obtain⟨t1,⟨t2,_⟩|⟨l,t2,t3⟩⟩:=ygu A
   .cases t2
   cases t2
   have:=ysf j;rw[yib (fun q e=>t1 ⟨by rw[e];exact zD _,by rw[e];show _<(m.app E.e).next;rw[yqi,if_pos q];omega⟩) t3]at this
   exact this
  .cases u;exact(k i y).2
 .have c:=p _ _ H B;refine⟨?_,?_,fun i b A j=>?_,fun l u i y=>?_⟩
  .rw[yen];exact⟨c.1.next,c.1.dom,fun i b z=>c.1.old i b (zC z (zQ _ _)),c.1.wf⟩
  .rw[yen];exact zAI _ _
  .obtain⟨t1,⟨t2,t3⟩|⟨l,t2,t3⟩⟩:=ygu A
   .rw[yen]at t1 t3 j;rcases t3 with t3|t3
    .rcases c.1.dom i b j with⟨D,d⟩|d
     .rw[t3]at d;cases d
     .exact absurd d t1
    .exact c.1.old i b (zC t3 (zQ _ _)) t1 j
   rw[yen]at t1 j;rw[ybh]at t2;split at t2
   .rename_i n
    have n:=zF n;refine c.1.old i b ?_ t1 j;rcases c.1.dom i b j with⟨D,d⟩|d
    .exact zC (B i D d) n
    .exact absurd d t1
   .cases t2
  .rw[ybh]at u;split at u
   .cases u;cases y
   .cases u
theorem yeq{d:Operand}{args:Array Operand}{b:Array TypeId}(c:o.op = .call { callee:=.value d,args:=args,argTypes:=b }):d∈o.op.operands/\∀x∈args.toList,x∈o.op.operands:=by
 rw[c];simp[Op.operands,Call.operands];exact fun x e=>.inr e
theorem yng{ρ:Operand->Value}{d:Operand}{args:Array Operand}{b:Array TypeId}{g:FuncId}{x y:List Value}(c:o.op = .call { callee:=.value d,args:=args,argTypes:=b })(e:ρ d = .func (.func g) x.toArray y.toArray) :
 execOp ρ o=callFunc g (x++args.toList.map ρ++y).toArray:=by
 unfold execOp;rw[c];simp only[resolve,e,Deferred.ofValue];show invoke (.fn (.func g) y.toArray) (x.toArray++args.map ρ)=_;simp only[invoke];congr 1;apply Array.toList_inj.1;simp
theorem ybeq (A:yfo P self) (h:evOne P self f o m=some r) (hw:Wf m) (V:Rel φ M w) (k:Sub m M) (O:FrR φ f a) (z:yhm φ m.next r.m.next) {K:Act->World->Prop}{Q:Exit->Act->World->Prop}
 (L:∀v' w' φ' M',Good φ M w m r.m φ' M' w'->VR φ' r.v v'->K (a.put o.dst v') w'):o.wp P a w K Q:=by
 rcases yig h with⟨l,U,rfl⟩|⟨fx,E,W,g,first,C,vs,v,m',I,hg,S,hs,rfl⟩
 .have F:=ybdu U;have H:=yqi m l.e
  have R:OpOk P (execOp a.eval o) φ M w m.next l.v l.e:=ybag U V (O.ov o) (fun i _=>k i)
   (fun D=>z m.next (zD _) (by show _<(m.app l.e).next;rw[H,if_pos D];omega))
  obtain⟨φ',w',nx,q1,T,q3,q4,q5,q6,q7⟩:=R
  have c:Good φ M w m (m.app l.e) φ' (appM M m.next l.e) w':=by
   refine⟨q3,fun i G=>?_,q6,fun i b N=>ybzd k i b (ysf N),fun i G n=>?_,q7⟩
   .cases D:l.e.adds with
    |false=>rw[q5 D]
    |true=>exact q4 i (fun e=>G ⟨by omega,by rw[H,if_pos D];omega⟩)
   .refine yib (fun D e=>G ⟨by omega,by rw[H,if_pos D];omega⟩) (fun t=>?_)
    rcases n with n|n
    .obtain⟨b,N⟩:=(F i t).2;rw[n]at N;cases N
    .have:=(yvs m l.e).2 i t;omega
  unfold Oper.wp;rw[q1];cases nx with
  |value v'=>exact L v' w' φ' _ c T
  | skip =>
    have hv:l.v=undef:=T;exact L undef w' φ' _ c (by show VR φ' l.v undef;rw[hv];exact VR.undef)
  |_=>exact T.elim
 .have p:=A _ _ hs hw;obtain⟨m1,m2⟩:=yeq I;obtain⟨x',y',X,Y,Z⟩:=(O.ov o fx m1 _ hg).func_inv;have u:=yej (φ:=φ) (ρ:=a.eval) S (fun x hx=>O.ov o x (m2 x hx));have y:=p.2 φ M w (x'++E.toList.map a.eval++y') V k ((Y.append u).append Z) (by rw[yen]at z;exact z)
  have c:∀{φ' M' w'},Good φ M w m m' φ' M' w'->Good φ M w m (backM m.low m') φ' M' w':=fun d=>by
   rw[yen];exact⟨d.le,d.out,d.rel,d.sub,fun i G H=>d.frame i G (H.imp id fun q=>zC q (zQ _ _)),d.wg⟩
  unfold Oper.wp;rw[yng I X];rcases y with⟨j,hc⟩|⟨v',w',j,a0,J,φ',M',d,B⟩
  .rw[j,Oper.upon_enter];refine hc.mono ?_;rintro e w' ⟨v',rfl,φ',M',d,B⟩;exact L v' w' φ' M' (c d) B
  .rw[j];cases J
   exact L v' w' φ' M' (c d) B
theorem opIn{r:Option Nat}{K:Act->World->Prop}{Q:Exit->Act->World->Prop}(i:∀c,o.op ≠ .defer c)(h:o.wp P a w K Q):o.wpIn (wr r) 0 P a w K Q:=by
 refine⟨fun _ _=>trivial,?_⟩;rw[Oper.semAt_eq _ _ _ i];unfold Oper.wp at h
 revert h
 generalize (execOp a.eval o).run P w=x
 intro h;cases x with
 |halt j w'=>cases j<;>first|exact h|exact h.elim
 | ok k w' =>
   cases k with
   |value v=>exact h
   |skip=>exact h
   |defer d=>exact h
   |enter f b=>exact⟨fun q=>(by cases q),callsIn_wide.2 h⟩
   | row row b =>
     refine⟨fun q=>(by cases q),fun c g _=>?_⟩
     obtain⟨v,e,l,s⟩:=h c g;exact⟨v,e,l,stepsIn_wide.2 s⟩
   |_=>exact h.elim
theorem yyj(h:evOne P self f o m=some r):∀c,o.op ≠ .defer c:=by
 intro c d;unfold evOne at h;rw[d]at h
 change ob (evOp P f o m) (afterOp m)=some r at h
 obtain⟨x,b,_⟩:=yg h;unfold evOp at b;rw[d]at b;cases b
theorem ybsd (H:yfo P self) (h:evOne P self f o m=some r) (hw:Wf m) (hR:Rel φ M w) (u:Need m r M) (G:OV φ f o a.eval) (E:yhm φ m.next r.m.next) {K:Act->World->Prop}{Q:Exit->Act->World->Prop}
 (U:∀v' w' φ',OneOk φ M w m r v' φ' w'->K (a.put o.dst v') w'):o.wp P a w K Q:=by
 rcases yig h with⟨c,h1,rfl⟩|⟨fx,L,a0,g,first,J,vs,v,m',O,hg,Y,hs,rfl⟩
 .have W := yqi m c.e
  have X:OpOk P (execOp a.eval o) φ M w m.next c.v c.e:=ybag h1 hR G u
   (fun y=>E m.next (zD _) (by show _<(m.app c.e).next;rw[W,if_pos y];omega))
  obtain⟨φ',w',nx,q1,Z,q3,q4,q5,q6,q7⟩:=X
  have k:∀i b,tM m ⟨c.v,m.app c.e,some c.foot,some c.e.mods⟩ M i=some b->appM M m.next c.e i=some b:=by
   intro i b p;unfold tM at p;split at p
   .rename_i B
    have N:=ysf p;rcases ygx B with t|⟨t,_⟩|⟨l,t1,t2⟩
    ·-- fresh
     have t2:i<(m.app c.e).next:=t.2
     rw[W]at t2;split at t2
     .rename_i y
      have:i=m.next:=by omega
      subst this
      revert N
      cases V:c.e with
      |none=>rw[V]at y;cases y
      |new x=>simp[appM,upd]
      |upd j x=>rw[V]at y;cases y
      |move j x=>simp[appM,upd]
     .omega
    .cases t
    .cases t1
     revert N
     cases V:c.e<;>rw[V]at t2<;>simp[Eff.mods]at t2<;>subst t2<;>simp[appM,upd]
   .rename_i B
    have B:yer m ⟨c.v,m.app c.e,some c.foot,some c.e.mods⟩ i=false:=by simpa using B
    obtain⟨t1,⟨t2,_⟩|⟨l,t2,t3⟩⟩:=ygu B
    .cases t2
    cases t2
    rw[yib (fun q e=>t1 ⟨by omega,by show _<(m.app c.e).next;rw[W,if_pos q];omega⟩) t3]
    exact p
  have n:∀{v'},VR φ' c.v v'->OneOk φ M w m ⟨c.v,m.app c.e,some c.foot,some c.e.mods⟩ v' φ' w':=fun S=>by
   refine⟨S,q3,fun i hi=>?_,q6.sub k,q7.sub k⟩;cases y:c.e.adds with
   |false=>rw[q5 y]
   |true=>exact q4 i (fun e=>hi ⟨by omega,by show _<(m.app c.e).next;rw[W,if_pos y];omega⟩)
  unfold Oper.wp;rw[q1];cases nx with
  |value v'=>exact U v' w' φ' (n Z)
  | skip =>
    have S:c.v=undef:=Z;exact U undef w' φ' (n (by rw[S];exact VR.undef))
  |_=>exact Z.elim
 .have A:=H _ _ hs hw;obtain⟨m1,m2⟩:=yeq O;obtain⟨x',y',e1,e2,e3⟩:=(G fx m1 _ hg).func_inv;have C:=yej (φ:=φ) (ρ:=a.eval) Y (fun x hx=>G x (m2 x hx));have R:Sub m M:=u;have D:=A.2 φ M w (x'++L.toList.map a.eval++y') hR R ((e2.append C).append e3) (by rw[yen]at E;exact E)
  have n : ∀{φ' M' w' v'},Good φ M w m m' φ' M' w'->VR φ' v v'->OneOk φ M w m ⟨v,backM m.low m',none,iteB (zAE m.next m'.low) (some []) none⟩ v' φ' w':=fun {φ' M' w' v'} d S=>by
   have k:∀i b,tM m ⟨v,backM m.low m',none,iteB (zAE m.next m'.low) (some []) none⟩ M i=some b->M' i=some b:=by
    intro i b p;unfold tM at p;split at p
    .rw[yen]at p;exact d.sub i b p
    .rename_i B
     have B:yer m ⟨v,backM m.low m',none,iteB (zAE m.next m'.low) (some []) none⟩ i=false:=by simpa using B
     obtain⟨t1,⟨t2,t3⟩|⟨l,t2,t3⟩⟩:=ygu B
     .rw[yen]at t1 t3;rw[d.frame i t1 (t3.imp id fun q=>zC q (zQ _ _))];exact p
     rw[yen]at t1;rw[ybh]at t2;split at t2
     .rename_i F
      have F:=zF F;rw[d.frame i t1 ?_]
      .exact p
      .cases y:m.b.get i with
       |none=>exact .inl rfl
       |some b0=>exact .inr (zC (hw i b0 y) F)
     .cases t2
   exact⟨S,d.le,by rw[yen];exact d.out,d.rel.sub k,d.wg.sub k⟩
  unfold Oper.wp;rw[yng O e1];rcases D with⟨z,hc⟩|⟨v',w',z,a1,T,φ',M',d,I⟩
  .rw[z,Oper.upon_enter];refine hc.mono ?_;rintro e w' ⟨v',rfl,φ',M',d,I⟩;exact U v' w' φ' (n d I)
  .rw[z];cases T
   exact U v' w' φ' (n d I)
end
noncomputable def T.filt{α:Type}:T α->(Nat->Bool)->T α
 |.leaf,_=>.leaf
 |.node v l r,p=>.node (if p 0 then v else none) (T.filt l fun j=>p (2*j+1)) (T.filt r fun j=>p (2*j+2))
theorem T.filt_get{α:Type}:∀(t:T α) (p:Nat->Bool) (i:Nat),(T.filt t p).get i=if p i then t.get i else none
 |.leaf,p,i=>by show none=_;rw[T.get_leaf];split<;>rfl
 |.node v l r,p,0=>by show(T.node _ _ _).get 0=_;rw[T.get_zero,T.get_zero]
 | .node v l r,p,k+1=>by
   show(T.node _ _ _).get (k+1)=_;rw[T.get_succ,T.get_succ]
   by_cases h:even k=true
   .have:=(ycp k).1 h;rw[if_pos h,if_pos h,T.filt_get l];rw[show 2*(k/2)+1=k+1 by omega]
   .have:=mt (ycp k).2 h;rw[if_neg h,if_neg h,T.filt_get r];rw[show 2*(k/2)+2=k+1 by omega]
noncomputable def Mem.only(m:Mem)(ft:List Nat):Mem:=⟨m.next,T.filt m.b fun i=>ft.elem i,m.low⟩
theorem ydg{m:Mem}{ft:List Nat}{i:Nat}{b:ABlk}:(m.only ft).b.get i=some b↔i∈ft/\m.b.get i=some b:=by
 show(T.filt m.b _).get i=some b↔_;rw[T.filt_get];simp
noncomputable def T.join{α:Type}:T α->T α->(Nat->Bool)->T α
 |.leaf,b,p=>T.filt b p
 |.node v l r,.leaf,p=>T.filt (.node v l r) fun i=>!(p i)
 |.node v l r,.node e c d,p=>.node (if p 0 then e else v) (T.join l c fun j=>p (2*j+1)) (T.join r d fun j=>p (2*j+2))
theorem T.join_get{α:Type}:∀(a b:T α) (p:Nat->Bool) (i:Nat),(T.join a b p).get i=if p i then b.get i else a.get i
 |.leaf,b,p,i=>by show(T.filt b p).get i=_;rw[T.filt_get,T.get_leaf]
 | .node v l r,.leaf,p,i=>by
   show(T.filt (.node v l r) fun i=>!(p i)).get i=_;rw[T.filt_get,T.get_leaf];cases p i<;>rfl
 | .node v l r,.node e c d,p,0=>by
   show(T.node _ _ _).get 0=_;rw[T.get_zero,T.get_zero,T.get_zero]
 | .node v l r,.node e c d,p,k+1=>by
   show(T.node _ _ _).get (k+1)=_;rw[T.get_succ,T.get_succ,T.get_succ]
   by_cases h:even k=true
   .have:=(ycp k).1 h;rw[if_pos h,if_pos h,if_pos h,T.join_get l];rw[show 2*(k/2)+1=k+1 by omega]
   .have:=mt (ycp k).2 h;rw[if_neg h,if_neg h,if_neg h,T.join_get r];rw[show 2*(k/2)+2=k+1 by omega]
noncomputable def Mem.grow(m m':Mem):Mem:=⟨m'.next,T.join m.b m'.b fun i=>zAE m.next i,m.low⟩
theorem yiw{m m':Mem}{i:Nat}:(m.grow m').b.get i=if m.next<=i then m'.b.get i else m.b.get i:=by
 show(T.join m.b m'.b _).get i=_;rw[T.join_get]
 by_cases q:m.next<=i
 .rw[if_pos q,if_pos (zJ q)]
 .rw[if_neg q,if_neg (fun h=>q (zF h))]
def ydob(P:Program)(f:Fr)(o:Oper)(m:Mem)(r:R2):Prop :=
 ∃ e args c g first b h v m' d,o.op = .call { callee:=.value e,args:=args,argTypes:=c }/\f.get e=some (.func (.func g) first b)/\valsA f args.toList=some h /\
   yca P (.call g (first.toList++h++b.toList) (m.only d)) (.call v m')/\m.next<=m'.low/\r=⟨v,m.grow m',some d,some []⟩
def One(P:Program)(f:Fr)(o:Oper)(m:Mem)(r:R2):Prop:=(∃self,yfo P self/\evOne P self f o m=some r)\/ydob P f o m r
section
variable {P:Program}{φ:Phi}{M:AM}{w:World}{f:Fr}{m:Mem}{a:Act}{o:Oper}{r:R2}
theorem yfi{ft:List Nat}(h:Wf m):Wf (m.only ft):=fun i b c=>h i b (ydg.1 c).2
theorem One.pure(h:One P f o m r)(n:Wf m):OnePure m r:=by
 rcases h with⟨self,d,h⟩|⟨F,p,y,g,first,j,H,v,m',E,B,G,D,u,t,rfl⟩
 .exact ybba d h n
 .have k:=(u (yfi n)).1.next
  have e:=(u (yfi n)).1.wf
  have back:∀i b,¬(m.next<=i/\i<m'.next)->(m.grow m').b.get i=some b->m.b.get i=some b:=fun i b k c=>by
   rw[yiw]at c;split at c
   .rename_i q;exact absurd ⟨q,e i b c⟩ k
   .exact c
  exact⟨⟨k,fun i b c=>by
   rw[yiw]at c;split at c
   .rename_i q;exact .inr ⟨q,e i b c⟩
   .exact .inl ⟨b,c⟩,fun i b _ k c=>back i b k c,fun i b c=>by
   rw[yiw]at c;split at c
   .exact e i b c
   .exact zC (n i b c) k⟩,zD _,fun i b C c=>back i b (ygu C).1 c,fun l A i z=>by cases A;cases z⟩
theorem One.plain(h:One P f o m r):∀c,o.op ≠ .defer c:=by
 rcases h with⟨self,e,h⟩|⟨l,i,j,g,first,b,n,v,m',k,d,_⟩
 .exact yyj h
 .intro c q;rw[d]at q;cases q
theorem yxk{φ':Phi}{M':AM}{w':World}{m':Mem}{ft:List Nat}(j:Wf m)(c:m.next<=m'.low)(e:Good φ M w (m.only ft) m' φ' M' w') :
 ∀i b,(if m.next<=i/\i<m'.next then M' i else M i)=some b->M' i=some b:=by
 intro i b d;split at d
 .exact d
 .rename_i g
  rw[e.frame i g ?_]
  .exact d
  .rcases zU i m.next with q|q
   .exact .inr (zC q c)
   .left
    cases h:(m.only ft).b.get i with
    |none=>rfl
    |some x=>have:=yfi j i x h;exact absurd this (Nat.not_lt.2 q)
theorem One.seq (h:One P f o m r) (F:Wf m) (J:Rel φ M w) (l:Sub m M) (H:FrR φ f a) (C:yhm φ m.next r.m.next) {K:Act->World->Prop}{Q:Exit->Act->World->Prop}
 (G:∀v' w' φ' M',Good φ M w m r.m φ' M' w'->VR φ' r.v v'->K (a.put o.dst v') w'):o.wp P a w K Q:=by
 rcases h with⟨self,y,h⟩|⟨T,B,L,g,first,A,vs,v,m',S,D,V,I,X,p,rfl⟩
 .exact ybeq y h F J l H C G
 .have d:=X (yfi F);obtain⟨Z,m2⟩:=yeq D;obtain⟨x',y',N,O,R⟩:=(H.ov o T Z _ V).func_inv;have t:=yej (φ:=φ) (ρ:=a.eval) I (fun x Y=>H.ov o x (m2 x Y));have u:=d.2 φ M w (x'++B.toList.map a.eval++y') J (fun i b n=>l i b (ydg.1 n).2) ((O.append t).append R) C
  have j:∀{φ' M' w'},Good φ M w (m.only S) m' φ' M' w'->Good φ M w m (m.grow m') φ' (fun i=>if m.next<=i/\i<m'.next then M' i else M i) w':=fun c =>
   ⟨c.le,c.out,c.rel.sub (yxk F p c),fun i b n=>by
     rw[yiw]at n;split at n
     .rename_i q;rw[if_pos ⟨q,d.1.wf i b n⟩];exact c.sub i b n
     .rw[if_neg (fun q=>by have:=F i b n;omega)];exact l i b n,fun i W _=>if_neg W,c.wg.sub (yxk F p c)⟩
  unfold Oper.wp;rw[yng D N];rcases u with⟨k,U⟩|⟨v',w',k,a0,E,φ',M',c,z⟩
  .rw[k,Oper.upon_enter];refine U.mono ?_;rintro e w' ⟨v',rfl,φ',M',c,z⟩;exact G v' w' φ' _ (j c) z
  .rw[k];cases E
   exact G v' w' φ' _ (j c) z
theorem One.draw (h:One P f o m r) (O:Wf m) (R:Rel φ M w) (d:Need m r M) (z:OV φ f o a.eval) (E:yhm φ m.next r.m.next) {K:Act->World->Prop}{Q:Exit->Act->World->Prop}
 (L:∀v' w' φ',OneOk φ M w m r v' φ' w'->K (a.put o.dst v') w'):o.wp P a w K Q:=by
 rcases h with⟨self,A,h⟩|⟨W,D,S,g,first,C,vs,v,m',J,G,Y,N,Z,F,rfl⟩
 .exact ybsd A h O R d z E L
 .have n:=Z (yfi O);obtain⟨m1,m2⟩:=yeq G;obtain⟨x',y',T,U,V⟩:=(z W m1 _ Y).func_inv;have u:=yej (φ:=φ) (ρ:=a.eval) N (fun x hx=>z x (m2 x hx));have y:=n.2 φ M w (x'++D.toList.map a.eval++y') R (fun i b p=>d i (ydg.1 p).1 b (ydg.1 p).2) ((U.append u).append V) E
  have q:∀{φ' M' w' v'},Good φ M w (m.only J) m' φ' M' w'->VR φ' v v'->OneOk φ M w m ⟨v,m.grow m',some J,some []⟩ v' φ' w':=fun {φ' M' w' v'} c hv=>by
   have k:∀i b,tM m ⟨v,m.grow m',some J,some []⟩ M i=some b->M' i=some b:=by
    intro i b p;unfold tM at p;split at p
    .rename_i H
     rcases ygx H with t|⟨t,_⟩|⟨l,t1,t2⟩
     .rw[yiw,if_pos t.1]at p;exact c.sub i b p
     .cases t
     .cases t1;cases t2
    .rename_i H
     have H:yer m ⟨v,m.grow m',some J,some []⟩ i=false:=by simpa using H
     refine yxk O F c i b ?_;rw[if_neg (show ¬(m.next<=i/\i<m'.next)from(ygu H).1)]
     exact p
   exact⟨hv,c.le,c.out,c.rel.sub k,c.wg.sub k⟩
  unfold Oper.wp;rw[yng G T];rcases y with⟨j,X⟩|⟨v',w',j,a0,I,φ',M',c,B⟩
  .rw[j,Oper.upon_enter];refine X.mono ?_;rintro e w' ⟨v',rfl,φ',M',c,B⟩;exact L v' w' φ' (q c B)
  .rw[j];cases I
   exact L v' w' φ' (q c B)
end
end Ev
end
section
namespace Ev
section
variable {P:Program}{self:Task->Option Out}{φ φ':Phi}{M M':AM}{w w':World}{f f':Fr}{m m' m'':Mem}{a:Act}
theorem Act.put_defers(a:Act)(d:Option Tmp)(v:Value):(a.put d v).defers=a.defers:=by cases d<;>rfl
structure Grow(m m':Mem):Prop where
 ext:Ext m m'
 low:m'.low<=m.low
theorem Grow.refl(h:Wf m):Grow m m:=⟨Ext.refl h,zD _⟩
theorem Grow.trans(a:Grow m m')(b:Grow m' m''):Grow m m'':=⟨Ext.trans b.low a.ext b.ext,zM b.low a.low⟩
theorem ybrv{ops:List Oper}{o:Oper}{l:List Oper}{x:FM}(h:evOps P self ops (o::l) f m=some x) :
 (wantedA ops f o=some false/\∃f1,f.put o.dst undef=some f1/\evOps P self ops l f1 m=some x) \/
 (wantedA ops f o=some true/\∃r f1,evOne P self f o m=some r/\f.put o.dst r.v=some f1/\evOps P self ops l f1 r.m=some x):=by
 change ob (wantedA ops f o) (evOps1 P self o (evOps P self ops l) f m)=some x at h
 obtain⟨b,g,c⟩:=yg h;cases b with
 | false =>
   left
   change putNext m (evOps P self ops l) (f.put o.dst undef)=some x at c
   obtain⟨f1,d,e⟩:=yg c;exact⟨g,f1,d,e⟩
 | true =>
   right
   change (ob (evOne P self f o m) fun r=>putNext r.m (evOps P self ops l) (f.put o.dst r.v))=some x at c
   obtain⟨r,d,e⟩:=yg c;obtain⟨f1,i,j⟩:=yg e;exact⟨g,r,f1,d,i,j⟩
theorem yoq(b:yfo P self){ops:Array Oper}{rr:Option Nat}:∀(l:List Oper) (f:Fr) (m:Mem) (x:FM),evOps P self ops.toList l f m=some x->Wf m ->
 Grow m x.m/\∀φ M w a Q,Rel φ M w->Sub m M->FrR φ f a->yhm φ m.next x.m.next->(∀a' w' φ' M',Good φ M w m x.m φ' M' w'->FrR φ' x.f a'->a'.defers=a.defers->Q .normal a' w')->wpListIn (wr rr) 0 P ops Q l a w
 | [],f,m,x,h,y=>by
   cases h
   exact⟨Grow.refl y,fun φ M w a Q n t g _ k=>k a w φ M (Good.refl n t) g rfl⟩
 | o :: l,f,m,x,h,y=>by
   rcases ybrv h with⟨c,f1,j,C⟩|⟨c,r,f1,j,C,H⟩
   .obtain⟨i,B⟩:=yoq b l f1 m x C y;refine⟨i,fun φ M w a Q n t g e k=>wpListIn_step fun K D=>?_⟩;rw[ygm (φ:=φ) c (fun _ _ _ d v _ _ _ u=>g.get d v u)];exact⟨fun _ _=>trivial,D _ _ (B φ M w _ Q n t (g.put j VR.undef) e fun a' w' φ' M' J L N=>k a' w' φ' M' J L (N.trans (Act.put_defers _ _ _)))⟩
   .have q:=ybba b j y;obtain⟨i,B⟩:=yoq b l f1 r.m x H q.ext.wf;refine⟨Grow.trans ⟨q.ext,q.low⟩ i,fun φ M w a Q n t g e k=>wpListIn_step fun K D=>?_⟩;rw[ygm (φ:=φ) c (fun _ _ _ d v _ _ _ u=>g.get d v u)];refine opIn (yyj j) (ybeq b j y n t g (e.left i.ext.next) fun O w' φ' M' p u=>D _ _ ?_)
    refine B φ' M' w' _ Q p.rel p.sub ((g.mono p.le).put C u) (p.fresh q.ext e) fun a' G z A F E I=>?_;exact k a' G z A (Good.trans q.ext i.ext i.low p F) E (I.trans (Act.put_defers _ _ _))
def ydb(P:Program)(c:Code)(f:Fr)(m:Mem)(e:Exit)(f':Fr)(m':Mem):Prop :=
 Grow m m'/\∀φ M w a r,InR r w->Rel φ M w->Sub m M->FrR φ f a->yhm φ m.next m'.next->c.wpIn (wr r) 0 P (ycol φ M w m e f' m' a) a w
theorem ydh(b:yfo P self){c:Code}{out:Out}(h:self (.code c f m)=some out)(j:Wf m):∃e f' m',out = .code e f' m'/\ydb P c f m e f' m':=by
 have:=b _ _ h;cases out with
 |code e f' m'=>obtain⟨d,g,i⟩:=this j;exact⟨e,f',m',rfl,⟨d,g⟩,i⟩
 |call v m'=>exact this.elim
theorem ydb.seq{c d:Code}{f1 f2:Fr}{v y:Mem}{e:Exit}(l:ydb P c f m .normal f1 v)(g:ydb P d f1 v e f2 y):ydb P (.seq c d) f m e f2 y:=by
 refine⟨l.1.trans g.1,fun φ M w a r u t E D i=>wpIn_seq (wpIn_mono (l.2 φ M w a r u t E D (i.left g.1.ext.next)) ?_)⟩
 rintro B z w' ⟨rfl,φ',M',b,q,C⟩;refine wpIn_mono (g.2 φ' M' w' z r (u.step t b.wg) b.rel b.sub q (b.fresh l.1.ext i)) ?_;rintro B A F ⟨rfl,k,n,j,h,p⟩;exact⟨rfl,k,n,Good.trans l.1.ext g.1.ext g.1.low b j,h,C.trans b.wg.size b.rel j.wg p⟩
theorem ymr{e:Exit}{K:Act->World->Prop}{Q:Exit->Act->World->Prop}{a:Act}{w:World}(b:e ≠ .normal)(h:Q e a w):Exit.then K Q e a w:=by
 cases e<;>first|exact absurd rfl b|exact h
theorem yxm{c:Code}{n:Nat}{out:Out}(h:evLoop self c (n+1) f m=some out) :
 (∃f1 b,self (.code c f m)=some (.code .normal f1 b)/\evLoop self c n f1 b=some out)\/(self (.code c f m)=some out/\∀f1 b,out ≠ .code .normal f1 b):=by
 change ob (self (.code c f m)) (again (evLoop self c n))=some out at h
 obtain⟨j,i,d⟩:=yg h;unfold again at d;split at d
 .rename_i f1 b;exact .inl ⟨f1,b,i,d⟩
 .rename_i g;cases d;exact .inr ⟨i,fun f1 b e=>g f1 b e⟩
theorem yts(d:yfo P self){c:Code}{rr:Option Nat}:∀(n:Nat) (f:Fr) (m:Mem) (out:Out),evLoop self c n f m=some out->Wf m->∃e f' m',out = .code e f' m'/\Grow m m' /\
 ∀φ M w a Q,InR rr w->Rel φ M w->Sub m M->FrR φ f a->yhm φ m.next m'.next->(∀a' w' φ' M',Good φ M w m m' φ' M' w'->FrR φ' f' a'->Df w w' a a'->Q e a' w')->Code.roundsIn (wr rr) 0 P c Q n a w
 |0,f,m,out,h,I=>by cases h
 | n + 1,f,m,out,h,I=>by
   rcases yxm h with⟨f1,O,A,L⟩|⟨A,F⟩
   .obtain⟨R,f0,S,N,b⟩:=ydh d A I;cases N
    obtain⟨e,f',m',rfl,j,H⟩:=yts d n f1 O out L b.1.ext.wf;refine⟨e,f',m',rfl,b.1.trans j,fun φ M w a Q k v G E g B=>?_⟩;rw[roundsIn_succ];refine wpIn_mono (b.2 φ M w a rr k v G E (g.left j.ext.next)) ?_
    rintro K a' w' ⟨rfl,φ',M',i,l,C⟩;exact H φ' M' w' a' Q (k.step v i.wg) i.rel i.sub l (i.fresh b.1.ext g) fun z J u y t p D=>B z J u y (Good.trans b.1.ext j.ext j.low i t) p (C.trans i.wg.size i.rel t.wg D)
   .obtain⟨e,f',m',rfl,b⟩:=ydh d A I;refine⟨e,f',m',rfl,b.1,fun φ M w a Q k v G E g B=>?_⟩;rw[roundsIn_succ];refine wpIn_mono (b.2 φ M w a rr k v G E g) ?_;rintro K a' w' ⟨rfl,φ',M',i,l,C⟩;exact ymr (by intro q;subst q;exact F f' m' rfl) (B a' w' φ' M' i l C)
theorem yse(n:Rel φ M w)(q:Sub m M)(g:FrR φ f a):∀{l:List ResultVar}{d:List Value},resA P m f l=some d ->
 ∃ c,VRL φ d c/\(l.mapM (fun(x:ResultVar)=>match x with
   |.tmp t=>pure (a.tmps.getD t undef)
   |.cell e t=>do loadVar t (<-asAddr (a.tmps.getD e undef))):Sem (List Value)).run P w = .ok c w
 |[],d,h=>by cases h;exact⟨[],.nil,rfl⟩
 | .tmp t::l,d,h=>by
   unfold resA at h;split at h
   .rename_i v r y p
    cases h
    obtain⟨c,j,k⟩:=yse n q g p;refine⟨a.tmps.getD t undef::c,.cons (g.get t v y) j,?_⟩;simp only[zAX,zAM,zBA,zAQ,k]
   .cases h
 | .cell e t::l,d,h=>by
   unfold resA at h;split at h
   .rename_i i r y p
    split at h
    .rename_i v B
     cases h
     obtain⟨c,j,k⟩:=yse n q g p;obtain⟨z,u,C,D,E⟩:=ybgc B n (fun b=>q i.block b) (g.get e _ y);refine⟨u::c,.cons E j,?_⟩;have A:(asAddr (a.tmps.getD e undef)).run P w = .ok z w:=by rw[C];rfl
     simp only[zAX,zAM,A,zBA,zAQ,D,k]
    .cases h
   .cases h
theorem ybee{fn:Func}(n:Rel φ M w)(u:Sub m M)(p:FrR φ f a){i:List Value}(h:resA P m f fn.results.toList=some i) :
 ∃v',(results fn a.tmps).run P w = .ok v' w/\VR φ (oneOrTuple i) v':=by
 obtain⟨b,g,l⟩:=yse n u p h
 have e:(fn.results.mapM (fun(x:ResultVar)=>match x with
  |.tmp t=>pure (a.tmps.getD t undef)
  |.cell k t=>do loadVar t (<-asAddr (a.tmps.getD k undef))):Sem (Array Value)).run P w = .ok b.toArray w:=by
  rw[Array.mapM_eq_mapM_toList,Sem.run_map,l];rfl
 refine⟨if h:b.toArray.size=1 then b.toArray[0]else .tuple b.toArray,?_,?_⟩
 .unfold results;rw[zAM]
  erw [e]
  rfl
 .have c:=g.length;unfold oneOrTuple;split
  .rename_i v
   obtain⟨v',rfl,q⟩:=yiq g
   simpa using q
  .rename_i d
   rw[dif_neg]
   .exact VR.tuple g
   .intro j;simp at j;rw[j]at c
    match i,c,d with
    |[v],_,d=>exact d v rfl
def yxq (P : Program) : Prop := ∀ (g : FuncId) (fn : Func), P.funcs[g]? = some fn -> fn.body.isSome = true -> (fn.name == "runtime.NumGoroutine") = false
theorem yvc{args b:List Value}(h:VRL φ args b)(n:Nat) :
 FrR φ ⟨Nat.max args.length n,tOf args⟩ { tmps:=b.toArray++zAT (n-b.toArray.size) undef,defers:=[] }:=by
 have j:=h.length;refine⟨by show _=max args.length n;simp;omega,fun t v g=>?_⟩
 obtain⟨i,c,e⟩:=h.get (ymb g)
 have d:t<b.length:=by
  rcases zU t b.length with q|q
  .exact q
  .rw[zW q]at c;cases c
 have:(b.toArray++zAT (n-b.toArray.size) undef).getD t undef=i:=by
  rw[zG,Array.getElem?_append_left (by simpa using d)]
  simp[c]
 rw[this];exact e
theorem ydn(i:yxq P){g:FuncId}{fn:Func}{c:Code}(d:P.funcs[g]?=some fn)(b:fn.body=some c)(args:Array Value)(w:World):(callFunc g args).run P w = .ok (.enter g args) w:=by
 have e:=i g fn d (by rw[b];rfl)
 have h : ¬ (fn.name = "runtime.NumGoroutine") := by simpa using e
 simp[callFunc,program,Sem.run,d,b,h]
theorem yta{fn:Func}{F:List Value}{t:List Deferred}:∀{w':World}{M':AM}{φ':Phi},Good φ M w m m' φ' M' w'->FrR φ' f a->resA P m' f fn.results.toList=some F ->
 Marks w.heap.size w' t->LeavesInM Fence.wide 0 P fn a.tmps (fun e w'=>∃v',e = .returned v'/\∃φ' M',Good φ M w m m' φ' M' w'/\VR φ' (oneOrTuple F) v') t .returning w':=by
 induction t with
 | nil =>
   intro w' M' φ' c v h _;obtain⟨v',O,Q⟩:=ybee c.rel c.sub v h;exact⟨v',O,v',rfl,φ',M',c,Q⟩
 | cons d t J =>
   intro w' M' φ' c v h y;obtain⟨D,R,A,u⟩:=y.2 d (zI ..);have n:=List.pairwise_cons.1 y.1;have g:∀k,Img φ' M' k->(w'.putObj D (.deferred none)).heap[k]?=w'.heap[k]?:=fun k hk=>World.putObj_heap_other (fun q=>Img.not_deferred c.rel u (q▸hk));refine⟨by simp,.inl ⟨D,w'.putObj D (.deferred none),A,run_takeDeferred u,J ⟨c.le,c.out,⟨⟨fun i b B=>?_,c.rel.inj⟩,fun x p=>⟨?_,(c.rel.gl x p).2⟩⟩,c.sub,c.frame,?_⟩ v h ⟨n.2,fun x p=>?_⟩⟩⟩
   .obtain⟨l,E,N⟩:=c.rel.blk i b B;exact⟨l,E,N.keep (g _ ⟨i,b,l,B,E,rfl⟩)⟩
   .obtain⟨e,H,q⟩:=(c.rel.gl x p).1;exact⟨e,H,(World.putObj_heap_other fun z=>by rw[z,u]at q;cases q).trans q⟩
   .have j:=c.wg;refine⟨j.os,j.tape,j.output,by simp;exact j.size,fun k hk I=>?_,j.img⟩
    rw[World.putObj_heap_other (by omega)]
    exact j.keep k hk I
   .obtain⟨G,K,C,L⟩:=y.2 x (zK _ p);refine⟨G,K,C,?_⟩;rw[World.putObj_heap_other ?_]
    .exact L
    .rintro rfl;exact n.1 x p (A.trans C.symm)
theorem ybcd(hn:yxq P)(y:yfo P self){g:FuncId}{fn:Func}{args:List Value}{out:Out}(Q:P.funcs[g]?=some fn)(h:enterFn P self args m fn=some out):yca P (.call g args m) out:=by
 unfold enterFn at h;obtain⟨c,L,K⟩:=yg h;unfold enterBody at K;rw[ybo,T.strict_eq]at K;obtain⟨o1,h3,E⟩:=yg K
 clear h K
 have k:∀(f1:Fr) (l:Mem) (e:Exit),(e = .normal\/e = .ret)->o1 = .code e f1 l->leaveFn P m fn.results.toList f1 l=some out->yca P (.call g args m) out:=by
  intro f1 l e he ho Z;subst ho;unfold leaveFn at Z;obtain⟨vs,V,h6⟩:=yg Z;cases h6
  have W:Wf m->Wf (enterM m):=fun h=>h
  have J:Wf m->Grow (enterM m) l/\∀φ M w d,Rel φ M w->Sub m M->VRL φ args d->yhm φ m.next l.next ->
   Calls P g d.toArray w (fun e w'=>∃D,e = .returned D/\∃φ' M',Good φ M w (enterM m) l φ' M' w'/\VR φ' (oneOrTuple vs) D):=by
   intro A;obtain⟨e0,f0,m0,N,H⟩:=ydh y h3 (W A);cases N
   refine⟨H.1,fun φ M w d F C I t=>callsIn_wide.1 (callsIn_of_wp_marks (n:=0) Q L trivial ?_)⟩;refine wpIn_mono (H.2 φ M w _ none (InR.none _) F C (yvc I fn.ntmps) t) ?_;rintro Y a' w' ⟨rfl,φ',M',j,O,hd⟩;obtain⟨ms,U,S⟩:=hd;have R:=yta j O V S;rw[show ms=a'.defers by rw[U];simp]at R
   rcases he with rfl|rfl
   .exact R
   .exact R
  unfold leave;rw[ybh];split
  .rename_i p
   simp only[zB]at p;have G:=zF p.1;intro A;obtain⟨B,X⟩:=J A;refine⟨⟨B.ext.next,fun i b u=>.inl ⟨b,u⟩,fun i b _ _ u=>u,fun i b u=>zC (A i b u) B.ext.next⟩,fun φ M w d F C I t=>.inl ⟨ydn hn Q L _ _,?_⟩⟩
   refine(X φ M w d F C I t).mono ?_;rintro Y w' ⟨D,rfl,φ',M',j,z⟩;have v:∀i,¬(m.next<=i/\i<l.next)->(m.b.get i=none\/i<l.low)->M' i=M i:=j.frame
   refine⟨D,rfl,φ',M',⟨j.le,j.out,j.rel,fun i b u=>?_,v,j.wg⟩,z⟩;have hi:=A i b u;rw[v i (fun q=>by omega) (.inr (zC hi G))]
   exact C i b u
  .intro A;obtain⟨B,X⟩:=J A;refine⟨⟨B.ext.next,B.ext.dom,B.ext.old,B.ext.wf⟩,fun φ M w d F C I t=>.inl ⟨ydn hn Q L _ _,?_⟩⟩
   refine(X φ M w d F C I t).mono ?_;rintro Y w' ⟨D,rfl,φ',M',j,z⟩;exact⟨D,rfl,φ',M',⟨j.le,j.out,j.rel,j.sub,j.frame,j.wg⟩,z⟩
 unfold endFn at E;split at E
 .rename_i f1 l;exact k f1 l .normal (.inl rfl) rfl E
 .rename_i f1 l;exact k f1 l .ret (.inr rfl) rfl E
 .cases E
end
end Ev
end
section
namespace Ev
section
variable {P:Program}{self:Task->Option Out}{f:Fr}{m:Mem}
structure Ent where
 f:Fr
 m:Mem
 w:Bool
 r:R2
def ycox(P:Program)(ops:List Oper)(o:Oper)(e:Ent):Prop :=
 wantedA ops e.f o=some e.w/\(e.w=true->One P e.f o e.m e.r)/\(e.w=false->e.r=⟨undef,e.m,some [],some []⟩)
def Ent.rec'(i:Nat)(e:Ent):Rec:=⟨i,e.r.foot,e.r.mods,e.m.next,e.r.m.next⟩
def Ent.idle(e:Ent):Bool:=Ev.idle e.r e.m.next e.r.m.next
def Ap(i j:Nat)(e q:Ent):Prop:=e.idle=true\/q.idle=true\/apart2 (e.rec' i) (q.rec' j)=true
theorem yrf{e:Ent}(h:e.r=⟨undef,e.m,some [],some []⟩):e.idle=true:=by
 unfold Ent.idle Ev.idle;rw[h];show zAF e.m.next e.m.next=true
 exact zAN _
inductive Trace (P:Program) (ops:List Oper) (x:FM):List Oper->List Ent->Fr->Mem->Prop
 |nil:Trace P ops x [] [] x.f x.m
 |cons {o:Oper}{l:List Oper}{e:Ent}{es:List Ent}{f1:Fr}(he:ycox P ops o e) (hp:e.f.put o.dst e.r.v=some f1) (h:Trace P ops x l es f1 e.r.m):Trace P ops x (o::l) (e::es) e.f e.m
theorem ytd(g:yfo P self){ops:List Oper}{x:FM}:∀{l:List Oper}{i:Nat}{an:List Nat}{n:List Rec}{f:Fr}{m:Mem},evDraw P self ops l i an n f m=some x ->
 ∃ es,Trace P ops x l es f m/\(∀k e,es[k]?=some e->∀c∈n,zL (an.getD k 0) c.i=true\/e.idle=true\/apart2 (e.rec' (i+k)) c=true) /\
   (∀k q e d,q<k->es[k]?=some e->es[q]?=some d->zL (an.getD k 0) (i+q)=true\/Ap (i+k) (i+q) e d)
 | [],i,an,n,f,m,h=>by
   cases h
   exact⟨[],.nil,by simp,by simp⟩
 | o :: l,i,an,n,f,m,h=>by
   unfold evDraw at h;obtain⟨b,J,F⟩:=yg h;have y:∀k,an.getD (k+1) 0=an.tail.getD k 0:=fun k=>by cases an<;>simp[zAY]
   have z:an.getD 0 0=an.headD 0:=by cases an<;>rfl
   have join : ∀(e:Ent) (f1:Fr) (t:List Rec),e.f=f->e.m=m->ycox P ops o e->e.f.put o.dst e.r.v=some f1->evDraw P self ops l (zO i) an.tail t f1 e.r.m=some x ->
    (∀c∈n,c∈t)->(e.idle=true\/(e.rec' i∈t/\∀c∈n,zL (an.headD 0) c.i=true\/apart2 (e.rec' i) c=true)) ->
    ∃ es,Trace P ops x (o::l) es f m/\(∀k e,es[k]?=some e->∀c∈n,zL (an.getD k 0) c.i=true\/e.idle=true\/apart2 (e.rec' (i+k)) c=true) /\
      (∀k q e d,q<k->es[k]?=some e->es[q]?=some d->zL (an.getD k 0) (i+q)=true\/Ap (i+k) (i+q) e d):=by
    intro e f1 t K L O C N D j;obtain⟨es,t1,t2,t3⟩:=ytd g N;subst K L;refine⟨e::es,.cons O C t1,fun k E hk c p=>?_,fun k q E d S hk Q=>?_⟩
    .cases k with
     | zero =>
       simp at hk;subst hk;rw[z];rcases j with h|⟨_,h⟩
       .exact .inr (.inl h)
       .rcases h c p with h|h
        .exact .inl h
        .exact .inr (.inr h)
     | succ k =>
       rw[y];have:=t2 k E (by simpa using hk) c (D c p)
       rw[show i+(k+1)=zO i+k by omega]
       exact this
    .cases k with
     |zero=>omega
     | succ k =>
       rw[y,show i+(k+1)=zO i+k by omega]
       cases q with
       | zero =>
         simp at Q;subst Q;rcases j with h|⟨h,_⟩
         .exact .inr (.inr (.inl h))
         .rcases t2 k E (by simpa using hk) _ h with h|h|h
          .exact .inl h
          .exact .inr (.inl h)
          .exact .inr (.inr (.inr h))
       | succ q =>
         rw[show i+(q+1)=zO i+q by omega]
         exact t3 k q E d (by omega) (by simpa using hk) (by simpa using Q)
   cases b with
   | false =>
     change putNext m (evDraw P self ops l (zO i) an.tail n) (f.put o.dst undef)=some x at F
     obtain⟨f1,G,u⟩:=yg F;exact join ⟨f,m,false,⟨undef,m,some [],some []⟩⟩ f1 n rfl rfl ⟨J,fun h=>(by cases h),fun _=>rfl⟩ G u (fun _ h=>h) (.inl (yrf rfl))
   | true =>
     change ob (evOne P self f o m) (evDraw2 o i (an.headD 0) n (evDraw P self ops l (zO i) an.tail) f m)=some x at F
     obtain⟨r,G,u⟩:=yg F;unfold evDraw2 at u;rw[ybh]at u;split at u
     .rename_i A
      obtain⟨f1,H,I⟩:=yg u;exact join ⟨f,m,true,r⟩ f1 n rfl rfl ⟨J,fun _=>.inl ⟨self,g,G⟩,fun h=>(by cases h)⟩ H I (fun _ h=>h) (.inl A)
     .unfold evDraw3 at u;obtain⟨B,H⟩:=ybi u;obtain⟨f1,I,R⟩:=yg H;refine join ⟨f,m,true,r⟩ f1 _ rfl rfl ⟨J,fun _=>.inl ⟨self,g,G⟩,fun h=>(by cases h)⟩ I R (fun _ h=>zK _ h) (.inr ⟨zI,fun c p=>?_⟩)
      have:=List.all_eq_true.1 B c p;rw[zX]at this;exact this
end
noncomputable def anL(ops:List Oper)(i:Nat):Nat:=((ancs ops []).reverse).getD i 0
theorem ywa:∀(l:List Oper) (b:List Nat),∃new:List Nat,ancs l b=new++b/\new.length=l.length /\
 ∀i o,l[i]?=some o->new.reverse[i]?=some (ancOf o ((new.reverse.take i).reverse++b))
 |[],b=>⟨[],rfl,rfl,by simp⟩
 | o :: l,b=>by
   obtain⟨new,d,e,g⟩:=ywa l (ancOf o b::b);refine⟨new++[ancOf o b],by rw[ancs,d];simp,by simp[e],fun i h c=>?_⟩
   cases i with
   |zero=>simp at c;subst c;simp
   | succ i =>
     have:=g i h (by simpa using c)
     simp only[List.reverse_append,List.reverse_cons,List.reverse_nil,List.nil_append,List.singleton_append,List.getElem?_cons_succ,List.take_succ_cons,zAP];exact this
theorem yckb{ops:List Oper}{i:Nat}{o:Oper}(h:ops[i]?=some o):anL ops i=ancOf o ((((ancs ops []).reverse).take i).reverse):=by
 obtain⟨new,b,d,c⟩:=ywa ops [];have:=c i o h;unfold anL;rw[b];simp only[List.append_nil]at this ⊢;rw[zAY,this];rfl
theorem ybae(b:List Nat):∀(es:List Edge) (s:Nat) (q:Nat),zL (es.foldl (fun s e=>bif Region.binds .any e then s|||2^e.on|||b.getD (b.length-1-e.on) 0 else s) s) q=true ->
 zL s q=true\/∃e∈es,Region.binds .any e=true/\(q=e.on\/zL (b.getD (b.length-1-e.on) 0) q=true)
 |[],s,q,h=>.inl h
 | e :: es,s,q,h=>by
   rw[zY]at h;rcases ybae b es _ q h with h|⟨d,g,i⟩
   .cases c:Region.binds .any e with
    |false=>rw[c]at h;exact .inl h
    | true =>
      rw[c]at h;simp only[cond_true,Nat.testBit_or,zX]at h;rcases h with(h|h)|h
      .exact .inl h
      .right
       rw[Nat.testBit_two_pow]at h;exact⟨e,zI,c,.inl (by simpa using Eq.symm (by simpa using h))⟩
      .exact .inr ⟨e,zI,c,.inr h⟩
   .exact .inr ⟨d,zK _ g,i⟩
theorem yboy{ops:List Oper}{i q:Nat}{o:Oper}(h:ops[i]?=some o)(g:∀e∈o.after.toList,Region.binds .any e=true->e.on<i)(j:zL (anL ops i) q=true) :
 ∃e∈o.after.toList,Region.binds .any e=true/\(q=e.on\/zL (anL ops e.on) q=true):=by
 rw[yckb h]at j;unfold ancOf at j;rcases ybae _ _ 0 q j with t|⟨e,k,l,c⟩
 .simp at t
 .refine⟨e,k,l,c.imp id fun c=>?_⟩;have d:=g e k l
  have u:i<ops.length:=by
   rcases zU i ops.length with q|q
   .exact q
   .rw[zW q]at h;cases h
  obtain⟨new,n,p,_⟩:=ywa ops [];have b:((ancs ops []).reverse.take i).length=i:=by rw[n];simp[p];omega
  unfold anL;rw[zAY,List.length_reverse,b]at c;rw[List.getElem?_reverse (by rw[b];omega),b,show i-1-(i-1-e.on)=e.on by omega,List.getElem?_take_of_lt d]at c
  exact c
theorem ybnt{ops:List Oper}{an:List Nat}(h:slotsOk ops an=true){i:Nat}{o:Oper}(d:ops[i]?=some o):∀e∈o.after.toList,Region.binds .any e=true->e.on<i:=by
 intro e c b;unfold slotsOk at h;have:=List.all_eq_true.1 h (o,i) (List.mem_zipIdx_iff_getElem?.2 (by simpa using d))
 simp only[zB]at this;have:=List.all_eq_true.1 this.1 e c;rw[b]at this;simp at this;exact this
theorem ybko{ops:List Oper}{an:List Nat}(h:slotsOk ops an=true){i j:Nat}{o d:Oper}(g:ops[i]?=some o)(c:ops[j]?=some d)(e:j<i):zL (an.getD i 0) j=true\/dstApart ops o d=true:=by
 unfold slotsOk at h;have:=List.all_eq_true.1 h (o,i) (List.mem_zipIdx_iff_getElem?.2 (by simpa using g))
 simp only[zB]at this;have:=List.all_eq_true.1 this.2 (d,j) (List.mem_zipIdx_iff_getElem?.2 (by simpa using c))
 simp only[zX]at this;rcases this with(b|b)|b
 .have:=zF b;omega
 .exact .inl b
 .exact .inr b
end Ev
end
section
namespace Ev
theorem ybau:∀{l k:List Nat},l.Pairwise (· < ·)->k.Pairwise (· < ·)->(∀x,x∈l↔x∈k)->l=k
 |[],[],_,_,_=>rfl
 |[],y::k,_,_,h=>absurd ((h y).2 zI) (by simp)
 |x::l,[],_,_,h=>absurd ((h x).1 zI) (by simp)
 | x :: l,y::k,c,hk,h=>by
   rw[List.pairwise_cons]at c hk
   have g:x=y:=by
    rcases List.mem_cons.1 ((h x).1 zI)with e|e
    .exact e
    .rcases List.mem_cons.1 ((h y).2 zI)with d|d
     .exact d.symm
     .have:=hk.1 x e;have:=c.1 y d;omega
   subst g;congr 1;refine ybau c.2 hk.2 fun z=>⟨fun b=>?_,fun b=>?_⟩
   .rcases List.mem_cons.1 ((h z).1 (zK _ b))with e|e
    .subst e;exact absurd (c.1 z b) (zAZ _)
    .exact e
   .rcases List.mem_cons.1 ((h z).2 (zK _ b))with e|e
    .subst e;exact absurd (hk.1 z b) (zAZ _)
    .exact e
def last{α:Type}(c:Nat->Bool)(v:Nat->α)(a:α)(s:List Nat):α:=s.foldl (fun b j=>if c j=true then v j else b) a
theorem ybeu{α:Type}(b:Nat->Bool)(v:Nat->α)(a:α)(s:List Nat)(j:Nat):last b v a (s++[j])=if b j=true then v j else last b v a s:=by
 simp[last,List.foldl_append]
theorem ydo{α:Type}(b:Nat->Bool)(v:Nat->α):∀(s:List Nat) (a:α),last b v a s=last b v a (s.filter b)
 |[],a=>rfl
 | j :: s,a=>by
   cases h:b j with
   |true=>rw[List.filter_cons_of_pos h];simp only[last,zY,h,if_true];exact ydo b v s (v j)
   | false =>
     rw[List.filter_cons_of_neg (by simp[h])]
     have:=ydo b v s a;simp only[last,zY,h]at this ⊢
     simpa using this
theorem last_none{α:Type}(b:Nat->Bool)(v:Nat->α):∀(s:List Nat) (a:α),(∀j∈s,b j=false)->last b v a s=a
 |[],a,_=>rfl
 | j::s,a,h=>by
   have c:=h j zI;have:=last_none b v s a fun k hk=>h k (zK _ hk);simp only[last,zY,c]at this ⊢
   simpa using this
abbrev anc(ops:List Oper)(i q:Nat):Prop:=zL (anL ops i) q=true
structure Ord(ops:Array Oper)(s:List Nat):Prop where
 nd:s.Nodup
 lt:∀i∈s,i<ops.size
 closed:∀i∈s,∀o,ops[i]?=some o->∀e∈o.after.toList,Region.binds .any e=true->e.on∈s
 pw:s.Pairwise fun x y=>¬anc ops.toList x y
section
variable {ops:Array Oper}{s:List Nat}
theorem ypz(c:∀i o,ops[i]?=some o->∀e∈o.after.toList,Region.binds .any e=true->e.on<i)(h:Ord ops s):∀(i:Nat),i∈s->∀q,anc ops.toList i q->q∈s:=by
 intro i
 induction i using zAU with
 | _ i t =>
   intro n q p;have j:=h.lt i n;have d:ops[i]?=some ops[i]:=zAD j;obtain⟨e,k,l,g⟩:=yboy (ops:=ops.toList) (by rw[zV];exact d) (c i _ d) p
   have b:=h.closed i n _ d e k l;rcases g with rfl|g
   .exact b
   .exact t e.on (c i _ d e k l) b q g
theorem ybpi(b:∀i o,ops[i]?=some o->∀e∈o.after.toList,Region.binds .any e=true->e.on<i)(h:Ord ops s){j:Nat}{o:Oper}(l:ops[j]?=some o)(k:∀e∈o.after.toList,Region.binds .any e=true->e.on∈s){q:Nat}(n:anc ops.toList j q):q∈s:=by
 obtain⟨e,d,g,c⟩:=yboy (ops:=ops.toList) (by rw[zV];exact l) (b j _ l) n
 rcases c with rfl|c
 .exact k e d g
 .exact ypz b h e.on (k e d g) q c
theorem Ord.nil:Ord ops []:=⟨List.nodup_nil,by simp,by simp,List.Pairwise.nil⟩
theorem Ord.snoc(k:∀i o,ops[i]?=some o->∀e∈o.after.toList,Region.binds .any e=true->e.on<i)(h:Ord ops s){j:Nat}{o:Oper}(t:ops[j]?=some o)(d:j∉s)(u:∀e∈o.after.toList,Region.binds .any e=true->e.on∈s):Ord ops (s++[j]):=by
 refine⟨?_,fun i b=>?_,fun i b v c e p n=>?_,?_⟩
 .rw[List.nodup_append];exact⟨h.nd,by simp,fun x l y g=>by simp at g;subst g;intro e;subst e;exact d l⟩
 .rcases List.mem_append.1 b with b|b
  .exact h.lt i b
  .simp at b;subst b;exact(Array.getElem?_eq_some_iff.1 t).1
 .rcases List.mem_append.1 b with b|b
  .exact zZ _ (h.closed i b v c e p n)
  .simp at b;subst b;rw[t]at c;cases c
   exact zZ _ (u e p n)
 .rw[zAK];refine⟨h.pw,by simp,fun x l y g=>?_⟩
  simp at g;subst g;exact fun q=>d (ypz k h x l y q)
theorem filter_eq(h:Ord ops s){b:Nat->Bool}{j:Nat}(g:∀q k,q<k->k<ops.size->b q=true->b k=true->anc ops.toList k q)(i:∀q∈s,b q=true->q<j)(l:∀q,q<j->b q=true->q∈s):s.filter b=(zH j).filter b:=by
 refine ybau ?_ (List.Pairwise.filter _ List.pairwise_lt_range) fun x=>?_
 .have n:(s.filter b).Pairwise (fun x y=>¬anc ops.toList x y/\x≠y):=by
   refine List.Pairwise.filter _ ?_;exact h.pw.and h.nd
  refine List.Pairwise.imp_of_mem ?_ n;intro x y d e c;rw[zAJ]at d e;rcases zAB x y with q|q|q
  .exact q
  .exact absurd q c.2
  .exact absurd (g y x q (h.lt x d.1) e.2 d.2) c.1
 .rw[zAJ,zAJ,List.mem_range];exact⟨fun q=>⟨i x q.1 q.2,q.2⟩,fun q=>⟨l x q.1 q.2,q.2⟩⟩
end
section
variable {P:Program}{self:Task->Option Out}{x:FM}
theorem Trace.run{ops:List Oper}:∀{l:List Oper}{es:List Ent}{f:Fr}{m:Mem},Trace P ops x l es f m->∃(F:Nat->Fr) (G:Nat->Mem),F 0=f/\G 0=m/\F l.length=x.f/\G l.length=x.m /\
 ∀k o,l[k]?=some o->∃e,es[k]?=some e/\ycox P ops o e/\e.f=F k/\e.m=G k/\e.r.m=G (k+1)/\e.f.put o.dst e.r.v=some (F (k+1))
 |_,_,_,_,.nil=>⟨fun _=>x.f,fun _=>x.m,rfl,rfl,rfl,rfl,by simp⟩
 | _,_,_,_,.cons (o:=o) (l:=l) (e:=e) (es:=es) (f1:=f1) j n h=>by
   obtain⟨F,G,b,c,d,g,i⟩:=Trace.run h;refine⟨fun k=>match k with|0=>e.f|k+1=>F k,fun k=>match k with|0=>e.m|k+1=>G k,rfl,rfl,d,g,fun k p hk=>?_⟩
   cases k with
   |zero=>simp at hk;subst hk;exact⟨e,rfl,j,rfl,rfl,c.symm,by rw[n];exact congrArg some b.symm⟩
   |succ k=>exact i k p (by simpa using hk)
end
end Ev
end
section
namespace Ev
section
variable {P:Program}{self:Task->Option Out}
def needs(m:Mem)(r:R2)(i:Nat):Prop:=match r.foot with
 |none=>∃b,m.b.get i=some b
 |some c=>i∈c
structure Sep(m:Mem)(r:R2)(m':Mem)(r':R2):Prop where
 s1:∀i,needs m r i->yer m' r' i=false
 s2:∀i,needs m' r' i->yer m r i=false
 s3:∀i,yer m' r' i=true->yer m r i=false
theorem yia{m:Mem}{r:R2}(b:r.mods=some [])(c:m.next=r.m.next)(i:Nat):yer m r i=false:=by
 cases h:yer m r i with
 |false=>rfl
 | true =>
   rcases ygx h with t|⟨t,_⟩|⟨l,t1,t2⟩
   .omega
   .rw[b]at t;cases t
   .rw[b]at t1;cases t1;cases t2
theorem ybaz{r:R2}{c b:Nat}(h:Ev.idle r c b=true):r.foot=some []/\r.mods=some []/\c=b:=by
 unfold Ev.idle at h;split at h
 .rename_i d e;exact⟨d,e,zA h⟩
 .cases h
theorem ykt{a b:Rec}(h:before1 a b=true):∃c,b.mods=some c/\((a.foot=none/\c=[]/\b.lo=b.hi)\/∃d,a.foot=some d/\∀x∈d,x∉c/\¬(b.lo<=x/\x<b.hi)):=by
 unfold before1 at h;split at h
 .cases h
 .rename_i c g
  refine⟨c,g,?_⟩;split at h
  .rename_i e
   simp only[zB]at h;exact .inl ⟨e,by simpa using h.1,zA h.2⟩
  .rename_i d e
   refine .inr ⟨d,e,fun x i=>?_⟩;have:=List.all_eq_true.1 h x i;simp only[zB,zAC,zT]at this;refine⟨by simpa using this.1,fun q=>?_⟩
   rcases this.2 with t|t
   .rw[zJ q.1]at t;cases t
   .rw[show zAO x b.hi=true from zJ q.2]at t;cases t
theorem yya{i j:Nat}{e q:Ent}(h:before1 (e.rec' i) (q.rec' j)=true):∀k,needs e.m e.r k->yer q.m q.r k=false:=by
 intro k hk;obtain⟨u,c,b⟩:=ykt h;have c:q.r.mods=some u:=c;rcases b with⟨b,d,n⟩|⟨g,b,d⟩
 .subst d;exact yia c n k
 .have b:e.r.foot=some g:=b;unfold needs at hk;rw[b]at hk;obtain⟨t1,t2⟩:=d k hk;cases p:yer q.m q.r k with
  |false=>rfl
  | true =>
    rcases ygx p with t|⟨t,_⟩|⟨l,t3,t4⟩
    .exact absurd t t2
    .rw[c]at t;cases t
    .rw[c]at t3;cases t3;exact absurd t4 t1
theorem yoj{f:Fr}{o:Oper}{m:Mem}{r:R2}(h:evOne P self f o m=some r){l:List Nat}(c:r.mods=some l){i:Nat}(e:i∈l):needs m r i:=by
 rcases yig h with⟨y,k,rfl⟩|⟨q,d,j,g,first,b,z,v,m',n,t,p,u,rfl⟩
 .cases c;exact(ybdu k i e).1
 .rw[ybh]at c;split at c
  .cases c;cases e
  .cases c
theorem ybdy{f:Fr}{o:Oper}{m:Mem}{r:R2}(h:evOne P self f o m=some r){l:List Nat}(c:r.mods=some l){i:Nat}(j:i∈l):r.m.low<=i:=by
 rcases yig h with⟨q,u,rfl⟩|⟨t,d,k,g,first,b,A,v,m',n,y,p,z,rfl⟩
 .cases c;exact(yvs m q.e).2 i j
 .rw[ybh]at c;split at c
  .cases c;cases j
  .cases c
theorem One.yoj{f:Fr}{o:Oper}{m:Mem}{r:R2}(h:One P f o m r){l:List Nat}(e:r.mods=some l){i:Nat}(d:i∈l):needs m r i:=by
 rcases h with⟨self,_,h⟩|⟨t,c,k,g,first,b,z,v,m',q,n,u,p,y,j,rfl⟩
 .exact Ev.yoj h e d
 .cases e;cases d
theorem One.ybdy{f:Fr}{o:Oper}{m:Mem}{r:R2}(h:One P f o m r){l:List Nat}(e:r.mods=some l){i:Nat}(d:i∈l):r.m.low<=i:=by
 rcases h with⟨self,_,h⟩|⟨t,c,k,g,first,b,z,v,m',q,n,u,p,y,j,rfl⟩
 .exact Ev.ybdy h e d
 .cases e;cases d
theorem ybjh (g0:P.follows .mixedOrders=true) {rr:Option Nat}{ops:Array Oper}{f:Fr}{m:Mem}{x:FM}(b6:slotsOk ops.toList (ancs ops.toList []).reverse=true)
 {es:List Ent}(j8:Trace P ops.toList x ops.toList es f m) (i5:∀k q e d,q<k->es[k]?=some e->es[q]?=some d->zL ((ancs ops.toList []).reverse.getD k 0) (0+q)=true\/Ap (0+k) (0+q) e d) (hw:Wf m) :
 Grow m x.m/\∀(id:Nat) φ M w a Q,Rel φ M w->Sub m M->FrR φ f a->yhm φ m.next x.m.next->(∀a' w' φ' M',Good φ M w m x.m φ' M' w'->FrR φ' x.f a'->a'.defers=a.defers->Q .normal a' w')->(Code.region id ops true).wpIn (wr rr) 0 P Q a w:=by
 obtain⟨F,G,e4,b7,e5,b8,j5⟩:=j8.run;simp only[Array.length_toList]at e5 b8;have a7:∀i o,ops[i]?=some o->∀e∈o.after.toList,Region.binds .any e=true->e.on<i:=fun i o I=>ybnt b6 (by simpa using I)
 let R:Nat->R2:=fun k=>match es[k]? with|some e=>e.r|none=>⟨undef,x.m,some [],some []⟩
 have C:∀k o,ops[k]?=some o->∃e,es[k]?=some e/\ycox P ops.toList o e/\e.f=F k/\e.m=G k/\R k=e.r/\(R k).m=G (k+1)/\(F k).put o.dst (R k).v=some (F (k+1)):=by
  intro k o I;obtain⟨e,J,A,h3,h4,h5,h6⟩:=j5 k o (by simpa using I)
  have hR:R k=e.r:=by show(match es[k]? with|some e=>e.r|none=>_)=_;rw[J]
  exact⟨e,J,A,h3,h4,hR,by rw[hR];exact h5,by rw[hR,<-h3];exact h6⟩
 have B:∀k,k<ops.size->ops[k]?=some ops[k]!:=fun k hk=>by rw[zAD hk];simp[hk]
 have d0:∀k,k<ops.size->Wf (G k)->OnePure (G k) (R k):=by
  intro k hk f3;obtain⟨e,J,A,h3,h4,h5,h6,h7⟩:=C k _ (B k hk);cases K:e.w with
  |true=>rw[h5,<-h4];rw[<-h4]at f3;exact(A.2.1 K).pure f3
  | false =>
    have:=A.2.2 K;rw[h5,this,h4];exact⟨Ext.refl f3,zD _,fun i b _ g=>g,fun l hl i hi=>by cases hl;cases hi⟩
 have d1:∀k,k<=ops.size->Wf (G k):=by
  intro k
  induction k with
  |zero=>intro _;rw[b7];exact hw
  | succ k ih =>
    intro hk;have:=d0 k hk (ih (by omega))
    obtain⟨e,J,A,h3,h4,h5,h6,h7⟩:=C k _ (B k hk);rw[<-h6];exact this.ext.wf
 have W:∀k,k<ops.size->OnePure (G k) (R k):=fun k hk=>d0 k hk (d1 k (by omega))
 have c3:∀k,k<ops.size->(R k).m=G (k+1):=fun k hk=>(C k _ (B k hk)).choose_spec.2.2.2.2.2.1
 have p:∀k q,q<=k->k<=ops.size->Grow (G q) (G k):=by
  intro k
  induction k with
  | zero=>intro q E hk;obtain rfl:q=0:=by omega
          exact Grow.refl (d1 0 hk)
  | succ k ih =>
    intro q E hk;rcases zU q (k+1)with a1|f7
    .refine(ih q (by omega) (by omega)).trans ?_
     have:=W k hk;rw[<-c3 k hk];exact⟨this.ext,this.low⟩
    .obtain rfl:q=k+1:=by omega
     exact Grow.refl (d1 _ hk)
 have e8:Grow m x.m:=by rw[<-b7,<-b8];exact p _ 0 (by omega) (zD _)
 have f4:∀q k,q<k->k<ops.size->anc ops.toList k q\/Sep (G k) (R k) (G q) (R q):=by
  intro q k a8 hk;obtain⟨e,J,A,h3,h4,h5,h6,h7⟩:=C k _ (B k hk);obtain⟨d,g1,g2,g3,g4,g5,g6,g7⟩:=C q _ (B q (by omega))
  rcases i5 k q e d a8 J g1 with g|g
  .left;simpa[anc,anL]using g
  right
  rw[h5,g5,<-h4,<-g4];unfold Ap at g;rcases g with g|g|g
  .obtain⟨i1,i2,i3⟩:=ybaz g;exact⟨fun i X=>(by unfold needs at X;rw[i1]at X;exact absurd X (by simp)),fun i _=>yia i2 i3 i,fun i _=>yia i2 i3 i⟩
  .obtain⟨i1,i2,i3⟩:=ybaz g;exact⟨fun i _=>yia i2 i3 i,fun i X=>(by unfold needs at X;rw[i1]at X;exact absurd X (by simp)),fun i z=>(by rw[yia i2 i3 i]at z;cases z)⟩
  .unfold apart2 at g;simp only[zB]at g;obtain⟨⟨b1,b2⟩,b3⟩:=g;have s1:=yya b1;have s2:=yya b2;refine⟨s1,s2,fun i z=>?_⟩;obtain⟨mq,q1,_⟩:=ykt b1;obtain⟨mk,k1,_⟩:=ykt b2;have q1:d.r.mods=some mq:=q1;have k1:e.r.mods=some mk:=k1;cases j6:yer e.m e.r i with
   |false=>rfl
   | true =>
     exfalso
     have g8:=W q (by omega)
     have i8:=p k (q+1) (by omega) (by omega)
     have k9:d.r.m.next<=e.m.next:=by rw[<-g5,g6,h4];exact i8.ext.next
     have l0:d.m.next<=d.r.m.next:=by have:=g8.ext.next;rw[g5,<-g4]at this;exact this
     rcases ygx j6 with t|⟨t,_⟩|⟨l,t1,t2⟩
     .rcases ygx z with u|⟨u,_⟩|⟨l',u1,u2⟩
      .omega
      .rw[q1]at u;cases u
      .obtain⟨b,g⟩:=g8.mods l' (by rw[g5];exact u1) i u2
       have:=d1 q (by omega) i b g
       rw[<-g4]at this;omega
     .rw[k1]at t;cases t
     .have K:e.w=true:=by
       cases K:e.w with
       |true=>rfl
       |false=>have:=A.2.2 K;rw[this]at t1;cases t1;cases t2
      have:=s1 i (One.yoj (A.2.1 K) t1 t2);rw[this]at z;cases z
 have c4:∀q k,q<k->k<ops.size->anc ops.toList k q\/dstApart ops.toList ops[k]! ops[q]! = true:=by
  intro q k a8 hk;have J:=B k hk;have A:=B q (by omega)
  rcases ybko b6 (i:=k) (j:=q) (by simpa using J) (by simpa using A) a8 with g|g
  .left;simpa[anc,anL]using g
  .exact .inr g
 refine⟨e8,fun id φ M w a Q hR hs hf i7 hQ=>wpIn_region_any g0 ?_⟩
 let EM:List Nat->AM:=fun s i=>last (fun j=>yer (G j) (R j) i) (fun j=>(R j).m.b.get i) (M i) s
 let ES:List Nat->Nat->Option Value:=fun s t=>last (fun j=>decide ((ops[j]!).dst=some t)) (fun j=>some (R j).v) (f.t.get t) s
 have O:∀s j,EM (s++[j])=tM (G j) (R j) (EM s):=fun s j=>by
  funext i
  exact ybeu _ _ _ s j
 have a2:∀s j t,ES (s++[j]) t=if decide ((ops[j]!).dst=some t)=true then some (R j).v else ES s t:=fun s j t=>ybeu _ _ _ s j
 have b4:∀k,k<=ops.size->∀i b,(G k).b.get i=some b->EM (zH k) i=some b:=by
  intro k
  induction k with
  |zero=>intro _ i b g;rw[b7]at g;exact hs i b g
  | succ k ih =>
    intro hk i b g;rw[zAV,O];rw[<-c3 k hk]at g;unfold tM;split
    .exact g
    .rename_i z
     exact ih (by omega) i b ((W k hk).same i b (by simpa using z) g)
 have b5:∀k,k<=ops.size->∀t v,(F k).t.get t=some v->ES (zH k) t=some v:=by
  intro k
  induction k with
  |zero=>intro _ t v Z;rw[e4]at Z;exact Z
  | succ k ih =>
    intro hk t v Z;rw[zAV,a2];obtain⟨e,J,A,h3,h4,h5,h6,h7⟩:=C k _ (B k hk);rcases yqr h7 with⟨q1,q2⟩|⟨d,q1,q2,q3,q4⟩
    .rw[q2]at Z;rw[q1,if_neg (by simp)]
     exact ih (by omega) t v Z
    .rw[q4]at Z;have:=T.get_set _ _ _ _ _ _ Z;rw[q1]
     by_cases hd:t=d
     .subst hd;rw[if_pos rfl]at this;rw[if_pos (by simp)]
      exact this
     .rw[if_neg hd]at this;rw[if_neg (by simp;exact fun q=>hd q.symm)]
      exact ih (by omega) t v this
 have e0:∀i q k,q<k->k<ops.size->yer (G q) (R q) i=true->yer (G k) (R k) i=true->anc ops.toList k q:=by
  intro i q k a8 hk J A;rcases f4 q k a8 hk with h|h
  .exact h
  .rw[h.s3 i J]at A;cases A
 have e3:∀t q k,q<k->k<ops.size->decide ((ops[q]!).dst=some t)=true->decide ((ops[k]!).dst=some t)=true->anc ops.toList k q:=by
  intro t q k a8 hk J A;rcases c4 q k a8 hk with h|h
  .exact h
  .simp only[decide_eq_true_eq]at J A;unfold dstApart at h;rw[J,A]at h;simp[tmpsOf,A,J]at h
 have d2:∀(s:List Nat) (j i:Nat),Ord ops s->j<ops.size->j∉s->(∀e∈(ops[j]!).after.toList,Region.binds .any e=true->e.on∈s)->needs (G j) (R j) i->EM s i=EM (zH j) i:=by
  intro s j i I hj U a6 X;show last _ _ _ s=last _ _ _ (zH j);rw[ydo,ydo _ _ (zH j)];rw[filter_eq I (e0 i) (fun q E z=>?_) (fun q E z=>?_)]
  .rcases zAB q j with a1|rfl|d5
   .exact a1
   .exact absurd E U
   .rcases f4 j q d5 (I.lt q E)with h|h
    .exact absurd (ypz a7 I q E j h) U
    .rw[h.s2 i X]at z;cases z
  .rcases f4 q j E hj with h|h
   .exact ybpi a7 I (B j hj) a6 h
   .rw[h.s1 i X]at z;cases z
 have d3:∀(s:List Nat) (j t:Nat),Ord ops s->j<ops.size->j∉s->(∀e∈(ops[j]!).after.toList,Region.binds .any e=true->e.on∈s)->t∈tmpsOf ops.toList ops[j]! -> ES s t=ES (zH j) t:=by
  intro s j t I hj U a6 X;show last _ _ _ s=last _ _ _ (zH j);rw[ydo,ydo _ _ (zH j)];rw[filter_eq I (e3 t) (fun q E z=>?_) (fun q E z=>?_)]
  .simp only[decide_eq_true_eq]at z;rcases zAB q j with a1|rfl|d5
   .exact a1
   .exact absurd E U
   .rcases c4 j q d5 (I.lt q E)with h|h
    .exact absurd (ypz a7 I q E j h) U
    .unfold dstApart at h;rw[z]at h;simp only[zB,zAC]at h;have:=h.1;simp at this;exact absurd X this
  .simp only[decide_eq_true_eq]at z;rcases c4 q j E hj with h|h
   .exact ybpi a7 I (B j hj) a6 h
   .unfold dstApart at h;rw[z]at h;simp only[zB,zAC]at h;have:=h.2;simp at this;exact absurd X this
 have f5:∀(s:List Nat),Ord ops s->(∀q,q<ops.size->q∈s)->(∀i,EM s i=EM (zH ops.size) i)/\∀t,ES s t=ES (zH ops.size) t:=by
  intro s I S;refine⟨fun i=>?_,fun t=>?_⟩
  .show last _ _ _ s=last _ _ _ (zH ops.size);rw[ydo,ydo _ _ (zH ops.size)];rw[filter_eq I (e0 i) (fun q E _=>I.lt q E) (fun q E _=>S q E)]
  .show last _ _ _ s=last _ _ _ (zH ops.size);rw[ydo,ydo _ _ (zH ops.size)];rw[filter_eq I (e3 t) (fun q E _=>I.lt q E) (fun q E _=>S q E)]
 have finish:∀(s:List Nat) (φ':Phi) (a':Act) (w':World),Ord ops s->(∀q,q<ops.size->q∈s)->Rel φ' (EM s) w'->φ.le φ'->(∀i,¬(m.next<=i/\i<x.m.next)->φ' i=φ i)->a'.tmps.size=f.n->a'.defers=a.defers ->
  (∀t v,ES s t=some v->VR φ' v (a'.tmps.getD t undef))->WG φ M w φ' (EM s) w'->Q .normal a' w':=by
  intro s φ' a' w' I S V c0 Y a5 b9 a4 c1;obtain⟨e1,e2⟩:=f5 s I S
  have e6:∀k,k<=ops.size->(F k).n=f.n:=by
   intro k
   induction k with
   |zero=>intro _;rw[e4]
   | succ k ih =>
     intro hk;obtain⟨e,J,A,h3,h4,h5,h6,h7⟩:=C k _ (B k hk);rcases yqr h7 with⟨q1,q2⟩|⟨d,q1,q2,q3,q4⟩
     .rw[q2];exact ih (by omega)
     .rw[q3];exact ih (by omega)
  refine hQ a' w' φ' (EM s) ⟨c0,Y,V,fun i b g=>?_,fun i hi X=>?_,c1⟩ ⟨by rw[a5,<-e5,e6 _ (zD _)],fun t v Z=>?_⟩ b9
  .rw[e1 i];rw[<-b8]at g;exact b4 _ (zD _) i b g
  .refine last_none _ _ s (M i) fun j hj=>?_;have D:=I.lt j hj;cases z:yer (G j) (R j) i with
   |false=>rfl
   | true =>
     exfalso
     have g1:=p j 0 (by omega) (by omega)
     have g2:=p ops.size (j+1) (by omega) (zD _)
     rw[b7]at g1;rw[b8]at g2;rw[<-c3 j D]at g2
     have d9:(∃b,(G j).b.get i=some b)->(R j).m.low<=i->False:=by
      rintro⟨b,g⟩ k0;rcases g1.ext.dom i b g with⟨b0,h0⟩|h0
      .rcases X with X|X
       .rw[X]at h0;cases h0
       .have:=g2.low;omega
      .have:=(W j D).ext.next
       have:=g2.ext.next
       exact hi ⟨h0.1,by omega⟩
     rcases ygx z with t|⟨_,t1,t2⟩|⟨l,t1,t2⟩
     .have:=g1.ext.next
      have:=g2.ext.next
      exact hi ⟨by omega,by omega⟩
     .exact d9 t1 t2
     .obtain⟨b,g⟩:=(W j D).mods l t1 i t2;refine d9 ⟨b,g⟩ ?_;obtain⟨e,J,A,h3,h4,h5,h6,h7⟩:=C j _ (B j D)
      have K:e.w=true:=by
       cases K:e.w with
       |true=>rfl
       |false=>have:=A.2.2 K;rw[h5,this]at t1;cases t1;cases t2
      rw[h5]at t1 ⊢;exact One.ybdy (A.2.1 K) t1 t2
  .refine a4 t v ?_;rw[e2 t];rw[<-e5]at Z;exact b5 _ (zD _) t v Z
 have i0 : ∀ (N:Nat) (L:Array Bool) (s:List Nat) (φ':Phi) (a':Act) (w':World),(∀i,i<ops.size->L[i]?=some (decide (i∈s)))->((zH ops.size).filter fun i=>decide (i∉s)).length<=N ->
  Ord ops s->Rel φ' (EM s) w'->φ.le φ'->(∀i,¬(m.next<=i/\i<x.m.next)->φ' i=φ i)->(∀j,j<ops.size->j∉s->yhm φ' (G j).next (R j).m.next)->a'.tmps.size=f.n->a'.defers=a.defers ->
  (∀t v,ES s t=some v->VR φ' v (a'.tmps.getD t undef))->WG φ M w φ' (EM s) w'->wpAnyIn (wr rr) 0 P .any ops Q N L a' w':=by
  have c2:∀(L:Array Bool) (s:List Nat),(∀i,i<ops.size->L[i]?=some (decide (i∈s)))->Region.ready .any ops L=[]->∀q,q<ops.size->q∈s:=by
   intro L s hL hr q
   induction q using zAU with
   | _ q ih =>
     intro E;cases Decidable.em (q∈s)with
     |inl h=>exact h
     | inr j2 =>
       exfalso
       have:q∈Region.ready .any ops L:=mem_ready.2 ⟨by rw[zG,hL q E];simp[j2],_,B q E,fun e he g=>by
        have a1:=a7 q _ (B q E) e (by simpa using he) g
        have:=ih e.on a1 (by omega)
        rw[zG,hL e.on (by omega)];simp[this]⟩
       rw[hr]at this;cases this
  intro N
  induction N with
  | zero =>
    intro L s φ' a' w' hL f9 I V c0 Y a0 a5 b9 a4 c1
    have S:∀q,q<ops.size->q∈s:=by
     intro q E;have h0:(zH ops.size).filter (fun i=>decide (i∉s))=[]:=zAA (by omega)
     have:=List.filter_eq_nil_iff.1 h0 q (List.mem_range.2 E)
     simpa using this
    refine⟨?_,finish s φ' a' w' I S V c0 Y a5 b9 a4 c1⟩;apply List.eq_nil_iff_forall_not_mem.2;intro j hj;obtain⟨J,o,A,_⟩:=mem_ready.1 hj;have D:=(Array.getElem?_eq_some_iff.1 A).1;rw[zG,hL j D]at J;simp at J;exact J (S j D)
  | succ N ih =>
    intro L s φ' a' w' hL f9 I V c0 Y a0 a5 b9 a4 c1;refine⟨fun hr=>finish s φ' a' w' I (c2 L s hL hr) V c0 Y a5 b9 a4 c1,fun j hj=>?_⟩;obtain⟨J,o,A,h3⟩:=mem_ready.1 hj;have D:=(Array.getElem?_eq_some_iff.1 A).1
    have U:j∉s:=by
     rw[zG,hL j D]at J
     simpa using J
    have d6:ops[j]! = o:=by have:=B j D;rw[A]at this;exact(Option.some.inj this).symm
    have a6:∀e∈(ops[j]!).after.toList,Region.binds .any e=true->e.on∈s:=by
     rw[d6];intro e he g;have a1:=a7 j o A e he g;have:=h3 e (by simpa using he) g
     rw[zG,hL e.on (by omega)]at this
     simpa using this
    have f8:∀e∈o.after.toList,Region.binds .any e=true->e.on∈s:=by rw[<-d6];exact a6
    have j3:=I.snoc a7 A U f8
    have i4:∀i,i<ops.size->(L.setIfInBounds j true)[i]?=some (decide (i∈s++[j])):=by
     intro i hi;rw[zS]
     by_cases e:j=i
     .subst e
      have j1:j<L.size:=by
       have:=hL j D;exact(Array.getElem?_eq_some_iff.1 this).1
      rw[if_pos rfl,if_pos j1];simp
     .rw[if_neg e,hL i hi];congr 1;simp;exact fun q=>absurd q.symm e
    have e9:((zH ops.size).filter fun i=>decide (i∉s++[j])).length<=N:=by
     have c9:((zH ops.size).filter fun i=>decide (i∉s++[j])).Sublist ((zH ops.size).filter fun i=>decide (i∉s)):=by
      have:(fun i=>decide (i∉s++[j]))=fun i=>(decide (i≠j)&&decide (i∉s)):=by
       funext i;simp[Bool.and_comm]
      rw[this,<-List.filter_filter];exact List.filter_sublist
     rcases zU N ((zH ops.size).filter fun i=>decide (i∉s++[j])).length with a1|f7
     .exfalso
      have:=c9.eq_of_length (by have:=c9.length_le;omega)
      have d7:j∈(zH ops.size).filter (fun i=>decide (i∉s)):=List.mem_filter.2 ⟨List.mem_range.2 D,by simpa using U⟩
      rw[<-this]at d7;simp at d7
     .exact f7
    obtain⟨e,k1,k2,k3,k4,k5,k6,k7⟩:=C j o A
    have c8:∀t v,t∈tmpsOf ops.toList o->(F j).t.get t=some v->VR φ' v (a'.tmps.getD t undef):=by
     intro t v z Z;refine a4 t v ?_;rw[d3 s j t I D U a6 (by rw[d6];exact z)]
     exact b5 j (by omega) t v Z
    have f2:Region.wanted o (yielded ops a'.tmps)=e.w:=by
     refine ygm (φ:=φ') k2.1 fun i k8 oi d v hg hi hd Z=>c8 d v ?_ (by rw[<-k3];exact Z)
     unfold tmpsOf;rw[hg];simp[hi,hd]
    have next : ∀ (v':Value) (H:Phi) (a9:World),VR H (R j).v v'->φ'.le H->(∀i,¬((G j).next<=i/\i<(R j).m.next)->H i=φ' i)->Rel H (EM (s++[j])) a9->WG φ' (EM s) w' H (EM (s++[j])) a9 ->
     wpAnyIn (wr rr) 0 P .any ops Q N (L.setIfInBounds j true) (a'.put o.dst v') a9:=by
     intro v' H a9 Z c5 c7 f0 h9;have gj:=p j 0 (by omega) (by omega)
     have gn:=p ops.size (j+1) (by omega) (zD _)
     rw[b7]at gj;rw[b8,<-k6]at gn;refine ih _ (s++[j]) H _ a9 i4 e9 j3 f0 (Phi.le_trans c0 c5) (fun i hi=>?_) (fun q E g9 i i9 j0=>?_) ?_ ?_ (fun t v z=>?_) (c1.trans h9)
     .rw[c7 i (fun q=>hi ⟨zM gj.ext.next q.1,zC q.2 gn.ext.next⟩)]
      exact Y i hi
     .have h8:q∉s:=fun h=>g9 (zZ _ h);have j4:q≠j:=fun h=>g9 (by simp[h])
      rw[c7 i (fun c=>?_)]
      .exact a0 q E h8 i i9 j0
      .rcases Nat.lt_or_gt_of_ne j4 with a1|d5
       .have:=(p j (q+1) (by omega) (by omega)).ext.next
        rw[<-c3 q E]at this;omega
       .have:=(p q (j+1) (by omega) (by omega)).ext.next
        rw[<-k6]at this;omega
     .cases hd:o.dst with
      |none=>exact a5
      |some d=>simp[Act.put,a5]
     .cases o.dst<;>exact b9
     .rw[a2,d6]at z;cases hd:o.dst with
      | none =>
        rw[hd]at z;simp only[Act.put];exact(a4 t v (by simpa using z)).mono c5
      | some d =>
        rw[hd]at z
        have i6:d<a'.tmps.size:=by
         rw[a5];rcases yqr k7 with⟨q1,_⟩|⟨d',q1,q2,_,_⟩
         .rw[hd]at q1;cases q1
         .rw[hd]at q1;cases q1
          have e6:∀k,k<=ops.size->(F k).n=f.n:=by
           intro k
           induction k with
           |zero=>intro _;rw[e4]
           | succ k ih =>
             intro hk;obtain⟨e,J,A,h3,h4,h5,h6,h7⟩:=C k _ (B k hk);rcases yqr h7 with⟨q1,q2⟩|⟨d,q1,q2,q3,q4⟩
             .rw[q2];exact ih (by omega)
             .rw[q3];exact ih (by omega)
          rw[<-e6 j (by omega)];exact q2
        by_cases f1:d=t
        .subst f1;simp at z;subst z;simp[Act.put,i6];exact Z
        .rw[if_neg (by simpa using f1)]at z
         have:=(a4 t v z).mono c5;simp only[Act.put,zG]at this ⊢;rw[zS,if_neg f1];exact this
    unfold wpOpIn;rw[A];simp only[f2];cases K:e.w with
    | true =>
      rw[if_pos rfl];have d4:=k2.2.1 K;rw[k3,k4]at d4;rw[<-k5]at d4;refine opIn d4.plain (d4.draw (d1 j (by omega)) V ?_ ?_ (a0 j D U) fun v' a9 H a3=>?_)
      .unfold Need
       have c6:∀i b,needs (G j) (R j) i->(G j).b.get i=some b->EM s i=some b:=fun i b X g=>by
        rw[d2 s j i I D U a6 X];exact b4 j (by omega) i b g
       split
       .rename_i e7
        exact fun i b g=>c6 i b (by unfold needs;rw[e7];exact⟨b,g⟩) g
       .rename_i ft e7
        exact fun i hi b g=>c6 i b (by unfold needs;rw[e7];exact hi) g
      .intro y hy v Z;refine ykf (f:=F j) (fun t v j9 z=>c8 t v ?_ z) Z;subst j9;unfold tmpsOf;simp only[List.mem_append,List.mem_filterMap];exact .inl (.inl ⟨.tmp t,by simpa using hy,rfl⟩)
      .rw[O]at next
       exact next v' H a9 a3.vr a3.le a3.out a3.rel a3.wg
    | false =>
      rw[if_neg (by simp)]
      have hr:=k2.2.2 K;rw[<-k5,k4]at hr;have j7:∀i,yer (G j) (R j) i=false:=fun i=>yia (by rw[hr]) (by rw[hr]) i
      have f6:EM (s++[j])=EM s:=by
       rw[O];funext i;unfold tM;rw[j7 i];simp
      refine⟨fun _ _=>trivial,next undef φ' w' (by rw[hr];exact VR.undef) φ'.le_refl (fun _ _=>rfl) ?_ ?_⟩
      .rw[f6];exact V
      .rw[f6];exact WG.refl _ _ _
 have d8:EM []=M:=rfl;refine i0 ops.size _ [] φ a _ (fun i hi=>by simp[hi]) ?_ Ord.nil (by rw[d8];exact hR.heap rfl) φ.le_refl (fun _ _=>rfl) (fun j hj _=>?_) hf.size rfl (fun t v Z=>hf.get t v Z) ?_
 .exact zM (List.length_filter_le _ _) (by simp)
 .have g1:=p j 0 (by omega) (by omega)
  have g2:=p ops.size (j+1) (by omega) (zD _)
  rw[b7]at g1;rw[b8,<-c3 j hj]at g2;exact fun i J A=>i7 i (zM g1.ext.next J) (zC A g2.ext.next)
 .rw[d8];exact⟨rfl,rfl,rfl,zD _,fun _ _ _=>rfl,fun _ _ h=>h⟩
theorem ybts (c:yfo P self) (d:P.follows .mixedOrders=true) {rr:Option Nat}{ops:Array Oper}{f:Fr}{m:Mem}{x:FM}(b:slotsOk ops.toList (ancs ops.toList []).reverse=true)
 (h:evDraw P self ops.toList ops.toList 0 (ancs ops.toList []).reverse [] f m=some x) (i:Wf m) :
 Grow m x.m/\∀(id:Nat) φ M w a Q,Rel φ M w->Sub m M->FrR φ f a->yhm φ m.next x.m.next->(∀a' w' φ' M',Good φ M w m x.m φ' M' w'->FrR φ' x.f a'->a'.defers=a.defers->Q .normal a' w')->(Code.region id ops true).wpIn (wr rr) 0 P Q a w:=by
 obtain⟨j,g,_,e⟩:=ytd c h;exact ybjh d b g e i
end
end Ev
end
section
namespace Ev
section
variable {α:Type}
theorem T.set_same:∀(f:Nat) (t:T α) (n:Nat) (x:Option α),n+1<2^f->(T.set f t n x).get n=x
 |0,_,n,_,h=>by simp at h
 |f+1,.leaf,0,x,_=>rfl
 |f+1,.node v l r,0,x,_=>rfl
 | f+1,.leaf,k+1,x,h=>by
   rw[T.set_leaf];have hk:k/2+1<2^f:=by rw[zAH]at h;omega
   by_cases e:even k=true
   .rw[if_pos e,T.get_succ,if_pos e];exact T.set_same f _ _ _ hk
   .rw[if_neg e,T.get_succ,if_neg e];exact T.set_same f _ _ _ hk
 | f+1,.node v l r,k+1,x,h=>by
   rw[T.set_node];have hk:k/2+1<2^f:=by rw[zAH]at h;omega
   by_cases e:even k=true
   .rw[if_pos e,T.get_succ,if_pos e];exact T.set_same f _ _ _ hk
   .rw[if_neg e,T.get_succ,if_neg e];exact T.set_same f _ _ _ hk
theorem T.set_other:∀(f:Nat) (t:T α) (n:Nat) (x:Option α) (j:Nat),n+1<2^f->j≠n->(T.set f t n x).get j=t.get j
 |0,_,n,_,_,h,_=>by simp at h
 |f+1,.leaf,0,x,0,_,c=>absurd rfl c
 |f+1,.leaf,0,x,j+1,_,_=>by rw[T.set_leaf0,T.get_succ];simp[T.get_leaf]
 |f+1,.node v l r,0,x,0,_,c=>absurd rfl c
 |f+1,.node v l r,0,x,j+1,_,_=>by rw[T.set_node0,T.get_succ,T.get_succ]
 | f+1,.leaf,k+1,x,0,h,_=>by
   rw[T.set_leaf]
   by_cases e:even k=true
   .rw[if_pos e];rfl
   .rw[if_neg e];rfl
 | f+1,.node v l r,k+1,x,0,h,_=>by
   rw[T.set_node]
   by_cases e:even k=true
   .rw[if_pos e];rfl
   .rw[if_neg e];rfl
 | f + 1,.leaf,k+1,x,j+1,h,c=>by
   have hk:k/2+1<2^f:=by rw[zAH]at h;omega
   rw[T.set_leaf,T.get_leaf]
   by_cases e:even k=true
   .rw[if_pos e,T.get_succ]
    by_cases b:even j=true
    .rw[if_pos b];have:=(ycp k).1 e;have:=(ycp j).1 b;rw[T.set_other f _ _ _ _ hk (by omega)];rfl
    .rw[if_neg b];rfl
   .rw[if_neg e,T.get_succ]
    by_cases b:even j=true
    .rw[if_pos b];rfl
    .rw[if_neg b];have:=mt (ycp k).2 e;have:=mt (ycp j).2 b;rw[T.set_other f _ _ _ _ hk (by omega)];rfl
 | f + 1,.node v l r,k+1,x,j+1,h,c=>by
   have hk:k/2+1<2^f:=by rw[zAH]at h;omega
   rw[T.set_node,T.get_succ v l r]
   by_cases e:even k=true
   .rw[if_pos e,T.get_succ]
    by_cases b:even j=true
    .rw[if_pos b,if_pos b];have:=(ycp k).1 e;have:=(ycp j).1 b;exact T.set_other f _ _ _ _ hk (by omega)
    .rw[if_neg b,if_neg b]
   .rw[if_neg e,T.get_succ]
    by_cases b:even j=true
    .rw[if_pos b,if_pos b]
    .rw[if_neg b,if_neg b];have:=mt (ycp k).2 e;have:=mt (ycp j).2 b;exact T.set_other f _ _ _ _ hk (by omega)
end
theorem T.set_at{α:Type}(t:T α)(n:Nat)(x:Option α)(j:Nat):(T.set (zO n) t n x).get j=if j=n then x else t.get j:=by
 have b:n+1<2^(zO n):=Nat.lt_two_pow_self
 by_cases q:j=n
 .subst q;rw[if_pos rfl,T.set_same _ _ _ _ b]
 .rw[if_neg q,T.set_other _ _ _ _ _ b q]
theorem T.sets_at:∀(l:List Value) (t:T Value) (i j:Nat),(T.sets t i l).get j=if i<=j/\j<i+l.length then l[j-i]? else t.get j
 |[],t,i,j=>by rw[if_neg (by simp)];rfl
 | v :: l,t,i,j=>by
   unfold T.sets;rw[T.strict_eq,T.sets_at l _ _ j]
   by_cases c:i+1<=j/\j<i+1+l.length
   .rw[if_pos (by exact c),if_pos (by simp;omega),show j-i=(j-(i+1))+1 by omega]
    rfl
   .rw[if_neg (by exact c),T.set_at]
    by_cases q:j=i
    .subst q;rw[if_pos rfl,if_pos (by simp)]
     simp
    .rw[if_neg q,if_neg (by simp;omega)]
theorem ycx (l:List Value)(j:Nat):(tOf l).get j=l[j]?:=by
 unfold tOf;rw[T.sets_at l .leaf 0 j]
 by_cases c:0<=j/\j<0+l.length
 .rw[if_pos c];simp
 .rw[if_neg c,T.get_leaf,zW (by omega)]
theorem ycdp{l:List Value}(_:l.length<1000000000)(j:Nat):(tOf l).get j=l[j]?:=ycx l j
theorem yuy{a b:Int}(h:eqInt a b=true):a=b:=by
 unfold eqInt at h;split at h
 .rw[zA h]
 .rw[zA h]
 .cases h
theorem yrp:∀{l k:List UInt8},eqBytes l k=true->l=k
 |[],[],_=>rfl
 | x::l,y::k,h=>by
   simp only[eqBytes,zB]at h;rw[yrp h.2,UInt8.toNat_inj.1 (zA h.1)]
 |[],_::_,h=>by cases h
 |_::_,[],h=>by cases h
theorem ybib{a b:Addr}(h:eqAddr a b=true):a=b:=by
 simp only[eqAddr,zB]at h;obtain⟨⟨⟨c,d⟩,e⟩,g⟩:=h;obtain⟨i,j,k⟩:=a;obtain⟨l,n,p⟩:=b;have:=zA c;have:=zA d;simp at e g
 simp_all
theorem ybwn{x y:Value}(h:eq1 x y=true):x=y:=by
 unfold eq1 at h;split at h
 .simp at h;rw[h]
 .simp only[zB,eqK,decide_eq_true_eq]at h;rw[h.1,yuy h.2]
 .rename_i a b
  have:=yrp h
  have:a=b:=by
   apply ByteArray.ext;exact Array.toList_inj.1 this
  rw[this]
 .rfl
 .rw[ybib h]
 .simp only[zB]at h;rw[zA h.1,zA h.2]
 .simp only[zB]at h;rw[ybib h.1.1,zA h.1.2,zA h.2]
 .rw[zA h]
 .rfl
 .rfl
 .rfl
 .cases h
theorem yso:∀{l k:List Value},eqL1 l k=true->l=k
 |[],[],_=>rfl
 | x::l,y::k,h=>by
   simp only[eqL1,zB]at h;rw[yso h.2,ybwn h.1]
 |[],_::_,h=>by cases h
 |_::_,[],h=>by cases h
theorem ycgu{x y:Value}(h:eq2 x y=true):x=y:=by
 unfold eq2 at h;split at h
 .rw[Array.toList_inj.1 (yso h)]
 .simp only[zB]at h;rw[zA h.1.1,Array.toList_inj.1 (yso h.1.2),Array.toList_inj.1 (yso h.2)]
 .exact ybwn h
theorem yboa:∀{l k:List Value},eqL2 l k=true->l=k
 |[],[],_=>rfl
 | x::l,y::k,h=>by
   simp only[eqL2,zB]at h;rw[yboa h.2,ycgu h.1]
 |[],_::_,h=>by cases h
 |_::_,[],h=>by cases h
theorem yddq{x y:Value}(h:eqV x y=true):x=y:=by
 unfold eqV at h;split at h
 .rw[Array.toList_inj.1 (yboa h)]
 .exact ycgu h
theorem ykw{c:T Value}:∀{l:List Value}{j:Nat},cellsAre c j l=true->∀k v,l[k]?=some v->c.get (j+k)=some v
 |[],_,_,k,v,b=>by simp at b
 | u :: l,j,h,k,v,b=>by
   unfold cellsAre at h;simp only[zB]at h;obtain⟨d,e⟩:=h;cases k with
   | zero =>
     simp at b;subst b;split at d
     .rename_i x g
      rw[zBB,g,ycgu d]
     .cases d
   | succ k =>
     have:=ykw e k v (by simpa using b)
     rw[show j+(k+1)=zO j+k by omega]
     exact this
theorem ykh{m:Mem}{b:BlkL}(h:blkIs m b=true):∃c,m.b.get b.i=some (.cells c b.l.length b.e b.z)/\b.l.length<1000000/\∀j v,j<b.l.length->(c.get j=some v↔b.l[j]?=some v):=by
 unfold blkIs at h;split at h
 .rename_i c n e z y
  simp only[zB]at h;obtain⟨⟨⟨⟨d,g⟩,k⟩,t⟩,p⟩:=h;have d:=zA d;have g:=zA g;have k:=zA k;subst d g k;refine⟨c,y,zC (zAR _) (zF t),fun j v A=>⟨fun u=>?_,fun B=>by have:=ykw p j v B;rwa [zBC]at this⟩⟩
  have q:b.l[j]?=some b.l[j]:=List.getElem?_eq_getElem A;have:=ykw p j _ q;rw[zBC,u]at this;rw[q,this]
 .cases h
theorem ykb:∀{l:List BlkL}{t:T ABlk}{i:Nat}{x:ABlk},(blksT t l).get i=some x->(∃b∈l,b.i=i/\x=b.blk)\/t.get i=some x
 |[],_,_,_,h=>.inr h
 | b :: l,t,i,x,h=>by
   unfold blksT at h;rw[T.strict_eq]at h;rcases ykb h with⟨d,c,g⟩|c
   .exact .inl ⟨d,zK _ c,g⟩
   .have:=T.get_set _ _ _ _ _ _ c;split at this
    .rename_i e;cases this;exact .inl ⟨b,zI,e.symm,rfl⟩
    .exact .inr this
theorem ywy{low:Nat}:∀{l:List BlkL}{t:T ABlk}{i:Nat}{x:ABlk},(dropT t low l).get i=some x->t.get i=some x/\∀b∈l,b.i=i->¬low<=i
 |[],_,_,_,h=>⟨h,by simp⟩
 | b :: l,t,i,x,h=>by
   unfold dropT at h;rw[ybh]at h;split at h
   .rw[T.strict_eq]at h;obtain⟨j,k⟩:=ywy h;have:=T.get_set _ _ _ _ _ _ j;split at this
    .cases this
    .rename_i n
     refine⟨this,fun g c e=>?_⟩;rcases List.mem_cons.1 c with rfl|c
     .exact absurd e.symm n
     .exact k g c e
   .rename_i d
    obtain⟨j,k⟩:=ywy h;refine⟨j,fun g c e=>?_⟩;rcases List.mem_cons.1 c with rfl|c
    .intro q;rw[e]at d;exact d (zJ q)
    .exact k g c e
def Ref(b d:ABlk):Prop:=b=d\/∃c g n e z,b = .cells c n e z/\d = .cells g n e z/\∀j v,j<n->c.get j=some v->g.get j=some v
theorem Rel.refine{φ:Phi}{M N:AM}{w:World}(h:Rel φ M w)(q:∀i b,N i=some b->∃d,M i=some d/\Ref b d):Rel φ N w:=by
 refine⟨⟨fun i b E=>?_,fun i j x y I J A t H F p=>?_⟩,fun x t=>⟨(h.gl x t).1,fun⟨i,b,l,g,k,u⟩=>(h.gl x t).2 (by obtain⟨d,B,_⟩:=q i b g;exact⟨i,d,l,B,k,u⟩)⟩⟩
 .obtain⟨d,g,k⟩:=q i b E;obtain⟨l,B,C⟩:=h.blk i d g;refine⟨l,B,?_⟩;rcases k with rfl|⟨c,X,n,e,z,rfl,rfl,u⟩
  .exact C
  .obtain⟨L,O,D,T,U,K,Q,R,S⟩:=C;exact⟨L,O,D,T,U,K,Q,R,fun j v p G=>S j v p (u j v p G)⟩
 .obtain⟨V,g,_⟩:=q i x t;obtain⟨W,k,_⟩:=q j y H;exact h.inj i j V W I J A g k F p
theorem WG.dom{φ φ':Phi}{c M' M d:AM}{w w':World}(h:WG φ c w φ' M' w')(v:∀i b,c i=some b->∃e,M i=some e)(y:∀i b,d i=some b->∃e,M' i=some e):WG φ M w φ' d w':=by
 have t:∀k,Img φ c k->Img φ M k:=fun k ⟨i,b,l,j,n,p⟩=>by obtain⟨e,g⟩:=v i b j;exact⟨i,e,l,g,n,p⟩
 have u:∀k,Img φ' d k->Img φ' M' k:=fun k ⟨i,b,l,j,n,p⟩=>by obtain⟨e,g⟩:=y i b j;exact⟨i,e,l,g,n,p⟩
 exact⟨h.os,h.tape,h.output,h.size,fun k hk z=>h.keep k hk (fun q=>z (t k q)),fun k hk q=>t k (h.img k hk (u k q))⟩
theorem ybrf.mono{P:Program}{g:FuncId}{args:Array Value}{w:World}{R d:Ending->World->Prop}(h:ybrf P g args w R)(i:∀e w',R e w'->d e w'):ybrf P g args w d:=by
 rcases h with⟨b,c⟩|⟨v,w',b,c⟩
 .exact .inl ⟨b,c.mono i⟩
 .exact .inr ⟨v,w',b,i _ _ c⟩
def ybp(P:Program)(f:Fact):Prop:=∃m',yca P (.call f.g f.args f.mem) (.call f.v m')/\m'.next=f.next1/\f.low<=m'.low/\∀b∈f.post,f.low<=b.i/\blkIs m' b=true
theorem ytg{P:Program}{H:Hooks}{f:Fact}(k:yfo P (ev P H 3000))(h:f.check P H=true):ybp P f:=by
 unfold Fact.check at h;split at h
 .rename_i v m' j
  simp only[zB]at h;obtain⟨⟨⟨c,d⟩,e⟩,g⟩:=h;have l:=yddq c;subst l;refine⟨m',k _ _ j,zA d,zF e,fun b i=>?_⟩;have:=List.all_eq_true.1 g b i;simp only[zB]at this;exact⟨zF this.1,this.2⟩
 .cases h
theorem yuz{P:Program}{f:Fact}{g:FuncId}{args:List Value}{m:Mem}(a6:ybp P f)(T:f.fits g args m=true):yca P (.call g args m) (f.out m):=by
 obtain⟨m',hs,e1,e2,e3⟩:=a6;unfold Fact.fits at T;simp only[zB]at T;obtain⟨⟨⟨h1,h2⟩,h3⟩,h4⟩:=T;have h1:=zA h1;have h2:=zA h2;have h3:=yboa h3;subst h1;subst h3;have F:∀b∈f.pre,∃c,m.b.get b.i=some (.cells c b.l.length b.e b.z)/\b.l.length<1000000/\∀j v,j<b.l.length->(c.get j=some v↔b.l[j]?=some v):=fun b n=>ykh (List.all_eq_true.1 h4 b n)
 have t:∀i x,f.mem.b.get i=some x->∃b∈f.pre,b.i=i/\x=b.blk:=fun i x d=>by
  rcases ykb d with h|h
  .exact h
  .cases h
 intro hw
 have a8:Wf f.mem:=fun i x d=>by
  obtain⟨b,n,rfl,rfl⟩:=t i x d;obtain⟨c,I,_⟩:=F b n;show b.i<f.next0;rw[h2];exact hw _ _ I
 obtain⟨E,S⟩:=hs a8;have En:m.next<=f.next1:=by have:=E.next;rw[e1]at this;show m.next<=_;rw[<-h2];exact this
 have u:∀i x,(blksT (dropT m.b f.low f.pre) f.post).get i=some x->(∃b∈f.post,b.i=i/\x=b.blk)\/(m.b.get i=some x/\∀b∈f.pre,b.i=i->¬f.low<=i):=fun i x d=>by
  rcases ykb d with h|h
  .exact .inl h
  .exact .inr (ywy h)
 have W:∀b∈f.post,∃c,m'.b.get b.i=some (.cells c b.l.length b.e b.z)/\∀j v,j<b.l.length->(c.get j=some v↔b.l[j]?=some v):=fun b n=>by
  obtain⟨c,D,_,Y⟩:=ykh (e3 b n).2;exact⟨c,D,Y⟩
 have R:∀b∈f.post,(∃b0,m.b.get b.i=some b0)\/(m.next<=b.i/\b.i<f.next1):=fun b n=>by
  obtain⟨c,D,_⟩:=W b n;rcases E.dom _ _ D with⟨b0,Y⟩|Y
  .obtain⟨b',q1,q2,_⟩:=t _ _ Y;obtain⟨c',q3,_⟩:=F b' q1;rw[q2]at q3;exact .inl ⟨_,q3⟩
  .rw[e1]at Y;exact .inr ⟨by rw[<-h2];exact Y.1,Y.2⟩
 refine⟨⟨En,fun i x d=>?_,fun i x N a2 d=>?_,fun i x d=>?_⟩,fun φ M w a1 hR K hv a5=>?_⟩
 .rcases u i x d with⟨b,n,rfl,rfl⟩|⟨h,_⟩
  .exact R b n
  .exact .inl ⟨x,h⟩
 .have N:i<f.low:=N;rcases u i x d with⟨b,n,rfl,rfl⟩|⟨h,_⟩
  .have:=(e3 b n).1;omega
  .exact h
 .show i<f.next1;rcases u i x d with⟨b,n,rfl,rfl⟩|⟨h,_⟩
  .rcases R b n with⟨b0,k⟩|k
   .exact zC (hw _ _ k) En
   .exact k.2
  .exact zC (hw _ _ h) En
 .let p:AM := fun i=>match f.mem.b.get i with|some x=>some x|none=>M i
  have Q:∀i x,p i=some x->∃O,M i=some O/\Ref x O:=fun i x d=>by
   show ∃O,M i=some O/\Ref x O;cases G:f.mem.b.get i with
   | none =>
     have:p i=M i:=by show(match f.mem.b.get i with|some x=>some x|none=>M i)=_;rw[G]
     rw[this]at d;exact⟨x,d,.inl rfl⟩
   | some y =>
     have:p i=some y:=by show(match f.mem.b.get i with|some x=>some x|none=>M i)=_;rw[G]
     rw[this]at d;cases d
     obtain⟨b,n,rfl,rfl⟩:=t i _ G;obtain⟨c,D,Y,k3⟩:=F b n;exact⟨_,K _ _ D,.inr ⟨_,c,_,_,_,rfl,rfl,fun j v hj hg=>(k3 j v hj).2 (ymb hg)⟩⟩
  have X:Sub f.mem p:=fun i x d=>by show(match f.mem.b.get i with|some x=>some x|none=>M i)=_;rw[d]
  refine(S φ p w a1 (hR.refine Q) X hv (by rw[e1];show yhm φ f.next0 f.next1;rw[h2];exact a5)).mono ?_
  rintro e w' ⟨v',rfl,φ',M',L,a7⟩
  have C:∀i,¬(m.next<=i/\i<f.next1)->(f.mem.b.get i=none\/i<f.low)->M' i=p i:=fun i N U =>
   L.frame i (by rw[e1];show ¬(f.next0<=i/\i<f.next1);rw[h2];exact N) (U.imp id fun q=>zC q e2)
  have B:∀i,f.mem.b.get i=none->p i=M i:=fun i G=>by show(match f.mem.b.get i with|some x=>some x|none=>M i)=_;rw[G]
  have Z:∀i x,f.mem.b.get i=some x->p i=some x:=fun i x G=>by show(match f.mem.b.get i with|some x=>some x|none=>M i)=_;rw[G]
  let A:AM:=fun i=>if i<f.low/\¬(m.next<=i/\i<f.next1)then M i else match (blksT (dropT m.b f.low f.pre) f.post).get i with
   |some x=>some x
   |none=>if (f.pre.any fun b=>zAF b.i i)=true then none else M' i
  have b1:∀i,f.mem.b.get i≠none->(f.pre.any fun b=>zAF b.i i)=true:=fun i G=>by
   cases d:f.mem.b.get i with
   |none=>exact absurd d G
   | some x =>
     obtain⟨b,n,rfl,_⟩:=t i x d;exact List.any_eq_true.2 ⟨b,n,zAN _⟩
  have a0 : ∀i x,A i=some x->∃O,M' i=some O/\Ref x O:=by
   intro i x d
   by_cases I:i<f.low/\¬(m.next<=i/\i<f.next1)
   .have:A i=M i:=if_pos I;rw[this]at d;have J:=C i I.2 (.inr I.1);cases G:f.mem.b.get i with
    |none=>rw[B i G]at J;exact⟨x,by rw[J,d],.inl rfl⟩
    | some y =>
      rw[Z i y G]at J;obtain⟨b,n,rfl,rfl⟩:=t i y G;obtain⟨c,D,Y,k3⟩:=F b n;have:=K _ _ D;rw[d]at this;cases this
      exact⟨_,J,.inr ⟨c,_,_,_,_,rfl,rfl,fun j v hj hg=>by rw[ycdp (by omega)];exact(k3 j v hj).1 hg⟩⟩
   .have:A i=match (blksT (dropT m.b f.low f.pre) f.post).get i with
     |some x=>some x
     |none=>if (f.pre.any fun b=>zAF b.i i)=true then none else M' i:=if_neg I
    rw[this]at d;cases ho:(blksT (dropT m.b f.low f.pre) f.post).get i with
    | some y =>
      rw[ho]at d;cases d
      rcases u i x ho with⟨b,n,rfl,rfl⟩|⟨D,Y⟩
      .obtain⟨c,q1,q2⟩:=W b n;exact⟨_,L.sub _ _ q1,.inr ⟨_,c,_,_,_,rfl,rfl,fun j v hj hg=>(q2 j v hj).2 (ymb hg)⟩⟩
      .have a2:¬(m.next<=i/\i<f.next1):=fun q=>by have:=hw i x D;omega
       have V:f.mem.b.get i=none:=by
        cases G:f.mem.b.get i with
        |none=>rfl
        | some y =>
          obtain⟨b,n,H,_⟩:=t i y G;exact absurd ⟨by have:=Y b n H;omega,a2⟩ I
       exact⟨x,by rw[C i a2 (.inl V),B i V];exact K i x D,.inl rfl⟩
    | none =>
      rw[ho]at d;simp only at d;split at d
      .cases d
      .exact⟨x,d,.inl rfl⟩
  refine⟨v',rfl,φ',A,⟨L.le,fun i N=>L.out i (by rw[e1];show ¬(f.next0<=i/\i<f.next1);rw[h2];exact N),L.rel.refine a0,fun i x d=>?_,fun i N U=>?_,L.wg.dom (fun i x d=>?_) (fun i x d=>?_)⟩,a7⟩
  .show A i=some x
   by_cases I:i<f.low/\¬(m.next<=i/\i<f.next1)
   .have:A i=M i:=if_pos I;rw[this];rcases u i x d with⟨b,n,rfl,rfl⟩|⟨D,_⟩
    .have:=(e3 b n).1;omega
    .exact K i x D
   .have:A i=match (blksT (dropT m.b f.low f.pre) f.post).get i with
     |some x=>some x
     |none=>if (f.pre.any fun b=>zAF b.i i)=true then none else M' i:=if_neg I
    have a9:(blksT (dropT m.b f.low f.pre) f.post).get i=some x:=d;rw[this,a9]
  .show A i=M i;have N:¬(m.next<=i/\i<f.next1):=N
   by_cases I:i<f.low/\¬(m.next<=i/\i<f.next1)
   .exact if_pos I
   .have U:m.b.get i=none:=by
     rcases U with U|U
     .exact U
     .exact absurd ⟨U,N⟩ I
    have:A i=match (blksT (dropT m.b f.low f.pre) f.post).get i with
     |some x=>some x
     |none=>if (f.pre.any fun b=>zAF b.i i)=true then none else M' i:=if_neg I
    rw[this]
    have V:∀b∈f.pre,b.i≠i:=fun b n H=>by
     obtain⟨c,D,_⟩:=F b n;rw[H,U]at D;cases D
    have ho:(blksT (dropT m.b f.low f.pre) f.post).get i=none:=by
     cases ho:(blksT (dropT m.b f.low f.pre) f.post).get i with
     |none=>rfl
     | some y =>
       rcases u i y ho with⟨b,n,rfl,rfl⟩|⟨D,_⟩
       .rcases R b n with⟨b0,k⟩|k
        .rw[U]at k;cases k
        .exact absurd k N
       .rw[U]at D;cases D
    rw[ho]
    have a3:¬(f.pre.any fun b=>zAF b.i i)=true:=fun q=>by
     obtain⟨b,n,H⟩:=List.any_eq_true.1 q;exact V b n (zA H)
    simp only;rw[if_neg a3]
    have a4:f.mem.b.get i=none:=by
     cases G:f.mem.b.get i with
     |none=>rfl
     |some y=>obtain⟨b,n,H,_⟩:=t i y G;exact absurd H (V b n)
    rw[C i N (.inl a4),B i a4]
  .obtain⟨O,k,_⟩:=Q i x d;exact⟨O,k⟩
  .obtain⟨O,k,_⟩:=a0 i x d;exact⟨O,k⟩
theorem yzx{P:Program}{g:FuncId}{args:List Value}{m:Mem}:∀{l:List Fact},(∀f∈l,ybp P f)->∀{out:Out},findIn g args m l=some out->yca P (.call g args m) out
 |[],_,out,h=>by cases h
 | f::l,b,out,h=>by
   change iteB (f.fits g args m) (some (f.out m)) (findIn g args m l)=some out at h
   rw[ybh]at h;split at h
   .rename_i c;cases h;exact yuz (b f zI) c
   .exact yzx (fun x d=>b x (zK _ d)) h
theorem yte{P:Program}{g:FuncId}{args:List Value}{m:Mem}:∀{l:List Chunk},(∀c∈l,∀f∈c.l,ybp P f)->∀{out:Out},findFact g args m l=some out->yca P (.call g args m) out
 |[],_,out,h=>by cases h
 | c::l,b,out,h=>by
   change iteB (zAO c.hi m.next) (findFact g args m l) (findIn g args m c.l)=some out at h
   rw[ybh]at h;split at h
   .exact yte (fun x d=>b x (zK _ d)) h
   .exact yzx (b c zI) h
end Ev
end
section
namespace Ev
open Go Go.RowKit
section
variable {P:Program}{self:Task->Option Out}{φ φ':Phi}{M M':AM}{w w':World}{f f':Fr}{m m' m'':Mem}{a:Act}
theorem yul{g:Nat}{h:Option Nat}(e:hit g h=true):h=some g:=by
 unfold hit at e;split at e
 .rw[zA e]
 .cases e
theorem ydb.task{c:Code}{e:Exit}(h:Wf m->ydb P c f m e f' m'):yca P (.code c f m) (.code e f' m'):=fun b=>⟨(h b).1.ext,(h b).1.low,(h b).2⟩
def El.enc(x:El):Array Value:=#[x.v0,x.v1]
def yccw(P:Program)(g:FuncId):Prop:=(∀c w,(callFunc g c).run P w = .ok (.enter g c) w) /\
 ∀ (l:Nat) (A:Addr) (gv:GV) (d:List El->Phi->AM->World->Prop) (b:World->Prop) (φ:Phi) (M:AM) (w:World) (box:Value),
   (∀pre φ M w,d pre φ M w->∃m,Rel φ M w/\Sub m M/\graphOf m A=some gv) ->
   (∀pre φ M w w',d pre φ M w->Below w.heap.size w w'->d pre φ M w') ->
   (∀pre x h φ M w,d pre φ M w->flatAt 0 gv.ps=pre++x::h->YieldAt Fence.wide 0 P l x.enc w fun e w' =>
     (e = .returned (.bool true)/\∃φ' M',φ.le φ'/\d (pre++[x]) φ' M' w')\/(e = .returned (.bool false)/\b w')) ->
   d [] φ M w->VR φ (.pointer (some A)) box ->
   CallsIn Fence.wide 0 P g #[.func (.yield l) #[] #[],box] w fun e w'=>(∃v,e = .returned v)/\((∃φ' M',d (flatAt 0 gv.ps) φ' M' w')\/b w')
theorem Good.put(h:Good φ M w m m' φ' M' w'){l:Nat}{x:Obj}(d:∃y,w'.heap[l]?=some (.loop y))(s:w.heap.size<=l):Good φ M w m m' φ' M' (w'.putObj l x):=by
 have r:¬Img φ' M' l:=Img.not_loop h.rel d.choose_spec;refine⟨h.le,h.out,⟨⟨fun i b g=>?_,h.rel.inj⟩,fun x j=>⟨?_,(h.rel.gl x j).2⟩⟩,h.sub,h.frame,?_⟩
 .obtain⟨n,o,v⟩:=h.rel.blk i b g;exact⟨n,o,v.keep (World.putObj_heap_other fun e=>r ⟨i,b,n,g,o,e⟩)⟩
 .obtain⟨e,p,q⟩:=(h.rel.gl x j).1;exact⟨e,p,(World.putObj_heap_other fun z=>by obtain⟨y,u⟩:=d;rw[z,u]at q;cases q).trans q⟩
 .have c:=h.wg;refine⟨c.os,c.tape,c.output,by simp;exact c.size,fun k hk t=>?_,c.img⟩
  rw[World.putObj_heap_other (by omega)]
  exact c.keep k hk t
theorem Good.below(h:Good φ M w m m' φ' M' w'){c:World}(b:Below w'.heap.size w' c):Good φ M w m m' φ' M' c :=
 ⟨h.le,h.out,h.rel.keep fun k hk=>b.block k hk,h.sub,h.frame,
   h.wg.trans ⟨b.os,b.tape,b.output,b.size,fun k hk _=>b.block k hk,fun _ _ q=>q⟩⟩
theorem yhw{p q:Nat}{b c:Code}{ok:Mem->Bool}{x:El}{l:List El}{out:Out}(h:evRounds self f p q b c ok (x::l) m=some out) :
 ok m=true/\∃f1 f2 f3 e g,Fr.putD x.v0 p f=some f1/\Fr.putD x.v1 q f1=some f2/\self (.code b f2 m)=some (.code .normal f3 e)/\self (.code c f3 e)=some g /\
  afterRound f (evRounds self f p q b c ok l) g=some out:=by
 change iteB (ok m) (ob (evRound self f p q b c x m) (afterRound f (evRounds self f p q b c ok l))) none=some out at h
 obtain⟨j,k⟩:=ybi h;obtain⟨g,i,n⟩:=yg k;unfold evRound at i;rw[ybo]at i;obtain⟨f1,s,o⟩:=yg i;obtain⟨f2,t,r⟩:=yg o;obtain⟨v,u,d⟩:=yg r;unfold bodyRound at d;split at d
 .rename_i f3 e
  exact⟨j,f1,f2,f3,e,g,s,t,u,d,n⟩
 .cases d
theorem yir{p q:Nat}{b c:Code}{ok:Mem->Bool}{out:Out}(h:evRounds self f p q b c ok [] m=some out):ok m=true/\out = .code .normal f m:=by
 change iteB (ok m) (some (.code .normal f m)) none=some out at h
 obtain⟨d,e⟩:=ybi h;cases e
 exact⟨d,rfl⟩
theorem ybkj{p q:Nat}{b c:Code}{ok:Mem->Bool}{l:List El}{out:Out}(h:evRounds self f p q b c ok l m=some out):ok m=true:=by
 cases l with
 |nil=>exact(yir h).1
 |cons x l=>exact(yhw h).1
theorem ykq(b:yfo P self){p q:Nat}{c d:Code}{ok:Mem->Bool}:∀{l:List El}{m:Mem}{out:Out},evRounds self f p q c d ok l m=some out->Wf m->∃e m',out = .code e f m'/\Grow m m'
 | [],m,out,h,j=>by
   obtain⟨_,rfl⟩:=yir h;exact⟨_,m,rfl,Grow.refl j⟩
 | x :: l,m,out,h,j=>by
   obtain⟨_,f1,f2,f3,C,F,_,_,r,s,g⟩:=yhw h;obtain⟨z,A,D,t,k⟩:=ydh b r j;cases t
   obtain⟨o,B,E,u,n⟩:=ydh b s k.1.ext.wf;subst u;have i:=k.1.trans n.1;cases o with
   | normal =>
     obtain⟨e,m',v,y⟩:=ykq b (l:=l) g n.1.ext.wf;exact⟨e,m',v,i.trans y⟩
   |ret=>cases g;exact⟨_,_,rfl,i⟩
   |exit id=>cases g;exact⟨_,_,rfl,i⟩
   |_=>cases g
theorem FrR.putD{v v':Value}{k:Nat}{f1:Fr}(h:FrR φ f a)(b:Fr.putD v k f=some f1)(c:VR φ v v'):FrR φ f1 (a.put (some k) v'):=FrR.put (d:=some k) h b c
theorem ycal:∀{x y:List (Int×Int)},eqLk x y=true->x=y
 |[],[],_=>rfl
 | x::l,y::k,h=>by
   have h:(eqInt x.1 y.1&&eqInt x.2 y.2&&eqLk l k)=true:=h;simp only[zB]at h;rw[ycal h.2];congr 1;exact Prod.ext (yuy h.1.1) (yuy h.1.2)
 |[],_::_,h=>by cases h
 |_::_,[],h=>by cases h
theorem ycjn:∀{x y:List (List (Int×Int))},eqPs x y=true->x=y
 |[],[],_=>rfl
 | x::l,y::k,h=>by
   have h:(eqLk x y&&eqPs l k)=true:=h;simp only[zB]at h;rw[ycjn h.2,ycal h.1]
 |[],_::_,h=>by cases h
 |_::_,[],h=>by cases h
theorem ycqp{A:Addr}{gv:GV}(h:sameG A gv m=true):graphOf m A=some gv:=by
 unfold sameG at h;split at h
 .rename_i k hk
  simp only[zB]at h;rw[hk];obtain⟨v,j,i⟩:=k;obtain⟨l,c,b⟩:=gv;have d:v=l:=ybwn h.1.1;have e:j=c:=yso h.1.2;have g:i=b:=ycjn h.2;rw[d,e,g]
 .cases h
theorem ysy{p q:Nat}{b d:Code}{ok:Mem->Bool}:∀{l:List El}{m:Mem}{out:Out},evRounds self f p q b d ok l m=some out->∃e m',out = .code e f m'
 |[],m,out,h=>⟨_,m,(yir h).2⟩
 | x::l,m,out,h=>by
   obtain⟨_,f1,f2,f3,g,i,_,_,_,_,c⟩:=yhw h;unfold afterRound at c;split at c
   .exact ysy (l:=l) c
   .cases c;exact⟨_,_,rfl⟩
   .cases c;exact⟨_,_,rfl⟩
   .cases c
theorem ybex{r:Option Nat}{w:World}(h:InR r w)(fn:FuncId)(tmps:Array Value)(ps:Array Tmp)(assign body:Code):∃(L D:Nat) (mark:List Deferred) (W1:World) (DP:World->Prop),
 w.heap.size<=L/\(Instr.enterLoop fn tmps ps assign body r).run P w = .ok (L,mark) W1/\W1.heap[L]?=some (.loop { state:=.ready,pending:=none,fn,tmps,params:=ps,assign,body,defers:=D })/\Below w.heap.size w W1/\DP W1 /\
 (∀A B,Below A.heap.size A B->DP A->DP B)/\(∀(φ φ':Phi) (M M':AM) (A B:World),Rel φ M A->WG φ M A φ' M' B->DP A->DP B)/\(∀(A:World) (x:Obj),DP A->DP (A.putObj L x))/\∀(A:World) (a:Act),DP A->Df w A a { a with defers:=mark++a.defers }:=by
 cases r with
 | none =>
   refine⟨w.heap.size+1,w.heap.size,[{ target:=.collected w.heap.size,args:=#[] }],_,fun W=>W.heap[w.heap.size]?=some (.deferred (some [])),by omega,run_enterLoop_outer _ _ _ _ _,?_,?_,?_,?_,?_,?_,?_⟩
   .have:=World.alloc_heap_new (w.alloc (.deferred (some []))) (.loop { state:=.ready,pending:=none,fn,tmps,params:=ps,assign,body,defers:=w.heap.size })
    rwa [World.size_alloc]at this
   .exact((Below.refl _ w).alloc (zD _) _).alloc (by simp) _
   .exact(Below.heap_alloc _ _ _ (by simp)).trans (World.alloc_heap_new w _)
   .exact fun A B hb hd=>(hb.block _ (Array.getElem?_eq_some_iff.1 hd).1).trans hd
   .exact fun φ φ' M M' A B hR hg hd=>(hg.keep _ (Array.getElem?_eq_some_iff.1 hd).1 (Img.not_deferred hR hd)).trans hd
   .exact fun A x hd=>(World.putObj_heap_other (by omega)).trans hd
   .refine fun A a hd=>⟨[{ target:=.collected w.heap.size,args:=#[] }],rfl,List.pairwise_singleton _ _,fun d hd'=>?_⟩;rw[List.mem_singleton]at hd';subst hd';exact⟨w.heap.size,zD _,rfl,hd⟩
 | some l =>
   obtain⟨x,hx⟩:=h l rfl;refine⟨w.heap.size,x.defers,[],_,fun _=>True,zD _,run_enterLoop_inner hx _ _ _ _ _,World.alloc_heap_new _ _,(Below.refl _ w).alloc (zD _) _,trivial,fun _ _ _ _=>trivial,fun _ _ _ _ _ _ _ _ _=>trivial,fun _ _ _=>trivial,fun A a _=>Df.same rfl⟩
set_option maxHeartbeats 1000000 in
theorem yboj {lk:Option Nat}(hlk:∀g,lk=some g->yccw P g) (hself:yfo P self) {gx:Operand}{ps:Array Tmp}{assign body:Code}{v:Value}{out:Out}
 (hv:f.get gx=some v) (h:evRange self lk f m ps.toList assign body v=some out):yca P (.code (.rangeFunc gx ps assign body) f m) out:=by
 unfold evRange at h;split at h
 .rename_i g first captured
  split at h
  .rename_i p q A hps hfirst hcap
   obtain⟨hc,h2⟩:=ybi h;simp only[zB]at hc;obtain⟨⟨hg,_⟩,_⟩:=hc;obtain⟨gv,hgv,h3⟩:=yg h2;have hit:=hlk g (yul hg);obtain⟨e0,mf,rfl⟩:=ysy h3;have hps':ps = #[p,q]:=Array.toList_inj.1 hps;refine ydb.task fun hw=>⟨?_,fun φ M w a r hnr hR hs hf hfr=>?_⟩
   .obtain⟨e,m',q1,q2⟩:=ykq hself h3 hw;cases q1
    exact q2
   .have hvr:=ykf (a:=a) (fun t v _ ht=>hf.get t v ht) hv;obtain⟨x',y',e1,e2,e3⟩:=hvr.func_inv;rw[hfirst]at e2;rw[hcap]at e3;cases e2
    obtain⟨box,rfl,hbox⟩:=yiq e3;refine wpIn_rangeFunc ?_;intro fn _;obtain⟨L,D,mark,W1,DP,hwL,henter,hL1,hb1,hK1,dBelow,dStep,dPut,dDf⟩:=ybex (P:=P) hnr fn a.tmps ps assign body;obtain⟨rec,hrec⟩:∃rec:LoopState->Option Code->Loop,rec=fun st pe=>{ state:=st,pending:=pe,fn,tmps:=a.tmps,params:=ps,assign,body,defers:=D }:=⟨_,rfl⟩;have hL1:W1.heap[L]?=some (.loop (rec .ready none)):=by rw[hrec];exact hL1
    refine⟨L,mark,W1,{ target:=.fn (.func g) #[box],args:=#[.func (.yield L) #[] #[]] },W1,g,
     #[.func (.yield L) #[] #[],box],W1,?_,?_,fun _ _=>trivial,?_,fun q=>(by cases q),?_⟩
    .exact henter
    .simp only[resolve,e1];simp[go_sem]
    .simp[invoke,go_sem,hit.1]
    .let St:List El->Phi->AM->World->Prop:=fun pre φ' M' W=>∃rest mi,flatAt 0 gv.ps=pre++rest/\evRounds self f p q assign body (sameG A gv) rest mi=some (.code e0 f mf)/\Grow m mi/\Good φ M w m mi φ' M' W /\
      W.heap[L]?=some (.loop (rec .ready none))/\DP W
     let Stop:World->Prop:=fun W=>∃c φ' M',((c=Code.ret/\e0 = .ret)\/∃id,c = .exit id/\e0 = .exit id)/\Good φ M w m mf φ' M' W /\
      W.heap[L]?=some (.loop (rec .done (some c)))/\DP W
     refine CallsIn.mono (hit.2 L A gv St Stop φ M W1 box ?_ ?_ ?_ ?_ hbox) ?_
     .rintro pre φ' M' W ⟨rest,mi,_,k2,_,k4,_⟩;exact⟨mi,k4.rel,k4.sub,ycqp (ybkj k2)⟩
     .rintro pre φ' M' W W' ⟨rest,mi,k1,k2,k3,k4,k5,k6⟩ hb;exact⟨rest,mi,k1,k2,k3,k4.below hb,(hb.block _ (Array.getElem?_eq_some_iff.1 k5).1).trans k5,dBelow _ _ hb k6⟩
     .rintro pre x post φ' M' W ⟨rest,mi,k1,k2,k3,hgd,hl,hd⟩ hfl;rw[k1]at hfl;have hrest:rest=x::post:=List.append_cancel_left hfl;subst hrest;obtain⟨_,f1,f2,f3,m1,o2,p1,p2,p3,p4,p5⟩:=yhw k2;obtain⟨e1',g1,n1,q1,s1⟩:=ydh hself p3 k3.ext.wf;cases q1
      obtain⟨e2',g2,m2,q2,s2⟩:=ydh hself p4 s1.1.ext.wf;subst q2
      have hm2:m2.next<=mf.next:=by
       cases e2' with
       | normal =>
         obtain⟨e,m',r1,r2⟩:=ykq hself (l:=post) p5 s2.1.ext.wf;cases r1
         exact r2.ext.next
       |ret=>cases p5;exact zD _
       |exit id=>cases p5;exact zD _
       |_=>cases p5
      have hfr1:yhm φ' mi.next mf.next:=hgd.fresh k3.ext hfr
      have hlt:L<W.heap.size:=(Array.getElem?_eq_some_iff.1 hl).1;have hy:=run_yield (P:=P) (args:=x.enc) hl (by rw[hrec,hps'];rfl)
      rw[hrec]at hy;refine⟨fn,_,assign,body,hy,roundIn_of_wpIn (F:=Fence.wide) (n:=0) trivial ?_⟩;have hfr0:=((hf.mono hgd.le).putD p1 (VR.simple (v:=x.v0) rfl)).putD p2 (VR.atomA (v:=x.v1) rfl)
      have hfr2:FrR φ' f2 { tmps:=(ps.zip x.enc).foldl (fun tmps (t,a)=>tmps.setIfInBounds t a) a.tmps,defers:=[] }:=by
       have et:(ps.zip x.enc).foldl (fun tmps (t,a)=>tmps.setIfInBounds t a) a.tmps=((a.put (some p) x.v0).put (some q) x.v1).tmps:=by
        rw[hps'];simp[El.enc,Act.put]
       rw[et];exact⟨hfr0.size,hfr0.get⟩
      refine wpIn_mono (s1.2 φ' M' W _ (some L) (fun l q=>by cases q;exact⟨_,hl⟩) hgd.rel hgd.sub hfr2 (hfr1.left (zM s2.1.ext.next hm2))) ?_
      rintro e' a1 w1 ⟨rfl,φ1,M1,hg1,hf1,_⟩;have hl1:w1.heap[L]?=some (.loop (rec .ready none)):=(hg1.wg.keep _ hlt (Img.not_loop hgd.rel hl)).trans hl;have hd1:DP w1:=dStep _ _ _ _ _ _ hgd.rel hg1.wg hd;have hlt1:L<w1.heap.size:=(Array.getElem?_eq_some_iff.1 hl1).1;refine⟨_,run_beginRound hl1 (by rw[hrec]),?_⟩
      have G1:Good φ M w m m1 φ1 M1 w1:=Good.trans k3.ext s1.1.ext s1.1.low hgd hg1;have G1':=G1.put (l:=L) (x:=.loop { rec .ready none with state:=.busy }) ⟨_,hl1⟩ (by omega)
      have hlb:(w1.putObj L (.loop { rec .ready none with state:=.busy })).heap[L]?=some (.loop { rec .ready none with state:=.busy }):=World.putObj_heap_same hlt1;have hdb:DP (w1.putObj L (.loop { rec .ready none with state:=.busy })):=dPut _ _ hd1;refine wpIn_mono (s2.2 φ1 M1 _ a1 (some L) (fun l q=>by cases q;exact⟨_,hlb⟩) G1'.rel G1'.sub hf1 ((hg1.fresh s1.1.ext hfr1).left hm2)) ?_
      rintro e' a2 w2 ⟨rfl,φ2,M2,hg2,_,_⟩;have hltb:L<(w1.putObj L (.loop { rec .ready none with state:=.busy })).heap.size:=(Array.getElem?_eq_some_iff.1 hlb).1;have hl2:=(hg2.wg.keep _ hltb (Img.not_loop G1'.rel hlb)).trans hlb;have hd2:=dStep _ _ _ _ _ _ G1'.rel hg2.wg hdb;have hlt2:L<w2.heap.size:=(Array.getElem?_eq_some_iff.1 hl2).1;have G2:Good φ M w m m2 φ2 M2 w2:=Good.trans (k3.trans s1.1).ext s2.1.ext s2.1.low G1' hg2
      have hle2:φ'.le φ2:=Phi.le_trans hg1.le hg2.le
      have fin:∀(jump:Option Code),(w2.putObj L (.loop (rec (if jump.isNone then .ready else .done) jump))).heap[L]?=some (.loop (rec (if jump.isNone then .ready else .done) jump)) /\
       DP (w2.putObj L (.loop (rec (if jump.isNone then .ready else .done) jump)))/\Good φ M w m m2 φ2 M2 (w2.putObj L (.loop (rec (if jump.isNone then .ready else .done) jump))) /\
       (Instr.endRound L jump).run P w2 = .ok (.bool jump.isNone) (w2.putObj L (.loop (rec (if jump.isNone then .ready else .done) jump))):=fun jump=>by
       refine⟨World.putObj_heap_same hlt2,dPut _ _ hd2,G2.put ⟨_,hl2⟩ (by omega),?_⟩
       have:=run_endRound (P:=P) jump hl2;rw[hrec]at this ⊢;exact this
      cases e' with
      | normal =>
        obtain⟨a1',a2',a3',a4'⟩:=fin none;exact⟨_,_,a4',.inl ⟨rfl,φ2,M2,hle2,post,m2,by rw[k1];simp,p5,(k3.trans s1.1).trans s2.1,a3',a1',a2'⟩⟩
      | ret =>
        obtain⟨a1',a2',a3',a4'⟩:=fin (some .ret);cases p5
        exact⟨_,_,a4',.inr ⟨rfl,.ret,φ2,M2,.inl ⟨rfl,rfl⟩,a3',a1',a2'⟩⟩
      | exit id =>
        obtain⟨a1',a2',a3',a4'⟩:=fin (some (.exit id));cases p5
        exact⟨_,_,a4',.inr ⟨rfl,.exit id,φ2,M2,.inr ⟨id,rfl,rfl⟩,a3',a1',a2'⟩⟩
      |_=>cases p5
     .refine⟨flatAt 0 gv.ps,m,rfl,h3,Grow.refl hw,(Good.refl hR hs).below hb1,hL1,hK1⟩
     .have fin:∀{φ' M' W c st},st ≠ .busy->Good φ M w m mf φ' M' W->W.heap[L]?=some (.loop (rec st c))->DP W ->
       ∃ w4,(Instr.endLoop L).run P W = .ok c w4/\Good φ M w m mf φ' M' w4/\FrR φ' f { a with defers:=mark++a.defers } /\
         Df w w4 a { a with defers:=mark++a.defers }:=by
       intro φ' M' W c st hst hgd hl hd;have hlt:L<W.heap.size:=(Array.getElem?_eq_some_iff.1 hl).1;have hrun:=run_endLoop (P:=P) hl (by rw[hrec];exact hst)
       have hpend:(rec st c).pending=c:=by rw[hrec]
       rw[hpend]at hrun;exact⟨_,hrun,hgd.put ⟨_,hl⟩ (by omega),⟨(hf.mono hgd.le).size,(hf.mono hgd.le).get⟩,dDf _ a (dPut _ _ hd)⟩
      rintro e W ⟨⟨v,rfl⟩,(⟨φ',M',rest,mi,k1,k2,k3,hgd,hl,hd⟩|⟨c,φ',M',hc,hgd,hl,hd⟩)⟩
      .have hrest:rest=[]:=by
        have:=congrArg List.length k1;rw[List.length_append]at this;exact zAA (by omega)
       subst hrest;obtain⟨_,k5⟩:=yir k2;cases k5
       obtain⟨w4,r1,r2,r3,r4⟩:=fin (by simp) hgd hl hd
       exact⟨none,w4,r1,rfl,φ',M',r2,r3,r4⟩
      .obtain⟨w4,r1,r2,r3,r4⟩:=fin (by simp) hgd hl hd
       rcases hc with⟨rfl,rfl⟩|⟨id,rfl,rfl⟩
       .exact⟨some .ret,w4,r1,wpIn_ret ⟨rfl,φ',M',r2,r3,r4⟩⟩
       .exact⟨some (.exit id),w4,r1,wpIn_exit ⟨rfl,φ',M',r2,r3,r4⟩⟩
  .cases h
 .cases h
end
end Ev
end
section
namespace Ev
open Go Go.RowKit
structure HooksOk(P:Program)(H:Hooks):Prop where
 catch_:∀g,H.catch_=some g->∀self,yfo P self->∀args m out,evCatch self m args=some out->yca P (.call g args m) out
 indexByte:∀g,H.indexByte=some g->∀args m out,evIndexByte m args=some out->yca P (.call g args m) out
 symm:∀g,H.symm=some g->∀args m out,evSymm H.symB m args=some out->yca P (.call g args m) out
 facts:∀c∈H.facts,∀f∈c.l,ybp P f
 links:∀g,H.links=some g->yccw P g
section
variable {P:Program}{self:Task->Option Out}{H:Hooks}{f f':Fr}{m m':Mem}
theorem yvl{c:Code}{e:Exit}(d:∀r Q a w,Q e a w->c.wpIn (wr r) 0 P Q a w):yca P (.code c f m) (.code e f m) :=
 ydb.task fun i=>⟨Grow.refl i,fun j M w a r _ b h g _=>d r _ a w ⟨rfl,j,M,Good.refl b h,g,Df.same rfl⟩⟩
theorem yzl(X:P.follows .mixedOrders=true){lk:Option Nat}(a1:∀g,lk=some g->yccw P g)(j:yfo P self){c:Code}{out:Out}(h:codeStep P self lk f m c=some out):yca P (.code c f m) out:=by
 unfold codeStep at h;split at h
 .cases h;exact yvl fun r Q a w Y=>wpIn_skip Y
 .rename_i x y
  obtain⟨o1,E,p⟩:=yg h;unfold thenCode at p;split at p
  .rename_i f1 m1
   have:∃e f' m',out = .code e f' m':=by
    have:=j _ _ p;cases out with
    |code e f' m'=>exact⟨e,f',m',rfl⟩
    |call v m'=>exact this.elim
   obtain⟨e,f',m',rfl⟩:=this;refine ydb.task fun s=>?_;obtain⟨U,f2,R,F,k⟩:=ydh j E s;cases F
   obtain⟨e2,f3,m3,F,a2⟩:=ydh j p k.1.ext.wf;cases F
   exact k.seq a2
  .rename_i K
   cases p
   have:∃e f' m',out=Out.code e f' m':=by
    have:=j _ _ E;cases out with
    |code e f' m'=>exact⟨e,f',m',rfl⟩
    |call v m'=>exact this.elim
   obtain⟨e,f',m',rfl⟩:=this;refine ydb.task fun s=>?_;obtain⟨U,f2,R,F,k⟩:=ydh j E s;cases F
   refine⟨k.1,fun D M w a r J A C u l=>wpIn_seq (wpIn_mono (k.2 D M w a r J A C u l) ?_)⟩;intro e' O S N;exact ymr (by rw[N.1];intro q;subst q;exact K _ _ rfl) N
 .rename_i c x y
  obtain⟨v,hv,p⟩:=yg h;unfold condStep at p;split at p
  .rename_i t
   have Z:∀z:Code,self (.code z f m)=some out->(if t then x else y)=z->yca P (.code (.cond c x y) f m) out:=by
    intro z hz F
    have:∃e f' m',out = .code e f' m':=by
     have:=j _ _ hz;cases out with
     |code e f' m'=>exact⟨e,f',m',rfl⟩
     |call v m'=>exact this.elim
    obtain⟨e,f',m',rfl⟩:=this;refine ydb.task fun s=>?_;obtain⟨U,f2,R,B,k⟩:=ydh j hz s;cases B
    refine⟨k.1,fun D M w a r J A C u l=>wpIn_cond (t:=t) ?_ (by rw[F];exact k.2 D M w a r J A C u l)⟩
    exact((ykf (fun t v _ ht=>u.get t v ht) hv).bool_iff t).2 rfl
   cases t with
   |true=>exact Z x p rfl
   |false=>exact Z y p rfl
  .cases p
 .rename_i id b
  obtain⟨o1,E,p⟩:=yg h;unfold endBlock at p;split at p
  .rename_i i f1 m1
   rw[ybh]at p;split at p
   .rename_i W
    have W:=zA W;subst W;cases p
    refine ydb.task fun s=>?_;obtain⟨U,f2,R,B,k⟩:=ydh j E s;cases B
    refine⟨k.1,fun D M w a r J A C u l=>wpIn_block (wpIn_mono (k.2 D M w a r J A C u l) ?_)⟩;rintro e' O S ⟨rfl,N⟩;simp only[Exit.inBlock,if_true];exact⟨rfl,N⟩
   .rename_i W
    cases p
    refine ydb.task fun s=>?_;obtain⟨U,f2,R,B,k⟩:=ydh j E s;cases B
    refine⟨k.1,fun D M w a r J A C u l=>wpIn_block (wpIn_mono (k.2 D M w a r J A C u l) ?_)⟩;rintro e' O S ⟨rfl,N⟩;have K:i≠id:=fun q=>W (by rw[q];exact zAN _)
    simp only[Exit.inBlock,if_neg K];exact⟨rfl,N⟩
  .rename_i K
   cases p
   have:∃e f' m',out=Out.code e f' m':=by
    have:=j _ _ E;cases out with
    |code e f' m'=>exact⟨e,f',m',rfl⟩
    |call v m'=>exact this.elim
   obtain⟨e,f',m',rfl⟩:=this;refine ydb.task fun s=>?_;obtain⟨U,f2,R,B,k⟩:=ydh j E s;cases B
   refine⟨k.1,fun D M w a r J A C u l=>wpIn_block (wpIn_mono (k.2 D M w a r J A C u l) ?_)⟩;intro e' O S N;have F:=N.1;subst F;cases e' with
   |exit i=>exact absurd rfl (K i f' m')
   |_=>exact N
 .rename_i b
  by_cases s:Wf m
  .have o:=fun rr=>yts (rr:=rr) j _ f m out h s;obtain⟨e,f',m',rfl,hg,_⟩:=o none;refine ydb.task fun _=>⟨hg,fun D M w a r J A C u l=>?_⟩;obtain⟨e2,f2,R,F,_,hr⟩:=o r;cases F
   exact wpIn_loop_rounds _ (hr D M w a _ J A C u l fun O S L T I G V=>⟨rfl,L,T,I,G,V⟩)
  .cases out with
   |code e f' m'=>exact fun q=>absurd q s
   | call v m' =>
     exfalso
     have:∀n f m v m',evLoop self b n f m≠some (.call v m'):=by
      intro n
      induction n with
      |zero=>intro f m v m' q;cases q
      | succ n ih =>
        intro f m v m' q;rcases yxm q with⟨f1,m1,_,q2⟩|⟨q1,_⟩
        .exact ih _ _ _ _ q2
        .exact j _ _ q1
     exact this _ _ _ _ _ h
 .rename_i id;cases h;exact yvl fun r Q a w Y=>wpIn_exit Y
 .cases h;exact yvl fun r Q a w Y=>wpIn_ret Y
 .rename_i id ops d
  unfold regionStep at h;cases d with
  | false =>
    change ob (evOps P self ops.toList ops.toList f m) endRegion=some out at h
    obtain⟨x,E,p⟩:=yg h;cases p
    refine ydb.task fun s=>?_;have o:=fun rr=>yoq (rr:=rr) j (ops:=ops) ops.toList f m x E s;exact⟨(o none).1,fun D M w a r _ A C u l=>wpIn_region_list ((o r).2 D M w a _ A C u l fun O S L T I G V=>⟨rfl,L,T,I,G,Df.same V⟩)⟩
  | true =>
    change drawStep P self ops.toList (ancs ops.toList []).reverse f m=some out at h
    unfold drawStep at h;obtain⟨a3,E⟩:=ybi h;obtain⟨x,p,h3⟩:=yg E;cases h3
    refine ydb.task fun s=>?_;have o:=fun rr=>ybts (rr:=rr) j X a3 p s;exact⟨(o none).1,fun D M w a r _ A C u l=>(o r).2 id D M w a _ A C u l fun O S L T I G V=>⟨rfl,L,T,I,G,Df.same V⟩⟩
 .rename_i g ps a0 a4
  obtain⟨v,hv,p⟩:=yg h;exact yboj a1 j hv p
 .cases h
theorem ybjg(j:P.follows .mixedOrders=true)(n:yxq P)(e:HooksOk P H)(b:yfo P self):yfo P (evStep P self H):=by
 intro t out h;cases t with
 |code c f m=>exact yzl j e.links b h
 | call g a m =>
   change callStep P self H g a m=some out at h
   unfold callStep at h;cases d:findFact g a m H.facts with
   | some o =>
     rw[d]at h;cases h
     exact yte e.facts d
   |none =>
   rw[d]at h
   change callStep1 P self H g a m=some out at h
   unfold callStep1 at h;rw[ybh]at h;split at h
   .rename_i i;exact e.catch_ g (yul i) self b a m out h
   .rw[ybh]at h;split at h
    .rename_i i;exact e.indexByte g (yul i) a m out h
    .rw[ybh]at h;split at h
     .rename_i i;exact e.symm g (yul i) a m out h
     .obtain⟨fn,l,k⟩:=yg h;exact ybcd n b l k
theorem ybbm(a:P.follows .mixedOrders=true)(c:yxq P)(b:HooksOk P H):∀n,yfo P (ev P H n)
 |0=>fun t out h=>by cases h
 |n+1=>ybjg a c b (ybbm a c b n)
end
end Ev
end
section
namespace Sh
noncomputable section
open Go Ev
abbrev Nm:=Nat×Nat
inductive SV where
 |i (k:IntKind) (n:Int)
 |b (x:Bool)
 |a (v:Value)
 |sl (z n:Nat) (g:Nat->List SV)
 |rf (c:List SV)
 |ag (c:List SV)
 |tp (c:List SV)
 |pt (β:Nm) (i j:Nat)
 |os (β:Nm) (o n:Nat) (ap:Bool)
 |fn (g:FuncId) (f c:List SV)
 |ex (Q:(Nat->Option ABlk)->Value->Prop) (v:SV)
 |mr (β:Nm)
 |bad
structure OB where
 e:TypeId
 bx:Bool
 z:Nat
 n:Nat
 g:Nat->List SV
def mapE(e:Nat):Bool:=decide (1000000000<=e)
inductive Fam where
 |one (b:Option OB)
 |many (g:Nat->Option OB)
def Fam.at:Fam->Nat->Option OB
 |.one b,i=>if i=0 then b else none
 |.many g,i=>g i
abbrev Own:=List (Nat×Fam)
structure SS where
 f:List (Nat×SV)
 o:Own
def look{a:Type}(l:List (Nat×a))(t:Nat):Option a:=match l with
 |[]=>none
 |(k,v)::l=>if k=t then some v else look l t
def lookO(l:Own)(a:Nm):Option OB:=match look l a.1 with
 |some F=>F.at a.2
 |none=>none
def yst(F:Option Fam)(i:Nat)(b:Option OB):Fam:=match F with
 |some (.many g)=>.many (fun j=>if j=i then b else g j)
 |_=>.one b
def SS.put(s:SS)(d:Option Nat)(v:SV):SS:=match d with
 |none=>s
 |some t=>⟨(t,v)::s.f,s.o⟩
def SS.own(s:SS)(a:Nm)(b:Option OB):SS:=⟨s.f,(a.1,yst (look s.o a.1) a.2 b)::s.o⟩
def ofV:Value->SV
 |.int k n=>.i k n
 |.bool x=>.b x
 |v=>.a v
def ybqf:Value->Option SV
 |.int k n=>some (.i k n)
 |.bool x=>some (.b x)
 |.agg c=>if c.toList.all simple then some (.ag (c.toList.map ofV))else none
 |v=>if simple v then some (.a v)else none
def SS.get(s:SS):Operand->Option SV
 |.tmp t=>look s.f t
 |.const v=>ybqf v
 |.global _=>none
 |.func g=>some (.fn g [] [])
def SS.gets(s:SS):List Operand->Option (List SV)
 |[]=>some []
 | x::l=>match s.get x,s.gets l with
   |some v,some a=>some (v::a)
   |_,_=>none
def SS.pget(s:SS)(x:Operand):Option SV:=match s.get x with
 |some (.ex _ v)=>some v
 |r=>r
inductive SOp where
 |mv (x:Operand)
 |pick (c a b:Operand)
 |alloc (e:TypeId) (n:Nat) (z:List SV)
 |box (e:TypeId) (x:Operand)
 |build (z:List SV) (ps:List (Nat×Nat×Operand))
 |bslice (e z n:Nat) (zs:List SV) (ps:List (Nat×Nat×Operand))
 |load (ag:Bool) (n:Nat) (x:Operand)
 |store (n:Nat) (x y:Operand)
 |nilck (x:Operand)
 |faddr (o n:Nat) (x:Operand)
 |field (ag:Bool) (o n:Nat) (x:Operand)
 |idx (z:Nat) (x k:Operand)
 |idxA (n z:Nat) (x k:Operand)
 |extract (x:Operand) (k:Nat)
 |mkfn (g:FuncId) (a b:List Operand)
 |mk (e z by_:Nat) (zs:List SV) (l c:Operand)
 |cut (z:Nat) (x:Operand) (lo hi:Option Operand)
 |cutA (n z:Nat) (x:Operand) (lo hi:Option Operand)
 |len (x:Operand)
 |app (e z by_:Nat) (s x:Operand)
 |mm (mx:Bool) (x y:Operand)
 |bin (op:BinOp) (x y:Operand)
 |wsub (x y:Operand)
 |wadd (x y:Operand)
 |beq (ne:Bool) (x y:Operand)
 |seq (ne:Bool) (ks:List Bool) (x y:Operand)
 |stri (l:List Nat) (k:Operand)
 |un (op:UnOp) (x:Operand)
 |conv (k:IntKind) (x:Operand)
 |mkmap (kd:Nat)
 |mget (kd:Nat) (x k:Operand)
 |mset (kd:Nat) (x k y:Operand)
 |call (f:Operand) (xs:List Operand)
 |no
structure SOper where
 op:SOp
 dst:Option Nat
 g:Option (Nat×Bool)
 an:Nat
inductive SC where
 |skip
 |seq (a b:SC)
 |cond (c:Operand) (a b:SC)
 |block (id:Nat) (b:SC)
 |loop (b:SC)
 |exit (id:Nat)
 |ret
 |reg (d:Bool) (ops:List SOper)
 |range (g:Operand) (ps:List Nat) (a b:SC)
 |no
structure SRec where
 rd:List Nm
 wr:List Nm
 nw:List Nm
 fz:Bool
 cl:Bool
 gr:Bool
 mu:Bool
def SRec.no:SRec:=⟨[],[],[],false,false,false,false⟩
def SRec.top:SRec:=⟨[],[],[],true,true,true,true⟩
structure XR where
 c:Prop
 r:SRec
 v:SV
 s:SS
def part(ag:Bool)(o n:Nat)(l:List SV):Option SV :=
 if o+n<=l.length then(if ag then some (.ag ((l.drop o).take n))else if n=1 then(l.drop o).head? else none)else none
def SV.cells:SV->List SV
 |.ag c=>c
 |v=>[v]
def one1:SV->Bool
 |.ag _ | .tp _ | .bad=>false
 |.ex _ v=>one1 v
 |_=>true
def splice(l:List SV)(o:Nat)(new:List SV):List SV:=l.take o++new++l.drop (o+new.length)
def fill(s:SS)(l:List SV):List (Nat×Nat×Operand)->Option (List SV)
 |[]=>some l
 | (o,n,x)::a=>match s.get x with
   |none=>none
   |some v=>if v.cells.length=n/\o+n<=l.length/\v.cells.all one1=true then fill s (splice l o v.cells) a else none
def OB.set(b:OB)(i j:Nat)(l:List SV):OB :=
 ⟨b.e,b.bx,b.z,b.n,if b.n=1/\b.bx=true then(let c:=splice (b.g 0) j l;fun _=>c)else fun k=>if k=i then splice (b.g i) j l else b.g k⟩
structure Row where
 c:Prop
 n:Nat
 g:Nat->List SV
 rd:List Nm
 fz:Bool
def ytz(s:SS)(z:Nat):SV->Option Row
 |.sl d n g=>if d=z then some ⟨True,n,g,[],true⟩else none
 | .os c o n _=>match lookO s.o c with
   |some b=>if b.z=z then some ⟨o+n<=b.n,n,fun k=>b.g (o+k),[c],false⟩else none
   |none=>none
 |.a (.slice none 0 0)=>some ⟨True,0,fun _=>[],[],false⟩
 |_=>none
def inK(k:IntKind)(n:Int):Prop:=k.min<=n/\n<=k.max
def xbin(c:BinOp):SV->SV->Option (Prop×SV)
 | .i k x,.i a y=>match c with
   |.add=>if k=a then some (inK k (x+y),.i k (x+y))else none
   |.sub=>if k=a then some (inK k (x-y),.i k (x-y))else none
   |.mul=>if k=a then some (inK k (x*y),.i k (x*y))else none
   |.quo=>if k=a then some (y≠0/\inK k (x.tdiv y),.i k (x.tdiv y))else none
   |.rem=>if k=a then some (y≠0,.i k (x.tmod y))else none
   |.shl=>some (0<=y/\y<k.bits,.i k (k.wrap (x*2^y.toNat)))
   |.shr=>some (0<=y/\y<k.bits,.i k (x.fdiv (2^y.toNat)))
   |.and=>if k=a then some (True,.i k (k.wrap (zN k.bits x&&&zN k.bits y).toNat))else none
   |.or=>if k=a then some (True,.i k (k.wrap (zN k.bits x|||zN k.bits y).toNat))else none
   |.xor=>if k=a then some (True,.i k (k.wrap (zN k.bits x ^^^ zN k.bits y).toNat))else none
   |.andNot=>if k=a then some (True,.i k (k.wrap (zN k.bits x &&& ~~~zN k.bits y).toNat))else none
   |.eql=>if k=a then some (True,.b (x==y))else none
   |.neq=>if k=a then some (True,.b (x != y))else none
   |.lss=>if k=a then some (True,.b (decide (x<y)))else none
   |.leq=>if k=a then some (True,.b (decide (x<=y)))else none
   |.gtr=>if k=a then some (True,.b (decide (x>y)))else none
   |.geq=>if k=a then some (True,.b (decide (x>=y)))else none
 |_,_=>none
def xun(a:UnOp):SV->Option (Prop×SV)
 | .i k x=>match a with
   |.neg=>if k.signed=true then some (inK k (0-x),.i k (0-x))else some (True,.i k (k.wrap (0-x)))
   |.xor=>some (True,.i k (k.wrap (zN k.bits (if k.signed then -1 else k.max) ^^^ zN k.bits x).toNat))
   |_=>none
 | .b x=>match a with
   |.not=>some (True,.b !x)
   |_=>none
 |_=>none
def ybrj(s:SS):Option (Prop×SV)->Option XR
 |some (c,v)=>some ⟨c,SRec.no,v,s⟩
 |none=>none
def yyx(s:SS)(ag:Bool)(n:Nat):SV->Option XR
 | .rf c=>match part ag 0 n c with
   |some v=>some ⟨True,⟨[],[],[],true,false,false,false⟩,v,s⟩
   |none=>none
 | .pt a i j=>match lookO s.o a with
   | some b=>if j+n<=b.z then(match part ag j n (b.g i)with
     |some v=>some ⟨i<b.n,⟨[a],[],[],false,false,false,false⟩,v,s⟩
     |none=>none)else none
   |none=>none
 |_=>none
def ybih(s:SS)(n:Nat)(v:SV):SV->Option XR
 | .pt a i j=>match lookO s.o a with
   | some b=>if v.cells.length=n/\j+n<=b.z/\v.cells.all one1=true then
      some ⟨i<b.n,⟨[a],[a],[],false,false,false,false⟩,.tp [],s.own a (some (b.set i j v.cells))⟩else none
   |none=>none
 |_=>none
def idxX(s:SS)(n:Int)(z:Nat):SV->Option XR
 |.sl c m g=>if c=z then some ⟨0<=n/\n<m,SRec.no,.rf (g n.toNat),s⟩else none
 | .os a o m _=>match lookO s.o a with
   |some b=>if b.z=z then some ⟨0<=n/\n<m,SRec.no,.pt a (o+n.toNat) 0,s⟩else none
   |none=>none
 |_=>none
def natX(s:SS)(d:Nat):Option Operand->Option (Int)
 |none=>some d
 | some x=>match s.get x with
   |some (.i _ n)=>some n
   |_=>none
def eqL:List Bool->List SV->List SV->Option Bool
 |[],[],[]=>some true
 |false::a,.i k n::l,.i d m::c=>if k=d then(eqL a l c).map (decide (n=m) && ·)else none
 |true::a,.b x::l,.b y::c=>(eqL a l c).map ((x==y) && ·)
 |_,_,_=>none
def ynq(s:SS)(e d:Nat):Bool:=(look s.o d).isNone&&decide (e<1000000000)
def mkey(a b:Int):Nat:=a.toNat*4294967296+b.toNat
def yqt(a:Nat):SV:=if a=0 then .b false else .i .i64 0
def mval(a:Nat):SV->Bool
 |.b _=>a==0
 |.i .i64 _=>a==1
 |_=>false
def xOp (s:SS)(d:Option Nat):SOp->Option XR
 | .mv x=>match s.get x with
   |some v=>some ⟨True,SRec.no,v,s⟩
   |none=>none
 | .pick c a b=>match s.get c with
   | some (.b t)=>(match s.get (if t then a else b)with
     |some v=>some ⟨True,SRec.no,v,s⟩
     |none=>none)
   |_=>none
 | .alloc e n z=>match d with
   |some f=>if ynq s e f then some ⟨True,⟨[],[],[(f,0)],false,false,false,false⟩,.pt (f,0) 0 0,s.own (f,0) (some ⟨e,true,z.length,n,fun _=>z⟩)⟩else none
   |none=>none
 | .box e x=>match d,s.get x with
   |some f,some v=>if ynq s e f/\v.cells.all one1=true then some ⟨True,⟨[],[],[(f,0)],false,false,false,false⟩,.pt (f,0) 0 0,s.own (f,0) (some ⟨e,true,v.cells.length,1,fun _=>v.cells⟩)⟩else none
   |_,_=>none
 | .build z G=>match fill s z G with
   |some l=>some ⟨True,SRec.no,.ag l,s⟩
   |none=>none
 | .bslice e z n H G=>match d,fill s H G with
   |some f,some l=>if ynq s e f then some ⟨True,⟨[],[],[(f,0)],false,false,false,false⟩,.os (f,0) 0 n true,s.own (f,0) (some ⟨e,false,z,n,fun k=>(l.drop (k*z)).take z⟩)⟩else none
   |_,_=>none
 | .load ag n x=>match s.get x with
   |some p=>yyx s ag n p
   |none=>none
 | .store n x y=>match s.get x,s.get y with
   |some p,some v=>ybih s n v p
   |_,_=>none
 | .nilck x=>match s.get x with
   |some (.rf c)=>some ⟨True,SRec.no,.rf c,s⟩
   |some (.pt f i j)=>some ⟨True,SRec.no,.pt f i j,s⟩
   |_=>none
 | .faddr o n x=>match s.get x with
   |some (.rf c)=>if o+n<=c.length then some ⟨True,SRec.no,.rf ((c.drop o).take n),s⟩else none
   |some (.pt f i j)=>some ⟨True,SRec.no,.pt f i (j+o),s⟩
   |_=>none
 | .field ag o n x=>match s.get x with
   | some (.ag c)=>(match part ag o n c with
     |some v=>some ⟨True,SRec.no,v,s⟩
     |none=>none)
   |_=>none
 | .idx z x k=>match s.pget x,s.get k with
   |some p,some (.i _ n)=>idxX s n z p
   |_,_=>none
 | .idxA m z x k=>match s.get x,s.get k with
   | some (.pt f i j),some (.i _ n)=>(match lookO s.o f with
     |some b=>if b.z=z then some ⟨0<=n/\n<m,SRec.no,.pt f (i+n.toNat) j,s⟩else some ⟨0<=n/\n<m,SRec.no,.pt f i (j+n.toNat*z),s⟩
     |none=>none)
   |some (.rf c),some (.i _ n)=>some ⟨0<=n/\n<m/\n.toNat*z+z<=c.length,SRec.no,.rf ((c.drop (n.toNat*z)).take z),s⟩
   |_,_=>none
 | .extract x k=>match s.get x with
   | some (.tp c)=>(match c[k]? with
     |some v=>some ⟨True,SRec.no,v,s⟩
     |none=>none)
   |_=>none
 | .mkfn g a b=>match s.gets a,s.gets b with
   |some a,some b=>some ⟨True,SRec.no,.fn g a b,s⟩
   |_,_=>none
 | .mk e z r H l c=>match d,s.get l,s.get c with
   |some f,some (.i _ n),some (.i _ m)=>if ynq s e f then some ⟨n=m/\0<=n/\r*n.toNat<=1000000/\n.toNat<=1000000,⟨[],[],[(f,0)],false,false,false,false⟩,.os (f,0) 0 n.toNat true,s.own (f,0) (some ⟨e,false,z,n.toNat,fun _=>H⟩)⟩else none
   |_,_,_=>none
 | .cut z x D B=>match s.pget x with
   | some (.sl L m g)=>(match natX s m B,natX s 0 D with
     |some h,some l=>if L=z then some ⟨0<=l/\l<=h/\h<=m/\0<m,⟨[],[],[],true,false,false,false⟩,.sl z (h.toNat-l.toNat) (fun k=>g (l.toNat+k)),s⟩else none
     |_,_=>none)
   | some (.os f o m c)=>(match natX s m B,natX s 0 D,lookO s.o f with
     |some h,some l,some b=>if b.z=z/\b.bx=false then some ⟨0<=l/\l<=h/\h<=m,⟨[f],[],[],false,false,false,false⟩,.os f (o+l.toNat) (h.toNat-l.toNat) (c&&B.isNone),s⟩else none
     |_,_,_=>none)
   |_=>none
 | .cutA m z x D B=>match s.get x with
   | some (.pt f 0 0)=>(match natX s m B,natX s 0 D,lookO s.o f with
     |some h,some l,some b=>if b.n=m/\b.z=z/\b.bx=true/\0<m then some ⟨0<=l/\l<=h/\h<=m/\m<=1000000,⟨[f],[],[],false,false,false,false⟩,.os f l.toNat (h.toNat-l.toNat) false,s⟩else none
     |_,_,_=>none)
   |_=>none
 | .len x=>match s.pget x with
   |some (.sl _ n _)=>some ⟨True,SRec.no,.i .i64 n,s⟩
   |some (.os _ _ n _)=>some ⟨True,SRec.no,.i .i64 n,s⟩
   |some (.a (.slice none 0 0))=>some ⟨True,SRec.no,.i .i64 0,s⟩
   |_=>none
 | .app e z r x y=>match d,s.get x,s.pget y with
   | some f,some x,some y=>(match ytz s z y with
     | some q=>if ynq s e f then(if q.n=0 then(match x with
       |.a (.slice none 0 0)=>some ⟨q.c,SRec.no,.a (.slice none 0 0),s⟩
       |.os A p n true=>some ⟨q.c/\n*r<=100000000/\n<=100000000,SRec.no,.os A p n true,s⟩
       |_=>none)else(match x with
       | .a (.slice none 0 0)=>some ⟨q.c/\0<q.n/\q.n*r<=100000000/\q.n<=100000000,⟨q.rd,[],[(f,0)],q.fz,false,false,false⟩,.os (f,0) 0 q.n true,
          s.own (f,0) (some ⟨e,false,z,q.n,q.g⟩)⟩
       | .os A p n true=>(match lookO s.o A with
         | some b=>if b.e=e/\b.z=z/\b.bx=false then some ⟨q.c/\p+n<=b.n/\0<q.n/\(n+q.n)*r<=100000000/\n+q.n<=100000000,⟨A::q.rd,[A],[(f,0)],q.fz,false,false,false⟩,.os (f,0) 0 (n+q.n) true,
           (s.own A none).own (f,0) (some ⟨e,false,z,n+q.n,fun k=>if k<n then b.g (p+k)else q.g (k-n)⟩)⟩else none
         |none=>none)
       |_=>none))else none
     |none=>none)
   |_,_,_=>none
 | .mm K x y=>match s.get x,s.get y with
   |some (.i k n),some (.i C m)=>if k=C then some ⟨True,SRec.no,.i k (if K then max n m else min n m),s⟩else none
   |_,_=>none
 | .bin F x y=>match s.get x,s.get y with
   |some v,some w=>ybrj s (xbin F v w)
   |_,_=>none
 | .wsub x y=>match s.get x,s.get y with
   |some (.i k n),some (.i C m)=>if k=C then some ⟨True,SRec.no,.i k (k.wrap (n-m)),s⟩else none
   |_,_=>none
 | .wadd x y=>match s.get x,s.get y with
   |some (.i k n),some (.i C m)=>if k=C then some ⟨True,SRec.no,.i k (k.wrap (n+m)),s⟩else none
   |_,_=>none
 | .beq E x y=>match s.get x,s.get y with
   |some (.b a),some (.b b)=>some ⟨True,SRec.no,.b (if E then a != b else a==b),s⟩
   |_,_=>none
 | .seq E I x y=>match s.get x,s.get y with
   | some (.ag l),some (.ag J)=>(match eqL I l J with
     |some q=>some ⟨True,SRec.no,.b (if E then !q else q),s⟩
     |none=>none)
   |_,_=>none
 | .stri l k=>match s.get k with
   |some (.i _ n)=>some ⟨0<=n/\n<l.length,SRec.no,.i .u8 ((l.getD n.toNat 0:Nat):Int),s⟩
   |_=>none
 | .un F x=>match s.get x with
   |some v=>ybrj s (xun F v)
   |_=>none
 | .conv k x=>match s.get x with
   |some (.i _ n)=>some ⟨True,SRec.no,.i k (k.wrap n),s⟩
   |_=>none
 | .mkmap u=>match d with
   |some f=>if ynq s 0 f then some ⟨True,⟨[],[],[(f,0)],false,false,false,false⟩,.mr (f,0),s.own (f,0) (some ⟨CU,true,u,0,fun _=>[yqt u]⟩)⟩else none
   |none=>none
 | .mget u x k=>match s.get x,s.get k with
   | some (.mr f),some (.ag [.i .i64 a,.i .u32 b])=>(match lookO s.o f with
     |some ob=>if ob.e=CU/\ob.z=u then some ⟨0<=a/\0<=b/\b<4294967296,⟨[f],[],[],false,false,false,false⟩,(ob.g (mkey a b)).headD .bad,s⟩else none
     |none=>none)
   |_,_=>none
 | .mset u x k y=>match s.get x,s.get k,s.get y with
   | some (.mr f),some (.ag [.i .i64 a,.i .u32 b]),some v=>(match lookO s.o f with
     |some ob=>if ob.e=CU/\ob.z=u/\mval u v=true then some ⟨0<=a/\0<=b/\b<4294967296,⟨[f],[f],[],false,false,false,false⟩,.tp [],s.own f (some ⟨CU,true,u,0,fun c=>if c=mkey a b then[v]else ob.g c⟩)⟩else none
     |none=>none)
   |_,_,_=>none
 |.call _ _=>none
 |.no=>none
def slots:List SV->Nat->List (Nat×SV)
 |[],_=>[]
 |v::l,i=>(i,v)::slots l (i+1)
def view(o:Own):Nat->SV->SV
 |0,_=>.bad
 | n + 1,v=>match v with
   | .pt d i j=>(match lookO o d with
     |some b=>.rf ((((b.g i).drop j)).map (view o n))
     |none=>.bad)
   | .os d p m _=>(match lookO o d with
     |some b=>.sl b.z m (fun k=>(b.g (p+k)).map (view o n))
     |none=>.bad)
   |.mr _=>.bad
   |.ag c=>.ag (c.map (view o n))
   |.tp c=>.tp (c.map (view o n))
   |.fn g a b=>.fn g (a.map (view o n)) (b.map (view o n))
   |v=>v
def allP(p:SV->Prop):List SV->Prop
 |[]=>True
 |x::l=>p x/\allP p l
def vok(o:Own):Nat->SV->Prop
 |0,_=>False
 | n + 1,v=>match v with
   | .pt d i j=>(match lookO o d with
     |some b=>(i<b.n/\j<=b.z)/\allP (vok o n) ((b.g i).drop j)
     |none=>False)
   | .os d p m _=>(match lookO o d with
     |some b=>p+m<=b.n/\∀k,k<m->allP (vok o n) (b.g (p+k))
     |none=>False)
   |.ag c=>allP (vok o n) c
   |.tp c=>allP (vok o n) c
   |.fn _ a b=>allP (vok o n) a/\allP (vok o n) b
   |.mr _=>False
   |.bad=>False
   |_=>True
def owned:Nat->SV->Bool
 |0,_=>true
 | n+1,v=>match v with
   |.pt .. | .os .. | .mr _ | .bad=>true
   |.ag c | .tp c=>c.any (owned n)
   |.fn _ a b=>a.any (owned n)||b.any (owned n)
   |_=>false
def scalar:Nat->SV->Bool
 |0,_=>false
 | n+1,v=>match v with
   |.i .. | .b .. | .a ..=>true
   |.ag c | .tp c=>c.all (scalar n)
   |_=>false
end
end Sh
end
section
namespace Sh
open Go Ev
def Le(F G:AM):Prop:=∀i b,F i=some b->G i=some b
theorem Le.refl(F:AM):Le F F:=fun _ _ h=>h
theorem Le.trans{F G H:AM}(a:Le F G)(b:Le G H):Le F H:=fun i x h=>b i x (a i x h)
abbrev Om:=Nm->Option (Option (Nat×Nat))
def om0:Om:=fun _=>none
def Om.le(ω ψ:Om):Prop:=∀a x,ω a=some x->ψ a=some x
theorem yyk(ω:Om):Om.le om0 ω:=fun _ _ h=>by cases h
theorem Om.le_refl(ω:Om):Om.le ω ω:=fun _ _ h=>h
def Z0(u:Value):Prop:=u = .slice none 0 0\/∃b o c,u = .slice (some ⟨b,o,none⟩) 0 c
mutual
inductive RV (F:AM):Om->SV->Value->Prop
 |i {ω k n}:RV F ω (.i k n) (.int k n)
 |b {ω x}:RV F ω (.b x) (.bool x)
 |a {ω v} (h:simple v=true):RV F ω (.a v) v
 |sl0 {ω z g u} (h:Z0 u):RV F ω (.sl z 0 g) u
 | sl {ω z n g bk o c T N e zz} {L:Nat->List Value}(hF:F bk=some (.cells T N e zz)) (hz:zz=z\/zz=0) (hN:o+n*z<=N) (hl:∀k,k<n->(L k).length=z)
    (ht:∀k,k<n->∀j,j<z->T.get (o+k*z+j)=(L k)[j]?) (hc:∀k,k<n->RVL F om0 (g k) (L k)) (h1:∀k,k<n->(g k).all one1=true):RV F ω (.sl z n g) (.slice (some ⟨bk,o,none⟩) n c)
 |rf {ω c bk o T N e zz} {L:List Value}(hF:F bk=some (.cells T N e zz)) (hN:o+L.length<=N) (ht:∀j,j<L.length->T.get (o+j)=L[j]?) (hc:RVL F om0 c L) (h1:c.all one1=true):RV F ω (.rf c) (.pointer (some ⟨bk,o,none⟩))
 |ag {ω c} {L:List Value}(h:RVL F ω c L):RV F ω (.ag c) (.agg L.toArray)
 |tp {ω c} {L:List Value}(h:RVL F ω c L):RV F ω (.tp c) (.tuple L.toArray)
 |fn {ω g a b} {A B:List Value}(ha:RVL F ω a A) (hb:RVL F ω b B):RV F ω (.fn g a b) (.func (.func g) A.toArray B.toArray)
 |pt {ω β i j k z} (h:ω β=some (some (k,z))):RV F ω (.pt β i j) (.pointer (some ⟨k,i*z+j,none⟩))
 |os {ω β o n ap c k z} (h:ω β=some (some (k,z))) (hb:ap=true->c=CU\/(c=n/\n<CU)):RV F ω (.os β o n ap) (.slice (some ⟨k,o*z,none⟩) n c)
 |ex {ω Q v u} (hQ:Q F u) (hm:∀A B w,Le A B->Q A w->Q B w) (h:RV F om0 v u):RV F ω (.ex Q v) u
 |os0 {ω β ap} (h:ω β=some none):RV F ω (.os β 0 0 ap) (.slice none 0 0)
 |mr {ω β k z} (h:ω β=some (some (k,z))):RV F ω (.mr β) (.map (some k))
inductive RVL (F:AM):Om->List SV->List Value->Prop
 |nil {ω}:RVL F ω [] []
 |cons {ω v u l L} (h:RV F ω v u) (hl:RVL F ω l L):RVL F ω (v::l) (u::L)
end
section
variable {F G:AM}{ω ψ:Om}
mutual
theorem RV.mono(d:Le F G):∀{ω ψ:Om},ω.le ψ->∀{v:SV}{u:Value},RV F ω v u->RV G ψ v u
 |_,_,_,_,_,.i=>.i
 |_,_,_,_,_,.b=>.b
 |_,_,_,_,_,.a h=>.a h
 |_,_,_,_,_,.sl0 h=>.sl0 h
 |_,_,_,_,_,.sl f p e g j l m=>.sl (d _ _ f) p e g j (fun k hk=>RVL.mono d (Om.le_refl _) (l k hk)) m
 |_,_,_,_,_,.rf f e g j l=>.rf (d _ _ f) e g (RVL.mono d (Om.le_refl _) j) l
 |_,_,c,_,_,.ag h=>.ag (RVL.mono d c h)
 |_,_,c,_,_,.tp h=>.tp (RVL.mono d c h)
 |_,_,c,_,_,.fn f e=>.fn (RVL.mono d c f) (RVL.mono d c e)
 |_,_,c,_,_,.pt h=>.pt (c _ _ h)
 |_,_,c,_,_,.os h n=>.os (c _ _ h) n
 |_,_,c,_,_,.os0 h=>.os0 (c _ _ h)
 |_,_,c,_,_,.mr h=>.mr (c _ _ h)
 |_,_,_,_,_,.ex f e g=>.ex (e _ _ _ d f) e (RV.mono d (Om.le_refl _) g)
theorem RVL.mono(d:Le F G):∀{ω ψ:Om},ω.le ψ->∀{v:List SV}{u:List Value},RVL F ω v u->RVL G ψ v u
 |_,_,_,_,_,.nil=>.nil
 |_,_,c,_,_,.cons h o=>.cons (RV.mono d c h) (RVL.mono d c o)
end
theorem RVL.length:∀{l:List SV}{L:List Value},RVL F ω l L->l.length=L.length
 |_,_,.nil=>rfl
 |_,_,.cons _ h=>by simp[RVL.length h]
theorem RVL.get:∀{l:List SV}{L:List Value},RVL F ω l L->∀{i:Nat}{v:SV},l[i]?=some v->∃u,L[i]?=some u/\RV F ω v u
 |_,_,.nil,i,v,h=>by simp at h
 |_,_,.cons a _,0,v,h=>by simp at h;subst h;exact⟨_,rfl,a⟩
 | _,_,.cons _ b,i+1,v,h=>by
   obtain⟨u,c,d⟩:=RVL.get b (i:=i) (by simpa using h)
   exact⟨u,by simpa using c,d⟩
theorem RVL.append:∀{l k:List SV}{L K:List Value},RVL F ω l L->RVL F ω k K->RVL F ω (l++k) (L++K)
 |_,_,_,_,.nil,h=>h
 |_,_,_,_,.cons a b,h=>.cons a (b.append h)
theorem RVL.drop:∀{l:List SV}{L:List Value},RVL F ω l L->∀(n:Nat),RVL F ω (l.drop n) (L.drop n)
 |_,_,h,0=>by simpa using h
 |_,_,.nil,n+1=>by simpa using RVL.nil
 |_,_,.cons _ b,n+1=>by simpa using b.drop n
theorem RVL.take:∀{l:List SV}{L:List Value},RVL F ω l L->∀(n:Nat),RVL F ω (l.take n) (L.take n)
 |_,_,_,0=>by simpa using RVL.nil
 |_,_,.nil,n+1=>by simpa using RVL.nil
 |_,_,.cons a b,n+1=>by simpa using RVL.cons a (b.take n)
theorem ybys{v:Value}(h:simple v=true):RV F ω (ofV v) v:=by
 unfold ofV;split
 .exact .i
 .exact .b
 .exact .a h
theorem ypd:∀{l:List Value},l.all simple=true->RVL F ω (l.map ofV) l
 |[],_=>.nil
 | v::l,h=>by
   simp only[List.all_cons,zB]at h;exact .cons (ybys h.1) (ypd h.2)
theorem ybfn{v:Value}{x:SV}(h:ybqf v=some x):constA v=some v/\RV F ω x v:=by
 unfold ybqf at h;split at h
 .cases h;exact⟨rfl,.i⟩
 .cases h;exact⟨rfl,.b⟩
 .rename_i d
  split at h
  .rename_i c
   cases h
   refine⟨?_,?_⟩
   .unfold constA;rw[ybh,if_pos (show atomA (.agg d)=true from c)]
   .have:=RV.ag (F:=F) (ω:=ω) (ypd c)
    simpa using this
  .cases h
 .split at h
  .rename_i c
   cases h
   refine⟨?_,.a c⟩;unfold constA;rw[ybh,if_pos];cases v<;>first|exact c|rfl|cases c
  .cases h
end
end Sh
end
section
namespace Sh
noncomputable section
open Go Ev
def SRec.pure(r:SRec):Bool:=r.rd.isEmpty&&r.wr.isEmpty&&r.nw.isEmpty && !r.fz && !r.cl && !r.gr && !r.mu
def nmem(l:List Nm)(x:Nm):Bool:=l.any fun y=>decide (y.1=x.1)&&decide (y.2=x.2)
def ypn(a b:SRec):Bool :=
 (a.mu && !b.pure)||(b.mu && !a.pure) ||
 ((a.wr.any fun x=>nmem b.rd x||nmem b.wr x||nmem b.nw x)||(b.wr.any fun x=>nmem a.rd x||nmem a.wr x||nmem a.nw x) ||
 (a.rd.any fun x=>nmem b.nw x)||(b.rd.any fun x=>nmem a.nw x) ||
 (a.cl&&(!b.wr.isEmpty || !b.nw.isEmpty||b.gr))||(b.cl&&(!a.wr.isEmpty || !a.nw.isEmpty||a.gr)))
def clash(a b:SRec):Bool :=
 (a.mu && !b.pure)||(b.mu && !a.pure) ||
 ((a.wr.any fun x=>nmem b.rd x||nmem b.wr x||nmem b.nw x)||(b.wr.any fun x=>nmem a.rd x||nmem a.wr x||nmem a.nw x) ||
 (a.rd.any fun x=>nmem b.nw x)||(b.rd.any fun x=>nmem a.nw x) ||
 (a.cl&&(!b.wr.isEmpty || !b.nw.isEmpty||b.gr))||(b.cl&&(!a.wr.isEmpty || !a.nw.isEmpty||a.gr))||(b.gr&&a.fz))
theorem ybdm{a b:SRec}(h:clash a b=false):ypn a b=false/\(b.gr=false\/a.fz=false):=by
 unfold clash at h;unfold ypn;simp only[zAL,zT]at h ⊢;exact⟨⟨h.1,h.2.1⟩,h.2.2⟩
def fits(d:Bool)(an:Nat)(r:SRec)(a:List (Nat×SRec)):Bool:=!d||a.all fun q=>zL an q.1 || !(clash r q.2)
def ybqb(r:SRec):Bool:=!r.mu&&r.wr.isEmpty&&r.nw.isEmpty && !r.cl && !r.gr
def ycqv(d:Bool)(an:Nat)(a:Bool)(r:SRec)(b:List (Nat×SRec)):Bool:=match a with
 |false=>fits d an r b
 |true=>!d||b.all fun q=>zL an q.1 || !(ypn r q.2)
def yln(a:List (Nat×SRec))(t:Nat):Bool:=a.any fun q=>decide (q.1=1000+t)
def ykd(d:Bool)(a:Option Nat)(b:Bool)(c:List (Nat×SRec)):List (Nat×SRec):=match d,a,b with
 |true,some t,false=>(1000+t,SRec.no)::c
 |_,_,_=>c
def oldV:Option SV->Bool
 |some v=>!(owned 5 v)
 |none=>false
def oldX(s:SS)(a:List (Nat×SRec)):Operand->Bool
 |.tmp t=>!(yln a t)&&oldV (look s.f t)
 |_=>false
def ybfu(s:SS)(a:List (Nat×SRec)):SOp->Bool
 |.mv x=>oldX s a x
 |.load _ _ x=>oldX s a x
 |.faddr _ _ x=>oldX s a x
 |.idx _ x _=>oldX s a x
 |.pick .. | .alloc .. | .box .. | .build .. | .bslice .. | .store .. | .nilck .. | .field .. | .idxA .. | .extract .. | .mkfn .. | .mk .. | .cut .. | .cutA .. | .len .. | .app .. | .mm .. | .bin .. | .wsub .. | .wadd .. | .beq .. | .seq .. | .stri .. | .un .. | .conv .. | .mkmap .. | .mget .. | .mset .. | .call .. | .no=>false
def dim(q:Nat×SRec):Nat×SRec:=(q.1,if q.2.pure=true then q.2 else SRec.top)
def Sim(v w:SV):Prop:=∀F a u,RV F a v u->RV F a w u
def ren(h:Nm->Nm):Nat->SV->SV
 |0,v=>v
 | n+1,v=>match v with
   |.pt d i j=>.pt (h d) i j
   |.os d o k c=>.os (h d) o k c
   |.mr d=>.mr (h d)
   |.ag c=>.ag (c.map (ren h n))
   |.tp c=>.tp (c.map (ren h n))
   |.fn g a b=>.fn g (a.map (ren h n)) (b.map (ren h n))
   |v=>v
def cln(L:Nm->Bool):Nat->SV->Bool
 |0,_=>false
 | n+1,v=>match v with
   |.pt d _ _=>L d
   |.os d _ _ _=>L d
   |.mr d=>L d
   |.ag c=>c.all (cln L n)
   |.tp c=>c.all (cln L n)
   |.fn _ a b=>a.all (cln L n)&&b.all (cln L n)
   |_=>true
def yee(e:List Nm)(o:Own):Nat->SV->SV
 |0,v=>v
 | n + 1,v=>match v with
   | .pt d i j=>if nmem e d=true then(match lookO o d with
     |some b=>.rf ((b.g i).drop j)
     |none=>.bad)else .pt d i j
   | .os d p m c=>if nmem e d=true then(match lookO o d with
     |some b=>.sl b.z m (fun k=>b.g (p+k))
     |none=>.bad)else .os d p m c
   |.ag c=>.ag (c.map (yee e o n))
   |.tp c=>.tp (c.map (yee e o n))
   |.fn g a b=>.fn g (a.map (yee e o n)) (b.map (yee e o n))
   |v=>v
def pok(d:List Nm)(o:Own):Nat->SV->Prop
 |0,_=>True
 | n + 1,v=>match v with
   | .pt e i j=>nmem d e=true->(match lookO o e with
     |some b=>i<b.n/\j<=b.z
     |none=>False)
   | .os e p m _=>nmem d e=true->(match lookO o e with
     |some b=>p+m<=b.n
     |none=>False)
   |.mr e=>nmem d e=true->False
   |.ag c=>allP (pok d o n) c
   |.tp c=>allP (pok d o n) c
   |.fn _ a b=>allP (pok d o n) a/\allP (pok d o n) b
   |_=>True
def live(o:Own)(a:Nm):Bool:=(lookO o a).isSome
def lv(a:List Nat)(o:Own)(b:Nm):Bool:=live o b && !(a.elem b.1)
def Tel(h:Nm->Nm)(b:List Nat)(d:List Nm)(o t:Own)(v w:SV):Prop :=
 (pok d o 5 v/\Sim (yee d o 5 v) (ren h 5 w)/\cln (lv b t) 5 w=true)\/(v = .a (.slice none 0 0)/\∃c,w = .os c 0 0 true/\b.elem c.1=true/\live t c=true)
def telL(h:Nm->Nm)(a:List Nat)(b:List Nm)(o t:Own):List SV->List SV->Prop
 |[],[]=>True
 |v::l,w::k=>Tel h a b o t v w/\one1 w=true/\telL h a b o t l k
 |_,_=>False
def ytp(h:Nm->Nm)(a:List Nat)(b:List Nm)(t:Own)(s:SS)(p:Nat×SV):Prop:=∃v,look s.f p.1=some v/\Tel h a b s.o t v p.2
def ybrd(h:Nm->Nm)(a:List Nat)(d:List Nm)(t:Own)(s:SS)(f:Nm)(b:OB):Prop :=
 ∃c,lookO s.o (h f)=some c/\(c.e=b.e/\c.bx=b.bx/\c.z=b.z/\c.n=b.n/\nmem d (h f)=false)/\(mapE b.e=true->∀i,c.g i=b.g i)/\∀i,i<b.n->telL h a d s.o t (c.g i) (b.g i)
def own1(h:Nm->Nm)(a:List Nat)(d:List Nm)(t:Own)(s:SS)(c:Nm)(b:OB):Prop :=
 if a.elem c.1=true then b.n=0/\b.bx=false else ybrd h a d t s c b
def ylz(h:Nm->Nm)(a:List Nat)(d:List Nm)(t:Own)(s:SS):Nat×Fam->Prop
 |(_,.one none)=>True
 |(c,.one (some b))=>own1 h a d t s (c,0) b
 |(c,.many g)=>∀i b,g i=some b->own1 h a d t s (c,i) b
def allQ{a:Type}(p:a->Prop):List a->Prop
 |[]=>True
 |x::l=>p x/\allQ p l
def idxF(F:Fam)(p:Nat->Prop):Prop:=match F with
 |.one none=>True
 |.one (some _)=>p 0
 |.many g=>∀i,(g i).isSome=true->p i
def yddp(h:Nm->Nm)(p q:Nat×Fam):Prop:=idxF p.2 fun i=>idxF q.2 fun j=>h (p.1,i)=h (q.1,j)->p.1=q.1/\i=j
def ybjo(h:Nm->Nm)(a:List Nat)(o:Own):Prop:=allQ (fun p=>a.elem p.1=true\/allQ (fun q=>a.elem q.1=true\/yddp h p q) o) o
def yzj(o:Own)(a:List Nm):Prop:=allQ (fun c=>∃b,lookO o c=some b/\∀k,k<b.n->(b.g k).any (owned 5)=false) a
structure WeakBy(h:Nm->Nm)(vir:List Nat)(fr:List Nm)(s t:SS):Prop where
 frz:yzj s.o fr
 inj:ybjo h vir t.o
 slot:allQ (ytp h vir fr t.o s) t.f
 own:allQ (ylz h vir fr t.o s) t.o
def rid(ρ:List (Nat×(Nat->Nm)))(a:Nm):Nm:=match look ρ a.1 with
 |some h=>h a.2
 |none=>a
def nuF(ρ:List (Nat×Nat))(a b:Nat):Nat:=match look ρ b with
 |some c=>c
 |none=>a+b
def nu(ρ:List (Nat×Nat))(a:Nat)(b:Nm):Nm:=(nuF ρ a b.1,b.2)
def to1(ρ:List (Nat×Nat))(a:Nm):Nm:=match look ρ a.1 with
 |some c=>(c,a.2)
 |none=>a
def OB.ren(h:Nm->Nm)(b:OB):OB:=⟨b.e,b.bx,b.z,b.n,fun k=>(b.g k).map (Sh.ren h 5)⟩
def Fam.ren(h:Nm->Nm):Fam->Fam
 |.one none=>.one none
 |.one (some b)=>.one (some (b.ren h))
 | .many g=>.many fun i=>match g i with
   |some b=>some (b.ren h)
   |none=>none
def ydp(l:List (Nat×SV)):List Nat->List (Nat×SV)
 |[]=>[]
 | t::a=>match look l t with
   |some v=>(t,v)::ydp l a
   |none=>ydp l a
def yda(l:Own):List Nat->Own
 |[]=>[]
 | t::a=>match look l t with
   |some v=>(t,v)::yda l a
   |none=>yda l a
def okN(ρ:List (Nat×Nat))(d:List Nm)(b:List Nat)(a:Nm):Bool:=b.elem a.1||d.any fun q=>(match look ρ q.1 with
 |some c=>decide (c=a.1)
 |none=>false)&&decide (q.2=a.2)
def yeg(L:Nm->Bool)(b:OB):Prop:=∀k,k<b.n->(b.g k).all (cln L 5)=true
def ybz(L:Nm->Bool)(F:Fam):Prop:=match F with
 |.one none=>True
 |.one (some b)=>yeg L b
 |.many g=>∀i b,g i=some b->yeg L b
def yjk(s:SS)(ρ:List (Nat×Nat))(a:Nat)(keep b:List Nat)(o:Own):SS:=⟨ydp s.f keep,o.map (fun p=>(nuF ρ a p.1,p.2.ren (nu ρ a)))++yda s.o b⟩
def difN:List Nat->Bool
 |[]=>true
 |x::l=>!(l.elem x)&&difN l
structure ItS where
 n:Nat
 el:Nat->List SV
 pr:List Nm
 own:Nat->Own->Prop
 adv:Nat->Own->Own
structure CC where
 ct:FuncId->List SV->(SV->Prop)->Prop
 cm:FuncId->List Nm->Own->List SV->(SV->Own->Prop)->Prop
 it:FuncId->List SV->ItS->Prop
 pr:List Nm
 mu:List FuncId
variable (C:CC)
def yw(d:Bool)(rs:List (Nat×SRec))(s:SS)(i an:Nat)(dst:Option Nat)(nx:List (Nat×SRec)->SS->Prop)(sc:Bool)(r:SV):Prop :=
 fits d an ⟨[],[],[],true,true,!sc,false⟩ rs=true/\nx (ykd d dst false ((i,⟨[],[],[],true,true,!sc,false⟩)::rs)) (s.put dst r)
def ylo(d:Bool)(b:List (Nat×SRec))(s:SS)(i an:Nat)(a:Option Nat)(c:List (Nat×SRec)->SS->Prop)(r:SV):Prop :=
 fits d an ⟨[],[],[],true,false,true,false⟩ b=true/\c (ykd d a false ((i,⟨[],[],[],true,false,true,false⟩)::b)) (s.put a r)
def ykz(d:Bool)(f:List (Nat×SRec))(s:SS)(i:Nat)(b:Option Nat)(e:List (Nat×SRec)->SS->Prop)(ρ:List (Nat×Nat))(a:Nat)(keep c:List Nat)(r:SV)(o:Own):Prop :=
 (difN (o.map fun p=>nuF ρ a p.1)=true/\(o.all fun p=>!(c.elem (nuF ρ a p.1)))=true)/\e (ykd d b false ((i,SRec.top)::f.map dim)) ((yjk s ρ a keep c o).put b (ren (nu ρ a) 5 r))
structure Kept(pc:List Nm)(s:SS)(ρ:List (Nat×Nat))(pr:List Nm)(o:Own)(keep kb:List Nat):Prop where
 prl:allQ (fun β=>live o β=true) pr
 apart:∀p∈ρ,kb.elem p.2=false
 slot:allQ (fun p=>cln (okN ρ pr kb) 5 p.2=true) (ydp s.f keep)
 own:allQ (fun p=>ybz (okN ρ pr kb) p.2) (yda s.o kb)
 pin:allQ (fun β=>okN ρ pr kb β=true) pc
def yczn(d:Bool)(an:Nat)(o:Own)(a:List (Nat×SRec)):Bool:=fits d an SRec.top a||(o.isEmpty&&a.all fun p=>zL an p.1||(p.2.pure||ybqb p.2))
def ycoj(d:Bool)(j:List (Nat×SRec))(s:SS)(i an:Nat)(e:Option Nat)(k:List (Nat×SRec)->SS->Prop)(g:FuncId)(xs:List SV):Prop :=
 ∃ (b:List (Nat×Nat)) (a:Nat) (keep f:List Nat) (h:List Nm) (o:Own) (c:List SV),
   xs.length=c.length/\WeakBy (to1 b) [] [] ⟨slots xs 0,s.o⟩ ⟨slots c 0,o⟩/\(∀p∈o,(look b p.1).isSome=true)/\yczn d an o j=true/\Kept C.pr s b h o keep f /\
    C.cm g h o c (ykz d j s i e k b a keep f)
def yceh(d:Bool)(h:List (Nat×SRec))(s:SS)(i an:Nat)(c:Option Nat)(f:List (Nat×SRec)->SS->Prop):Option SV->Option (List SV)->Prop
 | some (.fn g a b),some e=>if C.mu.elem g=true then ycoj C d h s i an c f g (a++e++b)else if (a++e++b).any (owned 5)then
    (allP (vok s.o 5) (a++e++b)/\C.ct g ((a++e++b).map (view s.o 5)) fun r=>scalar 5 r=true/\yw d h s i an c f true r)\/ycoj C d h s i an c f g (a++e++b)
   else if C.mu.elem 1000000000=true then C.ct g (a++e++b) fun r=>ylo d h s i an c f r
   else C.ct g (a++e++b) fun r=>yw d h s i an c f (scalar 5 r) r
 |_,_=>False
def opO(d:Bool)(e:List (Nat×SRec))(i an:Nat)(a:Option Nat)(f:List (Nat×SRec)->SS->Prop)(b:Bool):Option XR->Prop
 |some r=>r.c/\ycqv d an b r.r e=true/\f (ykd d a b ((i,r.r)::e)) (r.s.put a r.v)
 |none=>False
def bsO(d:Bool)(b:List (Nat×SRec))(s:SS)(i an:Nat)(a:Option Nat)(c:List (Nat×SRec)->SS->Prop)(z n:Nat):Option (List SV)->Prop
 |some l=>(∀k,k<n->((l.drop (k*z)).take z).any (owned 5)=false)/\fits d an ⟨[],[],[],false,false,true,false⟩ b=true/\c (ykd d a false ((i,⟨[],[],[],false,false,true,false⟩)::b)) (s.put a (.sl z n fun k=>(l.drop (k*z)).take z))
 |none=>False
def runO(d:Bool)(b:List (Nat×SRec))(s:SS)(i an:Nat)(a:Option Nat)(c:List (Nat×SRec)->SS->Prop)(op:SOp):Prop:=match op with
 |.call f j=>yceh C d b s i an a c (s.get f) (s.gets j)
 |.bslice e z n h g=>if C.mu.elem 1000000001=true then bsO d b s i an a c z n (fill s h g)else opO d b i an a c (d&&ybfu s b (.bslice e z n h g)) (xOp s a (.bslice e z n h g))
 |op=>opO d b i an a c (d&&ybfu s b op) (xOp s a op)
def yxa(d:Bool)(f:List (Nat×SRec))(s:SS)(i an:Nat)(a:Option Nat)(e:List (Nat×SRec)->SS->Prop)(g:SOp)(t:Nat)(w:Bool):Option SV->Prop
 |some (.b c)=>(c=w->runO C d f (s.put (some t) (.b w)) i an a e g)/\(c = !w->e f ((s.put (some t) (.b !w)).put a (.tp [])))
 |some (.tp [])=>e f (s.put a (.tp []))
 |_=>False
def yqb(d:Bool)(K:SS->Prop):List SOper->Nat->List (Nat×SRec)->SS->Prop
 |[],_,_,s=>K s
 | o::l,i,a,s=>match o.g with
   |none=>runO C d a s i o.an o.dst (yqb d K l (i+1)) o.op
   |some (t,w)=>yxa C d a s i o.an o.dst (yqb d K l (i+1)) o.op t w (look s.f t)
end
end Sh
end
section
namespace Sh
open Go Ev
def yze(k:Value)(a b:Int):Bool:=match k with
 | .agg c=>(match c.toList with
   |[.int .i64 x,.int .u32 y]=>decide (x=a)&&decide (y=b)
   |_=>false)
 |_=>false
def yhl(a b:Int):List MapEntry->Option Value
 |[]=>none
 |e::c=>if yze e.key a b=true then some e.val else yhl a b c
structure MapOk(kd:Nat)(es:List MapEntry)(g:Nat->List SV):Prop where
 key:∀e∈es,∃a b:Int,e.key = .agg #[.int .i64 a,.int .u32 b]/\0<=a/\0<=b/\b<4294967296
 kind:∀e∈es,if kd=0 then ∃x,e.val = .bool x else ∃n,e.val = .int .i64 n
 val:∀a b:Int,0<=a->0<=b->b<4294967296->g (mkey a b)=[match yhl a b es with|some v=>ofV v|none=>yqt kd]
def ycqe(F:AM)(ω:Om)(m:Mem)(a:Nm)(ob:OB):Prop :=
 (∃k T,∃L:Nat->List Value,ω a=some (some (k,ob.z))/\ob.e≠CU/\m.b.get k=some (.cells T (ob.n*ob.z) ob.e (if ob.bx then 0 else ob.z)) /\
   ∀i,i<ob.n->(L i).length=ob.z/\RVL F ω (ob.g i) (L i)/\(ob.g i).all one1=true/\∀j,j<ob.z->T.get (i*ob.z+j)=(L i)[j]?)\/(ω a=some none/\ob.n=0/\ob.bx=false) \/
 ∃k c d,ω a=some (some (k,ob.z))/\(ob.e=CU/\ob.n=0/\ob.bx=true)/\m.b.get k=some (.map c d)/\MapOk ob.z c.toList ob.g
structure Conc(lo:Nat)(F:AM)(ω:Om)(s:SS)(f:Fr)(m:Mem):Prop where
 wf:Wf m
 low:lo<=m.low
 nxt:lo<=m.next
 sub:∀i b,F i=some b->m.b.get i=some b
 own:∀β ob,lookO s.o β=some ob->ycqe F ω m β ob
 dom:∀β:Nm,look s.o β.1=none->ω β=none
 inj:∀β γ k z k' z',ω β=some (some (k,z))->ω γ=some (some (k',z'))->β≠γ->k≠k'
 apart:∀β k z,ω β=some (some (k,z))->F k=none/\lo<=k/\k<m.next
 fr:∀t v,look s.f t=some v->∃u,f.t.get t=some u/\RV F ω v u
section
variable {P:Program}{lo:Nat}{F:AM}{ω:Om}{s:SS}{f:Fr}{m:Mem}{o:Oper}
theorem Conc.get(h:Conc lo F ω s f m){x:Operand}{v:SV}(a:s.get x=some v):∃u,f.get x=some u/\RV F ω v u:=by
 cases x with
 |tmp t=>exact h.fr t v a
 |const c=>exact⟨c,(ybfn (F:=F) (ω:=ω) a).1,(ybfn a).2⟩
 |global g=>cases a
 |func g=>cases a;exact⟨_,rfl,by simpa using RV.fn (F:=F) (ω:=ω) (g:=g) .nil .nil⟩
theorem Conc.pget(h:Conc lo F ω s f m){x:Operand}{v:SV}(a:s.pget x=some v):∃u,f.get x=some u/\RV F ω v u:=by
 unfold SS.pget at a;split at a
 .rename_i Q w e
  cases a
  obtain⟨u,b,c⟩:=h.get e;cases c with
  |ex _ _ d=>exact⟨u,b,d.mono (Le.refl _) (yyk _)⟩
 .exact h.get a
theorem Conc.gets(h:Conc lo F ω s f m):∀{xs:List Operand}{b:List SV},s.gets xs=some b->∃us,valsA f xs=some us/\RVL F ω b us
 |[],b,a=>by cases a;exact⟨[],rfl,.nil⟩
 | x :: xs,b,a=>by
   unfold SS.gets at a;split at a
   .rename_i v k e g
    cases a
    obtain⟨u,c,i⟩:=h.get e;obtain⟨us,d,j⟩:=h.gets g;refine⟨u::us,?_,.cons i j⟩;unfold valsA;rw[c];simp only[d]
   .cases a
def OpS(P:Program)(lo:Nat)(F:AM)(ω:Om)(f:Fr)(m:Mem)(o:Oper)(r:XR):Prop :=
 ∃ d c,evOp P f o m=some d/\ω.le c/\Conc lo F c r.s f (m.app d.e)/\RV F c r.v d.v /\
   (∀a k z,c a=some (some (k,z))->ω a=some (some (k,z))\/m.next<=k) /\
   (∀x∈d.foot,(∃a z,a∈r.r.rd/\ω a=some (some (x,z)))\/(r.r.fz=true/\∃b,F x=some b)) /\
   (∀x∈d.e.mods,∃a z,a∈r.r.wr/\ω a=some (some (x,z)))/\(r.r.nw=[]->d.e.adds=false)/\(d.e.adds=true->∃a z,a∈r.r.nw/\c a=some (some (m.next,z)))
theorem OpS.pure (e:Conc lo F ω s f m) {u:Value}{ft:List Nat}(h:evOp P f o m=some ⟨u,.none,ft⟩) {c:Prop}{r:SRec}{v:SV}(g:RV F ω v u)
 (a:∀x∈ft,(∃d z,d∈r.rd/\ω d=some (some (x,z)))\/(r.fz=true/\∃b,F x=some b)):OpS P lo F ω f m o ⟨c,r,v,s⟩ :=
 ⟨_,ω,h,Om.le_refl _,e,g,fun _ _ _ h=>.inl h,a,fun x i=>(by cases i),fun _=>rfl,fun q=>(by cases q)⟩
theorem OpS.idle(a:Conc lo F ω s f m){u:Value}(h:evOp P f o m=some ⟨u,.none,[]⟩){c:Prop}{r:SRec}{v:SV}(b:RV F ω v u):OpS P lo F ω f m o ⟨c,r,v,s⟩ :=
 OpS.pure a h b (fun x d=>by cases d)
theorem s_mv(b:Conc lo F ω s f m){x:Operand}{v:SV}(a:o.op = .move x\/o.op = .assign x)(g:s.get x=some v){c:Prop}{r:SRec}:OpS P lo F ω f m o ⟨c,r,v,s⟩:=by
 obtain⟨u,e,d⟩:=b.get g;refine OpS.idle b (u:=u) ?_ d;unfold evOp;rcases a with h|h<;>rw[h]<;>show ob (f.get x) val=_<;>rw[e]<;>rfl
theorem RV.bool_inv{t:Bool}{u:Value}(h:RV F ω (.b t) u):u = .bool t:=by cases h;rfl
theorem RV.int_inv{k:IntKind}{n:Int}{u:Value}(h:RV F ω (.i k n) u):u = .int k n:=by cases h;rfl
theorem ydit(a:Conc lo F ω s f m){x y w:Operand}{t:Bool}{v:SV}(d:o.op = .pick x y w)(j:s.get x=some (.b t))(k:s.get (if t then y else w)=some v){c:Prop}{r:SRec}:OpS P lo F ω f m o ⟨c,r,v,s⟩:=by
 obtain⟨u,e,i⟩:=a.get j;obtain⟨l,h,g⟩:=a.get k;cases i.bool_inv
 refine OpS.idle a (u:=l) ?_ g;unfold evOp;rw[d];show ob (f.get x) (evPick f y w)=_;rw[e];show ob (f.get (iteB t y w)) val=_;rw[ybh,h];rfl
theorem ylc{T:T Value}:∀{L:List Value}{o:Nat},(∀j,j<L.length->T.get (o+j)=L[j]?)->getCells T o L.length=some L
 |[],_,_=>rfl
 | v::L,o,h=>by
   show(match T.get o with|none=>none|some v=>match getCells T (o+1) L.length with|none=>none|some l=>some (v::l))=_
   have a:=h 0 (by simp)
   rw[zBB]at a;rw[a];simp only[List.getElem?_cons_zero];rw[ylc (L:=L) (o:=o+1) (fun j b=>by have:=h (j+1) (by simp;omega);rw[show o+1+j=o+(j+1)by omega,this];simp)]
theorem ywt{ag:Bool}{p n:Nat}{l:List SV}{L:List Value}{v:SV}(h:part ag p n l=some v)(c:RVL F ω l L) :
 p+n<=L.length/\((ag=true/\RV F ω v (.agg ((L.drop p).take n).toArray))\/(ag=false/\n=1/\∃u,L[p]?=some u/\RV F ω v u)):=by
 unfold part at h;split at h
 .rename_i a
  rw[c.length]at a;refine⟨a,?_⟩;split at h
  .rename_i b
   cases h
   exact .inl ⟨b,.ag ((c.drop p).take n)⟩
  .rename_i b
   split at h
   .rename_i i
    have g:l[p]?=some v:=by rw[List.head?_drop]at h;exact h
    obtain⟨u,d,e⟩:=c.get g;exact .inr ⟨by simpa using b,i,u,d,e⟩
   .cases h
 .cases h
theorem yus {t:TypeId}{d:TypeDesc}{i:TypeInfo}(r:P.underlying t=some d) (w:P.info? t=some i) {h p:Nat}{T:T Value}{N e z:Nat}(n:m.b.get h=some (.cells T N e z))
 {L:List Value}{q:Nat}(A:q+L.length<=N) (k:∀j,j<L.length->T.get (q+j)=L[j]?) (C:p+i.size<=L.length) {v:SV}
 (y:(isAggD d=true/\RV F ω v (.agg ((L.drop p).take i.size).toArray))\/(isAggD d=false/\i.size=1/\∃u,L[p]?=some u/\RV F ω v u)) :
 ∃u,loadA P m t ⟨h,q+p,none⟩=some u/\RV F ω v u:=by
 unfold loadA;rw[n,r,w];simp only;rcases y with⟨c,g⟩|⟨c,B,u,x,g⟩
 .rw[c];simp only[cond_true];rw[zJ (show q+p+i.size<=N by omega)]
  simp only[cond_true];have a:((L.drop p).take i.size).length=i.size:=by simp;omega
  have:=ylc (T:=T) (L:=(L.drop p).take i.size) (o:=q+p) (fun j l=>by
   rw[a]at l;rw[show q+p+j=q+(p+j)by omega,k _ (by omega)]
   simp[List.getElem?_drop,l])
  rw[a]at this;rw[this];exact⟨_,rfl,g⟩
 .rw[c];simp only[cond_false];rw[show zAO (q+p) N=true from zJ (show q+p+1<=N by omega)]
  simp only[cond_true];exact⟨u,by rw[k p (by omega)];exact x,g⟩
theorem RV.rf_inv{c:List SV}{u:Value}(h:RV F ω (.rf c) u):∃a p T N e l L,u = .pointer (some ⟨a,p,none⟩)/\F a=some (.cells T N e l)/\p+L.length<=N/\(∀j,j<L.length->T.get (p+j)=L[j]?)/\RVL F om0 c L/\c.all one1=true:=by
 cases h with
 |rf b d g i k=>exact⟨_,_,_,_,_,_,_,rfl,b,d,g,i,k⟩
theorem RV.pt_inv{a:Nm}{i j:Nat}{u:Value}(h:RV F ω (.pt a i j) u):∃k z,ω a=some (some (k,z))/\u = .pointer (some ⟨k,i*z+j,none⟩):=by
 cases h with
 |pt h=>exact⟨_,_,h,rfl⟩
theorem Conc.ownAt(r:Conc lo F ω s f m){d:Nm}{k z:Nat}{b:OB}(p:lookO s.o d=some b)(hk:ω d=some (some (k,z)))(t:b.n≠0\/b.bx=false):z=b.z/\∃T,∃L:Nat->List Value,m.b.get k=some (.cells T (b.n*b.z) b.e (if b.bx then 0 else b.z)) /\
 ∀i,i<b.n->(L i).length=b.z/\RVL F ω (b.g i) (L i)/\(b.g i).all one1=true/\∀j,j<b.z->T.get (i*b.z+j)=(L i)[j]?:=by
 rcases r.own d b p with⟨u,T,L,a,_,h,c⟩|⟨a,_⟩|⟨u,w,v,a,⟨h,c,l⟩,x⟩
 .rw[hk]at a;cases a;exact⟨rfl,T,L,h,c⟩
 .rw[hk]at a;cases a
 .rcases t with q|q
  .exact absurd c q
  .rw[l]at q;cases q
theorem Conc.ownE(l:Conc lo F ω s f m){c:Nm}{k z:Nat}{b:OB}(j:lookO s.o c=some b)(hk:ω c=some (some (k,z)))(p:b.n≠0\/b.bx=false):b.e≠CU:=by
 rcases l.own c b j with⟨r,T,L,a,g,h,d⟩|⟨a,_⟩|⟨r,u,t,a,⟨h,d,i⟩,v⟩
 .exact g
 .rw[hk]at a;cases a
 .rcases p with q|q
  .exact absurd d q
  .rw[i]at q;cases q
theorem Conc.ownZ(g:Conc lo F ω s f m){d:Nm}{k z:Nat}{b:OB}(e:lookO s.o d=some b)(hk:ω d=some (some (k,z))):z=b.z/\∃x,m.b.get k=some x:=by
 rcases g.own d b e with⟨h,T,L,a,_,c,l⟩|⟨a,_⟩|⟨h,j,i,a,_,c,_⟩
 .rw[hk]at a;cases a;exact⟨rfl,_,c⟩
 .rw[hk]at a;cases a
 .rw[hk]at a;cases a;exact⟨rfl,_,c⟩
theorem ycto (B:Conc lo F ω s f m) {t:TypeId}{x:Operand}{d:TypeDesc}{i:TypeInfo}(G:o.op = .load t x) (M:P.underlying t=some d) (O:P.info? t=some i) {p:SV}(X:s.get x=some p)
 {r:XR}(h:yyx s (isAggD d) i.size p=some r) (l:r.c):OpS P lo F ω f m o r:=by
 obtain⟨u,e,Q⟩:=B.get X
 have C:∀{a:Addr}{v:Value},u = .pointer (some a)->loadA P m t a=some v->evOp P f o m=some ⟨v,.none,[a.block]⟩:=by
  intro a v D E;unfold evOp;rw[G];show ob (f.get x) (evLoad P t m)=_;rw[e,D];show ob (loadA P m t a) _=_;rw[E];rfl
 unfold yyx at h;split at h
 .rename_i c
  split at h
  .rename_i v I
   cases h
   obtain⟨bk,q,T,N,e',zz,L,rfl,D,E,U,V,_⟩:=Q.rf_inv;obtain⟨H,g⟩:=ywt I V;obtain⟨w,J,K⟩:=yus (F:=F) M O (B.sub _ _ D) (q:=q) E U H g;exact OpS.pure B (C rfl J) (K.mono (Le.refl _) (yyk _)) (fun y A=>by simp at A;subst A;exact .inr ⟨rfl,_,D⟩)
  .cases h
 .rename_i β a j
  split at h
  .rename_i b W
   split at h
   .rename_i hz
    split at h
    .rename_i v I
     cases h
     obtain⟨k,z,hk,rfl⟩:=Q.pt_inv;obtain⟨rfl,T,L,R,S⟩:=B.ownAt W hk (.inl (by have l:a<b.n:=l;omega))
     obtain⟨Y,Z,_,l3⟩:=S a l;obtain⟨H,g⟩:=ywt I Z;have l:a<b.n:=l;obtain⟨w,J,K⟩:=yus (F:=F) M O R (q:=a*b.z) (L:=L a) (by rw[Y];have:=Nat.mul_le_mul_right b.z (Nat.succ_le_of_lt l);rw[Nat.succ_mul]at this;omega) (fun y A=>l3 y (by omega)) H g
     exact OpS.pure B (C rfl J) K (fun y A=>by simp at A;subst A;exact .inl ⟨β,b.z,by simp,hk⟩)
    .cases h
   .cases h
  .cases h
 .cases h
end
end Sh
end
end Go.Proofs.YtlbonpgkofloeaaGreatDoor
