/- Joined. -/
import Derived.Test.YtlbonpgkofloeaaGreatDoorPkCt2
set_option linter.unusedSimpArgs false
set_option linter.unusedVariables false
open List renaming mem_cons_self->zA,mem_cons_of_mem->zC,isEmpty_iff->zM,elem->zV,map_cons->zY
open Bool renaming or_eq_false_iff->zB,and_eq_true->zD,not_eq_true'->zF,not_eq_false'->zL,and_eq_false_iff->zO,true_and->zS,not_true->zAC,false_or->zAD
open Nat renaming lt_of_lt_of_le->zG,le_trans->zH,le_refl->zI,le_of_ble_eq_true->zJ,testBit->zK,ble->zN,blt->zQ,beq->zT,ble_eq_true_of_le->zX,beq_refl->zZ,succ->zAA,le_max_right->zAB,zero_le->zAE,max->zAF,min->zAG
open Classical renaming choose->zU,choose_spec->zW
open Iff renaming rfl->zAH
open Go
namespace Go.Proofs.YtlbonpgkofloeaaGreatDoor
section
namespace Sh
open Go Ev
def Cm(P:Program)(g:FuncId)(i:List Nm)(o:Own)(args:List SV)(Q:SV->Own->Prop):Prop :=
 ∀ lo (G:AM) (ω:Om) (f:Fr) (m:Mem) (j:List Value),Conc lo G ω ⟨[],o⟩ f m->RVL G ω args j ->
   ∃ v h r c d a,yca P (.call g j m) (.call v h)/\Conc lo d a ⟨[],c⟩ f h/\RV d a r v/\Le G d/\(∀x b,d x=some b->G x=some b\/lo<=x)/\(∀e∈i,∀x,ω e=some x->a e=some x) /\
     (cln (live c) 5 r=true/\allQ (fun p=>ybz (live c) p.2) c/\allQ (fun e=>live c e=true) i)/\Q r c
theorem Cm.mono{P:Program}{g:FuncId}{c:List Nm}{o:Own}{args:List SV}{Q R:SV->Own->Prop}(h:Cm P g c o args Q)(x:∀r a,Q r a->R r a):Cm P g c o args R:=fun lo G ω f m z u w=>by
 obtain⟨v,y,r,a,d,b,e,i,j,k,l,n,p,q⟩:=h lo G ω f m z u w;exact⟨v,y,r,a,d,b,e,i,j,k,l,n,p,x r a q⟩
def ItC(P:Program)(g:FuncId)(b:List SV)(S:ItS):Prop :=
 ∀ lo (F:AM) (ω:Om) (s:SS) (f:Fr) (m:Mem) (i:List Value),Conc lo F ω s f m->RVL F ω b i->S.own 0 s.o->∃T:It,ItOk P g i T/\T.n=S.n /\
   ∀ (c:AM) (a:Om) (d:SS) (h:Fr) (e:Mem) (k:Nat),Le F c->(∀j∈S.pr,∀x,ω j=some x->a j=some x)->Conc lo c a d h e->k<=S.n->S.own k d.o ->
     T.pre k e/\(k<S.n->RVL c a (S.el k) (T.el k)/\Conc lo c a ⟨d.f,S.adv k d.o⟩ h (T.adv k e))
theorem MapOk.ren{d:Nat}{es:List MapEntry}{g:Nat->List SV}(h:MapOk d es g)(f:Nm->Nm):MapOk d es fun c=>(g c).map (Sh.ren f 5):=⟨h.key,h.kind,fun a b e i j=>by
 show(g (mkey a b)).map _=_;rw[h.val a b e i j];have l:Sh.ren f 5 (yqt d)=yqt d:=by unfold yqt;split<;>rfl
 cases n:yhl a b es with
 |none=>simp[l]
 | some v =>
   have k:Sh.ren f 5 (ofV v)=ofV v:=by unfold ofV;split<;>rfl
   simp[k]⟩
noncomputable def Mem.rest(a m:Mem)(ft:List Nat):Mem:=⟨a.next,yif a.b (T.filt m.b fun i=>!(ft.elem i)),a.low⟩
section
variable {P:Program}{lo:Nat}{F G:AM}{ω ψ:Om}{s t:SS}{f:Fr}{m:Mem}{o:Oper}
theorem yha{a m:Mem}{ft:List Nat}{i:Nat}{b:ABlk}:(Mem.rest a m ft).b.get i=some b↔a.b.get i=some b\/(a.b.get i=none/\i∉ft/\m.b.get i=some b):=by
 show(yif a.b (T.filt m.b fun i=>!(ft.elem i))).get i=some b↔_;rw[ydw];cases h:a.b.get i with
 |some x=>simp
 |none=>simp only[T.filt_get];simp
theorem yca.relow{g:FuncId}{us:List Value}{v:Value}{i:Mem}{n l l':Nat}{b:Ev.T ABlk}(h:yca P (.call g us ⟨n,b,l⟩) (.call v i)):yca P (.call g us ⟨n,b,l'⟩) (.call v i):=by
 intro y;obtain⟨e,k⟩:=h y;refine⟨⟨e.next,e.dom,e.old,e.wf⟩,fun A M w a p u q r=>(k A M w a p u q r).mono ?_⟩
 rintro B C ⟨z,rfl,d,j,c,x⟩;exact⟨z,rfl,d,j,⟨c.le,c.out,c.rel,c.sub,c.frame,c.wg⟩,x⟩
theorem yca.rest{g:FuncId}{us:List Value}{v:Value}{k:Mem}{ft:List Nat}(u:Wf m)(h:yca P (.call g us (m.only ft)) (.call v k)):yca P (.call g us m) (.call v (Mem.rest k m ft)):=by
 intro _;obtain⟨e,D⟩:=h (yfi u);have p:m.next<=k.next:=e.next
 refine⟨⟨e.next,fun i b a=>?_,fun i b C E a=>?_,fun i b a=>?_⟩,fun O M w c H B I J=>?_⟩
 .rcases yha.1 a with a|⟨_,_,a⟩
  .rcases e.dom i b a with⟨x,L⟩|q
   .exact .inl ⟨x,(ydg.1 L).2⟩
   .exact .inr q
  .exact .inl ⟨b,a⟩
 .rcases yha.1 a with a|⟨_,_,a⟩
  .exact(ydg.1 (e.old i b C E a)).2
  .exact a
 .rcases yha.1 a with a|⟨_,_,a⟩
  .exact e.wf i b a
  .exact zG (u i b a) p
 .refine(D O M w c H (fun i b a=>B i b (ydg.1 a).2) I J).mono ?_;rintro Q R ⟨N,rfl,y,A,d,K⟩
  have j:∀i,¬(m.next<=i/\i<k.next)->(i∉ft\/m.b.get i=none\/i<k.low)->A i=M i:=fun i l n=>d.frame i l (by
   rcases n with q|q|q
   .left
    cases r:(m.only ft).b.get i with
    |none=>rfl
    |some x=>exact absurd (ydg.1 r).1 q
   .left
    cases r:(m.only ft).b.get i with
    |none=>rfl
    |some x=>rw[(ydg.1 r).2]at q;cases q
   .exact .inr q)
  refine⟨N,rfl,y,A,⟨d.le,d.out,d.rel,fun i b a=>?_,fun i l n=>j i l (.inr n),d.wg⟩,K⟩;rcases yha.1 a with a|⟨_,q,a⟩
  .exact d.sub i b a
  .rw[j i (fun z=>by have:=u i b a;omega) (.inl q)]
   exact B i b a
theorem RVL.of_slots:∀{a:List SV}{us:List Value},a.length=us.length->(∀(k:Nat) v,a[k]?=some v->∃u,us[k]?=some u/\RV F ω v u)->RVL F ω a us
 |[],[],_,_=>.nil
 | v::a,u::us,h,k=>by
   obtain⟨e,b,c⟩:=k 0 v rfl;cases b
   exact .cons c (RVL.of_slots (by simpa using h) fun j w d=>k (j+1) w (by simpa using d))
 |[],_::_,h,_=>by simp at h
 |_::_,[],h,_=>by simp at h
theorem yzq{l:List (Nat×SV)}{a:List Nat}{t:Nat}{v:SV}(h:look (ydp l a) t=some v):look l t=some v:=by
 induction a with
 |nil=>cases h
 | cons k a c =>
   unfold ydp at h;split at h
   .rename_i x d
    have b:(if k=t then some x else look (ydp l a) t)=some v:=h
    clear h
    split at b
    .rename_i q;subst q;rw[d];exact b
    .exact c b
   .exact c h
theorem yry{l:Own}{a:List Nat}{t:Nat}:look (yda l a) t=if t∈a then look l t else none:=by
 induction a with
 |nil=>simp[yda,look]
 | cons k a c =>
   unfold yda;split
   .rename_i x b
    show(if k=t then some x else look (yda l a) t)=_
    by_cases q:k=t
    .subst q;rw[if_pos rfl,if_pos zA,b]
    .rw[if_neg q,c];simp[Ne.symm q]
   .rename_i b
    rw[c]
    by_cases q:t=k
    .subst q;simp[b]
    .simp[q]
theorem yyc{d:Type}{a b:List (Nat×d)}{t:Nat}:look (a++b) t=match look a t with|some v=>some v|none=>look b t:=by
 induction a with
 |nil=>rfl
 | cons x a c =>
   show(if x.1=t then some x.2 else look (a++b) t)=match (if x.1=t then some x.2 else look a t)with|some v=>some v|none=>look b t
   split
   .rfl
   .exact c
theorem ybre{d:Type}{k:Nat->Nat}{r:Nat->d->d}:∀{o:List (Nat×d)},difN (o.map fun p=>k p.1)=true->∀{c:Nat}{G:d},look (o.map fun p=>(k p.1,r p.1 p.2)) c=some G->∃b F,look o b=some F/\k b=c/\G=r b F
 |[],_,_,_,h=>by cases h
 | (b,F)::o,a,c,G,h=>by
   have h:(if k b=c then some (r b F)else look (o.map fun p=>(k p.1,r p.1 p.2)) c)=some G:=h
   have a:(!(zV (k b) (o.map fun p=>k p.1))&&difN (o.map fun p=>k p.1))=true:=a;rw[zD,zF]at a;split at h
   .rename_i q;cases h;exact⟨b,F,by show(if b=b then some F else _)=_;rw[if_pos rfl],q,rfl⟩
   .obtain⟨e,g,i,j,n⟩:=ybre a.2 h;refine⟨e,g,?_,j,n⟩;show(if b=e then some F else look o e)=_
    rw[if_neg]
    .exact i
    .rintro rfl;exact elem_false' a.1 (List.mem_map.2 ⟨(b,g),yeh i,rfl⟩)
where elem_false' {l:List Nat}{x:Nat}(h:l.elem x=false):x∉l:=by simpa using h
theorem ybpt{k:Nat->Nat}{l:Type}:∀{o:List (Nat×l)},difN (o.map fun p=>k p.1)=true->∀{b c:Nat}{F G:l},look o b=some F->look o c=some G->k b=k c->b=c
 |[],_,_,_,_,_,h,_,_=>by cases h
 | (a,A)::o,i,b,c,F,G,d,g,j=>by
   have i:(!(zV (k a) (o.map fun p=>k p.1))&&difN (o.map fun p=>k p.1))=true:=i;rw[zD,zF]at i
   have no:∀{x:Nat}{X:l},look o x=some X->k a≠k x:=fun {x X} n e=>by
    have:k a∉o.map fun p=>k p.1:=by simpa using i.1
    exact this (List.mem_map.2 ⟨(x,X),yeh n,e.symm⟩)
   have d:(if a=b then some A else look o b)=some F:=d
   have g:(if a=c then some A else look o c)=some G:=g
   split at d<;>split at g
   .rename_i p q;rw[<-p,<-q]
   .rename_i p q;rw[<-p]at j;exact absurd j (no g)
   .rename_i p q;rw[<-q]at j;exact absurd j.symm (no d)
   .exact ybpt i.2 d g j
theorem ybqs{g:Type}{k:Nat->Nat}{r:Nat->g->g}:∀{o:List (Nat×g)},difN (o.map fun p=>k p.1)=true->∀{b:Nat}{F:g},look o b=some F->look (o.map fun p=>(k p.1,r p.1 p.2)) (k b)=some (r b F)
 |[],_,_,_,h=>by cases h
 | (a,A)::o,i,b,F,h=>by
   have c:(!(zV (k a) (o.map fun p=>k p.1))&&difN (o.map fun p=>k p.1))=true:=i;rw[zD,zF]at c;have d:(if a=b then some A else look o b)=some F:=h
   clear h
   show(if k a=k b then some (r a A)else look (o.map fun p=>(k p.1,r p.1 p.2)) (k b))=some (r b F)
   split at d
   .rename_i q;subst q;cases d;rw[if_pos rfl]
   .rename_i q
    rw[if_neg]
    .exact ybqs c.2 d
    .intro e;have:k a∉o.map fun p=>k p.1:=by simpa using c.1
     exact this (List.mem_map.2 ⟨(b,F),yeh d,e.symm⟩)
open Classical in
noncomputable def yvr(ω ω':Om)(ρ:List (Nat×Nat))(a:Nat)(d:List Nat)(o:Own):Om:=fun c=>if d.elem c.1=true then ω c else
 if h:∃b,(∃F,look o b=some F)/\nuF ρ a b=c.1/\live o (b,c.2)=true then ω' (zU h,c.2)else none
theorem ynd{ω':Om}{ρ:List (Nat×Nat)}{a:Nat}{g:List Nat}{e:Own}(l:difN (e.map fun p=>nuF ρ a p.1)=true)(hk:(e.all fun p=>!(g.elem (nuF ρ a p.1)))=true){c:Nm}(j:live e c=true):yvr ω ω' ρ a g e (nu ρ a c)=ω' c:=by
 obtain⟨b,k⟩:=yiv.1 j;obtain⟨F,h,u⟩:=ygh k
 have i:g.elem (nuF ρ a c.1)=false:=by
  have:=List.all_eq_true.1 hk _ (yeh h)
  simpa using this
 unfold yvr;rw[if_neg (by show ¬g.elem (nuF ρ a c.1)=true;rw[i];simp)]
 have d:∃b,(∃F,look e b=some F)/\nuF ρ a b=(nu ρ a c).1/\live e (b,(nu ρ a c).2)=true:=⟨c.1,⟨F,h⟩,rfl,j⟩;rw[dif_pos d];obtain⟨⟨r,n⟩,q,v⟩:=zW d;have:zU d=c.1:=ybpt l n h q;rw[this];rfl
theorem ybaa{ω':Om}{ρ:List (Nat×Nat)}{a:Nat}{c:List Nat}{d:Own}{b:Nm}(h:c.elem b.1=true):yvr ω ω' ρ a c d b=ω b:=by
 unfold yvr;rw[if_pos h]
theorem ync{ω':Om}{ρ:List (Nat×Nat)}{a:Nat}{d:List Nat}{g:Own}{b:Nm}{x:Option (Nat×Nat)}(h:yvr ω ω' ρ a d g b=some x):(d.elem b.1=true/\ω b=some x)\/(d.elem b.1=false/\∃e,live g e=true/\nu ρ a e=b/\ω' e=some x):=by
 unfold yvr at h;split at h
 .rename_i q;exact .inl ⟨q,h⟩
 .rename_i q
  split at h
  .rename_i c
   obtain⟨_,i,j⟩:=zW c;exact .inr ⟨by simpa using q,(zU c,b.2),j,Prod.ext i rfl,h⟩
  .cases h
theorem ycco (H:Conc lo F ω s f m) {fx:Operand}{args:Array Operand}{e7:Array TypeId}(g5:o.op = .call { callee:=.value fx,args:=args,argTypes:=e7 }) {g:FuncId}{a b xs:List SV}(hf:s.get fx=some (.fn g a b)) (Z:s.gets args.toList=some xs)
 {pc:List Nm}{l:List (Nat×Nat)}{d:Nat}{keep kb:List Nat}{pr:List Nm}{o0:Own}{as:List SV}{Q:SV->Own->Prop}(e0:(a++xs++b).length=as.length) (hw:WeakBy (to1 l) [] [] ⟨slots (a++xs++b) 0,s.o⟩ ⟨slots as 0,o0⟩)
 (d9:∀p∈o0,(look l p.1).isSome=true) (hk:Kept pc s l pr o0 keep kb) (d7:Cm P g pr o0 as Q) :
 ∃ r2 F' E rv D,One P f o m r2/\Q rv D/\((difN (D.map fun p=>nuF l d p.1)=true/\(D.all fun p=>!(kb.elem (nuF l d p.1)))=true)->Conc lo F' E (yjk s l d keep kb D) f r2.m/\RV F' E (ren (nu l d) 5 rv) r2.v) /\
   m.next<=r2.m.next/\Le F F'/\(∀x b,F' x=some b->F x=some b\/lo<=x)/\((difN (D.map fun p=>nuF l d p.1)=true/\(D.all fun p=>!(kb.elem (nuF l d p.1)))=true)->∀j∈pc,∀x,ω j=some x->E j=some x)/\r2.foot=none/\(o0=[]->r2.mods=some []):=by
 classical
 obtain⟨uf,e1,r1⟩:=H.get hf;obtain⟨us,e2,r2⟩:=H.gets Z
 obtain⟨A,B,rfl,rA,rB⟩:∃A B:List Value,uf = .func (.func g) A.toArray B.toArray/\RVL F ω a A/\RVL F ω b B:=by
  cases r1 with
  |fn C I=>exact⟨_,_,rfl,C,I⟩
 have c6:RVL F ω (a++xs++b) (A++us++B):=(rA.append r2).append rB
 let f0:Fr:=⟨0,tOf (A++us++B)⟩
 have f3:Conc lo F ω ⟨slots (a++xs++b) 0,s.o⟩ f0 m:=⟨H.wf,H.low,H.nxt,H.sub,H.own,H.dom,H.inj,H.apart,fun t v hv=>by
  obtain⟨_,I⟩:=ynb hv;obtain⟨u,h3,h4⟩:=c6.get I;exact⟨u,by show(tOf (A++us++B)).get t=some u;rw[ycx];simpa using h3,h4⟩⟩
 have O:=hw.conc f3;rw[yctg]at O
 let R:Om:=omTo ω (to1 l) [] o0
 have a9:RVL F R as (A++us++B):=RVL.of_slots (e0.symm.trans c6.length) fun k v hv=>by
  obtain⟨u,C,I⟩:=O.fr (0+k) v (ybqm hv);rw[Nat.zero_add]at C;have C:(tOf (A++us++B)).get k=some u:=C;rw[ycx]at C;exact⟨u,C,I⟩
 have b5:Conc lo F R ⟨[],o0⟩ f m:=⟨O.wf,O.low,O.nxt,O.sub,O.own,O.dom,O.inj,O.apart,fun t v hv=>by cases hv⟩
 obtain⟨ft,k1,k2,k3⟩:=b5.only
 have f4:Conc lo F R ⟨[],o0⟩ f (m.only ft):=⟨yfi H.wf,H.low,H.nxt,k2,fun j b hb=>by
  rcases b5.own j b hb with⟨k,T,L,C,h0,I,h3⟩|h|⟨k,es,cl,C,I,h3,h4⟩
  .exact .inl ⟨k,T,L,C,h0,k3 j k _ C _ I,h3⟩
  .exact .inr (.inl h)
  .exact .inr (.inr ⟨k,es,cl,C,I,k3 j k _ C _ h3,h4⟩),b5.dom,b5.inj,b5.apart,fun t v hv=>by cases hv⟩
 have d8:∃v M r D G' N,yca P (.call g (A++us++B) (m.only ft)) (.call v M)/\Conc lo G' N ⟨[],D⟩ f M/\RV G' N r v/\Le F G'/\(∀x b,G' x=some b->F x=some b\/lo<=x)/\(∀j∈pr,∀x,R j=some x->N j=some x) /\
  (cln (live D) 5 r=true/\allQ (fun p=>ybz (live D) p.2) D/\allQ (fun j=>live D j=true) pr)/\Q r D/\(o0=[]->m.next<=M.low):=by
  by_cases h0:o0=[]
  .subst h0
   have a7:∀j,R j=none:=fun j=>by
    show(if live [] j=true then _ else none)=none
    rw[if_neg (by intro q;cases q)]
   have f5:Conc m.next F R ⟨[],[]⟩ f ⟨m.next,(m.only ft).b,m.next⟩:=⟨yfi H.wf,zI _,zI _,k2,fun j b hb=>(by cases hb),fun j _=>a7 j,fun j n k z k' z' C=>(by rw[a7 j]at C;cases C),fun j k z C=>(by rw[a7 j]at C;cases C),fun t v hv=>(by cases hv)⟩
   obtain⟨v,M,r,D,G',N,s1,K,rv,a0,Y,b9,c9,hq⟩:=d7 m.next F R f _ _ f5 a9
   have c2:lo<=m.next:=H.nxt
   exact⟨v,M,r,D,G',N,yca.relow (b:=(m.only ft).b) s1,⟨K.wf,zH c2 K.low,zH c2 K.nxt,K.sub,K.own,K.dom,K.inj,fun j k z h=>⟨(K.apart j k z h).1,zH c2 (K.apart j k z h).2.1,(K.apart j k z h).2.2⟩,K.fr⟩,rv,a0,fun x b h=>(Y x b h).imp id (zH c2),b9,c9,hq,fun _=>K.low⟩
  .obtain⟨v,M,r,D,G',N,s1,K,rv,a0,Y,b9,c9,hq⟩:=d7 lo F R f (m.only ft) _ f4 a9;exact⟨v,M,r,D,G',N,s1,K,rv,a0,Y,b9,c9,hq,fun e=>absurd e h0⟩
 obtain⟨v,M,r,D,G',N,s1,K,rv,a0,Y,b9,⟨e8,e9,f1⟩,hq,d1⟩:=d8;have hs:=yca.rest H.wf s1;have c7:=(s1 (yfi H.wf)).1;have V:m.next<=M.next:=c7.next
 have c1:∀{i x},M.b.get i=some x->i<m.next->i∈ft:=fun {i x} q h=>by
  rcases c7.dom i x q with⟨y,hy⟩|q2
  .exact(ydg.1 hy).1
  .exact absurd q2.1 (Nat.not_le.2 h)
 have e5:∀{j x},R j=some x->live o0 j=true/\ω (to1 l j)=some x:=fun {j x} q=>by
  have q:(if live o0 j=true then(if zV j.1 []=true then some none else ω (to1 l j))else none)=some x:=q
  split at q
  .rename_i hl;rw[if_neg (by simp)]at q;exact⟨hl,q⟩
  .cases q
 have e4:∀{j},live o0 j=true->∃c,look l j.1=some c/\to1 l j=(c,j.2):=fun {j} hl=>by
  obtain⟨b,hb⟩:=yiv.1 hl;obtain⟨F1,C,_⟩:=ygh hb;obtain⟨c,c0⟩:=Option.isSome_iff_exists.1 (d9 _ (yeh C));have c0:look l j.1=some c:=c0;exact⟨c,c0,by unfold to1;rw[c0]⟩
 have U:∀{n k z},ω n=some (some (k,z))->kb.elem n.1=true->k∉ft:=fun {n k z} b7 b8 hm=>by
  rcases(k1 k hm).2 with⟨x,Z⟩|⟨j,z',hb⟩
  .rw[(H.apart n k z b7).1]at Z;cases Z
  .obtain⟨q1,q2⟩:=e5 hb;obtain⟨c,q3,q4⟩:=e4 q1
   have c3:n≠to1 l j:=fun e=>by
    have:=hk.apart _ (yeh q3);rw[e,q4]at b8;rw[this]at b8;cases b8
   exact H.inj n _ k z k z' b7 q2 c3 rfl
 have b0:backM m.low (Mem.rest M m ft)=⟨M.next,(Mem.rest M m ft).b,zAG m.low M.low⟩:=yen _ _
 let E:=yvr ω N l d kb D
 have a5:((difN (D.map fun p=>nuF l d p.1)=true/\(D.all fun p=>!(kb.elem (nuF l d p.1)))=true)->∀j x,okN l pr kb j=true->ω j=some x->E j=some x):=fun hd j x d3 Z=>by
  unfold okN at d3;rw[Bool.or_eq_true]at d3;rcases d3 with h|h
  .exact(ybaa h).trans Z
  .obtain⟨q,d5,a8⟩:=List.any_eq_true.1 h;rw[zD]at a8;have c8:=ycz hk.prl q d5;obtain⟨c,q3,q4⟩:=e4 c8;rw[q3]at a8
   have e:j=nu l d q:=by
    have C:=of_decide_eq_true a8.1;have I:=of_decide_eq_true a8.2;refine Prod.ext ?_ I.symm;show j.1=nuF l d q.1;unfold nuF;rw[q3];exact C.symm
   have e':j=to1 l q:=by
    rw[q4];exact Prod.ext (of_decide_eq_true a8.1).symm (of_decide_eq_true a8.2).symm
   have h0:R q=some x:=by
    show(if live o0 q=true then(if zV q.1 []=true then some none else ω (to1 l q))else none)=some x
    rw[if_pos c8,if_neg (by simp),<-e'];exact Z
   have f8:=ycz f1 q d5;rw[e];exact(ynd hd.1 hd.2 f8).trans (b9 q d5 x h0)
 have d6:yfo P (fun t=>if t = .call g (A++us++B) m then some (.call v (Mem.rest M m ft))else none):=by
  intro t out h;simp only at h;split at h
  .rename_i e;subst e;cases h;exact hs
  .cases h
 refine⟨⟨v,backM m.low (Mem.rest M m ft),none,iteB (zN m.next (Mem.rest M m ft).low) (some []) none⟩,G',E,r,D,.inl ⟨_,d6,?_⟩,hq,fun hd=>⟨?_,?_⟩,by rw[b0];exact V,a0,Y,fun hd j g7 x Z=>a5 hd j x (ycz hk.pin j g7) Z,rfl,fun e=>?_⟩
 .unfold evOne evOne1;rw[g5];show(ob (f.get fx) fun g=>ob (valsA f args.toList) fun vs=>evCall _ m vs g)=_;rw[e1];show(ob (valsA f args.toList) fun vs=>evCall _ m vs _)=_;rw[e2];show ob ((fun t=>if t=Task.call g (A++us++B) m then some (Out.call v (Mem.rest M m ft))else none) (.call g (A.toArray.toList++us++B.toArray.toList) m)) (afterCall m)=_
  simp only[if_true];rfl
 ·-- the state behind
  show Conc lo G' E _ f (backM m.low (Mem.rest M m ft));rw[b0]
  have c4:∀{n ob},lookO (D.map (fun p=>(nuF l d p.1,p.2.ren (nu l d)))) n=some ob->∃j J,nu l d j=n/\lookO D j=some J/\ob=J.ren (nu l d):=fun {n ob} h=>by
   obtain⟨Fm,C,I⟩:=ygh h;obtain⟨b',F',q1,q2,q3⟩:=ybre (r:=fun _ F=>F.ren (nu l d)) hd.1 C;subst q3;refine⟨(b',n.2),?_⟩;rcases yvx I with⟨e,hz⟩|⟨gg,e,hg⟩
   .cases F' with
    | one x =>
      cases x with
      |none=>cases e
      | some J =>
        simp only[Fam.ren]at e;cases e
        refine⟨J,Prod.ext q2 rfl,?_,rfl⟩;unfold lookO;simp only[q1,Fam.at,hz,if_true]
    |many _=>cases e
   .cases F' with
    |one x=>cases x<;>cases e
    | many g0 =>
      simp only[Fam.ren]at e;cases e
      simp only at hg;split at hg
      .rename_i J f6
       cases hg
       refine⟨J,Prod.ext q2 rfl,?_,rfl⟩;unfold lookO;simp only[q1,Fam.at];exact f6
      .cases hg
  have f2:∀{n ob},lookO (yjk s l d keep kb D).o n=some ob->(∃j J,nu l d j=n/\lookO D j=some J/\ob=J.ren (nu l d))\/(kb.elem n.1=true/\lookO s.o n=some ob):=fun {n ob} h=>by
   have h:(match look (D.map (fun p=>(nuF l d p.1,p.2.ren (nu l d)))++yda s.o kb) n.1 with|some F=>F.at n.2|none=>none)=some ob:=h
   rw[yyc]at h;cases hl:look (D.map (fun p=>(nuF l d p.1,p.2.ren (nu l d)))) n.1 with
   | some Fm =>
     rw[hl]at h;exact .inl (c4 (by unfold lookO;rw[hl];exact h))
   | none =>
     rw[hl]at h;simp only[yry]at h
     by_cases hm:n.1∈kb
     .rw[if_pos hm]at h;exact .inr ⟨by simpa using hm,h⟩
     .rw[if_neg hm]at h;cases h
  refine⟨fun i x Z=>?_,?_,zH H.nxt V,fun i x Z=>yha.2 (.inl (K.sub i x Z)),fun n ob f9=>?_,fun n W=>?_,fun n δ k z k' z' C I c3=>?_,fun n k z C=>?_,fun t w c5=>?_⟩
  .rcases yha.1 Z with q|⟨_,_,q⟩
   .exact K.wf i x q
   .exact zG (H.wf i x q) V
  .show lo<=zAG m.low M.low;have:=H.low;have:=K.low;rw[Nat.le_min];omega
  .rcases f2 f9 with⟨j,J,rfl,I,rfl⟩|⟨C,I⟩
   .have d0:live D j=true:=yiv.2 ⟨_,I⟩
    have b6:yeg (live D) J:=by
     obtain⟨Fm,q1,q2⟩:=ygh I;have:=ycz e9 _ (yeh q1);rcases yvx q2 with⟨rfl,_⟩|⟨gg,rfl,hg⟩
     .exact this
     .exact this _ _ hg
    have a6:E (nu l d j)=N j:=ynd hd.1 hd.2 d0;rcases K.own j J I with⟨k,T,L,S,g0,g2,g3⟩|⟨S,g2,g3⟩|⟨k,es,cl,S,g2,g3,g4⟩
    .refine .inl ⟨k,T,L,a6.trans S,g0,yha.2 (.inl g2),fun i hi=>?_⟩;obtain⟨l1,l2,l3,l4⟩:=g3 i hi;exact⟨l1,l2.yfh fun v u hv hr=>ybnh (fun j x hl Z=>(ynd hd.1 hd.2 hl).trans Z) hr (List.all_eq_true.1 (b6 i hi) v hv),ybkc (ycli _ _) l3,l4⟩
    .exact .inr (.inl ⟨a6.trans S,g2,g3⟩)
    .exact .inr (.inr ⟨k,es,cl,a6.trans S,g2,yha.2 (.inl g3),g4.ren _⟩)
   .have a6:E n=ω n:=ybaa C
    have b6:yeg (okN l pr kb) ob:=by
     obtain⟨Fm,q1,q2⟩:=ygh I;have e3:look (yda s.o kb) n.1=some Fm:=by rw[yry,if_pos (by simpa using C)];exact q1
     have:=ycz hk.own _ (yeh e3);rcases yvx q2 with⟨rfl,_⟩|⟨gg,rfl,hg⟩
     .exact this
     .exact this _ _ hg
    rcases H.own n ob I with⟨k,T,L,S,g0,g2,g3⟩|⟨S,g2,g3⟩|⟨k,es,cl,S,g2,g3,g4⟩
    .have X:=U S C;have d2:=(H.apart n k _ S).2.2;refine .inl ⟨k,T,L,a6.trans S,g0,yha.2 (.inr ⟨?_,X,g2⟩),fun i hi=>?_⟩
     .cases d4:M.b.get k with
      |none=>rfl
      |some y=>exact absurd (c1 d4 d2) X
     .obtain⟨l1,l2,l3,l4⟩:=g3 i hi;exact⟨l1,(l2.of_get fun v u hv hr=>ybqw (a5 hd) hr (List.all_eq_true.1 (b6 i hi) v hv)).mono a0 (Om.le_refl _),l3,l4⟩
    .exact .inr (.inl ⟨a6.trans S,g2,g3⟩)
    .have X:=U S C;have d2:=(H.apart n k _ S).2.2;refine .inr (.inr ⟨k,es,cl,a6.trans S,g2,yha.2 (.inr ⟨?_,X,g3⟩),g4⟩);cases d4:M.b.get k with
     |none=>rfl
     |some y=>exact absurd (c1 d4 d2) X
  .have W:look (D.map (fun p=>(nuF l d p.1,p.2.ren (nu l d)))++yda s.o kb) n.1=none:=W;rw[yyc]at W;cases g6:E n with
   |none=>rfl
   | some x =>
     exfalso
     rcases ync g6 with⟨C,I⟩|⟨_,j,C,rfl,_⟩
     .cases hl:look (D.map (fun p=>(nuF l d p.1,p.2.ren (nu l d)))) n.1 with
      |some Fm=>rw[hl]at W;cases W
      | none =>
        rw[hl,yry,if_pos (by simpa using C)]at W
        rw[H.dom n W]at I;cases I
     .obtain⟨b,hb⟩:=yiv.1 C;obtain⟨Fm,q1,_⟩:=ygh hb;have:=ybqs (r:=fun _ F=>F.ren (nu l d)) hd.1 q1;have e:(nu l d j).1=nuF l d j.1:=rfl;rw[e,this]at W;cases W
  .have e6:∀{n k z},ω n=some (some (k,z))->kb.elem n.1=true->∀{j z'},live D j=true->N j=some (some (k,z'))->False:=fun {n k z} b7 b8 {j z'} hl f7=>by
    obtain⟨ob,hb⟩:=yiv.1 hl;obtain⟨rfl,x,S⟩:=K.ownZ hb f7;exact U b7 b8 (c1 S (H.apart n k z b7).2.2)
   intro e;subst e;rcases ync C with⟨a1,a2⟩|⟨a1,j,a2,a3,a4⟩<;>rcases ync I with⟨b1,b2⟩|⟨b1,g8,b2,b3,b4⟩
   .exact H.inj n δ k z k z' a2 b2 c3 rfl
   .exact e6 a2 a1 b2 b4
   .exact e6 b2 b1 a2 a4
   .exact K.inj j g8 k z k z' a4 b4 (fun e=>c3 (by rw[<-a3,<-b3,e])) rfl
  .rcases ync C with⟨a1,a2⟩|⟨a1,j,a2,a3,a4⟩
   .obtain⟨q1,q2,q3⟩:=H.apart n k z a2;refine⟨?_,q2,zG q3 V⟩;cases hG:G' k with
    |none=>rfl
    |some y=>exact absurd (c1 (K.sub _ _ hG) q3) (U a2 a1)
   .exact K.apart j k z a4
  .have c5:look (ydp s.f keep) t=some w:=c5;obtain⟨u,S,g2⟩:=H.fr t w (yzq c5);exact⟨u,S,(ybqw (a5 hd) g2 (ycz hk.slot _ (yeh c5))).mono a0 (Om.le_refl _)⟩
 .exact ybnh (fun j x hl Z=>(ynd hd.1 hd.2 hl).trans Z) rv e8
 .show iteB (zN m.next M.low) (some []) none=some []
  rw[ybh,if_pos (zX (d1 e))]
end
end Sh
end
section
namespace Sh
open Go Ev
def guardOf(ops:List Oper):Option (Nat×Bool)->Option (Option (Nat×Bool))
 |none=>some none
 | some (j,w)=>match ops[j]? with
   | some a=>(match a.dst with
     |some d=>some (some (d,w))
     |none=>none)
   |none=>none
def yclo(nt:Nat):Option Nat->Bool
 |none=>true
 |some d=>zQ d nt
noncomputable def cmpL(P:Program)(nt:Nat)(ops:List Oper)(an:List Nat):List Oper->Nat->Option (List SOper)
 |[],_=>some []
 |o::l,i=>(some ((res P o.op).getD .no)).bind fun a=>(guardOf ops o.guard).bind fun g=>(cmpL P nt ops an l (i+1)).bind fun r=>if yclo nt o.dst then some (⟨a,o.dst,g,an.getD i 0⟩::r)else none
structure Past0(F:AM)(ω:Om)(rc:SRec)(e:Ent):Prop where
 mods:∃ms,e.r.mods=some ms/\∀x∈ms,∃β z,β∈rc.wr/\ω β=some (some (x,z))
 foot:(rc.cl=true/\rc.gr=true/\e.r.foot=none)\/∃ft,e.r.foot=some ft/\∀x∈ft,x<e.m.next/\((∃β z,β∈rc.rd/\ω β=some (some (x,z)))\/(rc.fz=true/\∃b,F x=some b)\/(rc.cl=true/\∃β z,ω β=some (some (x,z))))
 own:∀β k z,ω β=some (some (k,z))->e.m.next<=k->k<e.r.m.next->β∈rc.nw
 frz:rc.gr=false->∀x b,F x=some b->¬(e.m.next<=x/\x<e.r.m.next)
 still:rc.nw=[]->rc.cl=false->rc.gr=false->e.m.next=e.r.m.next
structure Past(F:AM)(ω:Om)(nxt:Nat)(rc:SRec)(e:Ent):Prop where
 le:e.m.next<=e.r.m.next/\e.r.m.next<=nxt
 rest:rc.mu=true\/Past0 F ω rc e
section
variable {P:Program}{lo nt:Nat}{F F':AM}{ω ω':Om}{s:SS}{f:Fr}{m:Mem}{o:Oper}
theorem Past.mono{i nxt':Nat}{n:SRec}{e:Ent}(h:Past F ω i n e)(v:Le F F')(l:ω.le ω')(r:∀g k z,ω' g=some (some (k,z))->ω g=some (some (k,z))\/i<=k)(t:∀x b,F' x=some b->F x=some b\/i<=x)(u:i<=nxt'):Past F' ω' nxt' n e:=by
 refine⟨⟨h.le.1,zH h.le.2 u⟩,h.rest.imp id fun q=>⟨?_,?_,fun g k z hk a b=>?_,fun A x b w C=>?_,q.still⟩⟩
 .obtain⟨B,a,b⟩:=q.mods;exact⟨B,a,fun x j=>by obtain⟨g,z,c,d⟩:=b x j;exact⟨g,z,c,l _ _ d⟩⟩
 .rcases q.foot with q|⟨p,a,b⟩
  .exact .inl q
  .refine .inr ⟨p,a,fun x j=>⟨(b x j).1,?_⟩⟩;rcases(b x j).2 with⟨g,z,c,d⟩|⟨c,y,d⟩|⟨c,g,z,d⟩
   .exact .inl ⟨g,z,c,l _ _ d⟩
   .exact .inr (.inl ⟨c,y,v _ _ d⟩)
   .exact .inr (.inr ⟨c,g,z,l _ _ d⟩)
 .rcases r g k z hk with c|c
  .exact q.own g k z c a b
  .have:=h.le.2;omega
 .rcases t x b w with c|c
  .exact q.frz A x b c C
  .have:=h.le.2;omega
theorem ybua{r:SRec}(h:r.pure=true):r.rd=[]/\r.wr=[]/\r.nw=[]/\r.fz=false/\r.cl=false/\r.gr=false/\r.mu=false:=by
 unfold SRec.pure at h;simp only[zD,zF,zM]at h;obtain⟨⟨⟨⟨⟨⟨a,b⟩,c⟩,d⟩,e⟩,f⟩,g⟩:=h;exact⟨a,b,c,d,e,f,g⟩
theorem ycvj{r:R2}{a b:Nat}(c:r.foot=some [])(d:r.mods=some [])(e:a=b):Ev.idle r a b=true:=by
 unfold Ev.idle;rw[c,d,e];simp
theorem Past.pure{d:Nat}{i:SRec}{e:Ent}(h:Past F ω d i e)(D:i.pure=true):e.idle=true:=by
 obtain⟨u,w,y,A,a,B,C⟩:=ybua D;have q:=h.rest.resolve_left (by rw[C];simp)
 obtain⟨g,j,k⟩:=q.mods
 have c:g=[]:=by
  cases g with
  |nil=>rfl
  |cons x l=>obtain⟨E,z,v,_⟩:=k x zA;rw[w]at v;cases v
 have b:e.r.foot=some []:=by
  rcases q.foot with⟨v,_⟩|⟨t,n,p⟩
  .rw[a]at v;cases v
  .cases t with
   |nil=>exact n
   | cons x l =>
     rcases(p x zA).2 with⟨E,z,v,_⟩|⟨v,_⟩|⟨v,_⟩
     .rw[u]at v;cases v
     .rw[A]at v;cases v
     .rw[a]at v;cases v
 subst c;exact ycvj b j (q.still y a B)
theorem Past.dim{a nxt':Nat}{b:SRec}{e:Ent}(h:Past F ω a b e)(c:a<=nxt'):e.idle=true\/Past F' ω' nxt' (if b.pure=true then b else SRec.top) e:=by
 split
 .rename_i q;exact .inl (h.pure q)
 .exact .inr ⟨⟨h.le.1,zH h.le.2 c⟩,.inl rfl⟩
theorem ynh{l:List Nm}{x:Nm}(h:nmem l x=false):x∉l:=fun q=>by rw[yjb.2 q]at h;cases h
theorem ybrb(hc:Conc lo F ω s f m){C:Nat}{a b:SRec}{e q:Ent}{k j:Nat}(B:Past F ω C a e)(n:Past F ω C b q)(a3:q.r.m.next<=e.m.next)(h:ypn a b=false)(c8:(b.gr=false\/a.fz=false)\/∀ft,e.r.foot=some ft->∀x∈ft,x<q.m.next):Ap k j e q:=by
 unfold ypn at h;rw[zB,zB]at h;obtain⟨⟨K,L⟩,h⟩:=h
 by_cases E:a.mu=true
 .rw[E,zS,zL]at K;exact .inr (.inl (n.pure K))
 by_cases G:b.mu=true
 .rw[G,zS,zL]at L;exact .inl (B.pure L)
 replace B:Past0 F ω a e/\(e.m.next<=e.r.m.next/\e.r.m.next<=C):=⟨B.rest.resolve_left E,B.le⟩
 replace n:Past0 F ω b q/\(q.m.next<=q.r.m.next/\q.r.m.next<=C):=⟨n.rest.resolve_left G,n.le⟩
 obtain⟨B,a0⟩:=B;obtain⟨n,J⟩:=n;refine .inr (.inr ?_);simp only[zB,zO,List.any_eq_false,Bool.not_eq_true,zL,zM,zB]at h;obtain⟨⟨⟨⟨⟨c1,c2⟩,c3⟩,c4⟩,c5⟩,T⟩:=h;obtain⟨Y,Z,R⟩:=B.mods;obtain⟨mb,b1,S⟩:=n.mods
 have same:∀{c A k z u},ω c=some (some (k,z))->ω A=some (some (k,u))->c=A:=fun {c A k z u} W Q=>by
  by_cases q:c=A
  .exact q
  .exact absurd rfl (hc.inj c A k z k u W Q q)
 have N:∀{c k z b},ω c=some (some (k,z))->F k≠some b:=fun {c k z b} W Q=>by rw[(hc.apart c k z W).1]at Q;cases Q
 have B1 : before1 (e.rec' k) (q.rec' j)=true:=by
  unfold before1;show(match q.r.mods with|none=>false|some M=>match e.r.foot with|none=>M.isEmpty&&zT q.m.next q.r.m.next|some U=>U.all fun x=>!(M.elem x) && !(zN q.m.next x&&zQ x q.r.m.next))=true
  rw[b1];rcases B.foot with⟨d1,d2,d3⟩|⟨ft,d1,d2⟩
  .rw[d3]
   have D:b.wr=[]/\b.nw=[]/\b.cl=false/\b.gr=false:=by
    rcases c5 with w|w
    .rw[d1]at w;cases w
    .refine⟨w.1.1,w.1.2,?_,w.2⟩;rcases T with v|v
     .exact v
     .rw[d2]at v;cases v.2
   have:mb=[]:=by
    cases mb with
    |nil=>rfl
    |cons x l=>obtain⟨c,z,v,_⟩:=S x zA;rw[D.1]at v;cases v
   rw[this,n.still D.2.1 D.2.2.1 D.2.2.2];show(true&&zT _ _)=true;rw[zZ];rfl
  .rw[d1];refine List.all_eq_true.2 fun x I=>?_;obtain⟨e1,O⟩:=d2 x I
   have V:x∉mb:=fun X=>by
    obtain⟨A,z,v1,H⟩:=S x X;rcases O with⟨c,u,d,g⟩|⟨_,y,g⟩|⟨d,_⟩
    .rw[same g H]at d;exact ynh (c2 A v1).1.1 d
    .exact N H g
    .rcases c5 with w|w
     .rw[d]at w;cases w
     .rw[w.1.1]at v1;cases v1
   have g2:¬(q.m.next<=x/\x<q.r.m.next):=fun p=>by
    rcases O with⟨c,u,d,g⟩|⟨d,y,g⟩|⟨d,c,u,g⟩
    .exact ynh (c3 c d) (n.own c x u g p.1 p.2)
    .refine n.frz ?_ x y g p;rcases c8 with(w|w)|w
     .exact w
     .rw[d]at w;cases w
     .have:=w ft d1 x I;have:=p.1;omega
    .have:=n.own c x u g p.1 p.2;rcases c5 with w|w
     .rw[d]at w;cases w
     .rw[w.1.2]at this;cases this
   rw[zD,zF,zF,zO];refine⟨by simpa using V,?_⟩
   by_cases p:q.m.next<=x
   .right
    cases t:zQ x q.r.m.next with
    |false=>rfl
    |true=>exact absurd ⟨p,zJ t⟩ g2
   .left
    cases t:zN q.m.next x with
    |false=>rfl
    |true=>exact absurd (zJ t) p
 have B2 : before1 (q.rec' j) (e.rec' k)=true:=by
  unfold before1;show(match e.r.mods with|none=>false|some M=>match q.r.foot with|none=>M.isEmpty&&zT e.m.next e.r.m.next|some U=>U.all fun x=>!(M.elem x) && !(zN e.m.next x&&zQ x e.r.m.next))=true
  rw[Z];rcases n.foot with⟨d1,d2,d3⟩|⟨ft,d1,d2⟩
  .rw[d3]
   have D:a.wr=[]/\a.nw=[]/\a.cl=false/\a.gr=false:=by
    rcases T with w|w
    .rw[d1]at w;cases w
    .refine⟨w.1.1,w.1.2,?_,w.2⟩;rcases c5 with v|v
     .exact v
     .rw[d2]at v;cases v.2
   have:Y=[]:=by
    cases Y with
    |nil=>rfl
    |cons x l=>obtain⟨c,z,v,_⟩:=R x zA;rw[D.1]at v;cases v
   rw[this,B.still D.2.1 D.2.2.1 D.2.2.2];show(true&&zT _ _)=true;rw[zZ];rfl
  .rw[d1];refine List.all_eq_true.2 fun x I=>?_;obtain⟨e1,O⟩:=d2 x I
   have V:x∉Y:=fun X=>by
    obtain⟨A,z,v1,H⟩:=R x X;rcases O with⟨c,u,d,g⟩|⟨_,y,g⟩|⟨d,_⟩
    .rw[same g H]at d;exact ynh (c1 A v1).1.1 d
    .exact N H g
    .rcases T with w|w
     .rw[d]at w;cases w
     .rw[w.1.1]at v1;cases v1
   rw[zD,zF,zF,zO];refine⟨by simpa using V,.inl ?_⟩
   cases t:zN e.m.next x with
   |false=>rfl
   |true=>have:=zJ t;have:=J.1;omega
 unfold apart2;rw[B1,B2];show(match e.r.mods,q.r.mods with|some x,some y=>x.all fun i=>!(y.elem i)|_,_=>false)=true
 rw[Z,b1];refine List.all_eq_true.2 fun x I=>?_;rw[zF];cases p:mb.elem x with
 |false=>rfl
 | true =>
   exfalso
   obtain⟨c,z,v1,H⟩:=R x I;obtain⟨A,u,d,g⟩:=S x (by simpa using p)
   rw[<-same H g]at d;exact ynh (c1 c v1).1.2 d
theorem ybmr{w:Nat}{b:SRec}{e q:Ent}{k j:Nat}(B:e.r.mods=some [])(H:e.r.foot=none)(a:Past F ω w b q)(p:ybqb b=true)(I:q.r.m.next<=e.m.next):Ap k j e q:=by
 unfold ybqb at p;simp only[zD,zF,zM]at p;obtain⟨⟨⟨⟨K,L⟩,M⟩,C⟩,N⟩:=p;have g:=a.le;have a:=a.rest.resolve_left (by rw[K];simp)
 obtain⟨mb,A,G⟩:=a.mods
 have n:mb=[]:=by
  cases mb with
  |nil=>rfl
  |cons x l=>obtain⟨R,z,v,_⟩:=G x zA;rw[L]at v;cases v
 subst n;have u:=a.still M C N;obtain⟨Q,d1,d2⟩:=a.foot.resolve_left (fun h=>by rw[C]at h;cases h.1)
 refine .inr (.inr ?_)
 have D:before1 (e.rec' k) (q.rec' j)=true:=by
  unfold before1;show(match q.r.mods with|none=>false|some c=>match e.r.foot with|none=>c.isEmpty&&zT q.m.next q.r.m.next|some d=>d.all fun x=>!(c.elem x) && !(zN q.m.next x&&zQ x q.r.m.next))=true
  rw[A,H,u];show(true&&zT _ _)=true;rw[zZ];rfl
 have E:before1 (q.rec' j) (e.rec' k)=true:=by
  unfold before1;show(match e.r.mods with|none=>false|some c=>match q.r.foot with|none=>c.isEmpty&&zT e.m.next e.r.m.next|some d=>d.all fun x=>!(c.elem x) && !(zN e.m.next x&&zQ x e.r.m.next))=true
  rw[B,d1];refine List.all_eq_true.2 fun x J=>?_;have O:=(d2 x J).1;cases t:zN e.m.next x with
  |false=>rfl
  |true=>have:=zJ t;have:=g.1;omega
 unfold apart2;rw[D,E];show(match e.r.mods,q.r.mods with|some x,some y=>x.all fun i=>!(y.elem i)|_,_=>false)=true
 rw[B,A];rfl
end
end Sh
end
section
namespace Sh
open Go Ev
section
variable {P:Program}{lo nt:Nat}{F F':AM}{ω ω':Om}{s:SS}{f:Fr}{m:Mem}{o:Oper}
theorem yvq{d:Option Nat}(h:yclo nt d=true)(b:nt<=f.n)(u:Value):∃a,f.put d u=some a/\a.n=f.n/\((d=none/\a=f)\/∃k,d=some k/\a.t=T.set (zAA k) f.t k (some u)):=by
 cases d with
 |none=>exact⟨f,rfl,rfl,.inl ⟨rfl,rfl⟩⟩
 | some k =>
   have hk:k<f.n:=zG (zJ h) b;obtain⟨n,t⟩:=f;refine⟨⟨n,T.set (zAA k) t k (some u)⟩,?_,rfl,.inr ⟨k,rfl,rfl⟩⟩;show iteB (zQ k n) (Fr.set1 n t k u) none=_;rw[ybh,if_pos (show zQ k n=true from zX hk)]
   unfold Fr.set1;rw[force_eq,T.strict_eq]
theorem Conc.put(a:Conc lo F ω s f m){d:Option Nat}{v:SV}{u:Value}{c:Fr}(e:(d=none/\c=f)\/∃k,d=some k/\c.t=T.set (zAA k) f.t k (some u))(g:RV F ω v u):Conc lo F ω (s.put d v) c m:=by
 rcases e with⟨rfl,rfl⟩|⟨k,rfl,hk⟩
 .exact a
 .refine⟨a.wf,a.low,a.nxt,a.sub,a.own,a.dom,a.inj,a.apart,fun t w h=>?_⟩;have b:(if k=t then some v else look s.f t)=some w:=h
  rw[hk];rw[T.set_at];split at b
  .rename_i q;cases b;exact⟨u,by rw[if_pos q.symm],g⟩
  .rename_i q;rw[if_neg (Ne.symm q)];exact a.fr t w b
theorem ywh{a:R}(h:evOp P f o m=some a):One P f o m ⟨a.v,m.app a.e,some a.foot,some a.e.mods⟩:=by
 refine .inl ⟨fun _=>none,fun t out q=>(by cases q),?_⟩
 unfold evOne evOne1;split
 .rename_i g c d b
  unfold evOp at h;rw[b]at h;cases h
 .rw[h];rfl
def yyr(F:AM)(ω:Om)(a:Nat)(d:List (Nat×SRec))(c:List (Nat×Ent)):Prop:=∀p∈c,p.2.idle=true\/∃b,(p.1,b)∈d/\Past F ω a b p.2
theorem yyr.mono{c nxt':Nat}{e rs':List (Nat×SRec)}{d:List (Nat×Ent)}(h:yyr F ω c e d)(t:∀x∈e,x∈rs')(n:Le F F')(q:ω.le ω')(i:∀g k z,ω' g=some (some (k,z))->ω g=some (some (k,z))\/c<=k)(j:∀x b,F' x=some b->F x=some b\/c<=x)(l:c<=nxt'):yyr F' ω' nxt' rs' d:=fun p r =>
 (h p r).imp id fun⟨u,a,b⟩=>⟨u,t _ a,b.mono n q i j l⟩
theorem ywr{d:Bool}{an:Nat}{r:SRec}{b:List (Nat×SRec)}(h:fits d an r b=true)(c:d=true){q:Nat}{a:SRec}(e:(q,a)∈b):zK an q=true\/clash r a=false:=by
 subst c;unfold fits at h;simp only[zAC,zAD]at h;have:=List.all_eq_true.1 h _ e
 simpa using this
theorem yckw{d:Bool}{an:Nat}{a:Bool}{r:SRec}{c:List (Nat×SRec)}(h:ycqv d an a r c=true)(e:d=true){q:Nat}{b:SRec}(g:(q,b)∈c):zK an q=true\/(ypn r b=false/\((b.gr=false\/r.fz=false)\/a=true)):=by
 cases a with
 |false=>exact(ywr h e g).imp id fun q=>⟨(ybdm q).1,.inl (ybdm q).2⟩
 | true =>
   subst e;have h:(!true||c.all fun q=>zK an q.1 || !(ypn r q.2))=true:=h;rw[zAC,zAD]at h;have:=List.all_eq_true.1 h _ g;rcases Bool.or_eq_true_iff.1 this with q|q
   .exact .inl q
   .exact .inr ⟨by simpa using q,.inr rfl⟩
def OldI(F0:AM)(a:List (Nat×SRec))(s:SS)(f:Fr):Prop:=∀t v,look s.f t=some v->yln a t=false->owned 5 v=false->∃u,f.t.get t=some u/\RV F0 om0 v u
theorem yic{i:Nat}{b:SRec}{a:List (Nat×SRec)}{t:Nat}(h:yln ((i,b)::a) t=false):yln a t=false:=by
 unfold yln at h ⊢;rw[List.any_cons,zB]at h;exact h.2
theorem ybws{a:List (Nat×SRec)}{t:Nat}(h:yln (a.map dim) t=false):yln a t=false:=by
 unfold yln at h ⊢;rw[List.any_map]at h;exact h
theorem yjw{d:Bool}{a:Option Nat}{b:Bool}{c:List (Nat×SRec)}{t:Nat}(h:yln (ykd d a b c) t=false):yln c t=false:=by
 unfold ykd at h;split at h
 .exact yic h
 .exact h
theorem ypr{t:Nat}{a:List (Nat×SRec)}(h:yln (ykd true (some t) false a) t=false):False:=by
 unfold yln ykd at h;simp at h
theorem ymv{d:Bool}{a:Option Nat}{b:Bool}{c:List (Nat×SRec)}{x:Nat×SRec}(h:x∈c):x∈ykd d a b c:=by
 unfold ykd;split
 .exact zC _ h
 .exact h
theorem yyr.mark{c:Nat}{j:List (Nat×SRec)}{i:List (Nat×Ent)}{d:Bool}{e:Option Nat}{g:Bool}(h:yyr F ω c j i):yyr F ω c (ykd d e g j) i:=fun p k =>
 (h p k).imp id fun⟨l,a,b⟩=>⟨l,ymv a,b⟩
theorem OldI.put {F0:AM}{n rs':List (Nat×SRec)}{s i:SS}{f d:Fr}{a:Option Nat}{v:SV}{u:Value}(h:OldI F0 n s f) (j:∀t w,look i.f t=some w->look s.f t=some w) (c:∀t,yln rs' t=false->yln n t=false)
 (r:(a=none/\d=f)\/∃k,a=some k/\d.t=T.set (zAA k) f.t k (some u)) (p:∀k,a=some k->yln rs' k=false->owned 5 v=false->RV F0 om0 v u):OldI F0 rs' (i.put a v) d:=fun t w l g e=>by
 rcases r with⟨rfl,rfl⟩|⟨k,rfl,hk⟩
 .exact h t w (j t w l) (c t g) e
 .have b:(if k=t then some v else look i.f t)=some w:=l
  rw[hk,T.set_at];split at b
  .rename_i q;cases b;subst q;exact⟨u,by rw[if_pos rfl],p _ rfl g e⟩
  .rename_i q;rw[if_neg (Ne.symm q)];exact h t w (j t w b) (c t g) e
theorem ybaf{v:SV}(h:owned 5 v=false):(∀b i j,v ≠ .pt b i j)/\(∀b o n a,v ≠ .os b o n a):=⟨fun b i j q=>by(subst q;cases h),fun b o n a q=>by(subst q;cases h)⟩
theorem yum{c:List (Nat×SRec)}{x:Operand}(h:oldX s c x=true):∃t v,x = .tmp t/\yln c t=false/\look s.f t=some v/\owned 5 v=false:=by
 unfold oldX at h;split at h
 .rename_i t
  rw[zD]at h;obtain⟨d,a⟩:=h;cases b:look s.f t with
  |none=>rw[b]at a;cases a
  | some v =>
    rw[b]at a;exact⟨t,v,rfl,by simpa using d,b,by simpa[oldV]using a⟩
 .cases h
theorem yctt{F0:AM}{O:List (Nat×SRec)}{K:SOp}{X:XR}{Y:R}(U:Conc lo F ω s f m)(hF:Le F0 F)(hI:OldI F0 O s f)(C:ybfu s O K=true)(W:res P o.op=some K)(Z:xOp s o.dst K=some X)(T:X.c)(a2:evOp P f o m=some Y) :
 (owned 5 X.v=false->RV F0 om0 X.v Y.v)/\∀x∈Y.foot,∃b,F0 x=some b:=by
 have M:∀(s0:SS) (X0:XR),Conc lo F0 om0 s0 f m->xOp s0 o.dst K=some X0->X0.v=X.v->X0.c->(owned 5 X.v=false->RV F0 om0 X.v Y.v)/\∀x∈Y.foot,∃b,F0 x=some b:=by
  intro s0 X0 a1 h0 hv a0;obtain⟨r1,ω',N,e2,e3,e4,e5,e6,_⟩:=ywq a1 W h0 a0;rw[a2]at N;cases N
  refine⟨fun ho=>?_,fun x hx=>?_⟩
  .rw[hv]at e4;exact yep ho e4
  .rcases e6 x hx with⟨E,z,_,b⟩|⟨_,b⟩
   .cases b
   .exact b
 have A:∀(l:List (Nat×SV)),(∀t v,look l t=some v->∃u,f.t.get t=some u/\RV F0 om0 v u)->Conc lo F0 om0 ⟨l,[]⟩ f m:=fun l V =>
  ⟨U.wf,U.low,U.nxt,fun i b h=>U.sub i b (hF i b h),fun E b h=>(by cases h),fun E _=>rfl,fun E γ k z k' z' h=>(by cases h),fun E k z h=>(by cases h),V⟩
 have one:∀{t:Nat}{v:SV},look s.f t=some v->yln O t=false->owned 5 v=false->∀G L,look [(t,v)] G=some L->∃u,f.t.get G=some u/\RV F0 om0 L u:=fun {t v} H B D G L h=>by
  have h:(if t=G then some v else none)=some L:=h
  by_cases q:t=G
  .rw[if_pos q]at h;cases h;rw[<-q];exact hI _ _ H B D
  .rw[if_neg q]at h;cases h
 have r:∀(t:Nat) (v:SV),SS.get ⟨[(t,v)],[]⟩ (.tmp t)=some v:=fun t v=>by show(if t=t then some v else none)=_;rw[if_pos rfl]
 cases K with
 | mv x =>
   obtain⟨t,v,rfl,H,B,D⟩:=yum (show oldX s O x=true from C)
   have d:(match s.get (.tmp t)with|some v=>some (⟨True,SRec.no,v,s⟩:XR)|none=>none)=some X:=Z
   rw[show s.get (.tmp t)=some v from B]at d
   cases d
   refine M ⟨[(t,v)],[]⟩ ⟨True,SRec.no,v,⟨[(t,v)],[]⟩⟩ (A _ (one B H D)) ?_ rfl trivial;simp only[xOp,r]
 | load ag n x =>
   obtain⟨t,v,rfl,H,B,D⟩:=yum (show oldX s O x=true from C)
   have d:(match s.get (.tmp t)with|some p=>yyx s ag n p|none=>none)=some X:=Z
   rw[show s.get (.tmp t)=some v from B]at d
   have V:∃X0,yyx ⟨[(t,v)],[]⟩ ag n v=some X0/\X0.v=X.v/\(X.c->X0.c):=by
    unfold yyx at d ⊢;cases v with
    | rf c =>
      simp only at d ⊢;cases I:part ag 0 n c with
      |none=>rw[I]at d;cases d
      |some w=>rw[I]at d;cases d;exact⟨_,rfl,rfl,fun h=>h⟩
    |pt E i j=>exact absurd rfl ((ybaf D).1 E i j)
    |_=>cases d
   obtain⟨X0,k1,k2,k3⟩:=V;refine M ⟨[(t,v)],[]⟩ X0 (A _ (one B H D)) ?_ k2 (k3 T);simp only[xOp,r];exact k1
 | faddr p n x =>
   obtain⟨t,v,rfl,H,B,D⟩:=yum (show oldX s O x=true from C)
   have d:(match s.get (.tmp t)with
    |some (.rf c)=>if p+n<=c.length then some (⟨True,SRec.no,.rf ((c.drop p).take n),s⟩:XR)else none
    |some (.pt E i j)=>some ⟨True,SRec.no,.pt E i (j+p),s⟩
    |_=>none)=some X:=Z
   rw[show s.get (.tmp t)=some v from B]at d
   cases v with
   | rf c =>
     simp only at d;split at d
     .rename_i a6
      cases d
      refine M ⟨[(t,.rf c)],[]⟩ ⟨True,SRec.no,.rf ((c.drop p).take n),⟨[(t,.rf c)],[]⟩⟩ (A _ (one B H D)) ?_ rfl trivial;simp only[xOp,r];rw[if_pos a6]
     .cases d
   |pt E i j=>exact absurd rfl ((ybaf D).1 E i j)
   |_=>cases d
 | idx z x k =>
   obtain⟨t,v,rfl,H,B,D⟩:=yum (show oldX s O x=true from C)
   have d:(match s.pget (.tmp t),s.get k with
    |some p,some (.i _ n)=>idxX s n z p
    |_,_=>none)=some X:=Z
   obtain⟨p,J,n,I,hk,y⟩:∃p J n,s.pget (.tmp t)=some p/\s.get k=some (.i J n)/\idxX s n z p=some X:=by
    split at d
    .rename_i p J n N e2
     exact⟨p,J,n,N,e2,d⟩
    .cases d
   have a8:∀(S:SS),S.get (.tmp t)=some v->S.pget (.tmp t)=some p:=fun S e=>by
    unfold SS.pget at I ⊢;rw[show s.get (.tmp t)=some v from B]at I
    rw[e];cases v with
    |ex Q w=>exact I
    |_=>exact I
   have a7:∀E o m a,p ≠ .os E o m a:=by
    rintro E o m a rfl;unfold SS.pget at I;rw[show s.get (.tmp t)=some v from B]at I
    obtain⟨u,_,hu⟩:=hI t v B H D;cases v with
    | ex Q w =>
      cases I
      cases hu with
      | ex _ _ h =>
        rcases h.os_inv with⟨k,z,cp,q,_⟩|⟨q,_⟩<;>cases q
    |_=>cases I;try cases D
   have V:∀S:SS,∃X0,idxX S n z p=some X0/\X0.v=X.v/\(X.c->X0.c):=fun S=>by
    unfold idxX at y ⊢;cases p with
    | sl z' m g =>
      simp only at y ⊢;split at y
      .rename_i hz;cases y;rw[if_pos hz];exact⟨_,rfl,rfl,fun h=>h⟩
      .cases y
    |os E o m a=>exact absurd rfl (a7 E o m a)
    |_=>cases y
   obtain⟨l,a3,a4,a5⟩:∃l:List (Nat×SV),SS.get ⟨l,[]⟩ (.tmp t)=some v/\SS.get ⟨l,[]⟩ k=some (.i J n)/\∀G L,look l G=some L->∃u,f.t.get G=some u/\RV F0 om0 L u:=by
    cases k with
    | tmp q =>
      have hq:look s.f q=some (.i J n):=hk
      by_cases e:q=t
      .subst e;rw[B]at hq;cases hq
       exact⟨[(q,.i J n)],r _ _,r _ _,one B H D⟩
      .refine⟨[(q,.i J n),(t,v)],?_,?_,fun G L h=>?_⟩
       .show(if q=t then some (SV.i J n)else if t=t then some v else none)=_
        rw[if_neg e,if_pos rfl]
       .show(if q=q then some (SV.i J n)else if t=q then some v else none)=_
        rw[if_pos rfl]
       .have h:(if q=G then some (SV.i J n)else if t=G then some v else none)=some L:=h
        by_cases N:q=G
        .rw[if_pos N]at h;cases h
         obtain⟨u,g1,g2⟩:=U.fr q _ hq;cases g2.int_inv
         rw[<-N];exact⟨_,g1,.i⟩
        .rw[if_neg N]at h;exact one B H D G L h
    |const c=>exact⟨[(t,v)],r _ _,hk,one B H D⟩
    |global g=>cases hk
    |func g=>cases hk
   obtain⟨X0,k1,k2,k3⟩:=V ⟨l,[]⟩;refine M ⟨l,[]⟩ X0 (A _ a5) ?_ k2 (k3 T);simp only[xOp,a8 _ a3,a4];exact k1
 |_=>cases C
theorem ydoh{d:Option Nat}{a:SOp}{X:XR}(h:xOp s d a=some X):X.s.f=s.f:=by
 unfold xOp at h;unfold yyx ybih idxX ybrj at h
 repeat' (first|(cases h;rfl)|split at h|cases h)
theorem ycgt{b:BinOp}{t:TypeId}{x y a:Operand}{xs:List Operand}(h:ybsu P b t x y = .call a xs):False:=by
 unfold ybsu at h;split at h
 .unfold ycic at h;split at h<;>cases h
 .split at h<;>first|(cases h;done)|(unfold ybul at h;split at h<;>first|(cases h;done)|(split at h<;>first|(cases h;done)|(split at h<;>cases h;done)))|(split at h<;>first|(cases h;done)|(split at h<;>cases h;done))
theorem ycmi{e:Op}{d:Operand}{xs:List Operand}(h:res P e=some (.call d xs)):∃args a,e = .call { callee:=.value d,args:=args,argTypes:=a }/\args.toList=xs:=by
 unfold res at h;split at h
 case h_4 =>
  exfalso
  obtain⟨_,_,h⟩:=bind_some h;obtain⟨_,_,h⟩:=bind_some h;obtain⟨_,_,h⟩:=bind_some h;have h:=Option.some.inj h;unfold yxy at h;split at h
  .split at h
   .cases h
   .split at h
    .split at h
     .split at h<;>cases h
     .cases h
    .cases h
  .cases h
 case h_6 =>
  exfalso
  obtain⟨_,_,h⟩:=bind_some h;obtain⟨_,_,h⟩:=bind_some h;obtain⟨_,_,h⟩:=bind_some h;obtain⟨_,_,h⟩:=bind_some h;unfold ywk at h;split at h<;>cases h
 case h_7 =>
  exfalso
  obtain⟨_,_,h⟩:=bind_some h;split at h
  .obtain⟨_,_,h⟩:=bind_some h;obtain⟨_,_,h⟩:=bind_some h;unfold yld at h;split at h
   .split at h<;>cases h
   .cases h
  .cases h
 case h_25 =>
  rename_i c
  obtain⟨g,args,a⟩:=c;unfold callOf at h;split at h
  .cases h;rename_i b;exact⟨args,a,by rw[show g=_ from b],rfl⟩
  .exfalso;split at h<;>cases h
  .exfalso
   split at h
   .split at h
    .split at h
     .split at h<;>cases h
     .cases h
    .cases h
   .cases h
  .cases h
  .cases h
  .cases h
 all_goals
  exfalso
  first
   |exact(ycgt (Option.some.inj h)).elim
   |(cases h;done)
   |(obtain⟨_,_,h⟩:=bind_some h;cases h;done)
   |(obtain⟨_,_,h⟩:=bind_some h;obtain⟨_,_,h⟩:=bind_some h;cases h;done)
   |(obtain⟨_,_,h⟩:=bind_some h;obtain⟨_,_,h⟩:=bind_some h;split at h<;>cases h;done)
   |(obtain⟨_,_,h⟩:=bind_some h;split at h<;>first|(cases h;done)|(obtain⟨_,_,h⟩:=bind_some h;cases h;done)|(obtain⟨_,_,h⟩:=bind_some h;obtain⟨_,_,h⟩:=bind_some h;first|(cases h;done)|(split at h<;>cases h;done)|(obtain⟨_,_,h⟩:=bind_some h;cases h;done)))
theorem yctf{a:BinOp}{t:TypeId}{x y:Operand}{e z n:Nat}{zs:List SV}{b:List (Nat×Nat×Operand)}(h:ybsu P a t x y = .bslice e z n zs b):False:=by
 unfold ybsu at h;split at h
 .unfold ycic at h;split at h<;>cases h
 .split at h<;>first|(cases h;done)|(unfold ybul at h;split at h<;>first|(cases h;done)|(split at h<;>first|(cases h;done)|(split at h<;>cases h;done)))|(split at h<;>first|(cases h;done)|(split at h<;>cases h;done))
theorem ybrl{c:Op}{e z n:Nat}{zs:List SV}{d:List (Nat×Nat×Operand)}(h:res P c=some (.bslice e z n zs d)) :
 ∃t b parts a i g,c = .buildSlice t b parts/\P.underlying t=some (.slice a)/\P.info? a=some i/\zeroA i=some g/\yld b a parts.toList i g=some (.bslice e z n zs d):=by
 unfold res at h;split at h
 case h_4 =>
  exfalso
  obtain⟨_,_,h⟩:=bind_some h;obtain⟨_,_,h⟩:=bind_some h;obtain⟨_,_,h⟩:=bind_some h;have h:=Option.some.inj h;unfold yxy at h;split at h
  .split at h
   .cases h
   .split at h
    .split at h
     .split at h<;>cases h
     .cases h
    .cases h
  .cases h
 case h_6 =>
  exfalso
  obtain⟨_,_,h⟩:=bind_some h;obtain⟨_,_,h⟩:=bind_some h;obtain⟨_,_,h⟩:=bind_some h;obtain⟨_,_,h⟩:=bind_some h;unfold ywk at h;split at h<;>cases h
 case h_7 =>
  obtain⟨_,j,h⟩:=bind_some h;split at h
  .obtain⟨_,k,h⟩:=bind_some h;obtain⟨_,l,h⟩:=bind_some h;exact⟨_,_,_,_,_,_,rfl,j,k,l,h⟩
  .cases h
 case h_25 =>
  exfalso
  unfold callOf at h;split at h
  .cases h
  .split at h<;>cases h
  .split at h
   .split at h
    .split at h
     .split at h<;>cases h
     .cases h
    .cases h
   .cases h
  .cases h
  .cases h
  .cases h
 all_goals
  exfalso
  first
   |exact(yctf (Option.some.inj h)).elim
   |(cases h;done)
   |(obtain⟨_,_,h⟩:=bind_some h;cases h;done)
   |(obtain⟨_,_,h⟩:=bind_some h;obtain⟨_,_,h⟩:=bind_some h;cases h;done)
   |(obtain⟨_,_,h⟩:=bind_some h;obtain⟨_,_,h⟩:=bind_some h;split at h<;>cases h;done)
   |(obtain⟨_,_,h⟩:=bind_some h;split at h<;>first|(cases h;done)|(obtain⟨_,_,h⟩:=bind_some h;cases h;done)|(obtain⟨_,_,h⟩:=bind_some h;obtain⟨_,_,h⟩:=bind_some h;first|(cases h;done)|(split at h<;>cases h;done)|(obtain⟨_,_,h⟩:=bind_some h;cases h;done)))
def RunR(P:Program)(q:List Nm)(lo:Nat)(F:AM)(ω:Om)(f:Fr)(m:Mem)(o:Oper)(d:Bool)(i an:Nat)(j:List (Nat×Ent))(l:List (Nat×SRec)->SS->Prop)(F0:AM):Prop :=
 ∃c f1 F' ω' h g a,One P f o m c/\f.put o.dst c.v=some f1/\f1.n=f.n/\Conc lo F' ω' h f1 c.m/\(l a h/\(i,g)∈a/\(d=true->OldI F0 a h f1))/\Past F' ω' c.m.next g ⟨f,m,true,c⟩/\yyr F' ω' c.m.next a j /\
  (d=true->∀p∈j,zK an p.1=true\/(p.2.idle=true\/Ap i p.1 ⟨f,m,true,c⟩ p.2)\/∃e,Past F' ω' c.m.next e p.2/\clash g e=false/\p.2.r.m.next<=m.next)/\(Le F F'/\(∀x b,F' x=some b->F x=some b\/lo<=x)/\∀k∈q,∀x,ω k=some x->ω' k=some x)
theorem ycah {pr:List Nm}{mu:List FuncId}{d:Bool}{L:List (Nat×SRec)}{i an:Nat}{V:List (Nat×SRec)->SS->Prop}{G:SOp}{ps:List (Nat×Ent)}(C:Conc lo F ω s f m) (I:(res P o.op).getD .no=G) (Y:nt<=f.n) (hd:yclo nt o.dst=true) (E:yyr F ω m.next L ps)
 {F0:AM}(b3:Le F0 F) (hI:d=true->OldI F0 L s f) (a5:∀x b,F0 x=some b->∀p∈ps,x<p.2.m.next)
 (h:runO ⟨Ct P,Cm P,ItC P,pr,mu⟩ d L s i an o.dst V G):RunR P pr lo F ω f m o d i an ps V F0:=by
 have step : (∀X,xOp s o.dst G=some X->X.c->OpS P lo F ω f m o X)->res P o.op=some G->opO d L i an o.dst V (d&&ybfu s L G) (xOp s o.dst G)->RunR P pr lo F ω f m o d i an ps V F0:=by
  intro b4 B hk;unfold opO at hk;split at hk
  .rename_i X hX
   obtain⟨k1,k2,k3⟩:=hk;obtain⟨J,ω',e1,e2,e3,e4,e5,e6,e7,e8,e9⟩:=b4 X hX k1;have c8:=ydoh hX;obtain⟨f1,g1,g2,S⟩:=yvq hd Y J.v;have R:=yqi m J.e;have a8:m.next<=(m.app J.e).next:=by rw[R];split<;>omega
   have N:=E.mono (rs':=(i,X.r)::L) (F':=F) (ω':=ω') (nxt':=(m.app J.e).next) (fun x A=>zC _ A) (Le.refl _) e2 e5 (fun x b h=>.inl h) a8
   have a0:Past F ω' (m.app J.e).next X.r ⟨f,m,true,⟨J.v,m.app J.e,some J.foot,some J.e.mods⟩⟩:=by
    refine⟨⟨a8,zI _⟩,.inr ⟨⟨_,rfl,fun x A=>?_⟩,.inr ⟨_,rfl,fun x A=>?_⟩,fun H k z hk a b=>?_,fun T x b hb q=>?_,fun a b _=>?_⟩⟩
    .obtain⟨H,z,a,b⟩:=e7 x A;exact⟨H,z,a,e2 _ _ b⟩
    .rcases e6 x A with⟨H,z,a,b⟩|⟨a,y,b⟩
     .exact⟨(C.apart H x z b).2.2,.inl ⟨H,z,a,e2 _ _ b⟩⟩
     .exact⟨C.wf x y (C.sub x y b),.inr (.inl ⟨a,y,b⟩)⟩
    .have a:m.next<=k:=a
     have b:k<(m.app J.e).next:=b
     rw[R]at b;split at b
     .rename_i hq
      obtain⟨γ,z',c1,c2⟩:=e9 hq;obtain rfl:k=m.next:=by omega
      by_cases q:H=γ
      .rw[q];exact c1
      .exact absurd rfl (e3.inj H γ _ z _ z' hk c2 q)
     .omega
    .have:=C.wf x b (C.sub x b hb);have q1:m.next<=x:=q.1
     omega
    .show m.next=(m.app J.e).next
     rw[R,e8 a];rfl
   have b8:d=true->OldI F0 (ykd d o.dst (d&&ybfu s L G) ((i,X.r)::L)) (X.s.put o.dst X.v) f1:=fun j=>by
    refine(hI j).put (fun t w W=>by rw[c8]at W;exact W) (fun t ht=>yic (yjw ht)) S fun k hk O ho=>?_
    cases M:ybfu s L G with
    |true=>exact(yctt C b3 (hI j) M B hX k1 e1).1 ho
    | false =>
      rw[M,hk,j]at O;exact(ypr O).elim
   refine⟨⟨J.v,m.app J.e,some J.foot,some J.e.mods⟩,f1,F,ω',X.s.put o.dst X.v,X.r,_,ywh e1,g1,g2,e3.put S e4,⟨k3,ymv zA,b8⟩,?_,N.mark,fun j p U=>?_,Le.refl _,fun x b h=>.inl h,fun H _ x A=>e2 H x A⟩
   .exact a0
   .rcases N p U with q|⟨K,a,b⟩
    .exact .inr (.inl (.inl q))
    .rcases E p U with q|⟨K,a,b⟩
     .exact .inr (.inl (.inl q))
     .rcases yckw k2 j a with q|⟨q,q8⟩
      .exact .inl q
      .refine .inr (.inl (.inr (ybrb (a:=X.r) (e:=⟨f,m,true,⟨J.v,m.app J.e,some J.foot,some J.e.mods⟩⟩) e3 a0 (b.mono (Le.refl _) e2 e5 (fun x b h=>.inl h) a8) b.le.2 q (q8.imp id fun M ft c4 x A=>?_))));rw[j,zS]at M;cases c4
       obtain⟨y,O⟩:=(yctt C b3 (hI j) M B hX k1 e1).2 x A;exact a5 x y O p U
  .cases hk
 have B:res P o.op=some G:=by
  cases hq:res P o.op with
  |some x=>rw[hq]at I;exact congrArg some I
  |none=>rw[hq]at I;subst I;cases h
 cases G with
 | call fx xs =>
   obtain⟨b2,c9,Z,rfl⟩:=ycmi B
   change yceh ⟨Ct P,Cm P,ItC P,pr,mu⟩ d L s i an o.dst V (s.get fx) (s.gets b2.toList)at h
   unfold yceh at h;split at h
   .rename_i g a b xs hf A
    have a2:∀{as:List SV}{Q:SV->Prop},Ct P g as Q->((as=a++xs++b/\(a++xs++b).any (owned 5)=false)\/(as=(a++xs++b).map (view s.o 5)/\allP (vok s.o 5) (a++xs++b)/\∀r,Q r->scalar 5 r=true)) ->
     (∀r,Q r->yw d L s i an o.dst V (scalar 5 r) r)->RunR P pr lo F ω f m o d i an ps V F0:=by
     intro as Q a6 b9 a9;obtain⟨r2,F',rv,t1,t2,t3,t4,t5,t6,t7,t8,t9⟩:=ycki C Z hf A a6 b9;obtain⟨k2,k3⟩:=a9 rv t2;obtain⟨f1,g1,g2,S⟩:=yvq hd Y r2.v;have b1:∀x b,F' x=some b->F x=some b\/m.next<=x:=fun x b h=>(t8 x b h).imp id And.right
     have N:=E.mono (rs':=(i,⟨[],[],[],true,true,!(scalar 5 rv),false⟩)::L) (F':=F') (ω':=ω) (nxt':=r2.m.next) (fun x A=>zC _ A) t3 (Om.le_refl _) (fun _ _ _ h=>.inl h) b1 t6
     refine⟨r2,f1,F',ω,s.put o.dst rv,_,_,t1,g1,g2,t5.put S t4,⟨k3,ymv zA,fun j=>(hI j).put (fun t w W=>W) (fun t ht=>yic (yjw ht)) S fun k hk O _=>by rw[hk,j]at O;exact(ypr O).elim⟩,?_,N.mark,fun j p U=>?_,t3,fun x b h=>(b1 x b h).imp id (zH C.nxt),fun H _ x A=>A⟩
     .refine⟨⟨t6,zI _⟩,.inr ⟨⟨[],t7,fun x A=>(by cases A)⟩,?_,fun H k z hk a b=>?_,fun T x b hb q=>?_,fun a b _=>(by cases b)⟩⟩
      .rcases t9 with⟨hs,ft,h1,h2⟩|⟨hs,h1⟩
       .refine .inr ⟨ft,h1,fun x A=>⟨(h2 x A).1,?_⟩⟩;rcases(h2 x A).2 with⟨b,hb⟩|⟨H,z,hb⟩
        .exact .inr (.inl ⟨rfl,b,t3 _ _ hb⟩)
        .exact .inr (.inr ⟨rfl,H,z,hb⟩)
       .exact .inl ⟨rfl,by rw[hs];rfl,h1⟩
      .have:=(C.apart H k z hk).2.2;have a:m.next<=k:=a
       omega
      .rcases t8 x b hb with h|⟨h,_⟩
       .have:=C.wf x b (C.sub x b h);have q1:m.next<=x:=q.1
        omega
       .have T:(!(scalar 5 rv))=false:=T;rw[h]at T;cases T
     .rcases E p U with q|⟨K,a,b⟩
      .exact .inr (.inl (.inl q))
      .rcases ywr k2 j a with q|q
       .exact .inl q
       .exact .inr (.inr ⟨K,b.mono t3 (Om.le_refl _) (fun _ _ _ h=>.inl h) b1 t6,q,b.le.2⟩)
    have b0:∀{Q:SV->Prop},Ct P g (a++xs++b) Q->(a++xs++b).any (owned 5)=false->(∀r,Q r->ylo d L s i an o.dst V r)->RunR P pr lo F ω f m o d i an ps V F0:=by
     intro Q a6 hown a9;obtain⟨r2,F',rv,t1,t2,t3,t4,t5,t6,t7,t8,ft,h1,h2⟩:=ybzc C Z hf A a6 hown;obtain⟨k2,k3⟩:=a9 rv t2;obtain⟨f1,g1,g2,S⟩:=yvq hd Y r2.v;have N:=E.mono (rs':=(i,⟨[],[],[],true,false,true,false⟩)::L) (F':=F') (ω':=ω) (nxt':=r2.m.next) (fun x A=>zC _ A) t3 (Om.le_refl _) (fun _ _ _ h=>.inl h) t8 t6
     refine⟨r2,f1,F',ω,s.put o.dst rv,_,_,t1,g1,g2,t5.put S t4,⟨k3,ymv zA,fun j=>(hI j).put (fun t w W=>W) (fun t ht=>yic (yjw ht)) S fun k hk O _=>by rw[hk,j]at O;exact(ypr O).elim⟩,?_,N.mark,fun j p U=>?_,t3,fun x b h=>(t8 x b h).imp id (zH C.nxt),fun H _ x A=>A⟩
     .refine⟨⟨t6,zI _⟩,.inr ⟨⟨[],t7,fun x A=>(by cases A)⟩,.inr ⟨ft,h1,fun x A=>⟨(h2 x A).1,.inr (.inl ⟨rfl,(h2 x A).2.imp fun b hb=>t3 _ _ hb⟩)⟩⟩,fun H k z hk a b=>?_,fun T=>(by cases T),fun _ _ T=>(by cases T)⟩⟩
      have:=(C.apart H k z hk).2.2;have a:m.next<=k:=a
      omega
     .rcases E p U with q|⟨K,a,b⟩
      .exact .inr (.inl (.inl q))
      .rcases ywr k2 j a with q|q
       .exact .inl q
       .exact .inr (.inr ⟨K,b.mono t3 (Om.le_refl _) (fun _ _ _ h=>.inl h) t8 t6,q,b.le.2⟩)
    have a3 : ycoj ⟨Ct P,Cm P,ItC P,pr,mu⟩ d L s i an o.dst V g (a++xs++b)->RunR P pr lo F ω f m o d i an ps V F0:=by
     intro h;obtain⟨ρ,a1,keep,kb,d0,o0,as,b7,W,b6,D,a7,c3⟩:=h;obtain⟨r2,F',ω',rv,o',t1,t2,t3,t4,t5,t6,t7,t8,t9⟩:=ycco C Z hf A b7 W b6 a7 c3;obtain⟨b5,c7⟩:=t2;obtain⟨c1,c2⟩:=t3 b5;obtain⟨f1,g1,g2,S⟩:=yvq hd Y r2.v;refine⟨r2,f1,F',ω',(yjk s ρ a1 keep kb o').put o.dst (ren (nu ρ a1) 5 rv),SRec.top,_,t1,g1,g2,c1.put S c2,⟨c7,ymv zA,fun j=>(hI j).put (fun t w W=>yzq W) (fun t ht=>ybws (yic (yjw ht))) S fun k hk O _=>by rw[hk,j]at O;exact(ypr O).elim⟩,⟨⟨t4,zI _⟩,.inl rfl⟩,yyr.mark fun p U=>?_,fun j p U=>?_,t5,t6,t7 b5⟩
     .rcases E p U with q|⟨K,a,b⟩
      .exact .inl q
      .rcases b.dim (F':=F') (ω':=ω') t4 with q|q
       .exact .inl q
       .exact .inr ⟨_,zC _ (List.mem_map.2 ⟨_,a,rfl⟩),q⟩
     .rcases E p U with q|⟨K,a,b⟩
      .exact .inr (.inl (.inl q))
      .rcases Bool.or_eq_true_iff.1 D with D|D
       .rcases ywr D j a with q|q
        .exact .inl q
        .refine .inr (.inl (.inl (b.pure ?_)));unfold clash at q;rw[zB,zB]at q;have:=q.1.1
         rwa [show SRec.top.mu=true from rfl,zS,zL]at this
       .rw[zD,zM]at D;rcases Bool.or_eq_true_iff.1 (List.all_eq_true.1 D.2 _ a)with q|q
        .exact .inl q
        .rcases Bool.or_eq_true_iff.1 q with q|q
         .exact .inr (.inl (.inl (b.pure q)))
         .exact .inr (.inl (.inr (ybmr (t9 D.1) t8 b q b.le.2)))
    split at h
    .exact a3 h
    split at h
    .rcases h with h|h
     .exact a2 h.2 (.inr ⟨rfl,h.1,fun r hr=>hr.1⟩) (fun r hr=>by rw[hr.1];exact hr.2)
     .exact a3 h
    .rename_i hown
     split at h
     .exact b0 h (by simpa using hown) (fun r hr=>hr)
     .exact a2 h (.inl ⟨rfl,by simpa using hown⟩) (fun r hr=>hr)
   .cases h
 | bslice e z n zs qs =>
   change (if mu.elem 1000000001=true then bsO d L s i an o.dst V z n (fill s zs qs)else opO d L i an o.dst V (d&&ybfu s L (.bslice e z n zs qs)) (xOp s o.dst (.bslice e z n zs qs)))at h
   split at h
   .unfold bsO at h;split at h
    .rename_i l hf
     obtain⟨c6,k2,k3⟩:=h;obtain⟨t,n',parts,e',i',z',Z,h1,h2,h3,h4⟩:=ybrl B;obtain⟨u,blk,ev,hv⟩:=ycnx C Z h1 h2 h3 h4 hf c6;have c0:=C.newF blk;have c5:∀{i b},F i=some b->i<m.next:=fun {i b} h=>C.wf i b (C.sub i b h)
     have t3:Le F (fun x=>if x=m.next then some blk else F x):=fun x b h=>by
      show(if x=m.next then _ else F x)=_
      rw[if_neg (by have:=c5 h;omega)];exact h
     have t8:∀x b,(if x=m.next then some blk else F x)=some b->F x=some b\/m.next<=x:=fun x b h=>by
      split at h
      .exact .inr (by omega)
      .exact .inl h
     have t6:m.next<=(m.app (.new blk)).next:=by rw[yyn];exact Nat.le_succ _
     obtain⟨f1,g1,g2,S⟩:=yvq hd Y u;have N:=E.mono (rs':=(i,⟨[],[],[],false,false,true,false⟩)::L) (F':=fun x=>if x=m.next then some blk else F x) (ω':=ω) (nxt':=(m.app (.new blk)).next) (fun x A=>zC _ A) t3 (Om.le_refl _) (fun _ _ _ h=>.inl h) t8 t6
     refine⟨⟨u,m.app (.new blk),some [],some []⟩,f1,_,ω,s.put o.dst _,_,_,ywh ev,g1,g2,c0.put S hv,⟨k3,ymv zA,fun j=>(hI j).put (fun t w W=>W) (fun t ht=>yic (yjw ht)) S fun k hk O _=>by rw[hk,j]at O;exact(ypr O).elim⟩,?_,N.mark,fun j p U=>?_,t3,fun x b h=>(t8 x b h).imp id (zH C.nxt),fun H _ x A=>A⟩
     .refine⟨⟨t6,zI _⟩,.inr ⟨⟨[],rfl,fun x A=>(by cases A)⟩,.inr ⟨[],rfl,fun x A=>(by cases A)⟩,fun H k z hk a b=>?_,fun T=>(by cases T),fun _ _ T=>(by cases T)⟩⟩
      have:=(C.apart H k z hk).2.2;have a:m.next<=k:=a
      omega
     .rcases E p U with q|⟨K,a,b⟩
      .exact .inr (.inl (.inl q))
      .rcases ywr k2 j a with q|q
       .exact .inl q
       .exact .inr (.inr ⟨K,b.mono t3 (Om.le_refl _) (fun _ _ _ h=>.inl h) t8 t6,q,b.le.2⟩)
    .cases h
   .exact step (fun X hX a4=>ywq C B hX a4) B h
 |_=>exact step (fun X hX a4=>ywq C B hX a4) B h
end
end Sh
end
section
namespace Sh
open Go Ev
section
variable {P:Program}{lo nt:Nat}{F F':AM}{ω ω':Om}{s:SS}{f:Fr}{m:Mem}{o:Oper}
theorem ybqo:RV F ω (.tp []) undef:=RV.tp (L:=[]) .nil
theorem ybkk{ops:List Oper}(h:o.guard=none):wantedA ops f o=some true:=by unfold wantedA;rw[h]
theorem yvy{ops:List Oper}{j d:Nat}{w:Bool}{a:Oper}(h:o.guard=some (j,w))(c:ops[j]?=some a)(b:a.dst=some d){v:Value}(e:f.t.get d=some v):wantedA ops f o=some (boolIs w v):=by
 unfold wantedA;rw[h];show wantedG ops f (j,w)=_;unfold wantedG;simp only[c,b];show ob (f.t.get d) _=_;rw[e];rfl
theorem ybhm{ops:List Oper}{g:Option (Nat×Bool)}{t:Nat}{w:Bool}(h:guardOf ops g=some (some (t,w))):∃j a,g=some (j,w)/\ops[j]?=some a/\a.dst=some t:=by
 unfold guardOf at h;split at h
 .cases h
 .rename_i j e
  split at h
  .rename_i a c
   split at h
   .rename_i d b;cases h;exact⟨j,a,rfl,c,b⟩
   .cases h
  .cases h
theorem ybgj{ops:List Oper}{g:Option (Nat×Bool)}(h:guardOf ops g=some none):g=none:=by
 unfold guardOf at h;split at h
 .rfl
 .split at h
  .split at h<;>cases h
  .cases h
theorem Conc.lit(a:Conc lo F ω s f m){t:Nat}{c:Bool}(h:look s.f t=some (.b c)):Conc lo F ω (s.put (some t) (.b c)) f m:=by
 refine⟨a.wf,a.low,a.nxt,a.sub,a.own,a.dom,a.inj,a.apart,fun k v e=>?_⟩;have d:(if t=k then some (SV.b c)else look s.f k)=some v:=e
 split at d
 .rename_i q;subst q;cases d;exact a.fr _ _ h
 .exact a.fr k v d
def Later(an:List Nat)(i:Nat)(es:List Ent)(a:List (Nat×Ent)):Prop:=∀k e,es[k]?=some e->∀p∈a,zK (an.getD (i+k) 0) p.1=true\/Ap (i+k) p.1 e p.2
def Among(an:List Nat)(i:Nat)(es:List Ent):Prop:=∀k q e d,q<k->es[k]?=some e->es[q]?=some d->zK (an.getD (i+k) 0) (i+q)=true\/Ap (i+k) (i+q) e d
theorem ybal{an:List Nat}{i:Nat}{e:Ent}{es:List Ent}{b:List (Nat×Ent)}(h:Later an (i+1) es ((i,e)::b))(g:∀p∈b,zK (an.getD i 0) p.1=true\/Ap i p.1 e p.2)(j:Among an (i+1) es):Later an i (e::es) b/\Among an i (e::es):=by
 refine⟨fun k x hk p c=>?_,fun k q x d l hk a=>?_⟩
 .cases k with
  |zero=>simp at hk;subst hk;simpa using g p c
  |succ k=>have:=h k x (by simpa using hk) p (zC _ c);rw[show i+(k+1)=i+1+k by omega];exact this
 .cases k with
  |zero=>omega
  | succ k =>
    rw[show i+(k+1)=i+1+k by omega]
    cases q with
    |zero=>simp at a;subst a;exact h k x (by simpa using hk) (i,e) zA
    |succ q=>rw[show i+(q+1)=i+1+q by omega];exact j k q x d (by omega) (by simpa using hk) (by simpa using a)
theorem OldI.lit{F0:AM}{e:List (Nat×SRec)}{t:Nat}{c:Bool}(h:OldI F0 e s f)(k:f.t.get t=some (.bool c)):OldI F0 e (s.put (some t) (.b c)) f:=fun d v a i g=>by
 have a:(if t=d then some (SV.b c)else look s.f d)=some v:=a
 by_cases q:t=d
 .rw[if_pos q]at a;cases a;rw[<-q];exact⟨_,k,.b⟩
 .rw[if_neg q]at a;exact h d v a i g
theorem yyl{R:List Nm}{Z:List FuncId}{d:Bool}{K:SS->Prop}{ops:List Oper}{an:List Nat}{F0:AM}:∀(l:List Oper) (i:Nat) (sl:List SOper) (M:List (Nat×SRec)) (S:List (Nat×Ent)) (F:AM) (ω:Om) (s:SS) (f:Fr) (m:Mem),
 cmpL P nt ops an l i=some sl->yqb ⟨Ct P,Cm P,ItC P,R,Z⟩ d K sl i M s->Conc lo F ω s f m->nt<=f.n->yyr F ω m.next M S->Le F0 F->(d=true->OldI F0 M s f)->(∀x b,F0 x=some b->x<m.next)->(∀x b,F0 x=some b->∀p∈S,x<p.2.m.next) ->
 ∃x es C F' ω',Ev.Trace P ops x l es f m/\Conc lo F' ω' C x.f x.m/\K C/\x.f.n=f.n/\(d=true->Later an i es S/\Among an i es)/\(Le F F'/\(∀y b,F' y=some b->F y=some b\/lo<=y)/\∀D∈R,∀x,ω D=some x->ω' D=some x)
 | [],i,sl,M,S,F,ω,s,f,m,r,h,B,H,Y,_,_,_,_=>by
   cases r
   exact⟨⟨f,m⟩,[],s,F,ω,.nil,B,h,rfl,fun _=>⟨fun k e hk=>by simp at hk,fun k q e d _ hk=>by simp at hk⟩,Le.refl _,fun y b h=>.inl h,fun D _ x hx=>hx⟩
 | o :: l,i,sl,M,S,F,ω,s,f,m,r,h,B,H,Y,V,T,Q,z=>by
   unfold cmpL at r;obtain⟨a2,I,r⟩:=bind_some r;have I:=Option.some.inj I;obtain⟨g,hg,r⟩:=bind_some r;obtain⟨N,hl,r⟩:=bind_some r;split at r
   .rename_i hd
    cases r
    have A:∀(s:SS),Conc lo F ω s f m->(d=true->OldI F0 M s f)->wantedA ops f o=some true->runO ⟨Ct P,Cm P,ItC P,R,Z⟩ d M s i (an.getD i 0) o.dst (yqb ⟨Ct P,Cm P,ItC P,R,Z⟩ d K N (i+1)) a2 ->
     ∃x es C F' ω',Ev.Trace P ops x (o::l) es f m/\Conc lo F' ω' C x.f x.m/\K C/\x.f.n=f.n/\(d=true->Later an i es S/\Among an i es)/\(Le F F'/\(∀y b,F' y=some b->F y=some b\/lo<=y)/\∀D∈R,∀x,ω D=some x->ω' D=some x):=by
     intro s B T U J;obtain⟨r2,f1,F1,a4,s1,rc,a3,t1,t2,t3,t4,⟨t5,tm,tI⟩,t6,t7,t8,t9,t10,t11⟩:=ycah B I H hd Y V T z J;have X:m.next<=r2.m.next:=t6.le.1
     obtain⟨x,es,C,F',ω',u1,u2,u3,u4,u5,u6,u7,u8⟩:=yyl l (i+1) N a3 ((i,⟨f,m,true,r2⟩)::S) F1 a4 s1 f1 r2.m hl t5 t4 (by rw[t3];exact H)
      (fun p O=>by
        rcases List.mem_cons.1 O with q|q
        .subst q;exact .inr ⟨rc,tm,t6⟩
        .exact t7 p q) (V.trans t9) tI (fun x b h=>zG (Q x b h) X) (fun x b h p O=>by
        rcases List.mem_cons.1 O with q|q
        .subst q;exact Q x b h
        .exact z x b h p q)
     refine⟨x,⟨f,m,true,r2⟩::es,C,F',ω',.cons (e:=⟨f,m,true,r2⟩) ⟨U,fun _=>t1,fun q=>by cases q⟩ t2 u1,u2,u3,by rw[u4,t3],fun v=>?_,t9.trans u6,fun y b h=>(u7 y b h).elim (t10 y b) .inr,fun D a1 x hx=>u8 D a1 x (t11 D a1 x hx)⟩
     obtain⟨v1,v2⟩:=u5 v;refine ybal v1 (fun p O=>?_) v2;rcases t8 v p O with q|(q|q)|⟨a5,a,b,c⟩
     .exact .inl q
     .exact .inr (.inr (.inl q))
     .exact .inr q
     .exact .inr (ybrb t4 t6 a c (ybdm b).1 (.inl (ybdm b).2))
    have idle:∀(s:SS),Conc lo F ω s f m->(d=true->OldI F0 M s f)->wantedA ops f o=some false->yqb ⟨Ct P,Cm P,ItC P,R,Z⟩ d K N (i+1) M (s.put o.dst (.tp [])) ->
     ∃x es C F' ω',Ev.Trace P ops x (o::l) es f m/\Conc lo F' ω' C x.f x.m/\K C/\x.f.n=f.n/\(d=true->Later an i es S/\Among an i es)/\(Le F F'/\(∀y b,F' y=some b->F y=some b\/lo<=y)/\∀D∈R,∀x,ω D=some x->ω' D=some x):=by
     intro s B T U J;obtain⟨f1,g1,g2,g3⟩:=yvq hd H undef;have E:Ent.idle ⟨f,m,false,⟨undef,m,some [],some []⟩⟩=true:=yrf rfl
     obtain⟨x,es,C,F',ω',u1,u2,u3,u4,u5,u6⟩:=yyl l (i+1) N M ((i,⟨f,m,false,⟨undef,m,some [],some []⟩⟩)::S) F ω _ f1 m hl J (B.put g3 ybqo) (by rw[g2];exact H)
      (fun p O=>by
        rcases List.mem_cons.1 O with q|q
        .subst q;exact .inl E
        .exact Y p q) V (fun v=>(T v).put (fun t w U=>U) (fun t ht=>ht) g3 fun k hk hy ho=>ybqo) Q (fun x b h p O=>by
        rcases List.mem_cons.1 O with q|q
        .subst q;exact Q x b h
        .exact z x b h p q)
     refine⟨x,⟨f,m,false,⟨undef,m,some [],some []⟩⟩::es,C,F',ω',.cons (e:=⟨f,m,false,⟨undef,m,some [],some []⟩⟩) ⟨U,fun q=>(by cases q),fun _=>rfl⟩ g1 u1,u2,u3,by rw[u4,g2],fun v=>?_,u6⟩
     obtain⟨v1,v2⟩:=u5 v;exact ybal v1 (fun p O=>.inr (.inl E)) v2
    cases g with
    |none=>exact A s B T (ybkk (ybgj hg)) h
    | some tw =>
      obtain⟨t,w⟩:=tw;obtain⟨j,oj,e1,e2,e3⟩:=ybhm hg
      change yxa ⟨Ct P,Cm P,ItC P,R,Z⟩ d M s i (an.getD i 0) o.dst (yqb ⟨Ct P,Cm P,ItC P,R,Z⟩ d K N (i+1)) a2 t w (look s.f t)at h
      unfold yxa at h;split at h
      .rename_i c G
       obtain⟨u,k1,k2⟩:=B.fr t _ G;cases k2.bool_inv
       have U:=yvy e1 e2 e3 k1;have hb:boolIs w (.bool c)=(c==w):=rfl
       by_cases a0:c=w
       .subst a0;exact A _ (B.lit G) (fun v=>(T v).lit k1) (by rw[U,hb];simp) (h.1 rfl)
       .have W:c = !w:=by cases c<;>cases w<;>simp_all
        refine idle _ (by rw[<-W];exact B.lit G) (fun v=>by rw[<-W];exact(T v).lit k1) (by rw[U,hb];simp[a0]) (h.2 W)
      .rename_i G
       obtain⟨u,k1,k2⟩:=B.fr t _ G;obtain⟨L,rfl,hL⟩:=k2.tp_inv;exact idle s B T (by rw[yvy e1 e2 e3 k1];rfl) h
      .cases h
   .cases r
end
end Sh
end
section
namespace Sh
open Go Ev
noncomputable def cmp(P:Program)(nt:Nat):Code->Option SC
 |.skip=>some .skip
 |.seq a b=>(cmp P nt a).bind fun a=>(cmp P nt b).bind fun b=>some (.seq a b)
 |.cond c a b=>(cmp P nt a).bind fun a=>(cmp P nt b).bind fun b=>some (.cond c a b)
 |.block id b=>(cmp P nt b).bind fun b=>some (.block id b)
 |.loop b=>(cmp P nt b).bind fun b=>some (.loop b)
 |.exit id=>some (.exit id)
 |.ret=>some .ret
 |.region _ e d=>(cmpL P nt e.toList (ancs e.toList []).reverse e.toList 0).bind fun l=>if d=false\/slotsOk e.toList (ancs e.toList []).reverse=true then some (.reg d l)else none
 |.rangeFunc g h a b=>(cmp P nt a).bind fun i=>(cmp P nt b).bind fun j=>if (h.toList.all fun p=>decide (p<nt))=true then some (.range g h.toList i j)else none
 |_=>some .no
def ybzm(n:SS->Prop)(K:Exit->SS->Prop):Exit->SS->Prop
 |.normal,s=>n s
 |e,s=>K e s
def ybjx(id:Nat)(K:Exit->SS->Prop):Exit->SS->Prop
 |.exit i,s=>if i=id then K .normal s else K (.exit i) s
 |e,s=>K e s
def SS.lit(s:SS)(c:Operand)(x:Bool):SS:=match c with
 |.tmp t=>s.put (some t) (.b x)
 |_=>s
def ycek(t:Option SV)(c:Operand)(s:SS)(a b:SS->Prop):Prop:=match t with
 |some (.b x)=>(x=true->a (s.lit c true))/\(x=false->b (s.lit c false))
 |_=>False
def ybud(b:List Nm)(I:Nat->SS->Prop)(n:Nat)(K:Exit->SS->Prop):Exit->SS->Prop
 |.normal,t=>∃a u,a<n/\I a u/\Weak b t u
 |e,t=>K e t
def ycwc(b:List Nm)(a:(Exit->SS->Prop)->SS->Prop)(K:Exit->SS->Prop)(s:SS):Prop :=
 ∃I:Nat->SS->Prop,(∃n t,I n t/\Weak b s t)/\∀n t,I n t->a (ybud b I n K) t
def puts(s:SS):List Nat->List SV->Option SS
 |p::a,v::b=>puts (s.put (some p) v) a b
 |[],[]=>some s
 |_,_=>none
def ycyy(n:SS->Prop):Exit->SS->Prop
 |.normal,s=>n s
 |_,_=>False
def ybka(K:Exit->SS->Prop)(t:SS)(a:Own->Prop):Exit->SS->Prop
 |.normal,u=>a u.o
 |.ret,u=>K .ret ⟨t.f,u.o⟩
 |.exit id,u=>K (.exit id) ⟨t.f,u.o⟩
 |_,_=>False
def ycgo(C:CC)(d:Operand)(e:List Nat)(h i:CC->(Exit->SS->Prop)->SS->Prop)(K:Exit->SS->Prop)(s:SS):Prop :=
 ∃ (b:List Nm) (I:Nat->SS->Prop) (g:FuncId) (a:List SV) (S:ItS),C.it g a S/\((∀c∈C.pr,c∈b)/\∀c∈S.pr,c∈b)/\(∃t,I 0 t/\Weak C.pr s t)/\(∀t,I 0 t->t.get d=some (.fn g [] a)) /\
   (∀k t,I k t->S.own k t.o/\allQ (fun p=>cln (nmem b) 5 p.2=true) t.f) /\
   (∀k t,I k t->k<S.n->∃t1,puts t e (S.el k)=some t1/\h ⟨C.ct,C.cm,C.it,b,C.mu⟩ (ycyy (i ⟨C.ct,C.cm,C.it,b,C.mu⟩ (ybka K t fun o=>S.own k o/\∃u,I (k+1) u/\Weak b ⟨t.f,S.adv k o⟩ u))) t1) /\
   (∀t,I S.n t->K .normal t)
def vcR:SC->CC->(Exit->SS->Prop)->SS->Prop
 |.skip,_,K,s=>K .normal s
 |.seq a b,C,K,s=>vcR a C (ybzm (vcR b C K) K) s
 |.cond c a b,C,K,s=>ycek (s.get c) c s (vcR a C K) (vcR b C K)
 |.block id b,C,K,s=>vcR b C (ybjx id K) s
 |.loop b,C,K,s=>ycwc C.pr (vcR b C) K s
 |.exit id,_,K,s=>K (.exit id) s
 |.ret,_,K,s=>K .ret s
 |.reg d e,C,K,s=>yqb C d (K .normal) e 0 [] s
 |.range g h a b,C,K,s=>ycgo C g h (vcR a) (vcR b) K s
 |.no,_,_,_=>False
def vc(C:CC)(c:SC)(K:Exit->SS->Prop)(s:SS):Prop:=vcR c C K s
section
variable {P:Program}{lo nt:Nat}{F F':AM}{ω ω':Om}{s:SS}{f f':Fr}{m m':Mem}
theorem yvh{ops:Array Oper}{x:FM}{rr:Option Nat}:∀{l:List Oper}{es:List Ent}{f:Fr}{m:Mem},Ev.Trace P ops.toList x l es f m->Wf m ->
 Grow m x.m/\∀φ M w a Q,Rel φ M w->Sub m M->FrR φ f a->yhm φ m.next x.m.next->(∀a' p b q,Ev.Good φ M w m x.m b q p->FrR b x.f a'->a'.defers=a.defers->Q .normal a' p)->wpListIn (wr rr) 0 P ops Q l a w
 |_,_,_,_,.nil,A=>⟨Grow.refl A,fun φ M w a Q t y k _ r=>r a w φ M (Ev.Good.refl t y) k rfl⟩
 | _,_,_,_,.cons (o:=o) (l:=l) (e:=e) (es:=es) (f1:=f1) S I h,A=>by
   obtain⟨L,N,O⟩:=S;cases j:e.w with
   | false =>
     have T:=O j;rw[T]at I h;obtain⟨n,D⟩:=yvh h A;refine⟨n,fun φ M w a Q t y k i r=>wpListIn_step fun K E=>?_⟩;rw[ygm (φ:=φ) L (fun _ _ _ d v _ _ _ z=>k.get d v z),j];exact⟨fun _ _=>trivial,E _ _ (D φ M w _ Q t y (k.put I VR.undef) i fun a' p b q U V W=>r a' p b q U V (W.trans (Ev.Act.put_defers _ _ _)))⟩
   | true =>
     have c:=N j;have g:=c.pure A;obtain⟨n,D⟩:=yvh h g.ext.wf;refine⟨Grow.trans ⟨g.ext,g.low⟩ n,fun φ M w a Q t y k i r=>wpListIn_step fun K E=>?_⟩;rw[ygm (φ:=φ) L (fun _ _ _ d v _ _ _ z=>k.get d v z),j];refine opIn c.plain (c.seq A t y k (i.left n.ext.next) fun X p b q u z=>E _ _ ?_)
     refine D b q p _ Q u.rel u.sub ((k.mono u.le).put I z) (u.fresh g.ext i) fun a' J B C H G R=>?_;exact r a' J B C (Ev.Good.trans g.ext n.ext n.low u H) G (R.trans (Ev.Act.put_defers _ _ _))
def Grew(c:List Nm)(lo:Nat)(F:AM)(ω:Om)(F':AM)(ω':Om):Prop:=Le F F'/\(∀y b,F' y=some b->F y=some b\/lo<=y)/\∀a∈c,∀x,ω a=some x->ω' a=some x
theorem Grew.refl(a:List Nm)(lo:Nat)(F:AM)(ω:Om):Grew a lo F ω F ω:=⟨Le.refl _,fun _ _ h=>.inl h,fun _ _ _ h=>h⟩
theorem Grew.trans{g:List Nm}{lo:Nat}{F F' d:AM}{ω ω' c:Om}(a:Grew g lo F ω F' ω')(b:Grew g lo F' ω' d c):Grew g lo F ω d c :=
 ⟨a.1.trans b.1,fun y x h=>(b.2.1 y x h).elim (a.2.1 y x) .inr,fun i e x j=>b.2.2 i e x (a.2.2 i e x j)⟩
def ycdf(P:Program)(b:List Nm)(lo:Nat)(c:Code)(F:AM)(ω:Om)(f:Fr)(m:Mem)(K:Exit->SS->Prop):Prop :=
 ∃e f' m' a F' ω',ydb P c f m e f' m'/\Conc lo F' ω' a f' m'/\K e a/\f'.n=f.n/\Grew b lo F ω F' ω'
theorem ybgr {Q:List Nm}{X:List FuncId}(B:P.follows .mixedOrders=true) {id:Nat}{ops:Array Oper}{d:Bool}{l:List SOper}{K:Exit->SS->Prop}(A:cmpL P nt ops.toList (ancs ops.toList []).reverse ops.toList 0=some l) (o:d=false\/slotsOk ops.toList (ancs ops.toList []).reverse=true)
 (h:yqb ⟨Ct P,Cm P,ItC P,Q,X⟩ d (K .normal) l 0 [] s) (z:Conc lo F ω s f m) (J:nt<=f.n):ycdf P Q lo (.region id ops d) F ω f m K:=by
 obtain⟨x,es,Y,F',ω',t1,t2,t3,t4,t5,t6⟩:=yyl (an:=(ancs ops.toList []).reverse) (F0:=F) ops.toList 0 l [] [] F ω s f m A h z J (fun p L=>by cases L) (Le.refl _) (fun _ t v W _ U=>by
  obtain⟨u,S,T⟩:=z.fr t v W;exact⟨u,S,yep U T⟩) (fun x b h=>z.wf x b (z.sub x b h)) (fun x b _ p L=>by cases L)
 refine⟨.normal,x.f,x.m,Y,F',ω',?_,t2,t3,t4,t6⟩;cases d with
 | false =>
   have c:=fun rr=>yvh (rr:=rr) t1 z.wf;exact⟨(c none).1,fun O M w a r _ D N H i=>wpIn_region_list ((c r).2 O M w a _ D N H i fun R Z y C j g G=>⟨rfl,y,C,j,g,Df.same G⟩)⟩
 | true =>
   rcases o with q|o
   .cases q
   .obtain⟨_,E⟩:=t5 rfl;have c:=fun rr=>ybjh (rr:=rr) B o t1 (fun k q e d I hk V=>by have:=E k q e d I hk V;simpa using this) z.wf
    exact⟨(c none).1,fun O M w a r _ D N H i=>(c r).2 id O M w a _ D N H i fun R Z y C j g G=>⟨rfl,y,C,j,g,Df.same G⟩⟩
inductive Rounds (P:Program) (b:Code):Nat->Fr->Mem->Exit->Fr->Mem->Prop
 |stop {f m e f' m'} (h:ydb P b f m e f' m') (he:e ≠ .normal):Rounds P b 1 f m e f' m'
 |next {n f m f1 m1 e f' m'} (h:ydb P b f m .normal f1 m1) (hr:Rounds P b n f1 m1 e f' m'):Rounds P b (n+1) f m e f' m'
theorem Rounds.grow{b:Code}{n:Nat}{e:Exit}(h:Rounds P b n f m e f' m'):Grow m m'/\e ≠ .normal:=by
 induction h with
 |stop h c=>exact⟨h.1,c⟩
 |next h _ a=>exact⟨h.1.trans a.1,a.2⟩
theorem Rounds.run{b:Code}{rr:Option Nat}{n:Nat}{f f':Fr}{m m':Mem}{e:Exit}(h:Rounds P b n f m e f' m'):
 ∀φ M w a Q,InR rr w->Rel φ M w->Sub m M->FrR φ f a->yhm φ m.next m'.next->(∀a' o c p,Ev.Good φ M w m m' c p o->FrR c f' a'->Df w o a a'->Q e a' o)->Code.roundsIn (wr rr) 0 P b Q n a w:=by
 induction h with
 | stop d G =>
   intro φ M w a Q j u C B g y;rw[roundsIn_succ];refine wpIn_mono (d.2 φ M w a rr j u C B g) ?_;rintro E a' o ⟨rfl,c,p,i,k,z⟩;exact ymr G (y a' o c p i k z)
 | next d H I =>
   intro φ M w a Q j u C B g y;have l:=H.grow.1;rw[roundsIn_succ];refine wpIn_mono (d.2 φ M w a rr j u C B (g.left l.ext.next)) ?_
   rintro E a' o ⟨rfl,c,p,i,k,z⟩;exact I c p o a' Q (j.step u i.wg) i.rel i.sub k (i.fresh d.1.ext g) fun x D t v r q A=>y x D t v (Ev.Good.trans d.1.ext l.ext l.low i r) q (z.trans i.wg.size i.rel r.wg A)
theorem Rounds.sound{b:Code}{n:Nat}{e:Exit}(h:Rounds P b n f m e f' m'):ydb P (.loop b) f m e f' m' :=
 ⟨h.grow.1,fun r M w a _ p k q o d=>wpIn_loop_rounds n (Rounds.run (b:=b) h r M w a _ p k q o d fun _ _ i j g c l=>⟨rfl,i,j,g,c,l⟩)⟩
theorem ybpv(a:Conc lo F ω s f m){c:Operand}{x:Bool}(h:s.get c=some (.b x)):Conc lo F ω (s.lit c x) f m:=by
 cases c with
 |tmp t=>exact a.lit h
 |_=>exact a
theorem Grew.less{c a:List Nm}(h:∀b∈c,b∈a)(g:Grew a lo F ω F' ω'):Grew c lo F ω F' ω':=⟨g.1,g.2.1,fun b d x e=>g.2.2 b (h b d) x e⟩
theorem ybhq:∀{c:List Nat}{j:List SV}{us:List Value}{s:SS}{f:Fr}{t:SS},Conc lo F ω s f m->puts s c j=some t->RVL F ω j us->(c.all fun p=>decide (p<nt))=true->nt<=f.n ->
 ∃f1,yblq us c f=some f1/\Conc lo F ω t f1 m/\f1.n=f.n
 |[],[],[],s,f,t,i,h,.nil,_,_=>by cases h;exact⟨f,rfl,i,rfl⟩
 | p::c,v::j,u::us,s,f,t,i,h,.cons a b,g,l=>by
   simp only[List.all_cons,zD,decide_eq_true_eq]at g;obtain⟨f1,e,k,w⟩:=yvq (f:=f) (nt:=nt) (d:=some p) (by simpa[yclo]using g.1) l u
   obtain⟨f2,o,q,r⟩:=ybhq (i.put w a) h b g.2 (by rw[k];exact l)
   have e:Fr.putD u p f=some f1:=e;exact⟨f2,by show(Fr.putD u p f).bind _=_;rw[e];exact o,q,by rw[r,k]⟩
 |[],_::_,_,_,_,_,_,h,_,_,_=>by cases h
 |_::_,[],_,_,_,_,_,h,_,_,_=>by cases h
theorem ycsh{l:List Nm}{x:Nm}(h:nmem l x=true):x∈l:=yjb.1 h
theorem Conc.back(k:Conc lo F ω s f m){t:SS}{d:List Nm}(a:Conc lo F' ω' t f' m')(c:allQ (fun p=>cln (nmem d) 5 p.2=true) s.f)(i:Le F F')(l:∀b∈d,∀x,ω b=some x->ω' b=some x):Conc lo F' ω' ⟨s.f,t.o⟩ f m' :=
 ⟨a.wf,a.low,a.nxt,a.sub,a.own,a.dom,a.inj,a.apart,fun x v e=>by
   obtain⟨u,g,h⟩:=k.fr x v e;exact⟨u,g,(ybqw (L:=nmem d) (fun b y j n=>l b (ycsh j) y n) h (ycz c _ (yeh e))).mono i (Om.le_refl _)⟩⟩
theorem ybao{mu:List FuncId}(d3:P.follows .mixedOrders=true):∀(c:Code) (sc:SC),cmp P nt c=some sc->∀(q:List Nm) (K:Exit->SS->Prop) (s:SS) (lo:Nat) (F:AM) (ω:Om) (f:Fr) (m:Mem),vc ⟨Ct P,Cm P,ItC P,q,mu⟩ sc K s->Conc lo F ω s f m->nt<=f.n->ycdf P q lo c F ω f m K:=by
 intro c
 induction c with
 | skip =>
   intro sc h q K s lo F ω f m p j C;cases h
   exact⟨.normal,f,m,s,F,ω,⟨Grow.refl j.wf,fun G M w a r _ hR hs hf _=>wpIn_skip ⟨rfl,G,M,Ev.Good.refl hR hs,hf,Df.same rfl⟩⟩,j,p,rfl,Grew.refl _ _ _ _⟩
 | exit id =>
   intro sc h q K s lo F ω f m p j C;cases h
   exact⟨.exit id,f,m,s,F,ω,⟨Grow.refl j.wf,fun G M w a r _ hR hs hf _=>wpIn_exit ⟨rfl,G,M,Ev.Good.refl hR hs,hf,Df.same rfl⟩⟩,j,p,rfl,Grew.refl _ _ _ _⟩
 | ret =>
   intro sc h q K s lo F ω f m p j C;cases h
   exact⟨.ret,f,m,s,F,ω,⟨Grow.refl j.wf,fun G M w a r _ hR hs hf _=>wpIn_ret ⟨rfl,G,M,Ev.Good.refl hR hs,hf,Df.same rfl⟩⟩,j,p,rfl,Grew.refl _ _ _ _⟩
 | region id g4 d =>
   intro sc h q K s lo F ω f m p j C;obtain⟨l,X,h⟩:=bind_some h;split at h
   .rename_i f6
    cases h
    exact ybgr d3 X f6 p j C
   .cases h
 | seq a b b6 b7 =>
   intro sc h q K s lo F ω f m p j C;obtain⟨sa,X,h⟩:=bind_some h;obtain⟨sb,h2,h⟩:=bind_some h;cases h
   obtain⟨e,f1,U,Z,F1,J,t1,t2,t3,t4,t5⟩:=b6 sa X q _ s lo F ω f m p j C
   by_cases he:e = .normal
   .subst he;obtain⟨e2,f2,m2,s2,F2,A,u1,u2,u3,u4,u5⟩:=b7 sb h2 q K Z lo F1 J f1 U t3 t2 (by rw[t4];exact C)
    exact⟨e2,f2,m2,s2,F2,A,t1.seq u1,u2,u3,by rw[u4,t4],t5.trans u5⟩
   .refine⟨e,f1,U,Z,F1,J,⟨t1.1,fun G M w W r b0 hR hs hf a8=>wpIn_seq (wpIn_mono (t1.2 G M w W r b0 hR hs hf a8) ?_)⟩,t2,by cases e<;>first|exact absurd rfl he|exact t3,t4,t5⟩
    intro e' g3 w' L;exact ymr (by rw[L.1];exact he) L
 | cond c a b b6 b7 =>
   intro sc h q K s lo F ω f m p j C;obtain⟨sa,X,h⟩:=bind_some h;obtain⟨sb,h2,h⟩:=bind_some h;cases h
   change ycek (s.get c) c s (vc ⟨Ct P,Cm P,ItC P,q,mu⟩ sa K) (vc ⟨Ct P,Cm P,ItC P,q,mu⟩ sb K)at p
   unfold ycek at p;split at p
   .rename_i x hx
    obtain⟨u,k1,k2⟩:=j.get hx;cases k2.bool_inv
    have d7:∀z:Code,ycdf P q lo z F ω f m K->(if x then a else b)=z->ycdf P q lo (.cond c a b) F ω f m K:=by
     rintro z ⟨e,f1,U,Z,F1,J,t1,t2,t3,t4,t5⟩ he;refine⟨e,f1,U,Z,F1,J,⟨t1.1,fun G M w W r b0 hR hs hf a8=>wpIn_cond (t:=x) ?_ (by rw[he];exact t1.2 G M w W r b0 hR hs hf a8)⟩,t2,t3,t4,t5⟩
     exact((ykf (fun t v _ ht=>hf.get t v ht) k1).bool_iff x).2 rfl
    cases x with
    |true=>exact d7 a (b6 sa X q K _ lo F ω f m (p.1 rfl) (ybpv j hx) C) rfl
    |false=>exact d7 b (b7 sb h2 q K _ lo F ω f m (p.2 rfl) (ybpv j hx) C) rfl
   .cases p
 | block id b ih =>
   intro sc h q K s lo F ω f m p j C;obtain⟨sb,X,h⟩:=bind_some h;cases h
   obtain⟨e,f1,U,Z,F1,J,t1,t2,t3,t4,t5⟩:=ih sb X q _ s lo F ω f m p j C
   have out:∀e',(∀G M w a W w',ycol G M w m e f1 U a e W w'->Exit.inBlock id (ycol G M w m e' f1 U a) e W w')->K e' Z->ycdf P q lo (.block id b) F ω f m K:=by
    intro e' hh hk;refine⟨e',f1,U,Z,F1,J,⟨t1.1,fun G M w a r b0 hR hs hf a8=>wpIn_block (wpIn_mono (t1.2 G M w a r b0 hR hs hf a8) ?_)⟩,t2,hk,t4,t5⟩;intro e2 W w' L;have e6:=L.1;subst e6;exact hh G M w a W w' L
   cases e with
   | exit i =>
     change (if i=id then K .normal Z else K (.exit i) Z)at t3
     by_cases hi:i=id
     .subst hi;rw[if_pos rfl]at t3;exact out .normal (fun G M w a W w' L=>by simp only[Exit.inBlock,if_true];exact⟨rfl,L.2⟩) t3
     .rw[if_neg hi]at t3;exact out (.exit i) (fun G M w a W w' L=>by simp only[Exit.inBlock,if_neg hi];exact L) t3
   |normal=>exact out .normal (fun G M w a W w' L=>L) t3
   |ret=>exact out .ret (fun G M w a W w' L=>L) t3
   |_=>exact out _ (fun G M w a W w' L=>L) t3
 | loop b ih =>
   intro sc h q K s lo F ω f m p j C;obtain⟨sb,X,h⟩:=bind_some h;cases h
   obtain⟨I,⟨n0,t0,a0,c7⟩,c6⟩:=p
   have b8:∀n t F ω f m,I n t->Conc lo F ω t f m->nt<=f.n->∃N e f' m' V F' ω',Rounds P b N f m e f' m'/\Conc lo F' ω' V f' m'/\K e V/\f'.n=f.n/\Grew q lo F ω F' ω':=by
    intro n
    induction n using Nat.strongRecOn with
    | _ n g0 =>
      intro t F ω f m hI j C;obtain⟨e,f1,U,Z,F1,J,t1,t2,t3,t4,t5⟩:=ih sb X q _ t lo F ω f m (c6 n t hI) j C
      by_cases he:e = .normal
      .subst he;obtain⟨n',u,O,d8,c8⟩:=t3;obtain⟨A,c2,w1,w2,R,w3⟩:=c8 lo F1 J f1 U t2;obtain⟨N,e2,f2,m2,s2,F2,c9,r1,r2,r3,r4,r5⟩:=g0 n' O u c2 A f1 U d8 R (by rw[t4];exact C)
       exact⟨N+1,e2,f2,m2,s2,F2,c9,.next t1 r1,r2,r3,by rw[r4,t4],t5.trans (Grew.trans ⟨w1,w2,w3⟩ r5)⟩
      .exact⟨1,e,f1,U,Z,F1,J,.stop t1 he,t2,by cases e<;>first|exact absurd rfl he|exact t3,t4,t5⟩
   obtain⟨A,c2,w1,w2,R,w3⟩:=c7 lo F ω f m j;obtain⟨N,e,f',m',V,F',ω',r1,r2,r3,r4,r5⟩:=b8 n0 t0 c2 A f m a0 R C;exact⟨e,f',m',V,F',ω',r1.sound,r2,r3,r4,Grew.trans ⟨w1,w2,w3⟩ r5⟩
 | rangeFunc gx ps a b b6 b7 =>
   intro sc h q K s lo F ω f m p j C;obtain⟨sa,X,h⟩:=bind_some h;obtain⟨sb,h2,h⟩:=bind_some h;split at h
   .rename_i e3
    cases h
    obtain⟨Y,I,g,d0,S,hit,⟨f0,c4⟩,⟨t0,a0,c7⟩,d2,a9,b9,hend⟩:=p;obtain⟨A,F2,w1,w2,R,w3⟩:=c7 lo F ω f m j;obtain⟨u,f7,f8⟩:=R.get (d2 t0 a0)
    obtain⟨B,rfl,hB⟩:∃B:List Value,u = .func (.func g) #[] B.toArray/\RVL F2 A d0 B:=by
     cases f8 with
     |fn X h2=>cases X;exact⟨_,rfl,h2⟩
    obtain⟨T,hT,c3,a6⟩:=hit lo F2 A t0 f m B R hB (a9 0 t0 a0).1
    have b8:∀d k t F' ω' m',S.n-k=d->k<=S.n->I k t->Conc lo F' ω' t f m'->Le F2 F'->(∀E∈Y,∀x,A E=some x->ω' E=some x) ->
     ∃e H V Q y,RRounds P f ps.toList a b T k m' e H/\Conc lo Q y V f H/\K e V/\Grew Y lo F' ω' Q y:=by
     intro d
     induction d with
     | zero =>
       intro k t F' ω' m' hd hk hI D hF ho;obtain rfl:k=S.n:=by omega
       have L:=(a6 F' ω' t f m' _ hF (fun E hb=>ho E (c4 E hb)) D (zI _) (a9 _ t hI).1).1;refine⟨.normal,m',t,F',ω',?_,D,hend t hI,Grew.refl _ _ _ _⟩;rw[<-c3]at L ⊢;exact .done L
     | succ d f9 =>
       intro k t F' ω' m' hd hk hI D hF ho;have O:k<S.n:=by omega
       obtain⟨hown,e4⟩:=a9 k t hI;obtain⟨c1,e8⟩:=a6 F' ω' t f m' k hF (fun E hb=>ho E (c4 E hb)) D hk hown;obtain⟨e7,_⟩:=e8 O;obtain⟨t1,d6,f5⟩:=b9 k t hI O;obtain⟨f1,q1,q2,q3⟩:=ybhq D d6 e7 e3 C;obtain⟨e1,f3,U,Z,F3,c9,a1,a2,a3,a4,a5⟩:=b6 sa X Y _ t1 lo F' ω' f1 m' f5 q2 (by rw[q3];exact C)
       have e5:e1 = .normal:=by cases e1<;>first|rfl|exact a3.elim
       subst e5;obtain⟨e2,f4,m2,s2,F4,c0,b1,b2,b3,b4,b5⟩:=b7 sb h2 Y _ Z lo F3 c9 f3 U a3 a2 (by rw[a4,q3];exact C)
       have hG:=a5.trans b5;have a7:=D.back b2 e4 hG.1 hG.2.2
       have stop:(e2 = .ret\/∃id,e2 = .exit id)->K e2 ⟨t.f,s2.o⟩->∃e H V Q y,RRounds P f ps.toList a b T k m' e H/\Conc lo Q y V f H/\K e V/\Grew Y lo F' ω' Q y:=fun he hK =>
        ⟨e2,m2,⟨t.f,s2.o⟩,F4,c0,.stop (by rw[c3];exact O) c1 q1 a1 he b1,a7,hK,hG⟩
       cases e2 with
       | normal =>
         obtain⟨e9,u,d9,c8⟩:=b3;have d1:Le F2 F4:=hF.trans hG.1;have d5:∀E∈Y,∀x,A E=some x->c0 E=some x:=fun E hb x hx=>hG.2.2 E hb x (ho E hb x hx);obtain⟨c5,d4⟩:=a6 F4 c0 ⟨t.f,s2.o⟩ f m2 k d1 (fun E hb=>d5 E (c4 E hb)) a7 hk e9;obtain⟨g1,F5,v1,v2,e0,v3⟩:=c8 lo F4 c0 f _ (d4 O).2;obtain⟨e,H,V,F6,g2,r1,r2,r3,r4⟩:=f9 (k+1) u F5 g1 _ (by omega) O d9 e0 (d1.trans v1) (fun E hb x hx=>v3 E hb x (d5 E hb x hx))
         exact⟨e,H,V,F6,g2,.next (by rw[c3];exact O) c1 q1 a1 b1 c5 r1,r2,r3,hG.trans (Grew.trans ⟨v1,v2,v3⟩ r4)⟩
       |ret=>exact stop (.inl rfl) b3
       |exit id=>exact stop (.inr ⟨id,rfl⟩) b3
       |_=>exact b3.elim
    obtain⟨e,H,V,Q,y,r1,r2,r3,r4⟩:=b8 _ 0 t0 F2 A m rfl (zAE _) a0 R (Le.refl _) (fun _ _ _ h=>h);exact⟨e,f,H,V,Q,y,ycjw hT f7 j.wf r1,r2,r3,rfl,Grew.trans ⟨w1,w2,w3⟩ (r4.less f0)⟩
   .cases h
 |_=>intro sc h q K s lo F ω f m p;cases h;exact p.elim
end
end Sh
end
section
namespace Sh
open Go Ev
inductive SR where
 |t (n:Nat)
 |c (a:Nat) (ag:Bool) (n:Nat)
noncomputable def cmpR(P:Program):List ResultVar->Option (List SR)
 |[]=>some []
 |.tmp t::l=>(cmpR P l).bind fun r=>some (.t t::r)
 |.cell a t::l=>(P.underlying t).bind fun d=>(P.info? t).bind fun i=>(cmpR P l).bind fun r=>some (.c a (isAggD d) i.size::r)
def resX(s:SS):List SR->(List SV->Prop)->Prop
 |[],K=>K []
 | .t n::l,K=>match look s.f n with
   |some v=>resX s l fun b=>K (v::b)
   |none=>False
 | .c a ag n::l,K=>match look s.f a with
   | some p=>(match yyx s ag n p with
     |some r=>r.c/\resX s l fun b=>K (r.v::b)
     |none=>False)
   |none=>False
def yjd:List SV->SV
 |[v]=>v
 |vs=>.tp vs
def retK(b:List SR)(Q:SV->Prop):Exit->SS->Prop
 |.normal,s=>resX s b fun a=>vok s.o 5 (yjd a)/\Q (view s.o 5 (yjd a))
 |.ret,s=>resX s b fun a=>vok s.o 5 (yjd a)/\Q (view s.o 5 (yjd a))
 |_,_=>False
def ygo(b:List Nm)(s:SS)(Q:SV->Own->Prop)(v:SV):Prop :=
 ∃r a,Weak b ⟨[(0,v)],s.o⟩ ⟨[(0,r)],a⟩/\(cln (live a) 5 r=true/\allQ (fun p=>ybz (live a) p.2) a/\allQ (fun c=>live a c=true) b)/\Q r a
def retM(c:List SR)(b:List Nm)(Q:SV->Own->Prop):Exit->SS->Prop
 |.normal,s=>resX s c fun a=>ygo b s Q (yjd a)
 |.ret,s=>resX s c fun a=>ygo b s Q (yjd a)
 |_,_=>False
section
variable {P:Program}{lo nt:Nat}{F F':AM}{ω ω':Om}{s:SS}{f f':Fr}{m m':Mem}
theorem ybdo (D:Conc lo F ω s f m):∀{l:List ResultVar}{O:List SR}{K:List SV->Prop},cmpR P l=some O->resX s O K->∃H us,resA P m f l=some us/\RVL F ω H us/\K H
 |[],O,K,h,hk=>by cases h;exact⟨[],[],rfl,.nil,hk⟩
 | .tmp t::l,O,K,h,hk=>by
   obtain⟨r,J,h⟩:=bind_some h;cases h
   unfold resX at hk;split at hk
   .rename_i v M
    obtain⟨H,us,V,X,Z⟩:=ybdo D J hk;obtain⟨u,R,S⟩:=D.fr t v M;refine⟨v::H,u::us,?_,.cons S X,Z⟩;unfold resA;rw[R,V]
   .cases hk
 | .cell a t :: l,O,K,h,hk=>by
   obtain⟨d,J,h⟩:=bind_some h;obtain⟨i,h2,h⟩:=bind_some h;obtain⟨r,h3,h⟩:=bind_some h;cases h
   unfold resX at hk;split at hk
   .rename_i p hp
    split at hk
    .rename_i q c
     obtain⟨A,hk⟩:=hk;obtain⟨H,us,V,X,Z⟩:=ybdo D h3 hk;obtain⟨u,R,S⟩:=D.fr a p hp
     let o : Oper := ⟨none, .load t (.tmp a), 0, "", #[], none⟩
     obtain⟨r0,ω',k1,k2,k3,k4,_⟩:=ycto (P:=P) (o:=o) D rfl J h2 (x:=.tmp a) hp c A;have e:ob (f.get (.tmp a)) (evLoad P t m)=some r0:=k1;have a0:f.get (.tmp a)=some u:=R;rw[a0]at e
     have hu:∃C w,u = .pointer (some C)/\loadA P m t C=some w/\r0=⟨w,.none,[C.block]⟩:=by
      change evLoad P t m u=some r0 at e
      unfold evLoad at e;split at e
      .rename_i C
       obtain⟨w,Q,w2⟩:=yg e;cases w2
       exact⟨C,w,rfl,Q,rfl⟩
      .cases e
     obtain⟨C,w,rfl,Q,rfl⟩:=hu
     have a2 : RV F ω q.v w:=by
      unfold yyx at c;split at c
      .split at c
       .rename_i v M
        cases c
        obtain⟨bk,y,T,N,e',zz,L,E,q1,q2,q3,q4,_⟩:=S.rf_inv;cases E
        obtain⟨z1,z2⟩:=ywt M q4;obtain⟨w',g,G⟩:=yus (F:=F) J h2 (D.sub _ _ q1) (q:=y) q2 q3 z1 z2;rw[Nat.add_zero]at g;rw[Q]at g;cases g
        exact G.mono (Le.refl _) (yyk _)
       .cases c
      .rename_i β I j
       split at c
       .rename_i b hb
        split at c
        .split at c
         .rename_i v M
          cases c
          obtain⟨k,z,a1,E⟩:=S.pt_inv;cases E
          obtain⟨rfl,T,L,W,Y⟩:=D.ownAt hb a1 (.inl (by have B:I<b.n:=A;omega))
          obtain⟨l1,l2,_,l3⟩:=Y I A;obtain⟨z1,z2⟩:=ywt M l2;have B:I<b.n:=A;obtain⟨w',g,G⟩:=yus (F:=F) J h2 W (q:=I*b.z) (L:=L I) (by rw[l1];have:=ylg (z:=b.z) B;omega) (fun y hy=>l3 y (by omega)) z1 z2
          rw[Q]at g;cases g
          exact G
         .cases c
        .cases c
       .cases c
      .cases c
     refine⟨q.v::H,w::us,?_,.cons a2 X,Z⟩;unfold resA;have U:f.t.get a=some (.pointer (some C)):=R;rw[U,V];simp only;rw[Q]
    .cases hk
   .cases hk
theorem ybpf{e:List SV}{us:List Value}(h:RVL F ω e us):RV F ω (yjd e) (oneOrTuple us):=by
 cases h with
 |nil=>exact .tp .nil
 | cons a b =>
   cases b with
   |nil=>exact a
   |cons c d=>exact .tp (.cons a (.cons c d))
theorem yctu(t:yxq P){g:FuncId}{fn:Func}{c:Code}(z:P.funcs[g]?=some fn)(y:fn.body=some c){us ws:List Value}{e:Exit}{j:Mem}(G:e = .normal\/e = .ret)(h:ydb P c ⟨zAF us.length fn.ntmps,tOf us⟩ (enterM m) e f' j)(H:resA P j f' fn.results.toList=some ws):yca P (.call g us m) (.call (oneOrTuple ws) j):=by
 intro L;refine⟨⟨h.1.ext.next,h.1.ext.dom,h.1.ext.old,h.1.ext.wf⟩,fun A M w d D I J o=>.inl ⟨ydn t z y _ _,?_⟩⟩
 have v:Calls P g d.toArray w (fun e x=>∃k,e = .returned k/\∃b i,Ev.Good A M w (enterM m) j b i x/\VR b (oneOrTuple ws) k):=by
  refine callsIn_wide.1 (callsIn_of_wp_marks (n:=0) z y trivial ?_);refine wpIn_mono (h.2 A M w _ none (InR.none _) D I (yvc J fn.ntmps) o) ?_;rintro C B x ⟨rfl,b,i,a,l,E⟩;obtain⟨K,r,q⟩:=E;have p:=yta a l H q;rw[show K=B.defers by rw[r];simp]at p
  rcases G with rfl|rfl
  .exact p
  .exact p
 refine v.mono ?_;rintro C x ⟨k,rfl,b,i,a,u⟩;exact⟨k,rfl,b,i,⟨a.le,a.out,a.rel,a.sub,a.frame,a.wg⟩,u⟩
theorem ycqu (N:P.follows .mixedOrders=true) (V:yxq P) {g:FuncId}{fn:Func}{c:Code}{sc:SC}{rs:List SR}(hg:P.funcs[g]?=some fn) (hb:fn.body=some c) (J:cmp P fn.ntmps c=some sc) (W:cmpR P fn.results.toList=some rs)
 {mu:List FuncId}{args:List SV}{Q:SV->Prop}(h:vc ⟨Ct P,Cm P,ItC P,[],mu⟩ sc (retK rs Q) ⟨slots args 0,[]⟩):Ct P g args Q:=by
 classical
 intro G m S hw K B
 have U:Conc m.next G om0 ⟨slots args 0,[]⟩ ⟨zAF S.length fn.ntmps,tOf S⟩ (enterM m):=by
  refine⟨hw,zI _,zI _,K,fun E b h=>(by cases h),fun E _=>rfl,fun E γ k z k' z' h=>(by cases h),fun E k z h=>(by cases h),fun t v hv=>?_⟩
  obtain⟨_,I⟩:=ynb hv;obtain⟨u,h3,h4⟩:=B.get I;exact⟨u,by rw[ycx];simpa using h3,h4⟩
 obtain⟨e,f',r,O,F',ω',t1,t2,t3,t4,t5⟩:=ybao N c sc J _ _ _ m.next G om0 _ (enterM m) h U (zAB _ _)
 have p:(e = .normal\/e = .ret)/\resX O rs fun R=>vok O.o 5 (yjd R)/\Q (view O.o 5 (yjd R)):=by
  cases e with
  |normal=>exact⟨.inl rfl,t3⟩
  |ret=>exact⟨.inr rfl,t3⟩
  |_=>cases t3
 obtain⟨he,p⟩:=p;obtain⟨R,ws,r1,r2,r3,r4⟩:=ybdo t2 W p;have Y:yca P (.call g S m) (.call (oneOrTuple ws) r):=yctu V hg hb he t1 r1;have L:m.next<=r.low:=t2.low
 have j:∀{i x},m.b.get i=some x->i<m.next:=fun {i x} q=>hw i x q
 have X:=ybpf r2;have D:∀H:AM,Le F' H->(∀E k z,ω' E=some (some (k,z))->∀b,r.b.get k=some b->H k=some b)->RV H om0 (view O.o 5 (yjd R)) (oneOrTuple ws):=fun H T I=>yky t2 T I X r3
 .have Z:yca P (.call g S m) (.call (oneOrTuple ws) ⟨r.next,yif m.b r.b,r.low⟩):=by
   intro a0;obtain⟨ext,C⟩:=Y a0
   have d:∀{i x},(yif m.b r.b).get i=some x->m.b.get i=some x\/r.b.get i=some x:=fun {i x} q=>by
    rw[ydw]at q;split at q
    .rename_i y hy;cases q;exact .inl hy
    .exact .inr q
   refine⟨⟨ext.next,fun i b l=>?_,fun i b T I l=>?_,fun i b l=>?_⟩,fun φ M w A hR hs ha hf=>?_⟩
   .rcases d l with q|q
    .exact .inl ⟨b,q⟩
    .exact ext.dom i b q
   .rcases d l with q|q
    .exact q
    .exact ext.old i b T I q
   .rcases d l with q|q
    .exact zG (j q) ext.next
    .exact ext.wf i b q
   .refine(C φ M w A hR hs ha hf).mono ?_;rintro e' w' ⟨v',rfl,a1,M',a,hv⟩;refine⟨v',rfl,a1,M',⟨a.le,a.out,a.rel,fun i b l=>?_,a.frame,a.wg⟩,hv⟩;rcases d l with q|q
    .have hi:=j q;rw[a.frame i (fun z=>by omega) (.inr (zG hi L))]
     exact hs i b q
    .exact a.sub i b q
  have n:∀{i},m.next<=i->m.b.get i=none:=fun {i} q=>by
   cases hh:m.b.get i with
   |none=>rfl
   |some x=>have:=j hh;omega
  refine⟨_,_,view O.o 5 (yjd R),Z,L,fun i b l=>?_,r4,D _ (fun i b l=>?_) (fun E k z hk b l=>?_)⟩
  .show(yif m.b r.b).get i=some b;rw[ydw,l]
  .unfold frsh;rcases t5.2.1 i b l with q|q
   .rw[if_neg (by have:=j (K i b q);omega)];exact q
   .rw[if_pos q];show(yif m.b r.b).get i=some b;rw[ydw,n q];exact t2.sub i b l
  .unfold frsh;have:=(t2.apart E k z hk).2.1;rw[if_pos this];show(yif m.b r.b).get k=some b;rw[ydw,n this];exact l
theorem ycdl (l:P.follows .mixedOrders=true) (A:yxq P) {g:FuncId}{fn:Func}{c:Code}{sc:SC}{H:List SR}(V:P.funcs[g]?=some fn) (T:fn.body=some c) (k:cmp P fn.ntmps c=some sc) (B:cmpR P fn.results.toList=some H)
 {n:List Nm}{X:List FuncId}{o:Own}{args:List SV}{Q:SV->Own->Prop}(h:vc ⟨Ct P,Cm P,ItC P,n,X⟩ sc (retM H n Q) ⟨slots args 0,o⟩):Cm P g n o args Q:=by
 classical
 intro lo G ω f m L i j
 have x:Conc lo G ω ⟨slots args 0,o⟩ ⟨zAF L.length fn.ntmps,tOf L⟩ (enterM m):=by
  refine⟨i.wf,i.nxt,i.nxt,i.sub,i.own,i.dom,i.inj,i.apart,fun t v d=>?_⟩;obtain⟨_,O⟩:=ynb d;obtain⟨u,R,S⟩:=j.get O;exact⟨u,by rw[ycx];simpa using R,S⟩
 obtain⟨e,f',E,I,F',ω',t1,t2,t3,t4,t5⟩:=ybao l c sc k _ _ _ lo G ω _ (enterM m) h x (zAB _ _)
 have b:(e = .normal\/e = .ret)/\resX I H fun p=>ygo n I Q (yjd p):=by
  cases e with
  |normal=>exact⟨.inl rfl,t3⟩
  |ret=>exact⟨.inr rfl,t3⟩
  |_=>cases t3
 obtain⟨U,b⟩:=b;obtain⟨p,M,r1,r2,r,Y,D,z,W⟩:=ybdo t2 B b;have C:=ybpf r2
 have y:Conc lo F' ω' ⟨[(0,yjd p)],I.o⟩ ⟨1,tOf [oneOrTuple M]⟩ E:=⟨t2.wf,t2.low,t2.nxt,t2.sub,t2.own,t2.dom,t2.inj,t2.apart,fun t v d=>by
  have d:(if 0=t then some (yjd p)else none)=some v:=d
  split at d
  .rename_i q;subst q;cases d;exact⟨oneOrTuple M,by rw[ycx];rfl,C⟩
  .cases d⟩
 obtain⟨J,N,w1,w2,a,w3⟩:=D lo F' ω' _ E y;obtain⟨u,K,Z⟩:=a.fr 0 r (by show(if 0=0 then some r else none)=some r;rw[if_pos rfl])
 rw[ycx]at K;cases K
 have w:=t5.trans ⟨w1,w2,w3⟩;exact⟨_,E,r,Y,N,J,yctu A V T U t1 r1,⟨a.wf,a.low,a.nxt,a.sub,a.own,a.dom,a.inj,a.apart,fun t v d=>by cases d⟩,Z,w.1,w.2.1,w.2.2,z,W⟩
end
end Sh
end
section
namespace Sh
open Go Ev
theorem Sim.refl(v:SV):Sim v v:=fun _ _ _ h=>h
theorem ypl(v:SV):Sim v v↔True:=⟨fun _=>trivial,fun _=>Sim.refl v⟩
theorem ycc{k c:IntKind}{a b:Int}:Sim (.i k a) (.i c b)↔k=c/\a=b :=
 ⟨fun h=>by have:=h (fun _=>none) om0 _ .i;cases this;exact⟨rfl,rfl⟩,fun h=>by rw[h.1,h.2];exact Sim.refl _⟩
theorem ygd{a b:Bool}:Sim (.b a) (.b b)↔a=b :=
 ⟨fun h=>by have:=h (fun _=>none) om0 _ .b;cases this;rfl,fun h=>by rw[h];exact Sim.refl _⟩
theorem wk:(∀(c:Type) (p:c->Prop),allQ p []=True)/\(∀(c:Type) (p:c->Prop) (x:c) (l:List c),allQ p (x::l)=(p x/\allQ p l))/\(∀o f,live o f=(lookO o f).isSome)/\(∀(c:Type) (a:c),none.getD a=a)/\(∀(c:Type) (a b:c),(some a).getD b=a)/\(∀v,Sim v v↔True)/\(∀{k e:IntKind}{a b:Int},Sim (.i k a) (.i e b)↔k=e/\a=b)/\(∀{a b:Bool},Sim (.b a) (.b b)↔a=b)/\((0:Nat):Int)=0 :=
 ⟨fun _ _=>rfl,fun _ _ _ _=>rfl,fun _ _=>rfl,fun _ _=>rfl,fun _ _ _=>rfl,ypl,ycc,ygd,rfl⟩
theorem ygf{z n:Nat}{g g':Nat->List SV}(h:∀k,k<n->g k=g' k):Sim (.sl z n g) (.sl z n g'):=by
 intro F v u o;rcases o.sl_inv with⟨rfl,m⟩|⟨q,p,r,T,N,e,t,L,rfl,a,b,c,f,i,j,l⟩
 .exact .sl0 m
 .exact .sl a b c f i (fun k hk=>h k hk▸j k hk) (fun k hk=>h k hk▸l k hk)
theorem ybkp {e:List Nm}(ρ:List (Nat×(Nat->Nm))) (a:List Nat) (c:List Nm) {s t:SS}(g:yzj s.o c) (h:ybjo (rid ρ) a t.o) (i:allQ (ytp (rid ρ) a c t.o s) t.f) (j:allQ (ylz (rid ρ) a c t.o s) t.o)
 (k:allQ (fun b=>live t.o b=true/\a.elem b.1=false/\rid ρ b=b) e):Weak e s t:=WeakBy.weak ⟨g,h,i,j⟩ k
theorem ycut(ρ:List (Nat×(Nat->Nm)))(a:List Nat)(b:List Nm){s t:SS}(c:yzj s.o b)(e:ybjo (rid ρ) a t.o)(g:allQ (ytp (rid ρ) a b t.o s) t.f)(h:allQ (ylz (rid ρ) a b t.o s) t.o):Weak [] s t:=ybkp ρ a b c e g h trivial
theorem ybm(ρ:List (Nat×(Nat->Nm)))(a:List Nat)(b:List Nm){s t:SS}(h:yzj s.o b/\ybjo (rid ρ) a t.o/\allQ (ytp (rid ρ) a b t.o s) t.f/\allQ (ylz (rid ρ) a b t.o s) t.o):Weak [] s t:=ycut ρ a b h.1 h.2.1 h.2.2.1 h.2.2.2
theorem yx{s t:SS}(h:yzj s.o []/\ybjo (rid []) [] t.o/\allQ (ytp (rid []) [] [] t.o s) t.f/\allQ (ylz (rid []) [] [] t.o s) t.o):Weak [] s t:=ybm [] [] [] h
theorem yev{e:List Nm}(ρ:List (Nat×(Nat->Nm)))(a:List Nat)(b:List Nm){s t:SS}(h:(yzj s.o b/\ybjo (rid ρ) a t.o/\allQ (ytp (rid ρ) a b t.o s) t.f/\allQ (ylz (rid ρ) a b t.o s) t.o)/\allQ (fun c=>live t.o c=true/\a.elem c.1=false/\rid ρ c=c) e):Weak e s t:=ybkp ρ a b h.1.1 h.1.2.1 h.1.2.2.1 h.1.2.2.2 h.2
theorem yqn(o:Own):∀(n:Nat) (v:SV),yee [] o n v=v
 |0,_=>rfl
 | n + 1,v=>by
   have e:∀l:List SV,l.map (yee [] o n)=l:=fun l=>by
    induction l with
    |nil=>rfl
    |cons x l f=>rw[zY,yqn o n x,f]
   cases v with
   |ag c=>show SV.ag _=_;rw[e]
   |tp c=>show SV.tp _=_;rw[e]
   |fn g a b=>show SV.fn g _ _=_;rw[e,e]
   |_=>rfl
theorem ybct(o:Own):∀(n:Nat) (v:SV),pok [] o n v↔True
 |0,_=>zAH
 | n + 1,v=>by
   have e:∀l:List SV,allP (pok [] o n) l:=fun l=>by
    induction l with
    |nil=>trivial
    |cons x l m=>exact⟨(ybct o n x).2 trivial,m⟩
   cases v with
   |ag c=>exact⟨fun _=>trivial,fun _=>e _⟩
   |tp c=>exact⟨fun _=>trivial,fun _=>e _⟩
   |fn g a b=>exact⟨fun _=>trivial,fun _=>⟨e _,e _⟩⟩
   |pt f i j=>exact⟨fun _=>trivial,fun _ h=>by cases h⟩
   |os f p k c=>exact⟨fun _=>trivial,fun _ h=>by cases h⟩
   |mr f=>exact⟨fun _=>trivial,fun _ h=>by cases h⟩
   |_=>exact zAH
theorem ycwb{n:Nat}(a:List Nm)(o:Own)(k:IntKind)(x:Int):yee a o (n+1) (.i k x)=(.i k x):=rfl
theorem ydlf{n:Nat}(a:List Nm)(o:Own)(k:IntKind)(x:Int):pok a o (n+1) (.i k x)=True:=rfl
theorem ycwh{n:Nat}(a:List Nm)(o:Own)(x:Bool):yee a o (n+1) (.b x)=(.b x):=rfl
theorem ydos{n:Nat}(a:List Nm)(o:Own)(x:Bool):pok a o (n+1) (.b x)=True:=rfl
theorem ycyz{n:Nat}(b:List Nm)(o:Own)(x:Value):yee b o (n+1) (.a x)=(.a x):=rfl
theorem ydkf{n:Nat}(b:List Nm)(o:Own)(x:Value):pok b o (n+1) (.a x)=True:=rfl
theorem ycqi{n:Nat}(a:List Nm)(o:Own)(z k:Nat)(g:Nat->List SV):yee a o (n+1) (.sl z k g)=(.sl z k g):=rfl
theorem ydfy{n:Nat}(a:List Nm)(o:Own)(z k:Nat)(g:Nat->List SV):pok a o (n+1) (.sl z k g)=True:=rfl
theorem ycpw{n:Nat}(a:List Nm)(o:Own)(c:List SV):yee a o (n+1) (.rf c)=(.rf c):=rfl
theorem ydcp{n:Nat}(a:List Nm)(o:Own)(c:List SV):pok a o (n+1) (.rf c)=True:=rfl
theorem ycph{n:Nat}(a:List Nm)(o:Own)(Q:(Nat->Option ABlk)->Value->Prop)(v:SV):yee a o (n+1) (.ex Q v)=(.ex Q v):=rfl
theorem ydfb{n:Nat}(a:List Nm)(o:Own)(Q:(Nat->Option ABlk)->Value->Prop)(v:SV):pok a o (n+1) (.ex Q v)=True:=rfl
theorem ycpm{n:Nat}(a:List Nm)(o:Own)(c:List SV):yee a o (n+1) (.ag c) = .ag (c.map (yee a o n)):=rfl
theorem ydhk{n:Nat}(a:List Nm)(o:Own)(c:List SV):pok a o (n+1) (.ag c)=allP (pok a o n) c:=rfl
theorem yckv{n:Nat}(a:List Nm)(o:Own)(c:List SV):yee a o (n+1) (.tp c) = .tp (c.map (yee a o n)):=rfl
theorem ydhc{n:Nat}(a:List Nm)(o:Own)(c:List SV):pok a o (n+1) (.tp c)=allP (pok a o n) c:=rfl
theorem ycoi{n:Nat}(c:List Nm)(o:Own)(g:FuncId)(a b:List SV):yee c o (n+1) (.fn g a b) = .fn g (a.map (yee c o n)) (b.map (yee c o n)):=rfl
theorem yddb{n:Nat}(c:List Nm)(o:Own)(g:FuncId)(a b:List SV):pok c o (n+1) (.fn g a b)=(allP (pok c o n) a/\allP (pok c o n) b):=rfl
theorem yctj{n:Nat}(c:List Nm)(o:Own)(a:Nm)(i j:Nat):yee c o (n+1) (.pt a i j)=(if nmem c a=true then(match lookO o a with|some b=>.rf ((b.g i).drop j)|none=>.bad)else .pt a i j):=rfl
theorem yddk{n:Nat}(c:List Nm)(o:Own)(a:Nm)(i j:Nat):pok c o (n+1) (.pt a i j)=(nmem c a=true->(match lookO o a with|some b=>i<b.n/\j<=b.z|none=>False)):=rfl
theorem ycpy{n:Nat}(c:List Nm)(o:Own)(a:Nm)(p k:Nat)(ap:Bool):yee c o (n+1) (.os a p k ap)=(if nmem c a=true then(match lookO o a with|some b=>.sl b.z k (fun q=>b.g (p+q))|none=>.bad)else .os a p k ap):=rfl
theorem ydir{n:Nat}(c:List Nm)(o:Own)(a:Nm)(p k:Nat)(ap:Bool):pok c o (n+1) (.os a p k ap)=(nmem c a=true->(match lookO o a with|some b=>p+k<=b.n|none=>False)):=rfl
theorem ydab(k:IntKind)(x:Int):SV.cells (.i k x)=[(.i k x)]:=rfl
theorem ycuo(x:Bool):SV.cells (.b x)=[(.b x)]:=rfl
theorem ydbc(x:Value):SV.cells (.a x)=[(.a x)]:=rfl
theorem ybdg(z k:Nat)(g:Nat->List SV):SV.cells (.sl z k g)=[(.sl z k g)]:=rfl
theorem yclq(c:List SV):SV.cells (.rf c)=[(.rf c)]:=rfl
theorem ycka(Q:(Nat->Option ABlk)->Value->Prop)(v:SV):SV.cells (.ex Q v)=[(.ex Q v)]:=rfl
theorem ycok(c:List SV):SV.cells (.tp c)=[(.tp c)]:=rfl
theorem ycti(g:FuncId)(a b:List SV):SV.cells (.fn g a b)=[(.fn g a b)]:=rfl
theorem ycjv(a:Nm)(i j:Nat):SV.cells (.pt a i j)=[(.pt a i j)]:=rfl
theorem ycsk(a:Nm)(p k:Nat)(ap:Bool):SV.cells (.os a p k ap)=[(.os a p k ap)]:=rfl
theorem ycwd{e:Nat}(h:e<1000000000):mapE e=false:=decide_eq_false (by omega)
theorem ycwl:mapE CU=true:=rfl
theorem ycmh{n:Nat}(b:List Nm)(o:Own)(a:Nm):yee b o (n+1) (.mr a) = .mr a:=rfl
theorem ydjb{n:Nat}(a:List Nm)(o:Own)(b:Nm):pok a o (n+1) (.mr b)=(nmem a b=true->False):=rfl
theorem ycsj(a:Nm):SV.cells (.mr a)=[(.mr a)]:=rfl
theorem ycpe(c:List SV):SV.cells (.ag c)=c:=rfl
theorem ybk {g:List Nm}{b:(Exit->SS->Prop)->SS->Prop}{K:Exit->SS->Prop}{s:SS}{σ:Type}(st:σ->SS) (a:σ->Prop) (f:σ->Nat) (e:σ) (h:a e) (l:Weak g s (st e))
 (c:∀x,a x->b (ybud g (fun n t=>∃y,a y/\f y=n/\t=st y) (f x) K) (st x)):ycwc g b K s :=
 ⟨fun n t=>∃y,a y/\f y=n/\t=st y,⟨f e,st e,⟨e,h,rfl,rfl⟩,l⟩,fun n t ⟨y,i,j,k⟩=>by subst j k;exact c y i⟩
theorem ybb{c:List Nm}{σ:Type}{st:σ->SS}{a:σ->Prop}{b:σ->Nat}{n:Nat}{K:Exit->SS->Prop}{t:SS}(y:σ)(e:a y)(f:b y<n)(g:Weak c t (st y)):ybud c (fun n t=>∃y,a y/\b y=n/\t=st y) n K .normal t :=
 ⟨b y,st y,f,⟨y,e,rfl,rfl⟩,g⟩
theorem ybw{b:List Nm}{σ:Type}{st:σ->SS}{a:σ->Prop}{c:σ->Nat}{n:Nat}{K:Exit->SS->Prop}{t:SS}(y:σ)(g:Weak b t (st y))(e:a y:=by omega)(f:c y<n:=by omega):ybud b (fun n t=>∃y,a y/\c y=n/\t=st y) n K .normal t:=ybb y e f g
def Returns(P:Program)(g:FuncId)(args:List SV)(r:SV):Prop:=Ct P g args (· = r)
theorem Returns.of{P:Program}{g:FuncId}{args:List SV}{r:SV}(h:Ct P g args fun x=>Sim x r):Returns P g args r:=fun G m l f i j=>by
 obtain⟨v,k,x,a,b,c,d,e⟩:=h G m l f i j;exact⟨v,k,r,a,b,c,rfl,d _ _ _ e⟩
theorem yvf{z:Nat}{g:Nat->List SV}:Sim (.a (.slice none 0 0)) (.sl z 0 g):=fun F b u h=>by cases h;exact .sl0 (.inl rfl)
theorem Returns.use{P:Program}{g:FuncId}{args:List SV}{r:SV}{Q:SV->Prop}(h:Returns P g args r)(a:Q r):Ct P g args Q:=h.mono fun _ e=>e▸a
def SimL:List SV->List SV->Prop
 |[],[]=>True
 |v::l,w::k=>Sim v w/\SimL l k
 |_,_=>False
theorem SimL.rvl{F:AM}{ω:Om}:∀{l k:List SV}{L:List Value},SimL l k->RVL F ω l L->RVL F ω k L
 |[],[],_,_,.nil=>.nil
 |_::_,_::_,_,h,.cons a b=>.cons (h.1 _ _ _ a) (h.2.rvl b)
 |[],_::_,_,h,_=>h.elim
 |_::_,[],_,h,_=>h.elim
theorem ydgq{a b:List SV}(h:SimL a b)(j:b.all one1=true):Sim (.rf a) (.rf b):=fun F n u k=>by
 obtain⟨l,p,T,N,e,m,L,rfl,c,f,g,i,_⟩:=k.rf_inv;exact .rf c f g (h.rvl i) j
theorem yie{a b:List SV}(h:SimL a b):Sim (.ag a) (.ag b):=fun F f u e=>by
 obtain⟨L,rfl,c⟩:=e.ag_inv;exact .ag (h.rvl c)
theorem ybac{a b:List SV}(h:SimL a b):Sim (.tp a) (.tp b):=fun F f u e=>by
 obtain⟨L,rfl,c⟩:=e.tp_inv;exact .tp (h.rvl c)
theorem yel{z n:Nat}{g g':Nat->List SV}(h:∀k,k<n->SimL (g k) (g' k)/\(g' k).all one1=true):Sim (.sl z n g) (.sl z n g'):=by
 intro F v u m;rcases m.sl_inv with⟨rfl,l⟩|⟨o,p,q,T,N,e,t,L,rfl,a,b,c,f,i,j,r⟩
 .exact .sl0 l
 .exact .sl a b c f i (fun k hk=>(h k hk).1.rvl (j k hk)) (fun k hk=>(h k hk).2)
theorem Ct.simL{P:Program}{g:FuncId}{a bs:List SV}{Q:SV->Prop}(h:Ct P g bs Q)(f:SimL a bs):Ct P g a Q:=fun G m i b c e=>h G m i b c (f.rvl e)
theorem Returns.useS{P:Program}{g:FuncId}{a bs:List SV}{r:SV}{Q:SV->Prop}(h:Returns P g bs r)(c:SimL a bs)(b:Q r):Ct P g a Q:=(h.use b).simL c
theorem ydk {P:Program}{t:List Nm}{H:List FuncId}{d:Bool}{l:List (Nat×SRec)}{s:SS}{i an:Nat}{e:Option Nat}{n:List (Nat×SRec)->SS->Prop}{g:FuncId}{xs:List SV}{c:List Nm}{o:Own}{j:List SV}{Q:SV->Own->Prop}
 (k:Cm P g c o j Q) (ρ:List (Nat×Nat)) (a:Nat) (keep b:List Nat)
 (h:(xs.length=j.length/\ybjo (to1 ρ) [] o/\allQ (ytp (to1 ρ) [] [] o ⟨slots xs 0,s.o⟩) (slots j 0)/\allQ (ylz (to1 ρ) [] [] o ⟨slots xs 0,s.o⟩) o/\allQ (fun p=>(look ρ p.1).isSome=true) o)/\yczn d an o l=true /\
   (allQ (fun m=>live o m=true) c/\allQ (fun p=>b.elem p.2=false) ρ/\allQ (fun p=>cln (okN ρ c b) 5 p.2=true) (ydp s.f keep)/\allQ (fun p=>ybz (okN ρ c b) p.2) (yda s.o b)/\allQ (fun m=>okN ρ c b m=true) t))
 (A:∀r q,Q r q->ykz d l s i e n ρ a keep b r q):ycoj ⟨Ct P,Cm P,ItC P,t,H⟩ d l s i an e n g xs:=by
 obtain⟨⟨u,v,w,x,y⟩,z,B,D,E,F,G⟩:=h;exact⟨ρ,a,keep,b,c,o,j,u,⟨trivial,v,w,x⟩,ycz y,z,⟨B,ycz D,E,F,G⟩,k.mono A⟩
section
variable (C:CC) (K:Exit->SS->Prop) (s:SS)
def vN(b:SC):SS->Prop:=vc C b K
theorem ydln(b:SC):vN C K b s=vc C b K s:=rfl
theorem yczh:vc C .skip K s=K .normal s:=rfl
theorem ydcs(a b:SC):vc C (.seq a b) K s=vc C a (ybzm (vN C K b) K) s:=rfl
theorem ycwm(c:Operand)(a b:SC):vc C (.cond c a b) K s=ycek (s.get c) c s (vN C K a) (vN C K b):=rfl
theorem ycpu(id:Nat)(b:SC):vc C (.block id b) K s=vc C b (ybjx id K) s:=rfl
theorem ydaj(b:SC):vc C (.loop b) K s=ycwc C.pr (vc C b) K s:=rfl
theorem ycnt(g:Operand)(c:List Nat)(a b:SC):vc C (.range g c a b) K s=ycgo C g c (vcR a) (vcR b) K s:=rfl
theorem ycxm(id:Nat):vc C (.exit id) K s=K (.exit id) s:=rfl
theorem ydlw:vc C .no K s=False:=rfl
theorem ydbf:vc C .ret K s=K .ret s:=rfl
theorem ydid(d:Bool)(ops:List SOper):vc C (.reg d ops) K s=yqb C d (K .normal) ops 0 [] s:=rfl
theorem ybhl(n:SS->Prop):ybzm n K .normal s=n s:=rfl
theorem ybve(n:SS->Prop)(i:Nat):ybzm n K (.exit i) s=K (.exit i) s:=rfl
theorem ycjg(n:SS->Prop):ybzm n K .ret s=K .ret s:=rfl
theorem ybiw(n:SS->Prop):ycyy n .normal s=n s:=rfl
theorem ybdf(t:SS)(a:Own->Prop):ybka K t a .normal s=a s.o:=rfl
theorem ybvl(t:SS)(a:Own->Prop):ybka K t a .ret s=K .ret ⟨t.f,s.o⟩:=rfl
theorem ybnj(t:SS)(a:Own->Prop)(id:Nat):ybka K t a (.exit id) s=K (.exit id) ⟨t.f,s.o⟩:=rfl
theorem ybea(id:Nat):ybjx id K .normal s=K .normal s:=rfl
theorem ybkv(id i:Nat):ybjx id K (.exit i) s=if i=id then K .normal s else K (.exit i) s:=rfl
theorem ybsp(id:Nat):ybjx id K .ret s=K .ret s:=rfl
theorem ybst(a:List Nm)(I:Nat->SS->Prop)(n i:Nat):ybud a I n K (.exit i) s=K (.exit i) s:=rfl
theorem ycat(a:List Nm)(I:Nat->SS->Prop)(n:Nat):ybud a I n K .ret s=K .ret s:=rfl
theorem ybnp(a:List SR)(Q:SV->Prop):retK a Q .normal s=resX s a fun b=>vok s.o 5 (yjd b)/\Q (view s.o 5 (yjd b)):=rfl
theorem ybmq(b:List SR)(a:List Nm)(Q:SV->Own->Prop):retM b a Q .normal s=resX s b fun c=>ygo a s Q (yjd c):=rfl
theorem ycsc(b:List SR)(a:List Nm)(Q:SV->Own->Prop):retM b a Q .ret s=resX s b fun c=>ygo a s Q (yjd c):=rfl
theorem ycsx(a:List SR)(Q:SV->Prop):retK a Q .ret s=resX s a fun b=>vok s.o 5 (yjd b)/\Q (view s.o 5 (yjd b)):=rfl
end
section
variable (C:CC) (d:Bool) (K:SS->Prop)
def vO(l:List SOper)(i:Nat):List (Nat×SRec)->SS->Prop:=yqb C d K l i
theorem ydnn(l:List SOper)(i:Nat)(a:List (Nat×SRec))(s:SS):vO C d K l i a s=yqb C d K l i a s:=rfl
theorem ycys(i:Nat)(a:List (Nat×SRec))(s:SS):yqb C d K [] i a s=K s:=rfl
theorem yclr(b:SOp)(a:Option Nat)(an:Nat)(l:List SOper)(i:Nat)(c:List (Nat×SRec))(s:SS):yqb C d K (⟨b,a,none,an⟩::l) i c s=runO C d c s i an a (vO C d K l (i+1)) b:=rfl
theorem ycjb(b:SOp)(a:Option Nat)(t:Nat)(w:Bool)(an:Nat)(l:List SOper)(i:Nat)(c:List (Nat×SRec))(s:SS):yqb C d K (⟨b,a,some (t,w),an⟩::l) i c s=yxa C d c s i an a (vO C d K l (i+1)) b t w (look s.f t):=rfl
def gb(c:Bool)(A B:Prop):Prop:=(c=true->A)/\(c=false->B)
def gb2(c:Bool)(A B:Prop):Prop:=(c=false->A)/\(c=true->B)
theorem gb_t(A B:Prop):gb true A B=A:=propext ⟨fun h=>h.1 rfl,fun h=>⟨fun _=>h,fun q=>by cases q⟩⟩
theorem gb_f(A B:Prop):gb false A B=B:=propext ⟨fun h=>h.2 rfl,fun h=>⟨fun q=>(nomatch q),fun _=>h⟩⟩
theorem ydmh(A B:Prop):gb2 true A B=B:=propext ⟨fun h=>h.2 rfl,fun h=>⟨fun q=>(nomatch q),fun _=>h⟩⟩
theorem ydlz(A B:Prop):gb2 false A B=A:=propext ⟨fun h=>h.1 rfl,fun h=>⟨fun _=>h,fun q=>by cases q⟩⟩
theorem gb_x(c:Bool)(A B:Prop):gb c A B=((c=true->A)/\(c=false->B)):=rfl
theorem ydku(c:Bool)(A B:Prop):gb2 c A B=((c=false->A)/\(c=true->B)):=rfl
theorem ycve(x:Bool)(c:Operand)(s:SS)(a b:SS->Prop):ycek (some (.b x)) c s a b=gb x (a (s.lit c true)) (b (s.lit c false)):=rfl
theorem ycoy(f:List (Nat×SRec))(s:SS)(i an:Nat)(a:Option Nat)(e:List (Nat×SRec)->SS->Prop)(g:SOp)(t:Nat)(c:Bool):yxa C d f s i an a e g t true (some (.b c))=gb c (runO C d f (s.put (some t) (.b true)) i an a e g) (e f ((s.put (some t) (.b false)).put a (.tp []))):=rfl
theorem ycsq(f:List (Nat×SRec))(s:SS)(i an:Nat)(a:Option Nat)(e:List (Nat×SRec)->SS->Prop)(g:SOp)(t:Nat)(c:Bool):yxa C d f s i an a e g t false (some (.b c))=gb2 c (runO C d f (s.put (some t) (.b false)) i an a e g) (e f ((s.put (some t) (.b true)).put a (.tp []))):=rfl
theorem ycdg(c:List (Nat×SRec))(s:SS)(i an:Nat)(a:Option Nat)(b:List (Nat×SRec)->SS->Prop)(e:SOp)(t:Nat)(w:Bool):yxa C d c s i an a b e t w (some (.tp []))=b c (s.put a (.tp [])):=rfl
end
theorem ycur(a:Option Nat)(b:Bool)(c:List (Nat×SRec)):ykd false a b c=c:=by unfold ykd;rfl
theorem ycwu(d:Bool)(a:Option Nat)(b:List (Nat×SRec)):ykd d a true b=b:=by unfold ykd;cases d<;>cases a<;>rfl
theorem yczc(d a:Bool)(b:List (Nat×SRec)):ykd d none a b=b:=by unfold ykd;cases d<;>rfl
theorem ydbb(t:Nat)(a:List (Nat×SRec)):ykd true (some t) false a=(1000+t,SRec.no)::a:=rfl
theorem ycyu(d:Bool)(an:Nat)(r:SRec)(a:List (Nat×SRec)):ycqv d an false r a=fits d an r a:=rfl
theorem yczs(d:Bool)(an:Nat)(r:SRec)(a:List (Nat×SRec)):ycqv d an true r a=(!d||a.all fun q=>zK an q.1 || !(ypn r q.2)):=rfl
theorem ybqe {C:CC}{D:Operand}{E:List Nat}{a b:SC}{K:Exit->SS->Prop}{s:SS}{g:FuncId}{i:List SV}{S:ItS}(hit:C.it g i S) {σ:Type}(l:List Nm) (st:Nat->σ->SS) (c:Nat->σ->Prop) (r:σ) (z:c 0 r)
 (v:(∀B∈C.pr,B∈l)/\∀B∈S.pr,B∈l) (F:Weak C.pr s (st 0 r)) (I:∀x,(st 0 x).get D=some (.fn g [] i)) (q:∀k x,c k x->k<=S.n->S.own k (st k x).o/\allQ (fun p=>cln (nmem l) 5 p.2=true) (st k x).f)
 (j:∀k x,c k x->k<S.n->∃t1,puts (st k x) E (S.el k)=some t1/\vc ⟨C.ct,C.cm,C.it,l,C.mu⟩ a (ycyy (vN ⟨C.ct,C.cm,C.it,l,C.mu⟩ (ybka K (st k x) fun o=>S.own k o/\∃y,c (k+1) y/\Weak l ⟨(st k x).f,S.adv k o⟩ (st (k+1) y)) b)) t1)
 (hend:∀x,c S.n x->K .normal (st S.n x)):ycgo C D E (vcR a) (vcR b) K s:=by
 refine⟨l,fun k t=>k<=S.n/\∃x,c k x/\t=st k x,g,i,S,hit,v,⟨st 0 r,⟨zAE _,r,z,rfl⟩,F⟩,?_,?_,?_,?_⟩
 .rintro t ⟨_,x,m,rfl⟩;exact I x
 .rintro k t ⟨hk,x,m,rfl⟩;exact q k x m hk
 .rintro k t ⟨_,x,m,rfl⟩ hk;obtain⟨t1,G,H⟩:=j k x m hk;refine⟨t1,G,?_⟩
  have e:(fun o=>S.own k o/\∃u,(k+1<=S.n/\∃x,c (k+1) x/\u=st (k+1) x)/\Weak l ⟨(st k x).f,S.adv k o⟩ u)=(fun o=>S.own k o/\∃y,c (k+1) y/\Weak l ⟨(st k x).f,S.adv k o⟩ (st (k+1) y)):=by
   funext o
   refine propext ⟨?_,?_⟩
   .rintro⟨h,u,⟨_,y,A,rfl⟩,w⟩;exact⟨h,y,A,w⟩
   .rintro⟨h,y,A,w⟩;exact⟨h,_,⟨hk,y,A,rfl⟩,w⟩
  rw[e];exact H
 .rintro t ⟨_,x,m,rfl⟩;exact hend x m
theorem ycyq{b:Type}{a:b}{p:b->Prop}:(∃v,some a=some v/\p v)↔p a:=⟨fun⟨_,h,q⟩=>by cases h;exact q,fun h=>⟨a,rfl,h⟩⟩
theorem ycwe{n:Nat}(k:IntKind)(x:Int):owned (n+1) (.i k x)=false:=rfl
theorem ycqy{n:Nat}(k:IntKind)(x:Int):scalar (n+1) (.i k x)=true:=rfl
theorem ydel{n:Nat}(o:Own)(k:IntKind)(x:Int):view o (n+1) (.i k x)=(.i k x):=rfl
theorem ydnp{n:Nat}(o:Own)(k:IntKind)(x:Int):vok o (n+1) (.i k x)=True:=rfl
theorem ygb{n:Nat}(ρ:Nm->Nm)(k:IntKind)(x:Int):ren ρ (n+1) (.i k x)=(.i k x):=rfl
theorem ydko{n:Nat}(D:Nm->Bool)(k:IntKind)(x:Int):cln D (n+1) (.i k x)=true:=rfl
theorem ydbg(k:IntKind)(x:Int):one1 (.i k x)=true:=rfl
theorem ycyp{n:Nat}(x:Bool):owned (n+1) (.b x)=false:=rfl
theorem ycmo{n:Nat}(x:Bool):scalar (n+1) (.b x)=true:=rfl
theorem ydfp{n:Nat}(o:Own)(x:Bool):view o (n+1) (.b x)=(.b x):=rfl
theorem ydnb{n:Nat}(o:Own)(x:Bool):vok o (n+1) (.b x)=True:=rfl
theorem ydnl{n:Nat}(ρ:Nm->Nm)(x:Bool):ren ρ (n+1) (.b x)=(.b x):=rfl
theorem ydna{n:Nat}(D:Nm->Bool)(x:Bool):cln D (n+1) (.b x)=true:=rfl
theorem ydiq(x:Bool):one1 (.b x)=true:=rfl
theorem ycze{n:Nat}(x:Value):owned (n+1) (.a x)=false:=rfl
theorem ycnr{n:Nat}(x:Value):scalar (n+1) (.a x)=true:=rfl
theorem ydbe{n:Nat}(o:Own)(x:Value):view o (n+1) (.a x)=(.a x):=rfl
theorem ydkh{n:Nat}(o:Own)(x:Value):vok o (n+1) (.a x)=True:=rfl
theorem ydau{n:Nat}(ρ:Nm->Nm)(x:Value):ren ρ (n+1) (.a x)=(.a x):=rfl
theorem ydmg{n:Nat}(D:Nm->Bool)(x:Value):cln D (n+1) (.a x)=true:=rfl
theorem ydfh(x:Value):one1 (.a x)=true:=rfl
theorem yckm{n:Nat}(z k:Nat)(g:Nat->List SV):owned (n+1) (.sl z k g)=false:=rfl
theorem ybwg{n:Nat}(z k:Nat)(g:Nat->List SV):scalar (n+1) (.sl z k g)=false:=rfl
theorem ydac{n:Nat}(o:Own)(z k:Nat)(g:Nat->List SV):view o (n+1) (.sl z k g)=(.sl z k g):=rfl
theorem ydfj{n:Nat}(o:Own)(z k:Nat)(g:Nat->List SV):vok o (n+1) (.sl z k g)=True:=rfl
theorem ywi{n:Nat}(ρ:Nm->Nm)(z k:Nat)(g:Nat->List SV):ren ρ (n+1) (.sl z k g)=(.sl z k g):=rfl
theorem ydfc{n:Nat}(D:Nm->Bool)(z k:Nat)(g:Nat->List SV):cln D (n+1) (.sl z k g)=true:=rfl
theorem ybmo(z k:Nat)(g:Nat->List SV):one1 (.sl z k g)=true:=rfl
theorem ycpt{n:Nat}(c:List SV):owned (n+1) (.rf c)=false:=rfl
theorem ycbj{n:Nat}(c:List SV):scalar (n+1) (.rf c)=false:=rfl
theorem ycwi{n:Nat}(o:Own)(c:List SV):view o (n+1) (.rf c)=(.rf c):=rfl
theorem ydcb{n:Nat}(o:Own)(c:List SV):vok o (n+1) (.rf c)=True:=rfl
theorem yddr{n:Nat}(ρ:Nm->Nm)(c:List SV):ren ρ (n+1) (.rf c)=(.rf c):=rfl
theorem ydhe{n:Nat}(D:Nm->Bool)(c:List SV):cln D (n+1) (.rf c)=true:=rfl
theorem ycxd(c:List SV):one1 (.rf c)=true:=rfl
theorem yclm{n:Nat}(Q:(Nat->Option ABlk)->Value->Prop)(v:SV):owned (n+1) (.ex Q v)=false:=rfl
theorem ycfn{n:Nat}(Q:(Nat->Option ABlk)->Value->Prop)(v:SV):scalar (n+1) (.ex Q v)=false:=rfl
theorem yczw{n:Nat}(o:Own)(Q:(Nat->Option ABlk)->Value->Prop)(v:SV):view o (n+1) (.ex Q v) = .ex Q v:=rfl
theorem ydig{n:Nat}(o:Own)(Q:(Nat->Option ABlk)->Value->Prop)(v:SV):vok o (n+1) (.ex Q v)=True:=rfl
theorem yctz{n:Nat}(ρ:Nm->Nm)(Q:(Nat->Option ABlk)->Value->Prop)(v:SV):ren ρ (n+1) (.ex Q v) = .ex Q v:=rfl
theorem ydcd{n:Nat}(D:Nm->Bool)(Q:(Nat->Option ABlk)->Value->Prop)(v:SV):cln D (n+1) (.ex Q v)=true:=rfl
theorem ycva(Q:(Nat->Option ABlk)->Value->Prop)(v:SV):one1 (.ex Q v)=one1 v:=rfl
theorem yhb(Q:(Nat->Option ABlk)->Value->Prop)(v:SV):Sim (.ex Q v) v:=fun F a u h=>by
 cases h with
 |ex _ _ h=>exact h.mono (Le.refl _) (yyk _)
theorem ycsz{n:Nat}(a:Nm):owned (n+1) (.mr a)=true:=rfl
theorem ycdv{n:Nat}(a:Nm):scalar (n+1) (.mr a)=false:=rfl
theorem ycwr{n:Nat}(o:Own)(a:Nm):view o (n+1) (.mr a) = .bad:=rfl
theorem ydga{n:Nat}(o:Own)(a:Nm):vok o (n+1) (.mr a)=False:=rfl
theorem yddv{n:Nat}(ρ:Nm->Nm)(a:Nm):ren ρ (n+1) (.mr a) = .mr (ρ a):=rfl
theorem ydis{n:Nat}(D:Nm->Bool)(a:Nm):cln D (n+1) (.mr a)=D a:=rfl
theorem ycvs(a:Nm):one1 (.mr a)=true:=rfl
theorem ycft{n:Nat} :owned (n+1) .bad=true:=rfl
theorem ybrp{n:Nat} :scalar (n+1) .bad=false:=rfl
theorem yckq{n:Nat}(o:Own) :view o (n+1) .bad = .bad:=rfl
theorem ycyt{n:Nat}(o:Own) :vok o (n+1) .bad=False:=rfl
theorem ycuy{n:Nat}(ρ:Nm->Nm) :ren ρ (n+1) .bad = .bad:=rfl
theorem ydaz{n:Nat}(D:Nm->Bool) :cln D (n+1) .bad=true:=rfl
theorem ycnc :one1 .bad=false:=rfl
theorem ycrz{n:Nat}(c:List SV):owned (n+1) (.ag c)=c.any (owned n):=rfl
theorem ybyi{n:Nat}(c:List SV):scalar (n+1) (.ag c)=c.all (scalar n):=rfl
theorem ydad{n:Nat}(o:Own)(c:List SV):view o (n+1) (.ag c) = .ag (c.map (view o n)):=rfl
theorem ydgl{n:Nat}(o:Own)(c:List SV):vok o (n+1) (.ag c)=allP (vok o n) c:=rfl
theorem yly{n:Nat}(ρ:Nm->Nm)(c:List SV):ren ρ (n+1) (.ag c) = .ag (c.map (ren ρ n)):=rfl
theorem ydgy{n:Nat}(D:Nm->Bool)(c:List SV):cln D (n+1) (.ag c)=c.all (cln D n):=rfl
theorem ycyx(c:List SV):one1 (.ag c)=false:=rfl
theorem ycqc{n:Nat}(c:List SV):owned (n+1) (.tp c)=c.any (owned n):=rfl
theorem ycbc{n:Nat}(c:List SV):scalar (n+1) (.tp c)=c.all (scalar n):=rfl
theorem ydaw{n:Nat}(o:Own)(c:List SV):view o (n+1) (.tp c) = .tp (c.map (view o n)):=rfl
theorem ydgd{n:Nat}(o:Own)(c:List SV):vok o (n+1) (.tp c)=allP (vok o n) c:=rfl
theorem yqu{n:Nat}(ρ:Nm->Nm)(c:List SV):ren ρ (n+1) (.tp c) = .tp (c.map (ren ρ n)):=rfl
theorem ydjq{n:Nat}(D:Nm->Bool)(c:List SV):cln D (n+1) (.tp c)=c.all (cln D n):=rfl
theorem ycyj(c:List SV):one1 (.tp c)=false:=rfl
theorem ycns{n:Nat}(g:FuncId)(a b:List SV):owned (n+1) (.fn g a b)=(a.any (owned n)||b.any (owned n)):=rfl
theorem ybxp{n:Nat}(g:FuncId)(a b:List SV):scalar (n+1) (.fn g a b)=false:=rfl
theorem ycwx{n:Nat}(o:Own)(g:FuncId)(a b:List SV):view o (n+1) (.fn g a b) = .fn g (a.map (view o n)) (b.map (view o n)):=rfl
theorem ydeg{n:Nat}(o:Own)(g:FuncId)(a b:List SV):vok o (n+1) (.fn g a b)=(allP (vok o n) a/\allP (vok o n) b):=rfl
theorem ybqc{n:Nat}(ρ:Nm->Nm)(g:FuncId)(a b:List SV):ren ρ (n+1) (.fn g a b) = .fn g (a.map (ren ρ n)) (b.map (ren ρ n)):=rfl
theorem ydbz{n:Nat}(D:Nm->Bool)(g:FuncId)(a b:List SV):cln D (n+1) (.fn g a b)=(a.all (cln D n)&&b.all (cln D n)):=rfl
theorem ycxc(g:FuncId)(a b:List SV):one1 (.fn g a b)=true:=rfl
theorem ycrk{n:Nat}(a:Nm)(i j:Nat):owned (n+1) (.pt a i j)=true:=rfl
theorem ycbg{n:Nat}(a:Nm)(i j:Nat):scalar (n+1) (.pt a i j)=false:=rfl
theorem ycup{n:Nat}(o:Own)(a:Nm)(i j:Nat):view o (n+1) (.pt a i j)=(match lookO o a with|some b=>.rf ((((b.g i).drop j)).map (view o n))|none=>.bad):=rfl
theorem ydfk{n:Nat}(o:Own)(a:Nm)(i j:Nat):vok o (n+1) (.pt a i j)=(match lookO o a with|some b=>(i<b.n/\j<=b.z)/\allP (vok o n) ((b.g i).drop j)|none=>False):=rfl
theorem ybow{n:Nat}(ρ:Nm->Nm)(a:Nm)(i j:Nat):ren ρ (n+1) (.pt a i j) = .pt (ρ a) i j:=rfl
theorem ydiv{n:Nat}(D:Nm->Bool)(a:Nm)(i j:Nat):cln D (n+1) (.pt a i j)=D a:=rfl
theorem ycxj(a:Nm)(i j:Nat):one1 (.pt a i j)=true:=rfl
theorem ycju{n:Nat}(a:Nm)(p k:Nat)(ap:Bool):owned (n+1) (.os a p k ap)=true:=rfl
theorem ybxj{n:Nat}(a:Nm)(p k:Nat)(ap:Bool):scalar (n+1) (.os a p k ap)=false:=rfl
theorem ycyk{n:Nat}(o:Own)(a:Nm)(p k:Nat)(ap:Bool):view o (n+1) (.os a p k ap)=(match lookO o a with|some b=>.sl b.z k (fun q=>(b.g (p+q)).map (view o n))|none=>.bad):=rfl
theorem yddm{n:Nat}(o:Own)(a:Nm)(p k:Nat)(ap:Bool):vok o (n+1) (.os a p k ap)=(match lookO o a with|some b=>p+k<=b.n/\∀q,q<k->allP (vok o n) (b.g (p+q))|none=>False):=rfl
theorem ykc{n:Nat}(ρ:Nm->Nm)(a:Nm)(p k:Nat)(ap:Bool):ren ρ (n+1) (.os a p k ap) = .os (ρ a) p k ap:=rfl
theorem ydie{n:Nat}(D:Nm->Bool)(a:Nm)(p k:Nat)(ap:Bool):cln D (n+1) (.os a p k ap)=D a:=rfl
theorem ycyi(a:Nm)(p k:Nat)(ap:Bool):one1 (.os a p k ap)=true:=rfl
theorem any_false{a:Type}{p:a->Bool}{l:List a}(h:l.any p=false):∀x∈l,p x=false:=fun x c=>by
 cases b:p x with
 |false=>rfl
 |true=>rw[List.any_eq_true.2 ⟨x,c,b⟩]at h;cases h
theorem yex{b:Type}{p:b->Bool}{l:List b}(h:∀x∈l,p x=false):l.any p=false:=by
 cases e:l.any p with
 |false=>rfl
 |true=>obtain⟨x,c,a⟩:=List.any_eq_true.1 e;rw[h x c]at a;cases a
theorem yju:∀{n:Nat}{v:SV},owned n v=false->owned (n+1) v=false
 |0,_,h=>by cases h
 | n + 1,v,h=>by
   cases v with
   |ag c=>exact yex fun x e=>yju (any_false h x e)
   |tp c=>exact yex fun x e=>yju (any_false h x e)
   | fn g a b =>
     have h:(_||_)=false:=h;rw[zB]at h;show(_||_)=false;rw[zB];exact⟨yex fun x e=>yju (any_false h.1 x e),yex fun x e=>yju (any_false h.2 x e)⟩
   |_=>first|rfl|cases h
theorem yod{n:Nat}{l:List SV}(h:l.any (owned n)=false):l.any (owned (n+1))=false:=yex fun x a=>yju (any_false h x a)
theorem ybgh(ρ:Nm->Nm):∀{n:Nat}{v:SV},owned n v=false->ren ρ n v=v
 |0,_,h=>by cases h
 | n + 1,v,h=>by
   have e:∀{l:List SV},l.any (owned n)=false->l.map (ren ρ n)=l:=fun {l} h=>by
    induction l with
    |nil=>rfl
    |cons x l i=>rw[zY,ybgh ρ (any_false h x zA),i (yex fun y f=>any_false h y (zC _ f))]
   cases v with
   |ag c=>show SV.ag _=_;rw[e h]
   |tp c=>show SV.tp _=_;rw[e h]
   | fn g a b =>
     have h:(_||_)=false:=h;rw[zB]at h;show SV.fn g _ _=_;rw[e h.1,e h.2]
   |_=>first|rfl|cases h
theorem ygc(ρ:Nm->Nm){n:Nat}{l:List SV}(h:l.any (owned n)=false):l.map (ren ρ n)=l:=by
 induction l with
 |nil=>rfl
 |cons x l b=>rw[zY,ybgh ρ (any_false h x zA),b (yex fun y a=>any_false h y (zC _ a))]
theorem ybig(D:Nm->Bool):∀{n:Nat}{v:SV},owned n v=false->cln D n v=true
 |0,_,h=>by cases h
 | n + 1,v,h=>by
   have e:∀{l:List SV},l.any (owned n)=false->l.all (cln D n)=true:=fun {l} h=>List.all_eq_true.2 fun x f=>ybig D (any_false h x f);cases v with
   |ag c=>exact e h
   |tp c=>exact e h
   | fn g a b =>
     have h:(_||_)=false:=h;rw[zB]at h;show(_&&_)=true;rw[e h.1,e h.2];rfl
   |_=>first|rfl|cases h
theorem yge(D:Nm->Bool){n:Nat}{l:List SV}(h:l.any (owned n)=false):l.all (cln D n)=true:=List.all_eq_true.2 fun x a=>ybig D (any_false h x a)
end Sh
end
end Go.Proofs.YtlbonpgkofloeaaGreatDoor
