/- Joined. -/
import Derived.Test.YthclbjjgfcgbgaaGreatDoorPkCp2
set_option linter.unusedSimpArgs false
set_option linter.unusedVariables false
open List renaming mem_cons_self->zA,mem_cons_of_mem->zF,isEmpty_iff->zM,elem->zV,map_cons->zY
open Bool renaming or_eq_false_iff->zB,and_eq_true->zC,not_eq_true'->zD,not_eq_false'->zL,and_eq_false_iff->zO,true_and->zS,not_true->zAC,false_or->zAD
open Nat renaming lt_of_lt_of_le->zG,le_trans->zH,le_of_ble_eq_true->zI,le_refl->zJ,testBit->zK,ble->zN,blt->zQ,beq->zT,ble_eq_true_of_le->zX,beq_refl->zZ,succ->zAA,le_max_right->zAB,zero_le->zAE,max->zAF,min->zAG
open Classical renaming choose->zU,choose_spec->zW
open Iff renaming rfl->zAH
open Go
namespace Go.Proofs.YthclbjjgfcgbgaaGreatDoor
section
namespace Sh
open Go Ev
def Cm(P:Program)(g:FuncId)(i:List Nm)(o:Own)(args:List SV)(Q:SV->Own->Prop):Prop :=
 ∀ lo (G:AM) (ω:Om) (f:Fr) (m:Mem) (j:List Value),Conc lo G ω ⟨[],o⟩ f m->RVL G ω args j ->
   ∃ v h r c d a,ybx P (.call g j m) (.call v h)/\Conc lo d a ⟨[],c⟩ f h/\RV d a r v/\Le G d/\(∀x b,d x=some b->G x=some b\/lo<=x)/\(∀e∈i,∀x,ω e=some x->a e=some x) /\
     (cln (live c) 5 r=true/\allQ (fun p=>ycl (live c) p.2) c/\allQ (fun e=>live c e=true) i)/\Q r c
theorem Cm.mono{P:Program}{g:FuncId}{c:List Nm}{o:Own}{args:List SV}{Q R:SV->Own->Prop}(h:Cm P g c o args Q)(x:∀r a,Q r a->R r a):Cm P g c o args R:=fun lo G ω f m z u w=>by
 obtain⟨v,y,r,a,d,b,e,i,j,k,l,n,p,q⟩:=h lo G ω f m z u w;exact⟨v,y,r,a,d,b,e,i,j,k,l,n,p,x r a q⟩
def ItC(P:Program)(g:FuncId)(b:List SV)(S:ItS):Prop :=
 ∀ lo (F:AM) (ω:Om) (s:SS) (f:Fr) (m:Mem) (i:List Value),Conc lo F ω s f m->RVL F ω b i->S.own 0 s.o->∃T:It,ItOk P g i T/\T.n=S.n /\
   ∀ (c:AM) (a:Om) (d:SS) (h:Fr) (e:Mem) (k:Nat),Le F c->(∀j∈S.pr,∀x,ω j=some x->a j=some x)->Conc lo c a d h e->k<=S.n->S.own k d.o ->
     T.pre k e/\(k<S.n->RVL c a (S.el k) (T.el k)/\Conc lo c a ⟨d.f,S.adv k d.o⟩ h (T.adv k e))
theorem MapOk.ren{d:Nat}{es:List MapEntry}{g:Nat->List SV}(h:MapOk d es g)(f:Nm->Nm):MapOk d es fun c=>(g c).map (Sh.ren f 5):=⟨h.key,h.kind,fun a b e i j=>by
 show(g (mkey a b)).map _=_;rw[h.val a b e i j];have l:Sh.ren f 5 (yoj d)=yoj d:=by unfold yoj;split<;>rfl
 cases n:yhj a b es with
 |none=>simp[l]
 | some v =>
   have k:Sh.ren f 5 (ofV v)=ofV v:=by unfold ofV;split<;>rfl
   simp[k]⟩
noncomputable def Mem.rest(a m:Mem)(ft:List Nat):Mem:=⟨a.next,yig a.b (T.filt m.b fun i=>!(ft.elem i)),a.low⟩
section
variable {P:Program}{lo:Nat}{F G:AM}{ω ψ:Om}{s t:SS}{f:Fr}{m:Mem}{o:Oper}
theorem ygs{a m:Mem}{ft:List Nat}{i:Nat}{b:ABlk}:(Mem.rest a m ft).b.get i=some b↔a.b.get i=some b\/(a.b.get i=none/\i∉ft/\m.b.get i=some b):=by
 show(yig a.b (T.filt m.b fun i=>!(ft.elem i))).get i=some b↔_;rw[ydp];cases h:a.b.get i with
 |some x=>simp
 |none=>simp only[T.filt_get];simp
theorem ybx.relow{g:FuncId}{us:List Value}{v:Value}{i:Mem}{n l l':Nat}{b:Ev.T ABlk}(h:ybx P (.call g us ⟨n,b,l⟩) (.call v i)):ybx P (.call g us ⟨n,b,l'⟩) (.call v i):=by
 intro y;obtain⟨e,k⟩:=h y;refine⟨⟨e.next,e.dom,e.old,e.wf⟩,fun A M w a p u q r=>(k A M w a p u q r).mono ?_⟩
 rintro B C ⟨z,rfl,d,j,c,x⟩;exact⟨z,rfl,d,j,⟨c.le,c.out,c.rel,c.sub,c.frame,c.wg⟩,x⟩
theorem ybx.rest{g:FuncId}{us:List Value}{v:Value}{k:Mem}{ft:List Nat}(u:Wf m)(h:ybx P (.call g us (m.only ft)) (.call v k)):ybx P (.call g us m) (.call v (Mem.rest k m ft)):=by
 intro _;obtain⟨e,D⟩:=h (yez u);have p:m.next<=k.next:=e.next
 refine⟨⟨e.next,fun i b a=>?_,fun i b C E a=>?_,fun i b a=>?_⟩,fun O M w c H B I J=>?_⟩
 .rcases ygs.1 a with a|⟨_,_,a⟩
  .rcases e.dom i b a with⟨x,L⟩|q
   .exact .inl ⟨x,(ydi.1 L).2⟩
   .exact .inr q
  .exact .inl ⟨b,a⟩
 .rcases ygs.1 a with a|⟨_,_,a⟩
  .exact(ydi.1 (e.old i b C E a)).2
  .exact a
 .rcases ygs.1 a with a|⟨_,_,a⟩
  .exact e.wf i b a
  .exact zG (u i b a) p
 .refine(D O M w c H (fun i b a=>B i b (ydi.1 a).2) I J).mono ?_;rintro Q R ⟨N,rfl,y,A,d,K⟩
  have j:∀i,¬(m.next<=i/\i<k.next)->(i∉ft\/m.b.get i=none\/i<k.low)->A i=M i:=fun i l n=>d.frame i l (by
   rcases n with q|q|q
   .left
    cases r:(m.only ft).b.get i with
    |none=>rfl
    |some x=>exact absurd (ydi.1 r).1 q
   .left
    cases r:(m.only ft).b.get i with
    |none=>rfl
    |some x=>rw[(ydi.1 r).2]at q;cases q
   .exact .inr q)
  refine⟨N,rfl,y,A,⟨d.le,d.out,d.rel,fun i b a=>?_,fun i l n=>j i l (.inr n),d.wg⟩,K⟩;rcases ygs.1 a with a|⟨_,q,a⟩
  .exact d.sub i b a
  .rw[j i (fun z=>by have:=u i b a;omega) (.inl q)]
   exact B i b a
theorem RVL.of_slots:∀{a:List SV}{us:List Value},a.length=us.length->(∀(k:Nat) v,a[k]?=some v->∃u,us[k]?=some u/\RV F ω v u)->RVL F ω a us
 |[],[],_,_=>.nil
 | v::a,u::us,h,k=>by
   obtain⟨e,b,c⟩:=k 0 v rfl;cases b
   exact .cons c (RVL.of_slots (by simpa using h) fun j w d=>k (j+1) w (by simpa using d))
 |[],_::_,h,_=>by simp at h
 |_::_,[],h,_=>by simp at h
theorem ybbw{l:List (Nat×SV)}{a:List Nat}{t:Nat}{v:SV}(h:look (yek l a) t=some v):look l t=some v:=by
 induction a with
 |nil=>cases h
 | cons k a c =>
   unfold yek at h;split at h
   .rename_i x d
    have b:(if k=t then some x else look (yek l a) t)=some v:=h
    clear h
    split at b
    .rename_i q;subst q;rw[d];exact b
    .exact c b
   .exact c h
theorem ysg{l:Own}{a:List Nat}{t:Nat}:look (ydx l a) t=if t∈a then look l t else none:=by
 induction a with
 |nil=>simp[ydx,look]
 | cons k a c =>
   unfold ydx;split
   .rename_i x b
    show(if k=t then some x else look (ydx l a) t)=_
    by_cases q:k=t
    .subst q;rw[if_pos rfl,if_pos zA,b]
    .rw[if_neg q,c];simp[Ne.symm q]
   .rename_i b
    rw[c]
    by_cases q:t=k
    .subst q;simp[b]
    .simp[q]
theorem yxt{d:Type}{a b:List (Nat×d)}{t:Nat}:look (a++b) t=match look a t with|some v=>some v|none=>look b t:=by
 induction a with
 |nil=>rfl
 | cons x a c =>
   show(if x.1=t then some x.2 else look (a++b) t)=match (if x.1=t then some x.2 else look a t)with|some v=>some v|none=>look b t
   split
   .rfl
   .exact c
theorem ybrb{d:Type}{k:Nat->Nat}{r:Nat->d->d}:∀{o:List (Nat×d)},difN (o.map fun p=>k p.1)=true->∀{c:Nat}{G:d},look (o.map fun p=>(k p.1,r p.1 p.2)) c=some G->∃b F,look o b=some F/\k b=c/\G=r b F
 |[],_,_,_,h=>by cases h
 | (b,F)::o,a,c,G,h=>by
   have h:(if k b=c then some (r b F)else look (o.map fun p=>(k p.1,r p.1 p.2)) c)=some G:=h
   have a:(!(zV (k b) (o.map fun p=>k p.1))&&difN (o.map fun p=>k p.1))=true:=a;rw[zC,zD]at a;split at h
   .rename_i q;cases h;exact⟨b,F,by show(if b=b then some F else _)=_;rw[if_pos rfl],q,rfl⟩
   .obtain⟨e,g,i,j,n⟩:=ybrb a.2 h;refine⟨e,g,?_,j,n⟩;show(if b=e then some F else look o e)=_
    rw[if_neg]
    .exact i
    .rintro rfl;exact elem_false' a.1 (List.mem_map.2 ⟨(b,g),ydr i,rfl⟩)
where elem_false' {l:List Nat}{x:Nat}(h:l.elem x=false):x∉l:=by simpa using h
theorem ybqm{k:Nat->Nat}{l:Type}:∀{o:List (Nat×l)},difN (o.map fun p=>k p.1)=true->∀{b c:Nat}{F G:l},look o b=some F->look o c=some G->k b=k c->b=c
 |[],_,_,_,_,_,h,_,_=>by cases h
 | (a,A)::o,i,b,c,F,G,d,g,j=>by
   have i:(!(zV (k a) (o.map fun p=>k p.1))&&difN (o.map fun p=>k p.1))=true:=i;rw[zC,zD]at i
   have no:∀{x:Nat}{X:l},look o x=some X->k a≠k x:=fun {x X} n e=>by
    have:k a∉o.map fun p=>k p.1:=by simpa using i.1
    exact this (List.mem_map.2 ⟨(x,X),ydr n,e.symm⟩)
   have d:(if a=b then some A else look o b)=some F:=d
   have g:(if a=c then some A else look o c)=some G:=g
   split at d<;>split at g
   .rename_i p q;rw[<-p,<-q]
   .rename_i p q;rw[<-p]at j;exact absurd j (no g)
   .rename_i p q;rw[<-q]at j;exact absurd j.symm (no d)
   .exact ybqm i.2 d g j
theorem ybrz{g:Type}{k:Nat->Nat}{r:Nat->g->g}:∀{o:List (Nat×g)},difN (o.map fun p=>k p.1)=true->∀{b:Nat}{F:g},look o b=some F->look (o.map fun p=>(k p.1,r p.1 p.2)) (k b)=some (r b F)
 |[],_,_,_,h=>by cases h
 | (a,A)::o,i,b,F,h=>by
   have c:(!(zV (k a) (o.map fun p=>k p.1))&&difN (o.map fun p=>k p.1))=true:=i;rw[zC,zD]at c;have d:(if a=b then some A else look o b)=some F:=h
   clear h
   show(if k a=k b then some (r a A)else look (o.map fun p=>(k p.1,r p.1 p.2)) (k b))=some (r b F)
   split at d
   .rename_i q;subst q;cases d;rw[if_pos rfl]
   .rename_i q
    rw[if_neg]
    .exact ybrz c.2 d
    .intro e;have:k a∉o.map fun p=>k p.1:=by simpa using c.1
     exact this (List.mem_map.2 ⟨(b,F),ydr d,e.symm⟩)
open Classical in
noncomputable def ywu(ω ω':Om)(ρ:List (Nat×Nat))(a:Nat)(d:List Nat)(o:Own):Om:=fun c=>if d.elem c.1=true then ω c else
 if h:∃b,(∃F,look o b=some F)/\nuF ρ a b=c.1/\live o (b,c.2)=true then ω' (zU h,c.2)else none
theorem yne{ω':Om}{ρ:List (Nat×Nat)}{a:Nat}{g:List Nat}{e:Own}(l:difN (e.map fun p=>nuF ρ a p.1)=true)(hk:(e.all fun p=>!(g.elem (nuF ρ a p.1)))=true){c:Nm}(j:live e c=true):ywu ω ω' ρ a g e (nu ρ a c)=ω' c:=by
 obtain⟨b,k⟩:=yiy.1 j;obtain⟨F,h,u⟩:=yfz k
 have i:g.elem (nuF ρ a c.1)=false:=by
  have:=List.all_eq_true.1 hk _ (ydr h)
  simpa using this
 unfold ywu;rw[if_neg (by show ¬g.elem (nuF ρ a c.1)=true;rw[i];simp)]
 have d:∃b,(∃F,look e b=some F)/\nuF ρ a b=(nu ρ a c).1/\live e (b,(nu ρ a c).2)=true:=⟨c.1,⟨F,h⟩,rfl,j⟩;rw[dif_pos d];obtain⟨⟨r,n⟩,q,v⟩:=zW d;have:zU d=c.1:=ybqm l n h q;rw[this];rfl
theorem yzn{ω':Om}{ρ:List (Nat×Nat)}{a:Nat}{c:List Nat}{d:Own}{b:Nm}(h:c.elem b.1=true):ywu ω ω' ρ a c d b=ω b:=by
 unfold ywu;rw[if_pos h]
theorem ynj{ω':Om}{ρ:List (Nat×Nat)}{a:Nat}{d:List Nat}{g:Own}{b:Nm}{x:Option (Nat×Nat)}(h:ywu ω ω' ρ a d g b=some x):(d.elem b.1=true/\ω b=some x)\/(d.elem b.1=false/\∃e,live g e=true/\nu ρ a e=b/\ω' e=some x):=by
 unfold ywu at h;split at h
 .rename_i q;exact .inl ⟨q,h⟩
 .rename_i q
  split at h
  .rename_i c
   obtain⟨_,i,j⟩:=zW c;exact .inr ⟨by simpa using q,(zU c,b.2),j,Prod.ext i rfl,h⟩
  .cases h
theorem yccx (H:Conc lo F ω s f m) {fx:Operand}{args:Array Operand}{e7:Array TypeId}(g5:o.op = .call { callee:=.value fx,args:=args,argTypes:=e7 }) {g:FuncId}{a b xs:List SV}(hf:s.get fx=some (.fn g a b)) (Z:s.gets args.toList=some xs)
 {pc:List Nm}{l:List (Nat×Nat)}{d:Nat}{keep kb:List Nat}{pr:List Nm}{o0:Own}{as:List SV}{Q:SV->Own->Prop}(e0:(a++xs++b).length=as.length) (hw:WeakBy (to1 l) [] [] ⟨slots (a++xs++b) 0,s.o⟩ ⟨slots as 0,o0⟩)
 (d9:∀p∈o0,(look l p.1).isSome=true) (hk:Kept pc s l pr o0 keep kb) (d7:Cm P g pr o0 as Q) :
 ∃ r2 F' E rv D,One P f o m r2/\Q rv D/\((difN (D.map fun p=>nuF l d p.1)=true/\(D.all fun p=>!(kb.elem (nuF l d p.1)))=true)->Conc lo F' E (ymm s l d keep kb D) f r2.m/\RV F' E (ren (nu l d) 5 rv) r2.v) /\
   m.next<=r2.m.next/\Le F F'/\(∀x b,F' x=some b->F x=some b\/lo<=x)/\((difN (D.map fun p=>nuF l d p.1)=true/\(D.all fun p=>!(kb.elem (nuF l d p.1)))=true)->∀j∈pc,∀x,ω j=some x->E j=some x)/\r2.foot=none/\(o0=[]->r2.mods=some []):=by
 classical
 obtain⟨uf,e1,r1⟩:=H.get hf;obtain⟨us,e2,r2⟩:=H.gets Z
 obtain⟨A,B,rfl,rA,rB⟩:∃A B:List Value,uf = .func (.func g) A.toArray B.toArray/\RVL F ω a A/\RVL F ω b B:=by
  cases r1 with
  |fn C I=>exact⟨_,_,rfl,C,I⟩
 have c6:RVL F ω (a++xs++b) (A++us++B):=(rA.append r2).append rB
 let f0:Fr:=⟨0,tOf (A++us++B)⟩
 have f3:Conc lo F ω ⟨slots (a++xs++b) 0,s.o⟩ f0 m:=⟨H.wf,H.low,H.nxt,H.sub,H.own,H.dom,H.inj,H.apart,fun t v hv=>by
  obtain⟨_,I⟩:=yny hv;obtain⟨u,h3,h4⟩:=c6.get I;exact⟨u,by show(tOf (A++us++B)).get t=some u;rw[ydf];simpa using h3,h4⟩⟩
 have O:=hw.conc f3;rw[ycpo]at O
 let R:Om:=omTo ω (to1 l) [] o0
 have a9:RVL F R as (A++us++B):=RVL.of_slots (e0.symm.trans c6.length) fun k v hv=>by
  obtain⟨u,C,I⟩:=O.fr (0+k) v (ybqy hv);rw[Nat.zero_add]at C;have C:(tOf (A++us++B)).get k=some u:=C;rw[ydf]at C;exact⟨u,C,I⟩
 have b5:Conc lo F R ⟨[],o0⟩ f m:=⟨O.wf,O.low,O.nxt,O.sub,O.own,O.dom,O.inj,O.apart,fun t v hv=>by cases hv⟩
 obtain⟨ft,k1,k2,k3⟩:=b5.only
 have f4:Conc lo F R ⟨[],o0⟩ f (m.only ft):=⟨yez H.wf,H.low,H.nxt,k2,fun j b hb=>by
  rcases b5.own j b hb with⟨k,T,L,C,h0,I,h3⟩|h|⟨k,es,cl,C,I,h3,h4⟩
  .exact .inl ⟨k,T,L,C,h0,k3 j k _ C _ I,h3⟩
  .exact .inr (.inl h)
  .exact .inr (.inr ⟨k,es,cl,C,I,k3 j k _ C _ h3,h4⟩),b5.dom,b5.inj,b5.apart,fun t v hv=>by cases hv⟩
 have d8:∃v M r D G' N,ybx P (.call g (A++us++B) (m.only ft)) (.call v M)/\Conc lo G' N ⟨[],D⟩ f M/\RV G' N r v/\Le F G'/\(∀x b,G' x=some b->F x=some b\/lo<=x)/\(∀j∈pr,∀x,R j=some x->N j=some x) /\
  (cln (live D) 5 r=true/\allQ (fun p=>ycl (live D) p.2) D/\allQ (fun j=>live D j=true) pr)/\Q r D/\(o0=[]->m.next<=M.low):=by
  by_cases h0:o0=[]
  .subst h0
   have a7:∀j,R j=none:=fun j=>by
    show(if live [] j=true then _ else none)=none
    rw[if_neg (by intro q;cases q)]
   have f5:Conc m.next F R ⟨[],[]⟩ f ⟨m.next,(m.only ft).b,m.next⟩:=⟨yez H.wf,zJ _,zJ _,k2,fun j b hb=>(by cases hb),fun j _=>a7 j,fun j n k z k' z' C=>(by rw[a7 j]at C;cases C),fun j k z C=>(by rw[a7 j]at C;cases C),fun t v hv=>(by cases hv)⟩
   obtain⟨v,M,r,D,G',N,s1,K,rv,a0,Y,b9,c9,hq⟩:=d7 m.next F R f _ _ f5 a9
   have c2:lo<=m.next:=H.nxt
   exact⟨v,M,r,D,G',N,ybx.relow (b:=(m.only ft).b) s1,⟨K.wf,zH c2 K.low,zH c2 K.nxt,K.sub,K.own,K.dom,K.inj,fun j k z h=>⟨(K.apart j k z h).1,zH c2 (K.apart j k z h).2.1,(K.apart j k z h).2.2⟩,K.fr⟩,rv,a0,fun x b h=>(Y x b h).imp id (zH c2),b9,c9,hq,fun _=>K.low⟩
  .obtain⟨v,M,r,D,G',N,s1,K,rv,a0,Y,b9,c9,hq⟩:=d7 lo F R f (m.only ft) _ f4 a9;exact⟨v,M,r,D,G',N,s1,K,rv,a0,Y,b9,c9,hq,fun e=>absurd e h0⟩
 obtain⟨v,M,r,D,G',N,s1,K,rv,a0,Y,b9,⟨e8,e9,f1⟩,hq,d1⟩:=d8;have hs:=ybx.rest H.wf s1;have c7:=(s1 (yez H.wf)).1;have V:m.next<=M.next:=c7.next
 have c1:∀{i x},M.b.get i=some x->i<m.next->i∈ft:=fun {i x} q h=>by
  rcases c7.dom i x q with⟨y,hy⟩|q2
  .exact(ydi.1 hy).1
  .exact absurd q2.1 (Nat.not_le.2 h)
 have e5:∀{j x},R j=some x->live o0 j=true/\ω (to1 l j)=some x:=fun {j x} q=>by
  have q:(if live o0 j=true then(if zV j.1 []=true then some none else ω (to1 l j))else none)=some x:=q
  split at q
  .rename_i hl;rw[if_neg (by simp)]at q;exact⟨hl,q⟩
  .cases q
 have e4:∀{j},live o0 j=true->∃c,look l j.1=some c/\to1 l j=(c,j.2):=fun {j} hl=>by
  obtain⟨b,hb⟩:=yiy.1 hl;obtain⟨F1,C,_⟩:=yfz hb;obtain⟨c,c0⟩:=Option.isSome_iff_exists.1 (d9 _ (ydr C));have c0:look l j.1=some c:=c0;exact⟨c,c0,by unfold to1;rw[c0]⟩
 have U:∀{n k z},ω n=some (some (k,z))->kb.elem n.1=true->k∉ft:=fun {n k z} b7 b8 hm=>by
  rcases(k1 k hm).2 with⟨x,Z⟩|⟨j,z',hb⟩
  .rw[(H.apart n k z b7).1]at Z;cases Z
  .obtain⟨q1,q2⟩:=e5 hb;obtain⟨c,q3,q4⟩:=e4 q1
   have c3:n≠to1 l j:=fun e=>by
    have:=hk.apart _ (ydr q3);rw[e,q4]at b8;rw[this]at b8;cases b8
   exact H.inj n _ k z k z' b7 q2 c3 rfl
 have b0:ysp m.low (Mem.rest M m ft)=⟨M.next,(Mem.rest M m ft).b,zAG m.low M.low⟩:=yed _ _
 let E:=ywu ω N l d kb D
 have a5:((difN (D.map fun p=>nuF l d p.1)=true/\(D.all fun p=>!(kb.elem (nuF l d p.1)))=true)->∀j x,okN l pr kb j=true->ω j=some x->E j=some x):=fun hd j x d3 Z=>by
  unfold okN at d3;rw[Bool.or_eq_true]at d3;rcases d3 with h|h
  .exact(yzn h).trans Z
  .obtain⟨q,d5,a8⟩:=List.any_eq_true.1 h;rw[zC]at a8;have c8:=ycz hk.prl q d5;obtain⟨c,q3,q4⟩:=e4 c8;rw[q3]at a8
   have e:j=nu l d q:=by
    have C:=of_decide_eq_true a8.1;have I:=of_decide_eq_true a8.2;refine Prod.ext ?_ I.symm;show j.1=nuF l d q.1;unfold nuF;rw[q3];exact C.symm
   have e':j=to1 l q:=by
    rw[q4];exact Prod.ext (of_decide_eq_true a8.1).symm (of_decide_eq_true a8.2).symm
   have h0:R q=some x:=by
    show(if live o0 q=true then(if zV q.1 []=true then some none else ω (to1 l q))else none)=some x
    rw[if_pos c8,if_neg (by simp),<-e'];exact Z
   have f8:=ycz f1 q d5;rw[e];exact(yne hd.1 hd.2 f8).trans (b9 q d5 x h0)
 have d6:yfd P (fun t=>if t = .call g (A++us++B) m then some (.call v (Mem.rest M m ft))else none):=by
  intro t out h;simp only at h;split at h
  .rename_i e;subst e;cases h;exact hs
  .cases h
 refine⟨⟨v,ysp m.low (Mem.rest M m ft),none,iteB (zN m.next (Mem.rest M m ft).low) (some []) none⟩,G',E,r,D,.inl ⟨_,d6,?_⟩,hq,fun hd=>⟨?_,?_⟩,by rw[b0];exact V,a0,Y,fun hd j g7 x Z=>a5 hd j x (ycz hk.pin j g7) Z,rfl,fun e=>?_⟩
 .unfold ylq ybhs;rw[g5];show(ob (f.get fx) fun g=>ob (ycf f args.toList) fun vs=>ybbh _ m vs g)=_;rw[e1];show(ob (ycf f args.toList) fun vs=>ybbh _ m vs _)=_;rw[e2];show ob ((fun t=>if t=Task.call g (A++us++B) m then some (Out.call v (Mem.rest M m ft))else none) (.call g (A.toArray.toList++us++B.toArray.toList) m)) (yqw m)=_
  simp only[if_true];rfl
 ·-- the state behind
  show Conc lo G' E _ f (ysp m.low (Mem.rest M m ft));rw[b0]
  have c4:∀{n ob},lookO (D.map (fun p=>(nuF l d p.1,p.2.ren (nu l d)))) n=some ob->∃j J,nu l d j=n/\lookO D j=some J/\ob=J.ren (nu l d):=fun {n ob} h=>by
   obtain⟨Fm,C,I⟩:=yfz h;obtain⟨b',F',q1,q2,q3⟩:=ybrb (r:=fun _ F=>F.ren (nu l d)) hd.1 C;subst q3;refine⟨(b',n.2),?_⟩;rcases ywf I with⟨e,hz⟩|⟨gg,e,hg⟩
   .cases F' with
    | one x =>
      cases x with
      |none=>cases e
      | some J =>
        simp only[Fam.ren]at e;cases e
        refine⟨J,Prod.ext q2 rfl,?_,rfl⟩;unfold lookO;simp only[q1,Fam.at,hz,if_true]
    |many _=>cases e
   .cases F' with
    |one x=>cases x<;>cases e
    | many g0 =>
      simp only[Fam.ren]at e;cases e
      simp only at hg;split at hg
      .rename_i J f6
       cases hg
       refine⟨J,Prod.ext q2 rfl,?_,rfl⟩;unfold lookO;simp only[q1,Fam.at];exact f6
      .cases hg
  have f2:∀{n ob},lookO (ymm s l d keep kb D).o n=some ob->(∃j J,nu l d j=n/\lookO D j=some J/\ob=J.ren (nu l d))\/(kb.elem n.1=true/\lookO s.o n=some ob):=fun {n ob} h=>by
   have h:(match look (D.map (fun p=>(nuF l d p.1,p.2.ren (nu l d)))++ydx s.o kb) n.1 with|some F=>F.at n.2|none=>none)=some ob:=h
   rw[yxt]at h;cases hl:look (D.map (fun p=>(nuF l d p.1,p.2.ren (nu l d)))) n.1 with
   | some Fm =>
     rw[hl]at h;exact .inl (c4 (by unfold lookO;rw[hl];exact h))
   | none =>
     rw[hl]at h;simp only[ysg]at h
     by_cases hm:n.1∈kb
     .rw[if_pos hm]at h;exact .inr ⟨by simpa using hm,h⟩
     .rw[if_neg hm]at h;cases h
  refine⟨fun i x Z=>?_,?_,zH H.nxt V,fun i x Z=>ygs.2 (.inl (K.sub i x Z)),fun n ob f9=>?_,fun n W=>?_,fun n δ k z k' z' C I c3=>?_,fun n k z C=>?_,fun t w c5=>?_⟩
  .rcases ygs.1 Z with q|⟨_,_,q⟩
   .exact K.wf i x q
   .exact zG (H.wf i x q) V
  .show lo<=zAG m.low M.low;have:=H.low;have:=K.low;rw[Nat.le_min];omega
  .rcases f2 f9 with⟨j,J,rfl,I,rfl⟩|⟨C,I⟩
   .have d0:live D j=true:=yiy.2 ⟨_,I⟩
    have b6:yfj (live D) J:=by
     obtain⟨Fm,q1,q2⟩:=yfz I;have:=ycz e9 _ (ydr q1);rcases ywf q2 with⟨rfl,_⟩|⟨gg,rfl,hg⟩
     .exact this
     .exact this _ _ hg
    have a6:E (nu l d j)=N j:=yne hd.1 hd.2 d0;rcases K.own j J I with⟨k,T,L,S,g0,g2,g3⟩|⟨S,g2,g3⟩|⟨k,es,cl,S,g2,g3,g4⟩
    .refine .inl ⟨k,T,L,a6.trans S,g0,ygs.2 (.inl g2),fun i hi=>?_⟩;obtain⟨l1,l2,l3,l4⟩:=g3 i hi;exact⟨l1,l2.yey fun v u hv hr=>ybla (fun j x hl Z=>(yne hd.1 hd.2 hl).trans Z) hr (List.all_eq_true.1 (b6 i hi) v hv),ybkg (ycmz _ _) l3,l4⟩
    .exact .inr (.inl ⟨a6.trans S,g2,g3⟩)
    .exact .inr (.inr ⟨k,es,cl,a6.trans S,g2,ygs.2 (.inl g3),g4.ren _⟩)
   .have a6:E n=ω n:=yzn C
    have b6:yfj (okN l pr kb) ob:=by
     obtain⟨Fm,q1,q2⟩:=yfz I;have e3:look (ydx s.o kb) n.1=some Fm:=by rw[ysg,if_pos (by simpa using C)];exact q1
     have:=ycz hk.own _ (ydr e3);rcases ywf q2 with⟨rfl,_⟩|⟨gg,rfl,hg⟩
     .exact this
     .exact this _ _ hg
    rcases H.own n ob I with⟨k,T,L,S,g0,g2,g3⟩|⟨S,g2,g3⟩|⟨k,es,cl,S,g2,g3,g4⟩
    .have X:=U S C;have d2:=(H.apart n k _ S).2.2;refine .inl ⟨k,T,L,a6.trans S,g0,ygs.2 (.inr ⟨?_,X,g2⟩),fun i hi=>?_⟩
     .cases d4:M.b.get k with
      |none=>rfl
      |some y=>exact absurd (c1 d4 d2) X
     .obtain⟨l1,l2,l3,l4⟩:=g3 i hi;exact⟨l1,(l2.of_get fun v u hv hr=>ybry (a5 hd) hr (List.all_eq_true.1 (b6 i hi) v hv)).mono a0 (Om.le_refl _),l3,l4⟩
    .exact .inr (.inl ⟨a6.trans S,g2,g3⟩)
    .have X:=U S C;have d2:=(H.apart n k _ S).2.2;refine .inr (.inr ⟨k,es,cl,a6.trans S,g2,ygs.2 (.inr ⟨?_,X,g3⟩),g4⟩);cases d4:M.b.get k with
     |none=>rfl
     |some y=>exact absurd (c1 d4 d2) X
  .have W:look (D.map (fun p=>(nuF l d p.1,p.2.ren (nu l d)))++ydx s.o kb) n.1=none:=W;rw[yxt]at W;cases g6:E n with
   |none=>rfl
   | some x =>
     exfalso
     rcases ynj g6 with⟨C,I⟩|⟨_,j,C,rfl,_⟩
     .cases hl:look (D.map (fun p=>(nuF l d p.1,p.2.ren (nu l d)))) n.1 with
      |some Fm=>rw[hl]at W;cases W
      | none =>
        rw[hl,ysg,if_pos (by simpa using C)]at W
        rw[H.dom n W]at I;cases I
     .obtain⟨b,hb⟩:=yiy.1 C;obtain⟨Fm,q1,_⟩:=yfz hb;have:=ybrz (r:=fun _ F=>F.ren (nu l d)) hd.1 q1;have e:(nu l d j).1=nuF l d j.1:=rfl;rw[e,this]at W;cases W
  .have e6:∀{n k z},ω n=some (some (k,z))->kb.elem n.1=true->∀{j z'},live D j=true->N j=some (some (k,z'))->False:=fun {n k z} b7 b8 {j z'} hl f7=>by
    obtain⟨ob,hb⟩:=yiy.1 hl;obtain⟨rfl,x,S⟩:=K.ownZ hb f7;exact U b7 b8 (c1 S (H.apart n k z b7).2.2)
   intro e;subst e;rcases ynj C with⟨a1,a2⟩|⟨a1,j,a2,a3,a4⟩<;>rcases ynj I with⟨b1,b2⟩|⟨b1,g8,b2,b3,b4⟩
   .exact H.inj n δ k z k z' a2 b2 c3 rfl
   .exact e6 a2 a1 b2 b4
   .exact e6 b2 b1 a2 a4
   .exact K.inj j g8 k z k z' a4 b4 (fun e=>c3 (by rw[<-a3,<-b3,e])) rfl
  .rcases ynj C with⟨a1,a2⟩|⟨a1,j,a2,a3,a4⟩
   .obtain⟨q1,q2,q3⟩:=H.apart n k z a2;refine⟨?_,q2,zG q3 V⟩;cases hG:G' k with
    |none=>rfl
    |some y=>exact absurd (c1 (K.sub _ _ hG) q3) (U a2 a1)
   .exact K.apart j k z a4
  .have c5:look (yek s.f keep) t=some w:=c5;obtain⟨u,S,g2⟩:=H.fr t w (ybbw c5);exact⟨u,S,(ybry (a5 hd) g2 (ycz hk.slot _ (ydr c5))).mono a0 (Om.le_refl _)⟩
 .exact ybla (fun j x hl Z=>(yne hd.1 hd.2 hl).trans Z) rv e8
 .show iteB (zN m.next M.low) (some []) none=some []
  rw[ybg,if_pos (zX (d1 e))]
end
end Sh
end
section
namespace Sh
open Go Ev
def guardOf(ops:List Oper):Option (Nat×Bool)->Option (Option (Nat×Bool))
 |none=>some none
 | some (j,w)=>match ops[j]? with
   | some a=>(match a.dst with
     |some d=>some (some (d,w))
     |none=>none)
   |none=>none
def ycpf(nt:Nat):Option Nat->Bool
 |none=>true
 |some d=>zQ d nt
noncomputable def cmpL(P:Program)(nt:Nat)(ops:List Oper)(an:List Nat):List Oper->Nat->Option (List SOper)
 |[],_=>some []
 |o::l,i=>(some ((res P o.op).getD .no)).bind fun a=>(guardOf ops o.guard).bind fun g=>(cmpL P nt ops an l (i+1)).bind fun r=>if ycpf nt o.dst then some (⟨a,o.dst,g,an.getD i 0⟩::r)else none
structure Past0(F:AM)(ω:Om)(rc:SRec)(e:Ent):Prop where
 mods:∃ms,e.r.mods=some ms/\∀x∈ms,∃β z,β∈rc.wr/\ω β=some (some (x,z))
 foot:(rc.cl=true/\rc.gr=true/\e.r.foot=none)\/∃ft,e.r.foot=some ft/\∀x∈ft,x<e.m.next/\((∃β z,β∈rc.rd/\ω β=some (some (x,z)))\/(rc.fz=true/\∃b,F x=some b)\/(rc.cl=true/\∃β z,ω β=some (some (x,z))))
 own:∀β k z,ω β=some (some (k,z))->e.m.next<=k->k<e.r.m.next->β∈rc.nw
 frz:rc.gr=false->∀x b,F x=some b->¬(e.m.next<=x/\x<e.r.m.next)
 still:rc.nw=[]->rc.cl=false->rc.gr=false->e.m.next=e.r.m.next
structure Past(F:AM)(ω:Om)(nxt:Nat)(rc:SRec)(e:Ent):Prop where
 le:e.m.next<=e.r.m.next/\e.r.m.next<=nxt
 rest:rc.mu=true\/Past0 F ω rc e
section
variable {P:Program}{lo nt:Nat}{F F':AM}{ω ω':Om}{s:SS}{f:Fr}{m:Mem}{o:Oper}
theorem Past.mono{i nxt':Nat}{n:SRec}{e:Ent}(h:Past F ω i n e)(v:Le F F')(l:ω.le ω')(r:∀g k z,ω' g=some (some (k,z))->ω g=some (some (k,z))\/i<=k)(t:∀x b,F' x=some b->F x=some b\/i<=x)(u:i<=nxt'):Past F' ω' nxt' n e:=by
 refine⟨⟨h.le.1,zH h.le.2 u⟩,h.rest.imp id fun q=>⟨?_,?_,fun g k z hk a b=>?_,fun A x b w C=>?_,q.still⟩⟩
 .obtain⟨B,a,b⟩:=q.mods;exact⟨B,a,fun x j=>by obtain⟨g,z,c,d⟩:=b x j;exact⟨g,z,c,l _ _ d⟩⟩
 .rcases q.foot with q|⟨p,a,b⟩
  .exact .inl q
  .refine .inr ⟨p,a,fun x j=>⟨(b x j).1,?_⟩⟩;rcases(b x j).2 with⟨g,z,c,d⟩|⟨c,y,d⟩|⟨c,g,z,d⟩
   .exact .inl ⟨g,z,c,l _ _ d⟩
   .exact .inr (.inl ⟨c,y,v _ _ d⟩)
   .exact .inr (.inr ⟨c,g,z,l _ _ d⟩)
 .rcases r g k z hk with c|c
  .exact q.own g k z c a b
  .have:=h.le.2;omega
 .rcases t x b w with c|c
  .exact q.frz A x b c C
  .have:=h.le.2;omega
theorem ybuc{r:SRec}(h:r.pure=true):r.rd=[]/\r.wr=[]/\r.nw=[]/\r.fz=false/\r.cl=false/\r.gr=false/\r.mu=false:=by
 unfold SRec.pure at h;simp only[zC,zD,zM]at h;obtain⟨⟨⟨⟨⟨⟨a,b⟩,c⟩,d⟩,e⟩,f⟩,g⟩:=h;exact⟨a,b,c,d,e,f,g⟩
theorem ydky{r:R2}{a b:Nat}(c:r.foot=some [])(d:r.mods=some [])(e:a=b):Ev.idle r a b=true:=by
 unfold Ev.idle;rw[c,d,e];simp
theorem Past.pure{d:Nat}{i:SRec}{e:Ent}(h:Past F ω d i e)(D:i.pure=true):e.idle=true:=by
 obtain⟨u,w,y,A,a,B,C⟩:=ybuc D;have q:=h.rest.resolve_left (by rw[C];simp)
 obtain⟨g,j,k⟩:=q.mods
 have c:g=[]:=by
  cases g with
  |nil=>rfl
  |cons x l=>obtain⟨E,z,v,_⟩:=k x zA;rw[w]at v;cases v
 have b:e.r.foot=some []:=by
  rcases q.foot with⟨v,_⟩|⟨t,n,p⟩
  .rw[a]at v;cases v
  .cases t with
   |nil=>exact n
   | cons x l =>
     rcases(p x zA).2 with⟨E,z,v,_⟩|⟨v,_⟩|⟨v,_⟩
     .rw[u]at v;cases v
     .rw[A]at v;cases v
     .rw[a]at v;cases v
 subst c;exact ydky b j (q.still y a B)
theorem Past.dim{a nxt':Nat}{b:SRec}{e:Ent}(h:Past F ω a b e)(c:a<=nxt'):e.idle=true\/Past F' ω' nxt' (if b.pure=true then b else SRec.top) e:=by
 split
 .rename_i q;exact .inl (h.pure q)
 .exact .inr ⟨⟨h.le.1,zH h.le.2 c⟩,.inl rfl⟩
theorem ynu{l:List Nm}{x:Nm}(h:nmem l x=false):x∉l:=fun q=>by rw[yje.2 q]at h;cases h
theorem ybsd(hc:Conc lo F ω s f m){C:Nat}{a b:SRec}{e q:Ent}{k j:Nat}(B:Past F ω C a e)(n:Past F ω C b q)(a0:q.r.m.next<=e.m.next)(h:yrc a b=false)(c8:(b.gr=false\/a.fz=false)\/∀ft,e.r.foot=some ft->∀x∈ft,x<q.m.next):Ap k j e q:=by
 unfold yrc at h;rw[zB,zB]at h;obtain⟨⟨J,K⟩,h⟩:=h
 by_cases E:a.mu=true
 .rw[E,zS,zL]at J;exact .inr (.inl (n.pure J))
 by_cases G:b.mu=true
 .rw[G,zS,zL]at K;exact .inl (B.pure K)
 replace B:Past0 F ω a e/\(e.m.next<=e.r.m.next/\e.r.m.next<=C):=⟨B.rest.resolve_left E,B.le⟩
 replace n:Past0 F ω b q/\(q.m.next<=q.r.m.next/\q.r.m.next<=C):=⟨n.rest.resolve_left G,n.le⟩
 obtain⟨B,Z⟩:=B;obtain⟨n,I⟩:=n;refine .inr (.inr ?_);simp only[zB,zO,List.any_eq_false,Bool.not_eq_true,zL,zM,zB]at h;obtain⟨⟨⟨⟨⟨c1,c2⟩,c3⟩,c4⟩,c5⟩,c6⟩:=h;obtain⟨W,X,Q⟩:=B.mods;obtain⟨mb,Y,R⟩:=n.mods
 have same:∀{c A k z u},ω c=some (some (k,z))->ω A=some (some (k,u))->c=A:=fun {c A k z u} U O=>by
  by_cases q:c=A
  .exact q
  .exact absurd rfl (hc.inj c A k z k u U O q)
 have M:∀{c k z b},ω c=some (some (k,z))->F k≠some b:=fun {c k z b} U O=>by rw[(hc.apart c k z U).1]at O;cases O
 have B1 : ygo (e.rec' k) (q.rec' j)=true:=by
  unfold ygo;show(match q.r.mods with|none=>false|some L=>match e.r.foot with|none=>L.isEmpty&&zT q.m.next q.r.m.next|some S=>S.all fun x=>!(L.elem x) && !(zN q.m.next x&&zQ x q.r.m.next))=true
  rw[Y];rcases B.foot with⟨d1,d2,d3⟩|⟨ft,d1,d2⟩
  .rw[d3]
   have D:b.wr=[]/\b.nw=[]/\b.cl=false/\b.gr=false:=by
    rcases c5 with w|w
    .rw[d1]at w;cases w
    .refine⟨w.1.1,w.1.2,?_,w.2⟩;rcases c6 with v|v
     .exact v
     .rw[d2]at v;cases v.2
   have:mb=[]:=by
    cases mb with
    |nil=>rfl
    |cons x l=>obtain⟨c,z,v,_⟩:=R x zA;rw[D.1]at v;cases v
   rw[this,n.still D.2.1 D.2.2.1 D.2.2.2];show(true&&zT _ _)=true;rw[zZ];rfl
  .rw[d1];refine List.all_eq_true.2 fun x H=>?_;obtain⟨e1,N⟩:=d2 x H
   have T:x∉mb:=fun V=>by
    obtain⟨A,z,v1,v2⟩:=R x V;rcases N with⟨c,u,d,g⟩|⟨_,y,g⟩|⟨d,_⟩
    .rw[same g v2]at d;exact ynu (c2 A v1).1.1 d
    .exact M v2 g
    .rcases c5 with w|w
     .rw[d]at w;cases w
     .rw[w.1.1]at v1;cases v1
   have g2:¬(q.m.next<=x/\x<q.r.m.next):=fun p=>by
    rcases N with⟨c,u,d,g⟩|⟨d,y,g⟩|⟨d,c,u,g⟩
    .exact ynu (c3 c d) (n.own c x u g p.1 p.2)
    .refine n.frz ?_ x y g p;rcases c8 with(w|w)|w
     .exact w
     .rw[d]at w;cases w
     .have:=w ft d1 x H;have:=p.1;omega
    .have:=n.own c x u g p.1 p.2;rcases c5 with w|w
     .rw[d]at w;cases w
     .rw[w.1.2]at this;cases this
   rw[zC,zD,zD,zO];refine⟨by simpa using T,?_⟩
   by_cases p:q.m.next<=x
   .right
    cases t:zQ x q.r.m.next with
    |false=>rfl
    |true=>exact absurd ⟨p,zI t⟩ g2
   .left
    cases t:zN q.m.next x with
    |false=>rfl
    |true=>exact absurd (zI t) p
 have B2 : ygo (q.rec' j) (e.rec' k)=true:=by
  unfold ygo;show(match e.r.mods with|none=>false|some L=>match q.r.foot with|none=>L.isEmpty&&zT e.m.next e.r.m.next|some S=>S.all fun x=>!(L.elem x) && !(zN e.m.next x&&zQ x e.r.m.next))=true
  rw[X];rcases n.foot with⟨d1,d2,d3⟩|⟨ft,d1,d2⟩
  .rw[d3]
   have D:a.wr=[]/\a.nw=[]/\a.cl=false/\a.gr=false:=by
    rcases c6 with w|w
    .rw[d1]at w;cases w
    .refine⟨w.1.1,w.1.2,?_,w.2⟩;rcases c5 with v|v
     .exact v
     .rw[d2]at v;cases v.2
   have:W=[]:=by
    cases W with
    |nil=>rfl
    |cons x l=>obtain⟨c,z,v,_⟩:=Q x zA;rw[D.1]at v;cases v
   rw[this,B.still D.2.1 D.2.2.1 D.2.2.2];show(true&&zT _ _)=true;rw[zZ];rfl
  .rw[d1];refine List.all_eq_true.2 fun x H=>?_;obtain⟨e1,N⟩:=d2 x H
   have T:x∉W:=fun V=>by
    obtain⟨A,z,v1,v2⟩:=Q x V;rcases N with⟨c,u,d,g⟩|⟨_,y,g⟩|⟨d,_⟩
    .rw[same g v2]at d;exact ynu (c1 A v1).1.1 d
    .exact M v2 g
    .rcases c6 with w|w
     .rw[d]at w;cases w
     .rw[w.1.1]at v1;cases v1
   rw[zC,zD,zD,zO];refine⟨by simpa using T,.inl ?_⟩
   cases t:zN e.m.next x with
   |false=>rfl
   |true=>have:=zI t;have:=I.1;omega
 unfold yum;rw[B1,B2];show(match e.r.mods,q.r.mods with|some x,some y=>x.all fun i=>!(y.elem i)|_,_=>false)=true
 rw[X,Y];refine List.all_eq_true.2 fun x H=>?_;rw[zD];cases p:mb.elem x with
 |false=>rfl
 | true =>
   exfalso
   obtain⟨c,z,v1,v2⟩:=Q x H;obtain⟨A,u,d,g⟩:=R x (by simpa using p)
   rw[<-same v2 g]at d;exact ynu (c1 c v1).1.2 d
theorem ybnd{w:Nat}{b:SRec}{e q:Ent}{k j:Nat}(B:e.r.mods=some [])(H:e.r.foot=none)(a:Past F ω w b q)(p:ybqe b=true)(I:q.r.m.next<=e.m.next):Ap k j e q:=by
 unfold ybqe at p;simp only[zC,zD,zM]at p;obtain⟨⟨⟨⟨K,L⟩,M⟩,C⟩,N⟩:=p;have g:=a.le;have a:=a.rest.resolve_left (by rw[K];simp)
 obtain⟨mb,A,G⟩:=a.mods
 have n:mb=[]:=by
  cases mb with
  |nil=>rfl
  |cons x l=>obtain⟨R,z,v,_⟩:=G x zA;rw[L]at v;cases v
 subst n;have u:=a.still M C N;obtain⟨Q,d1,d2⟩:=a.foot.resolve_left (fun h=>by rw[C]at h;cases h.1)
 refine .inr (.inr ?_)
 have D:ygo (e.rec' k) (q.rec' j)=true:=by
  unfold ygo;show(match q.r.mods with|none=>false|some c=>match e.r.foot with|none=>c.isEmpty&&zT q.m.next q.r.m.next|some d=>d.all fun x=>!(c.elem x) && !(zN q.m.next x&&zQ x q.r.m.next))=true
  rw[A,H,u];show(true&&zT _ _)=true;rw[zZ];rfl
 have E:ygo (q.rec' j) (e.rec' k)=true:=by
  unfold ygo;show(match e.r.mods with|none=>false|some c=>match q.r.foot with|none=>c.isEmpty&&zT e.m.next e.r.m.next|some d=>d.all fun x=>!(c.elem x) && !(zN e.m.next x&&zQ x e.r.m.next))=true
  rw[B,d1];refine List.all_eq_true.2 fun x J=>?_;have O:=(d2 x J).1;cases t:zN e.m.next x with
  |false=>rfl
  |true=>have:=zI t;have:=g.1;omega
 unfold yum;rw[D,E];show(match e.r.mods,q.r.mods with|some x,some y=>x.all fun i=>!(y.elem i)|_,_=>false)=true
 rw[B,A];rfl
end
end Sh
end
section
namespace Sh
open Go Ev
section
variable {P:Program}{lo nt:Nat}{F F':AM}{ω ω':Om}{s:SS}{f:Fr}{m:Mem}{o:Oper}
theorem yzo{d:Option Nat}(h:ycpf nt d=true)(b:nt<=f.n)(u:Value):∃a,f.put d u=some a/\a.n=f.n/\((d=none/\a=f)\/∃k,d=some k/\a.t=T.set (zAA k) f.t k (some u)):=by
 cases d with
 |none=>exact⟨f,rfl,rfl,.inl ⟨rfl,rfl⟩⟩
 | some k =>
   have hk:k<f.n:=zG (zI h) b;obtain⟨n,t⟩:=f;refine⟨⟨n,T.set (zAA k) t k (some u)⟩,?_,rfl,.inr ⟨k,rfl,rfl⟩⟩;show iteB (zQ k n) (Fr.set1 n t k u) none=_;rw[ybg,if_pos (show zQ k n=true from zX hk)]
   unfold Fr.set1;rw[force_eq,T.strict_eq]
theorem Conc.put(a:Conc lo F ω s f m){d:Option Nat}{v:SV}{u:Value}{c:Fr}(e:(d=none/\c=f)\/∃k,d=some k/\c.t=T.set (zAA k) f.t k (some u))(g:RV F ω v u):Conc lo F ω (s.put d v) c m:=by
 rcases e with⟨rfl,rfl⟩|⟨k,rfl,hk⟩
 .exact a
 .refine⟨a.wf,a.low,a.nxt,a.sub,a.own,a.dom,a.inj,a.apart,fun t w h=>?_⟩;have b:(if k=t then some v else look s.f t)=some w:=h
  rw[hk];rw[T.set_at];split at b
  .rename_i q;cases b;exact⟨u,by rw[if_pos q.symm],g⟩
  .rename_i q;rw[if_neg (Ne.symm q)];exact a.fr t w b
theorem yblh{a:R}(h:evOp P f o m=some a):One P f o m ⟨a.v,m.app a.e,some a.foot,some a.e.mods⟩:=by
 refine .inl ⟨fun _=>none,fun t out q=>(by cases q),?_⟩
 unfold ylq ybhs;split
 .rename_i g c d b
  unfold evOp at h;rw[b]at h;cases h
 .rw[h];rfl
def yza(F:AM)(ω:Om)(a:Nat)(rs:List (Nat×SRec))(ps:List (Nat×Ent)):Prop:=∀p∈ps,p.2.idle=true\/∃b,(p.1,b)∈rs/\Past F ω a b p.2
theorem yza.mono{c nxt':Nat}{rs rs':List (Nat×SRec)}{ps:List (Nat×Ent)}(h:yza F ω c rs ps)(q:∀x∈rs,x∈rs')(j:Le F F')(l:ω.le ω')(e:∀d k z,ω' d=some (some (k,z))->ω d=some (some (k,z))\/c<=k)(g:∀x b,F' x=some b->F x=some b\/c<=x)(i:c<=nxt'):yza F' ω' nxt' rs' ps:=fun p n =>
 (h p n).imp id fun⟨r,a,b⟩=>⟨r,q _ a,b.mono j l e g i⟩
theorem ybdf{d:Bool}{an:Nat}{r:SRec}{rs:List (Nat×SRec)}(h:fits d an r rs=true)(b:d=true){q:Nat}{a:SRec}(c:(q,a)∈rs):zK an q=true\/clash r a=false:=by
 subst b;unfold fits at h;simp only[zAC,zAD]at h;have:=List.all_eq_true.1 h _ c
 simpa using this
theorem ycmk{d:Bool}{an:Nat}{a:Bool}{r:SRec}{rs:List (Nat×SRec)}(h:yckf d an a r rs=true)(c:d=true){q:Nat}{b:SRec}(e:(q,b)∈rs):zK an q=true\/(yrc r b=false/\((b.gr=false\/r.fz=false)\/a=true)):=by
 cases a with
 |false=>exact(ybdf h c e).imp id fun q=>⟨(ybey q).1,.inl (ybey q).2⟩
 | true =>
   subst c;have h:(!true||rs.all fun q=>zK an q.1 || !(yrc r q.2))=true:=h;rw[zAC,zAD]at h;have:=List.all_eq_true.1 h _ e;rcases Bool.or_eq_true_iff.1 this with q|q
   .exact .inl q
   .exact .inr ⟨by simpa using q,.inr rfl⟩
def OldI(F0:AM)(rs:List (Nat×SRec))(s:SS)(f:Fr):Prop:=∀t v,look s.f t=some v->ylr rs t=false->owned 5 v=false->∃u,f.t.get t=some u/\RV F0 om0 v u
theorem yjy{i:Nat}{a:SRec}{rs:List (Nat×SRec)}{t:Nat}(h:ylr ((i,a)::rs) t=false):ylr rs t=false:=by
 unfold ylr at h ⊢;rw[List.any_cons,zB]at h;exact h.2
theorem ybxh{rs:List (Nat×SRec)}{t:Nat}(h:ylr (rs.map dim) t=false):ylr rs t=false:=by
 unfold ylr at h ⊢;rw[List.any_map]at h;exact h
theorem yob{d:Bool}{a:Option Nat}{b:Bool}{rs:List (Nat×SRec)}{t:Nat}(h:ylr (ykp d a b rs) t=false):ylr rs t=false:=by
 unfold ykp at h;split at h
 .exact yjy h
 .exact h
theorem yvm{t:Nat}{rs:List (Nat×SRec)}(h:ylr (ykp true (some t) false rs) t=false):False:=by
 unfold ylr ykp at h;simp at h
theorem ypp{d:Bool}{a:Option Nat}{b:Bool}{rs:List (Nat×SRec)}{x:Nat×SRec}(h:x∈rs):x∈ykp d a b rs:=by
 unfold ykp;split
 .exact zF _ h
 .exact h
theorem yza.mark{c:Nat}{rs:List (Nat×SRec)}{ps:List (Nat×Ent)}{d:Bool}{e:Option Nat}{g:Bool}(h:yza F ω c rs ps):yza F ω c (ykp d e g rs) ps:=fun p i =>
 (h p i).imp id fun⟨j,a,b⟩=>⟨j,ypp a,b⟩
theorem OldI.put {F0:AM}{rs rs':List (Nat×SRec)}{s i:SS}{f d:Fr}{a:Option Nat}{v:SV}{u:Value}(h:OldI F0 rs s f) (j:∀t w,look i.f t=some w->look s.f t=some w) (c:∀t,ylr rs' t=false->ylr rs t=false)
 (p:(a=none/\d=f)\/∃k,a=some k/\d.t=T.set (zAA k) f.t k (some u)) (n:∀k,a=some k->ylr rs' k=false->owned 5 v=false->RV F0 om0 v u):OldI F0 rs' (i.put a v) d:=fun t w l g e=>by
 rcases p with⟨rfl,rfl⟩|⟨k,rfl,hk⟩
 .exact h t w (j t w l) (c t g) e
 .have b:(if k=t then some v else look i.f t)=some w:=l
  rw[hk,T.set_at];split at b
  .rename_i q;cases b;subst q;exact⟨u,by rw[if_pos rfl],n _ rfl g e⟩
  .rename_i q;rw[if_neg (Ne.symm q)];exact h t w (j t w b) (c t g) e
theorem ybar{v:SV}(h:owned 5 v=false):(∀b i j,v ≠ .pt b i j)/\(∀b o n a,v ≠ .os b o n a):=⟨fun b i j q=>by(subst q;cases h),fun b o n a q=>by(subst q;cases h)⟩
theorem yvh{rs:List (Nat×SRec)}{x:Operand}(h:oldX s rs x=true):∃t v,x = .tmp t/\ylr rs t=false/\look s.f t=some v/\owned 5 v=false:=by
 unfold oldX at h;split at h
 .rename_i t
  rw[zC]at h;obtain⟨c,a⟩:=h;cases b:look s.f t with
  |none=>rw[b]at a;cases a
  | some v =>
    rw[b]at a;exact⟨t,v,rfl,by simpa using c,b,by simpa[oldV]using a⟩
 .cases h
theorem ycse{F0:AM}{rs:List (Nat×SRec)}{K:SOp}{X:XR}{W:R}(T:Conc lo F ω s f m)(hF:Le F0 F)(hI:OldI F0 rs s f)(C:ybtf s rs K=true)(V:res P o.op=some K)(Y:xOp s o.dst K=some X)(S:X.c)(a1:evOp P f o m=some W) :
 (owned 5 X.v=false->RV F0 om0 X.v W.v)/\∀x∈W.foot,∃b,F0 x=some b:=by
 have M:∀(s0:SS) (X0:XR),Conc lo F0 om0 s0 f m->xOp s0 o.dst K=some X0->X0.v=X.v->X0.c->(owned 5 X.v=false->RV F0 om0 X.v W.v)/\∀x∈W.foot,∃b,F0 x=some b:=by
  intro s0 X0 a0 h0 hv Z;obtain⟨r1,ω',N,e2,e3,e4,e5,e6,_⟩:=ybfu a0 V h0 Z;rw[a1]at N;cases N
  refine⟨fun ho=>?_,fun x hx=>?_⟩
  .rw[hv]at e4;exact yep ho e4
  .rcases e6 x hx with⟨E,z,_,b⟩|⟨_,b⟩
   .cases b
   .exact b
 have A:∀(l:List (Nat×SV)),(∀t v,look l t=some v->∃u,f.t.get t=some u/\RV F0 om0 v u)->Conc lo F0 om0 ⟨l,[]⟩ f m:=fun l U =>
  ⟨T.wf,T.low,T.nxt,fun i b h=>T.sub i b (hF i b h),fun E b h=>(by cases h),fun E _=>rfl,fun E γ k z k' z' h=>(by cases h),fun E k z h=>(by cases h),U⟩
 have one:∀{t:Nat}{v:SV},look s.f t=some v->ylr rs t=false->owned 5 v=false->∀G L,look [(t,v)] G=some L->∃u,f.t.get G=some u/\RV F0 om0 L u:=fun {t v} H B D G L h=>by
  have h:(if t=G then some v else none)=some L:=h
  by_cases q:t=G
  .rw[if_pos q]at h;cases h;rw[<-q];exact hI _ _ H B D
  .rw[if_neg q]at h;cases h
 have r:∀(t:Nat) (v:SV),SS.get ⟨[(t,v)],[]⟩ (.tmp t)=some v:=fun t v=>by show(if t=t then some v else none)=_;rw[if_pos rfl]
 cases K with
 | mv x =>
   obtain⟨t,v,rfl,H,B,D⟩:=yvh (show oldX s rs x=true from C)
   have d:(match s.get (.tmp t)with|some v=>some (⟨True,SRec.no,v,s⟩:XR)|none=>none)=some X:=Y
   rw[show s.get (.tmp t)=some v from B]at d
   cases d
   refine M ⟨[(t,v)],[]⟩ ⟨True,SRec.no,v,⟨[(t,v)],[]⟩⟩ (A _ (one B H D)) ?_ rfl trivial;simp only[xOp,r]
 | load ag n x =>
   obtain⟨t,v,rfl,H,B,D⟩:=yvh (show oldX s rs x=true from C)
   have d:(match s.get (.tmp t)with|some p=>yyv s ag n p|none=>none)=some X:=Y
   rw[show s.get (.tmp t)=some v from B]at d
   have U:∃X0,yyv ⟨[(t,v)],[]⟩ ag n v=some X0/\X0.v=X.v/\(X.c->X0.c):=by
    unfold yyv at d ⊢;cases v with
    | rf c =>
      simp only at d ⊢;cases I:part ag 0 n c with
      |none=>rw[I]at d;cases d
      |some w=>rw[I]at d;cases d;exact⟨_,rfl,rfl,fun h=>h⟩
    |pt E i j=>exact absurd rfl ((ybar D).1 E i j)
    |_=>cases d
   obtain⟨X0,k1,k2,k3⟩:=U;refine M ⟨[(t,v)],[]⟩ X0 (A _ (one B H D)) ?_ k2 (k3 S);simp only[xOp,r];exact k1
 | faddr p n x =>
   obtain⟨t,v,rfl,H,B,D⟩:=yvh (show oldX s rs x=true from C)
   have d:(match s.get (.tmp t)with
    |some (.rf c)=>if p+n<=c.length then some (⟨True,SRec.no,.rf ((c.drop p).take n),s⟩:XR)else none
    |some (.pt E i j)=>some ⟨True,SRec.no,.pt E i (j+p),s⟩
    |_=>none)=some X:=Y
   rw[show s.get (.tmp t)=some v from B]at d
   cases v with
   | rf c =>
     simp only at d;split at d
     .rename_i a5
      cases d
      refine M ⟨[(t,.rf c)],[]⟩ ⟨True,SRec.no,.rf ((c.drop p).take n),⟨[(t,.rf c)],[]⟩⟩ (A _ (one B H D)) ?_ rfl trivial;simp only[xOp,r];rw[if_pos a5]
     .cases d
   |pt E i j=>exact absurd rfl ((ybar D).1 E i j)
   |_=>cases d
 | idx z x k =>
   obtain⟨t,v,rfl,H,B,D⟩:=yvh (show oldX s rs x=true from C)
   have d:(match s.pget (.tmp t),s.get k with
    |some p,some (.i _ n)=>idxX s n z p
    |_,_=>none)=some X:=Y
   obtain⟨p,J,n,I,hk,y⟩:∃p J n,s.pget (.tmp t)=some p/\s.get k=some (.i J n)/\idxX s n z p=some X:=by
    split at d
    .rename_i p J n N e2
     exact⟨p,J,n,N,e2,d⟩
    .cases d
   have a7:∀(O:SS),O.get (.tmp t)=some v->O.pget (.tmp t)=some p:=fun O e=>by
    unfold SS.pget at I ⊢;rw[show s.get (.tmp t)=some v from B]at I
    rw[e];cases v with
    |ex Q w=>exact I
    |_=>exact I
   have a6:∀E o m a,p ≠ .os E o m a:=by
    rintro E o m a rfl;unfold SS.pget at I;rw[show s.get (.tmp t)=some v from B]at I
    obtain⟨u,_,hu⟩:=hI t v B H D;cases v with
    | ex Q w =>
      cases I
      cases hu with
      | ex _ _ h =>
        rcases h.os_inv with⟨k,z,cp,q,_⟩|⟨q,_⟩<;>cases q
    |_=>cases I;try cases D
   have U:∀O:SS,∃X0,idxX O n z p=some X0/\X0.v=X.v/\(X.c->X0.c):=fun O=>by
    unfold idxX at y ⊢;cases p with
    | sl z' m g =>
      simp only at y ⊢;split at y
      .rename_i hz;cases y;rw[if_pos hz];exact⟨_,rfl,rfl,fun h=>h⟩
      .cases y
    |os E o m a=>exact absurd rfl (a6 E o m a)
    |_=>cases y
   obtain⟨l,a2,a3,a4⟩:∃l:List (Nat×SV),SS.get ⟨l,[]⟩ (.tmp t)=some v/\SS.get ⟨l,[]⟩ k=some (.i J n)/\∀G L,look l G=some L->∃u,f.t.get G=some u/\RV F0 om0 L u:=by
    cases k with
    | tmp q =>
      have hq:look s.f q=some (.i J n):=hk
      by_cases e:q=t
      .subst e;rw[B]at hq;cases hq
       exact⟨[(q,.i J n)],r _ _,r _ _,one B H D⟩
      .refine⟨[(q,.i J n),(t,v)],?_,?_,fun G L h=>?_⟩
       .show(if q=t then some (SV.i J n)else if t=t then some v else none)=_
        rw[if_neg e,if_pos rfl]
       .show(if q=q then some (SV.i J n)else if t=q then some v else none)=_
        rw[if_pos rfl]
       .have h:(if q=G then some (SV.i J n)else if t=G then some v else none)=some L:=h
        by_cases N:q=G
        .rw[if_pos N]at h;cases h
         obtain⟨u,g1,g2⟩:=T.fr q _ hq;cases g2.int_inv
         rw[<-N];exact⟨_,g1,.i⟩
        .rw[if_neg N]at h;exact one B H D G L h
    |const c=>exact⟨[(t,v)],r _ _,hk,one B H D⟩
    |global g=>cases hk
    |func g=>cases hk
   obtain⟨X0,k1,k2,k3⟩:=U ⟨l,[]⟩;refine M ⟨l,[]⟩ X0 (A _ a4) ?_ k2 (k3 S);simp only[xOp,a7 _ a2,a3];exact k1
 |_=>cases C
theorem yeeh{d:Option Nat}{a:SOp}{X:XR}(h:xOp s d a=some X):X.s.f=s.f:=by
 unfold xOp at h;unfold yyv ybjg idxX ybwk at h
 repeat' (first|(cases h;rfl)|split at h|cases h)
theorem ycco{b:BinOp}{t:TypeId}{x y a:Operand}{xs:List Operand}(h:yckp P b t x y = .call a xs):False:=by
 unfold yckp at h;split at h
 .unfold ycoc at h;split at h<;>cases h
 .split at h<;>first|(cases h;done)|(unfold ybxo at h;split at h<;>first|(cases h;done)|(split at h<;>first|(cases h;done)|(split at h<;>cases h;done)))|(split at h<;>first|(cases h;done)|(split at h<;>cases h;done))
theorem ycom{e:Op}{d:Operand}{xs:List Operand}(h:res P e=some (.call d xs)):∃args a,e = .call { callee:=.value d,args:=args,argTypes:=a }/\args.toList=xs:=by
 unfold res at h;split at h
 case h_4 =>
  exfalso
  obtain⟨_,_,h⟩:=bind_some h;obtain⟨_,_,h⟩:=bind_some h;obtain⟨_,_,h⟩:=bind_some h;have h:=Option.some.inj h;unfold ybem at h;split at h
  .split at h
   .cases h
   .split at h
    .split at h
     .split at h<;>cases h
     .cases h
    .cases h
  .cases h
 case h_6 =>
  exfalso
  obtain⟨_,_,h⟩:=bind_some h;obtain⟨_,_,h⟩:=bind_some h;obtain⟨_,_,h⟩:=bind_some h;obtain⟨_,_,h⟩:=bind_some h;unfold ybcw at h;split at h<;>cases h
 case h_7 =>
  exfalso
  obtain⟨_,_,h⟩:=bind_some h;split at h
  .obtain⟨_,_,h⟩:=bind_some h;obtain⟨_,_,h⟩:=bind_some h;unfold yuz at h;split at h
   .split at h<;>cases h
   .cases h
  .cases h
 case h_25 =>
  rename_i c
  obtain⟨g,args,a⟩:=c;unfold callOf at h;split at h
  .cases h;rename_i b;exact⟨args,a,by rw[show g=_ from b],rfl⟩
  .exfalso;split at h<;>cases h
  .exfalso
   split at h
   .split at h
    .split at h
     .split at h<;>cases h
     .cases h
    .cases h
   .cases h
  .cases h
  .cases h
  .cases h
 all_goals
  exfalso
  first
   |exact(ycco (Option.some.inj h)).elim
   |(cases h;done)
   |(obtain⟨_,_,h⟩:=bind_some h;cases h;done)
   |(obtain⟨_,_,h⟩:=bind_some h;obtain⟨_,_,h⟩:=bind_some h;cases h;done)
   |(obtain⟨_,_,h⟩:=bind_some h;obtain⟨_,_,h⟩:=bind_some h;split at h<;>cases h;done)
   |(obtain⟨_,_,h⟩:=bind_some h;split at h<;>first|(cases h;done)|(obtain⟨_,_,h⟩:=bind_some h;cases h;done)|(obtain⟨_,_,h⟩:=bind_some h;obtain⟨_,_,h⟩:=bind_some h;first|(cases h;done)|(split at h<;>cases h;done)|(obtain⟨_,_,h⟩:=bind_some h;cases h;done)))
def RunR(P:Program)(l:List Nm)(lo:Nat)(F:AM)(ω:Om)(f:Fr)(m:Mem)(o:Oper)(d:Bool)(i an:Nat)(ps:List (Nat×Ent))(k:List (Nat×SRec)->SS->Prop)(F0:AM):Prop :=
 ∃c f1 F' ω' h g a,One P f o m c/\f.put o.dst c.v=some f1/\f1.n=f.n/\Conc lo F' ω' h f1 c.m/\(k a h/\(i,g)∈a/\(d=true->OldI F0 a h f1))/\Past F' ω' c.m.next g ⟨f,m,true,c⟩/\yza F' ω' c.m.next a ps /\
  (d=true->∀p∈ps,zK an p.1=true\/(p.2.idle=true\/Ap i p.1 ⟨f,m,true,c⟩ p.2)\/∃e,Past F' ω' c.m.next e p.2/\clash g e=false/\p.2.r.m.next<=m.next)/\(Le F F'/\(∀x b,F' x=some b->F x=some b\/lo<=x)/\∀j∈l,∀x,ω j=some x->ω' j=some x)
theorem ycfv {pr:List Nm}{mu:List FuncId}{d:Bool}{rs:List (Nat×SRec)}{i an:Nat}{S:List (Nat×SRec)->SS->Prop}{A:SOp}{ps:List (Nat×Ent)}(E:Conc lo F ω s f m) (C:(res P o.op).getD .no=A) (Y:nt<=f.n) (hd:ycpf nt o.dst=true) (H:yza F ω m.next rs ps)
 {F0:AM}(b2:Le F0 F) (hI:d=true->OldI F0 rs s f) (a3:∀x b,F0 x=some b->∀p∈ps,x<p.2.m.next)
 (h:runO ⟨Ct P,Cm P,ItC P,pr,mu⟩ d rs s i an o.dst S A):RunR P pr lo F ω f m o d i an ps S F0:=by
 have step : (∀X,xOp s o.dst A=some X->X.c->OpS P lo F ω f m o X)->res P o.op=some A->opO d rs i an o.dst S (d&&ybtf s rs A) (xOp s o.dst A)->RunR P pr lo F ω f m o d i an ps S F0:=by
  intro b3 B hk;unfold opO at hk;split at hk
  .rename_i X hX
   obtain⟨k1,k2,k3⟩:=hk;obtain⟨D,ω',e1,e2,e3,e4,e5,e6,e7,e8,e9⟩:=b3 X hX k1;have c5:=yeeh hX;obtain⟨f1,g1,g2,N⟩:=yzo hd Y D.v;have J:=yqn m D.e;have a6:m.next<=(m.app D.e).next:=by rw[J];split<;>omega
   have L:=H.mono (rs':=(i,X.r)::rs) (F':=F) (ω':=ω') (nxt':=(m.app D.e).next) (fun x l=>zF _ l) (Le.refl _) e2 e5 (fun x b h=>.inl h) a6
   have R:Past F ω' (m.app D.e).next X.r ⟨f,m,true,⟨D.v,m.app D.e,some D.foot,some D.e.mods⟩⟩:=by
    refine⟨⟨a6,zJ _⟩,.inr ⟨⟨_,rfl,fun x l=>?_⟩,.inr ⟨_,rfl,fun x l=>?_⟩,fun I k z hk a b=>?_,fun W x b V q=>?_,fun a b _=>?_⟩⟩
    .obtain⟨I,z,a,b⟩:=e7 x l;exact⟨I,z,a,e2 _ _ b⟩
    .rcases e6 x l with⟨I,z,a,b⟩|⟨a,y,b⟩
     .exact⟨(E.apart I x z b).2.2,.inl ⟨I,z,a,e2 _ _ b⟩⟩
     .exact⟨E.wf x y (E.sub x y b),.inr (.inl ⟨a,y,b⟩)⟩
    .have a:m.next<=k:=a
     have b:k<(m.app D.e).next:=b
     rw[J]at b;split at b
     .rename_i hq
      obtain⟨γ,z',c1,c2⟩:=e9 hq;obtain rfl:k=m.next:=by omega
      by_cases q:I=γ
      .rw[q];exact c1
      .exact absurd rfl (e3.inj I γ _ z _ z' hk c2 q)
     .omega
    .have:=E.wf x b (E.sub x b V);have q1:m.next<=x:=q.1
     omega
    .show m.next=(m.app D.e).next
     rw[J,e8 a];rfl
   have b7:d=true->OldI F0 (ykp d o.dst (d&&ybtf s rs A) ((i,X.r)::rs)) (X.s.put o.dst X.v) f1:=fun j=>by
    refine(hI j).put (fun t w T=>by rw[c5]at T;exact T) (fun t ht=>yjy (yob ht)) N fun k hk M ho=>?_
    cases G:ybtf s rs A with
    |true=>exact(ycse E b2 (hI j) G B hX k1 e1).1 ho
    | false =>
      rw[G,hk,j]at M;exact(yvm M).elim
   refine⟨⟨D.v,m.app D.e,some D.foot,some D.e.mods⟩,f1,F,ω',X.s.put o.dst X.v,X.r,_,yblh e1,g1,g2,e3.put N e4,⟨k3,ypp zA,b7⟩,?_,L.mark,fun j p O=>?_,Le.refl _,fun x b h=>.inl h,fun I _ x l=>e2 I x l⟩
   .exact R
   .rcases L p O with q|⟨K,a,b⟩
    .exact .inr (.inl (.inl q))
    .rcases H p O with q|⟨K,a,b⟩
     .exact .inr (.inl (.inl q))
     .rcases ycmk k2 j a with q|⟨q,q8⟩
      .exact .inl q
      .refine .inr (.inl (.inr (ybsd (a:=X.r) (e:=⟨f,m,true,⟨D.v,m.app D.e,some D.foot,some D.e.mods⟩⟩) e3 R (b.mono (Le.refl _) e2 e5 (fun x b h=>.inl h) a6) b.le.2 q (q8.imp id fun G ft c3 x l=>?_))));rw[j,zS]at G;cases c3
       obtain⟨y,M⟩:=(ycse E b2 (hI j) G B hX k1 e1).2 x l;exact a3 x y M p O
  .cases hk
 have B:res P o.op=some A:=by
  cases hq:res P o.op with
  |some x=>rw[hq]at C;exact congrArg some C
  |none=>rw[hq]at C;subst C;cases h
 cases A with
 | call fx xs =>
   obtain⟨b1,c6,a7,rfl⟩:=ycom B
   change ycbz ⟨Ct P,Cm P,ItC P,pr,mu⟩ d rs s i an o.dst S (s.get fx) (s.gets b1.toList)at h
   unfold ycbz at h;split at h
   .rename_i g a b xs hf l
    have a1:∀{as:List SV}{Q:SV->Prop},Ct P g as Q->((as=a++xs++b/\(a++xs++b).any (owned 5)=false)\/(as=(a++xs++b).map (view s.o 5)/\allP (vok s.o 5) (a++xs++b)/\∀r,Q r->scalar 5 r=true)) ->
     (∀r,Q r->ybk d rs s i an o.dst S (scalar 5 r) r)->RunR P pr lo F ω f m o d i an ps S F0:=by
     intro as Q a4 b9 a8;obtain⟨U,F',Z,t1,t2,t3,t4,t5,t6,t7,t8,t9⟩:=ycms E a7 hf l a4 b9;obtain⟨k2,k3⟩:=a8 Z t2;obtain⟨f1,g1,g2,N⟩:=yzo hd Y U.v;have b0:∀x b,F' x=some b->F x=some b\/m.next<=x:=fun x b h=>(t8 x b h).imp id And.right
     have L:=H.mono (rs':=(i,⟨[],[],[],true,true,!(scalar 5 Z),false⟩)::rs) (F':=F') (ω':=ω) (nxt':=U.m.next) (fun x l=>zF _ l) t3 (Om.le_refl _) (fun _ _ _ h=>.inl h) b0 t6
     refine⟨U,f1,F',ω,s.put o.dst Z,_,_,t1,g1,g2,t5.put N t4,⟨k3,ypp zA,fun j=>(hI j).put (fun t w T=>T) (fun t ht=>yjy (yob ht)) N fun k hk M _=>by rw[hk,j]at M;exact(yvm M).elim⟩,?_,L.mark,fun j p O=>?_,t3,fun x b h=>(b0 x b h).imp id (zH E.nxt),fun I _ x l=>l⟩
     .refine⟨⟨t6,zJ _⟩,.inr ⟨⟨[],t7,fun x l=>(by cases l)⟩,?_,fun I k z hk a b=>?_,fun W x b V q=>?_,fun a b _=>(by cases b)⟩⟩
      .rcases t9 with⟨hs,ft,h1,h2⟩|⟨hs,h1⟩
       .refine .inr ⟨ft,h1,fun x l=>⟨(h2 x l).1,?_⟩⟩;rcases(h2 x l).2 with⟨b,V⟩|⟨I,z,V⟩
        .exact .inr (.inl ⟨rfl,b,t3 _ _ V⟩)
        .exact .inr (.inr ⟨rfl,I,z,V⟩)
       .exact .inl ⟨rfl,by rw[hs];rfl,h1⟩
      .have:=(E.apart I k z hk).2.2;have a:m.next<=k:=a
       omega
      .rcases t8 x b V with h|⟨h,_⟩
       .have:=E.wf x b (E.sub x b h);have q1:m.next<=x:=q.1
        omega
       .have W:(!(scalar 5 Z))=false:=W;rw[h]at W;cases W
     .rcases H p O with q|⟨K,a,b⟩
      .exact .inr (.inl (.inl q))
      .rcases ybdf k2 j a with q|q
       .exact .inl q
       .exact .inr (.inr ⟨K,b.mono t3 (Om.le_refl _) (fun _ _ _ h=>.inl h) b0 t6,q,b.le.2⟩)
    have a9:∀{Q:SV->Prop},Ct P g (a++xs++b) Q->(a++xs++b).any (owned 5)=false->(∀r,Q r->ydrh d rs s i an o.dst S r)->RunR P pr lo F ω f m o d i an ps S F0:=by
     intro Q a4 hown a8;obtain⟨U,F',Z,t1,t2,t3,t4,t5,t6,t7,t8,ft,h1,h2⟩:=ycet E a7 hf l a4 hown;obtain⟨k2,k3⟩:=a8 Z t2;obtain⟨f1,g1,g2,N⟩:=yzo hd Y U.v;have L:=H.mono (rs':=(i,⟨[],[],[],true,false,true,false⟩)::rs) (F':=F') (ω':=ω) (nxt':=U.m.next) (fun x l=>zF _ l) t3 (Om.le_refl _) (fun _ _ _ h=>.inl h) t8 t6
     refine⟨U,f1,F',ω,s.put o.dst Z,_,_,t1,g1,g2,t5.put N t4,⟨k3,ypp zA,fun j=>(hI j).put (fun t w T=>T) (fun t ht=>yjy (yob ht)) N fun k hk M _=>by rw[hk,j]at M;exact(yvm M).elim⟩,?_,L.mark,fun j p O=>?_,t3,fun x b h=>(t8 x b h).imp id (zH E.nxt),fun I _ x l=>l⟩
     .refine⟨⟨t6,zJ _⟩,.inr ⟨⟨[],t7,fun x l=>(by cases l)⟩,.inr ⟨ft,h1,fun x l=>⟨(h2 x l).1,.inr (.inl ⟨rfl,(h2 x l).2.imp fun b V=>t3 _ _ V⟩)⟩⟩,fun I k z hk a b=>?_,fun W=>(by cases W),fun _ _ W=>(by cases W)⟩⟩
      have:=(E.apart I k z hk).2.2;have a:m.next<=k:=a
      omega
     .rcases H p O with q|⟨K,a,b⟩
      .exact .inr (.inl (.inl q))
      .rcases ybdf k2 j a with q|q
       .exact .inl q
       .exact .inr (.inr ⟨K,b.mono t3 (Om.le_refl _) (fun _ _ _ h=>.inl h) t8 t6,q,b.le.2⟩)
    have a2 : ycna ⟨Ct P,Cm P,ItC P,pr,mu⟩ d rs s i an o.dst S g (a++xs++b)->RunR P pr lo F ω f m o d i an ps S F0:=by
     intro h;obtain⟨ρ,a0,keep,kb,c7,o0,as,b6,T,b5,u,a5,c0⟩:=h;obtain⟨U,F',ω',Z,o',t1,t2,t3,t4,t5,t6,t7,t8,t9⟩:=yccx E a7 hf l b6 T b5 a5 c0;obtain⟨b4,c4⟩:=t2;obtain⟨c1,c2⟩:=t3 b4;obtain⟨f1,g1,g2,N⟩:=yzo hd Y U.v;refine⟨U,f1,F',ω',(ymm s ρ a0 keep kb o').put o.dst (ren (nu ρ a0) 5 Z),SRec.top,_,t1,g1,g2,c1.put N c2,⟨c4,ypp zA,fun j=>(hI j).put (fun t w T=>ybbw T) (fun t ht=>ybxh (yjy (yob ht))) N fun k hk M _=>by rw[hk,j]at M;exact(yvm M).elim⟩,⟨⟨t4,zJ _⟩,.inl rfl⟩,yza.mark fun p O=>?_,fun j p O=>?_,t5,t6,t7 b4⟩
     .rcases H p O with q|⟨K,a,b⟩
      .exact .inl q
      .rcases b.dim (F':=F') (ω':=ω') t4 with q|q
       .exact .inl q
       .exact .inr ⟨_,zF _ (List.mem_map.2 ⟨_,a,rfl⟩),q⟩
     .rcases H p O with q|⟨K,a,b⟩
      .exact .inr (.inl (.inl q))
      .rcases Bool.or_eq_true_iff.1 u with u|u
       .rcases ybdf u j a with q|q
        .exact .inl q
        .refine .inr (.inl (.inl (b.pure ?_)));unfold clash at q;rw[zB,zB]at q;have:=q.1.1
         rwa [show SRec.top.mu=true from rfl,zS,zL]at this
       .rw[zC,zM]at u;rcases Bool.or_eq_true_iff.1 (List.all_eq_true.1 u.2 _ a)with q|q
        .exact .inl q
        .rcases Bool.or_eq_true_iff.1 q with q|q
         .exact .inr (.inl (.inl (b.pure q)))
         .exact .inr (.inl (.inr (ybnd (t9 u.1) t8 b q b.le.2)))
    split at h
    .exact a2 h
    split at h
    .rcases h with h|h
     .exact a1 h.2 (.inr ⟨rfl,h.1,fun r hr=>hr.1⟩) (fun r hr=>by rw[hr.1];exact hr.2)
     .exact a2 h
    .rename_i hown
     split at h
     .exact a9 h (by simpa using hown) (fun r hr=>hr)
     .exact a1 h (.inl ⟨rfl,by simpa using hown⟩) (fun r hr=>hr)
   .cases h
 |_=>exact step (fun X hX b8=>ybfu E B hX b8) B h
end
end Sh
end
section
namespace Sh
open Go Ev
section
variable {P:Program}{lo nt:Nat}{F F':AM}{ω ω':Om}{s:SS}{f:Fr}{m:Mem}{o:Oper}
theorem ybrf:RV F ω (.tp []) undef:=RV.tp (L:=[]) .nil
theorem ybme{ops:List Oper}(h:o.guard=none):yfy ops f o=some true:=by unfold yfy;rw[h]
theorem yxv{ops:List Oper}{j d:Nat}{w:Bool}{a:Oper}(h:o.guard=some (j,w))(c:ops[j]?=some a)(b:a.dst=some d){v:Value}(e:f.t.get d=some v):yfy ops f o=some (ywd w v):=by
 unfold yfy;rw[h];show yvw ops f (j,w)=_;unfold yvw;simp only[c,b];show ob (f.t.get d) _=_;rw[e];rfl
theorem ybfy{ops:List Oper}{g:Option (Nat×Bool)}{t:Nat}{w:Bool}(h:guardOf ops g=some (some (t,w))):∃j a,g=some (j,w)/\ops[j]?=some a/\a.dst=some t:=by
 unfold guardOf at h;split at h
 .cases h
 .rename_i j e
  split at h
  .rename_i a c
   split at h
   .rename_i d b;cases h;exact⟨j,a,rfl,c,b⟩
   .cases h
  .cases h
theorem ybfl{ops:List Oper}{g:Option (Nat×Bool)}(h:guardOf ops g=some none):g=none:=by
 unfold guardOf at h;split at h
 .rfl
 .split at h
  .split at h<;>cases h
  .cases h
theorem Conc.lit(a:Conc lo F ω s f m){t:Nat}{c:Bool}(h:look s.f t=some (.b c)):Conc lo F ω (s.put (some t) (.b c)) f m:=by
 refine⟨a.wf,a.low,a.nxt,a.sub,a.own,a.dom,a.inj,a.apart,fun k v e=>?_⟩;have d:(if t=k then some (SV.b c)else look s.f k)=some v:=e
 split at d
 .rename_i q;subst q;cases d;exact a.fr _ _ h
 .exact a.fr k v d
def Later(an:List Nat)(i:Nat)(es:List Ent)(ps:List (Nat×Ent)):Prop:=∀k e,es[k]?=some e->∀p∈ps,zK (an.getD (i+k) 0) p.1=true\/Ap (i+k) p.1 e p.2
def Among(an:List Nat)(i:Nat)(es:List Ent):Prop:=∀k q e d,q<k->es[k]?=some e->es[q]?=some d->zK (an.getD (i+k) 0) (i+q)=true\/Ap (i+k) (i+q) e d
theorem ybbd{an:List Nat}{i:Nat}{e:Ent}{es:List Ent}{ps:List (Nat×Ent)}(h:Later an (i+1) es ((i,e)::ps))(c:∀p∈ps,zK (an.getD i 0) p.1=true\/Ap i p.1 e p.2)(g:Among an (i+1) es):Later an i (e::es) ps/\Among an i (e::es):=by
 refine⟨fun k x hk p b=>?_,fun k q x d j hk a=>?_⟩
 .cases k with
  |zero=>simp at hk;subst hk;simpa using c p b
  |succ k=>have:=h k x (by simpa using hk) p (zF _ b);rw[show i+(k+1)=i+1+k by omega];exact this
 .cases k with
  |zero=>omega
  | succ k =>
    rw[show i+(k+1)=i+1+k by omega]
    cases q with
    |zero=>simp at a;subst a;exact h k x (by simpa using hk) (i,e) zA
    |succ q=>rw[show i+(q+1)=i+1+q by omega];exact g k q x d (by omega) (by simpa using hk) (by simpa using a)
theorem OldI.lit{F0:AM}{rs:List (Nat×SRec)}{t:Nat}{c:Bool}(h:OldI F0 rs s f)(k:f.t.get t=some (.bool c)):OldI F0 rs (s.put (some t) (.b c)) f:=fun d v a g e=>by
 have a:(if t=d then some (SV.b c)else look s.f d)=some v:=a
 by_cases q:t=d
 .rw[if_pos q]at a;cases a;rw[<-q];exact⟨_,k,.b⟩
 .rw[if_neg q]at a;exact h d v a g e
theorem ywa{Q:List Nm}{X:List FuncId}{d:Bool}{K:SS->Prop}{ops:List Oper}{an:List Nat}{F0:AM}:∀(l:List Oper) (i:Nat) (sl:List SOper) (rs:List (Nat×SRec)) (ps:List (Nat×Ent)) (F:AM) (ω:Om) (s:SS) (f:Fr) (m:Mem),
 cmpL P nt ops an l i=some sl->yqx ⟨Ct P,Cm P,ItC P,Q,X⟩ d K sl i rs s->Conc lo F ω s f m->nt<=f.n->yza F ω m.next rs ps->Le F0 F->(d=true->OldI F0 rs s f)->(∀x b,F0 x=some b->x<m.next)->(∀x b,F0 x=some b->∀p∈ps,x<p.2.m.next) ->
 ∃x es C F' ω',Ev.Trace P ops x l es f m/\Conc lo F' ω' C x.f x.m/\K C/\x.f.n=f.n/\(d=true->Later an i es ps/\Among an i es)/\(Le F F'/\(∀y b,F' y=some b->F y=some b\/lo<=y)/\∀D∈Q,∀x,ω D=some x->ω' D=some x)
 | [],i,sl,rs,ps,F,ω,s,f,m,r,h,B,H,W,_,_,_,_=>by
   cases r
   exact⟨⟨f,m⟩,[],s,F,ω,.nil,B,h,rfl,fun _=>⟨fun k e hk=>by simp at hk,fun k q e d _ hk=>by simp at hk⟩,Le.refl _,fun y b h=>.inl h,fun D _ x hx=>hx⟩
 | o :: l,i,sl,rs,ps,F,ω,s,f,m,r,h,B,H,W,T,R,O,z=>by
   unfold cmpL at r;obtain⟨a0,I,r⟩:=bind_some r;have I:=Option.some.inj I;obtain⟨g,hg,r⟩:=bind_some r;obtain⟨M,hl,r⟩:=bind_some r;split at r
   .rename_i hd
    cases r
    have A:∀(s:SS),Conc lo F ω s f m->(d=true->OldI F0 rs s f)->yfy ops f o=some true->runO ⟨Ct P,Cm P,ItC P,Q,X⟩ d rs s i (an.getD i 0) o.dst (yqx ⟨Ct P,Cm P,ItC P,Q,X⟩ d K M (i+1)) a0 ->
     ∃x es C F' ω',Ev.Trace P ops x (o::l) es f m/\Conc lo F' ω' C x.f x.m/\K C/\x.f.n=f.n/\(d=true->Later an i es ps/\Among an i es)/\(Le F F'/\(∀y b,F' y=some b->F y=some b\/lo<=y)/\∀D∈Q,∀x,ω D=some x->ω' D=some x):=by
     intro s B R S J;obtain⟨r2,f1,F1,a2,s1,rc,a1,t1,t2,t3,t4,⟨t5,tm,tI⟩,t6,t7,t8,t9,t10,t11⟩:=ycfv B I H hd W T R z J;have V:m.next<=r2.m.next:=t6.le.1
     obtain⟨x,es,C,F',ω',u1,u2,u3,u4,u5,u6,u7,u8⟩:=ywa l (i+1) M a1 ((i,⟨f,m,true,r2⟩)::ps) F1 a2 s1 f1 r2.m hl t5 t4 (by rw[t3];exact H)
      (fun p N=>by
        rcases List.mem_cons.1 N with q|q
        .subst q;exact .inr ⟨rc,tm,t6⟩
        .exact t7 p q) (T.trans t9) tI (fun x b h=>zG (O x b h) V) (fun x b h p N=>by
        rcases List.mem_cons.1 N with q|q
        .subst q;exact O x b h
        .exact z x b h p q)
     refine⟨x,⟨f,m,true,r2⟩::es,C,F',ω',.cons (e:=⟨f,m,true,r2⟩) ⟨S,fun _=>t1,fun q=>by cases q⟩ t2 u1,u2,u3,by rw[u4,t3],fun v=>?_,t9.trans u6,fun y b h=>(u7 y b h).elim (t10 y b) .inr,fun D Z x hx=>u8 D Z x (t11 D Z x hx)⟩
     obtain⟨v1,v2⟩:=u5 v;refine ybbd v1 (fun p N=>?_) v2;rcases t8 v p N with q|(q|q)|⟨a3,a,b,c⟩
     .exact .inl q
     .exact .inr (.inr (.inl q))
     .exact .inr q
     .exact .inr (ybsd t4 t6 a c (ybey b).1 (.inl (ybey b).2))
    have idle:∀(s:SS),Conc lo F ω s f m->(d=true->OldI F0 rs s f)->yfy ops f o=some false->yqx ⟨Ct P,Cm P,ItC P,Q,X⟩ d K M (i+1) rs (s.put o.dst (.tp [])) ->
     ∃x es C F' ω',Ev.Trace P ops x (o::l) es f m/\Conc lo F' ω' C x.f x.m/\K C/\x.f.n=f.n/\(d=true->Later an i es ps/\Among an i es)/\(Le F F'/\(∀y b,F' y=some b->F y=some b\/lo<=y)/\∀D∈Q,∀x,ω D=some x->ω' D=some x):=by
     intro s B R S J;obtain⟨f1,g1,g2,g3⟩:=yzo hd H undef;have E:Ent.idle ⟨f,m,false,⟨undef,m,some [],some []⟩⟩=true:=yqq rfl
     obtain⟨x,es,C,F',ω',u1,u2,u3,u4,u5,u6⟩:=ywa l (i+1) M rs ((i,⟨f,m,false,⟨undef,m,some [],some []⟩⟩)::ps) F ω _ f1 m hl J (B.put g3 ybrf) (by rw[g2];exact H)
      (fun p N=>by
        rcases List.mem_cons.1 N with q|q
        .subst q;exact .inl E
        .exact W p q) T (fun v=>(R v).put (fun t w S=>S) (fun t ht=>ht) g3 fun k hk hy ho=>ybrf) O (fun x b h p N=>by
        rcases List.mem_cons.1 N with q|q
        .subst q;exact O x b h
        .exact z x b h p q)
     refine⟨x,⟨f,m,false,⟨undef,m,some [],some []⟩⟩::es,C,F',ω',.cons (e:=⟨f,m,false,⟨undef,m,some [],some []⟩⟩) ⟨S,fun q=>(by cases q),fun _=>rfl⟩ g1 u1,u2,u3,by rw[u4,g2],fun v=>?_,u6⟩
     obtain⟨v1,v2⟩:=u5 v;exact ybbd v1 (fun p N=>.inr (.inl E)) v2
    cases g with
    |none=>exact A s B R (ybme (ybfl hg)) h
    | some tw =>
      obtain⟨t,w⟩:=tw;obtain⟨j,oj,e1,e2,e3⟩:=ybfy hg
      change yvs ⟨Ct P,Cm P,ItC P,Q,X⟩ d rs s i (an.getD i 0) o.dst (yqx ⟨Ct P,Cm P,ItC P,Q,X⟩ d K M (i+1)) a0 t w (look s.f t)at h
      unfold yvs at h;split at h
      .rename_i c G
       obtain⟨u,k1,k2⟩:=B.fr t _ G;cases k2.bool_inv
       have S:=yxv e1 e2 e3 k1;have hb:ywd w (.bool c)=(c==w):=rfl
       by_cases Y:c=w
       .subst Y;exact A _ (B.lit G) (fun v=>(R v).lit k1) (by rw[S,hb];simp) (h.1 rfl)
       .have U:c = !w:=by cases c<;>cases w<;>simp_all
        refine idle _ (by rw[<-U];exact B.lit G) (fun v=>by rw[<-U];exact(R v).lit k1) (by rw[S,hb];simp[Y]) (h.2 U)
      .rename_i G
       obtain⟨u,k1,k2⟩:=B.fr t _ G;obtain⟨L,rfl,hL⟩:=k2.tp_inv;exact idle s B R (by rw[yxv e1 e2 e3 k1];rfl) h
      .cases h
   .cases r
end
end Sh
end
section
namespace Sh
open Go Ev
noncomputable def cmp(P:Program)(nt:Nat):Code->Option SC
 |.skip=>some .skip
 |.seq a b=>(cmp P nt a).bind fun a=>(cmp P nt b).bind fun b=>some (.seq a b)
 |.cond c a b=>(cmp P nt a).bind fun a=>(cmp P nt b).bind fun b=>some (.cond c a b)
 |.block id b=>(cmp P nt b).bind fun b=>some (.block id b)
 |.loop b=>(cmp P nt b).bind fun b=>some (.loop b)
 |.exit id=>some (.exit id)
 |.ret=>some .ret
 |.region _ e d=>(cmpL P nt e.toList (ancs e.toList []).reverse e.toList 0).bind fun l=>if d=false\/ykv e.toList (ancs e.toList []).reverse=true then some (.reg d l)else none
 |.rangeFunc g h a b=>(cmp P nt a).bind fun i=>(cmp P nt b).bind fun j=>if (h.toList.all fun p=>decide (p<nt))=true then some (.range g h.toList i j)else none
 |_=>some .no
def ycht(n:SS->Prop)(K:Exit->SS->Prop):Exit->SS->Prop
 |.normal,s=>n s
 |e,s=>K e s
def ybhq(id:Nat)(K:Exit->SS->Prop):Exit->SS->Prop
 |.exit i,s=>if i=id then K .normal s else K (.exit i) s
 |e,s=>K e s
def SS.lit(s:SS)(c:Operand)(x:Bool):SS:=match c with
 |.tmp t=>s.put (some t) (.b x)
 |_=>s
def yccs(t:Option SV)(c:Operand)(s:SS)(a b:SS->Prop):Prop:=match t with
 |some (.b x)=>(x=true->a (s.lit c true))/\(x=false->b (s.lit c false))
 |_=>False
def ybvw(b:List Nm)(I:Nat->SS->Prop)(n:Nat)(K:Exit->SS->Prop):Exit->SS->Prop
 |.normal,t=>∃a u,a<n/\I a u/\Weak b t u
 |e,t=>K e t
def ydmk(b:List Nm)(a:(Exit->SS->Prop)->SS->Prop)(K:Exit->SS->Prop)(s:SS):Prop :=
 ∃I:Nat->SS->Prop,(∃n t,I n t/\Weak b s t)/\∀n t,I n t->a (ybvw b I n K) t
def puts(s:SS):List Nat->List SV->Option SS
 |p::a,v::b=>puts (s.put (some p) v) a b
 |[],[]=>some s
 |_,_=>none
def ydmd(n:SS->Prop):Exit->SS->Prop
 |.normal,s=>n s
 |_,_=>False
def ybjv(K:Exit->SS->Prop)(t:SS)(a:Own->Prop):Exit->SS->Prop
 |.normal,u=>a u.o
 |.ret,u=>K .ret ⟨t.f,u.o⟩
 |.exit id,u=>K (.exit id) ⟨t.f,u.o⟩
 |_,_=>False
def ychh(C:CC)(d:Operand)(ps:List Nat)(e h:CC->(Exit->SS->Prop)->SS->Prop)(K:Exit->SS->Prop)(s:SS):Prop :=
 ∃ (b:List Nm) (I:Nat->SS->Prop) (g:FuncId) (a:List SV) (S:ItS),C.it g a S/\((∀c∈C.pr,c∈b)/\∀c∈S.pr,c∈b)/\(∃t,I 0 t/\Weak C.pr s t)/\(∀t,I 0 t->t.get d=some (.fn g [] a)) /\
   (∀k t,I k t->S.own k t.o/\allQ (fun p=>cln (nmem b) 5 p.2=true) t.f) /\
   (∀k t,I k t->k<S.n->∃t1,puts t ps (S.el k)=some t1/\e ⟨C.ct,C.cm,C.it,b,C.mu⟩ (ydmd (h ⟨C.ct,C.cm,C.it,b,C.mu⟩ (ybjv K t fun o=>S.own k o/\∃u,I (k+1) u/\Weak b ⟨t.f,S.adv k o⟩ u))) t1) /\
   (∀t,I S.n t->K .normal t)
def vcR:SC->CC->(Exit->SS->Prop)->SS->Prop
 |.skip,_,K,s=>K .normal s
 |.seq a b,C,K,s=>vcR a C (ycht (vcR b C K) K) s
 |.cond c a b,C,K,s=>yccs (s.get c) c s (vcR a C K) (vcR b C K)
 |.block id b,C,K,s=>vcR b C (ybhq id K) s
 |.loop b,C,K,s=>ydmk C.pr (vcR b C) K s
 |.exit id,_,K,s=>K (.exit id) s
 |.ret,_,K,s=>K .ret s
 |.reg d e,C,K,s=>yqx C d (K .normal) e 0 [] s
 |.range g h a b,C,K,s=>ychh C g h (vcR a) (vcR b) K s
 |.no,_,_,_=>False
def vc(C:CC)(c:SC)(K:Exit->SS->Prop)(s:SS):Prop:=vcR c C K s
section
variable {P:Program}{lo nt:Nat}{F F':AM}{ω ω':Om}{s:SS}{f f':Fr}{m m':Mem}
theorem yxb{ops:Array Oper}{x:FM}{rr:Option Nat}:∀{l:List Oper}{es:List Ent}{f:Fr}{m:Mem},Ev.Trace P ops.toList x l es f m->Wf m ->
 Grow m x.m/\∀φ M w a Q,Rel φ M w->Sub m M->FrR φ f a->yhh φ m.next x.m.next->(∀a' p b q,Ev.Good φ M w m x.m b q p->FrR b x.f a'->a'.defers=a.defers->Q .normal a' p)->wpListIn (wr rr) 0 P ops Q l a w
 |_,_,_,_,.nil,A=>⟨Grow.refl A,fun φ M w a Q t y k _ r=>r a w φ M (Ev.Good.refl t y) k rfl⟩
 | _,_,_,_,.cons (o:=o) (l:=l) (e:=e) (es:=es) (f1:=f1) S I h,A=>by
   obtain⟨L,N,O⟩:=S;cases j:e.w with
   | false =>
     have T:=O j;rw[T]at I h;obtain⟨n,D⟩:=yxb h A;refine⟨n,fun φ M w a Q t y k i r=>wpListIn_step fun K E=>?_⟩;rw[yfv (φ:=φ) L (fun _ _ _ d v _ _ _ z=>k.get d v z),j];exact⟨fun _ _=>trivial,E _ _ (D φ M w _ Q t y (k.put I VR.undef) i fun a' p b q U V W=>r a' p b q U V (W.trans (Ev.Act.put_defers _ _ _)))⟩
   | true =>
     have c:=N j;have g:=c.pure A;obtain⟨n,D⟩:=yxb h g.ext.wf;refine⟨Grow.trans ⟨g.ext,g.low⟩ n,fun φ M w a Q t y k i r=>wpListIn_step fun K E=>?_⟩;rw[yfv (φ:=φ) L (fun _ _ _ d v _ _ _ z=>k.get d v z),j];refine opIn c.plain (c.seq A t y k (i.left n.ext.next) fun X p b q u z=>E _ _ ?_)
     refine D b q p _ Q u.rel u.sub ((k.mono u.le).put I z) (u.fresh g.ext i) fun a' J B C H G R=>?_;exact r a' J B C (Ev.Good.trans g.ext n.ext n.low u H) G (R.trans (Ev.Act.put_defers _ _ _))
def Grew(c:List Nm)(lo:Nat)(F:AM)(ω:Om)(F':AM)(ω':Om):Prop:=Le F F'/\(∀y b,F' y=some b->F y=some b\/lo<=y)/\∀a∈c,∀x,ω a=some x->ω' a=some x
theorem Grew.refl(a:List Nm)(lo:Nat)(F:AM)(ω:Om):Grew a lo F ω F ω:=⟨Le.refl _,fun _ _ h=>.inl h,fun _ _ _ h=>h⟩
theorem Grew.trans{g:List Nm}{lo:Nat}{F F' d:AM}{ω ω' c:Om}(a:Grew g lo F ω F' ω')(b:Grew g lo F' ω' d c):Grew g lo F ω d c :=
 ⟨a.1.trans b.1,fun y x h=>(b.2.1 y x h).elim (a.2.1 y x) .inr,fun i e x j=>b.2.2 i e x (a.2.2 i e x j)⟩
def ycgp(P:Program)(b:List Nm)(lo:Nat)(c:Code)(F:AM)(ω:Om)(f:Fr)(m:Mem)(K:Exit->SS->Prop):Prop :=
 ∃e f' m' a F' ω',ydb P c f m e f' m'/\Conc lo F' ω' a f' m'/\K e a/\f'.n=f.n/\Grew b lo F ω F' ω'
theorem ybin {Q:List Nm}{X:List FuncId}(B:P.follows .mixedOrders=true) {id:Nat}{ops:Array Oper}{d:Bool}{l:List SOper}{K:Exit->SS->Prop}(A:cmpL P nt ops.toList (ancs ops.toList []).reverse ops.toList 0=some l) (o:d=false\/ykv ops.toList (ancs ops.toList []).reverse=true)
 (h:yqx ⟨Ct P,Cm P,ItC P,Q,X⟩ d (K .normal) l 0 [] s) (z:Conc lo F ω s f m) (J:nt<=f.n):ycgp P Q lo (.region id ops d) F ω f m K:=by
 obtain⟨x,es,Y,F',ω',t1,t2,t3,t4,t5,t6⟩:=ywa (an:=(ancs ops.toList []).reverse) (F0:=F) ops.toList 0 l [] [] F ω s f m A h z J (fun p L=>by cases L) (Le.refl _) (fun _ t v W _ U=>by
  obtain⟨u,S,T⟩:=z.fr t v W;exact⟨u,S,yep U T⟩) (fun x b h=>z.wf x b (z.sub x b h)) (fun x b _ p L=>by cases L)
 refine⟨.normal,x.f,x.m,Y,F',ω',?_,t2,t3,t4,t6⟩;cases d with
 | false =>
   have c:=fun rr=>yxb (rr:=rr) t1 z.wf;exact⟨(c none).1,fun O M w a r _ D N H i=>wpIn_region_list ((c r).2 O M w a _ D N H i fun R Z y C j g G=>⟨rfl,y,C,j,g,Df.same G⟩)⟩
 | true =>
   rcases o with q|o
   .cases q
   .obtain⟨_,E⟩:=t5 rfl;have c:=fun rr=>ybji (rr:=rr) B o t1 (fun k q e d I hk V=>by have:=E k q e d I hk V;simpa using this) z.wf
    exact⟨(c none).1,fun O M w a r _ D N H i=>(c r).2 id O M w a _ D N H i fun R Z y C j g G=>⟨rfl,y,C,j,g,Df.same G⟩⟩
inductive Rounds (P:Program) (b:Code):Nat->Fr->Mem->Exit->Fr->Mem->Prop
 |stop {f m e f' m'} (h:ydb P b f m e f' m') (he:e ≠ .normal):Rounds P b 1 f m e f' m'
 |next {n f m f1 m1 e f' m'} (h:ydb P b f m .normal f1 m1) (hr:Rounds P b n f1 m1 e f' m'):Rounds P b (n+1) f m e f' m'
theorem Rounds.grow{b:Code}{n:Nat}{e:Exit}(h:Rounds P b n f m e f' m'):Grow m m'/\e ≠ .normal:=by
 induction h with
 |stop h c=>exact⟨h.1,c⟩
 |next h _ a=>exact⟨h.1.trans a.1,a.2⟩
theorem Rounds.run{b:Code}{rr:Option Nat}{n:Nat}{f f':Fr}{m m':Mem}{e:Exit}(h:Rounds P b n f m e f' m'):
 ∀φ M w a Q,InR rr w->Rel φ M w->Sub m M->FrR φ f a->yhh φ m.next m'.next->(∀a' o c p,Ev.Good φ M w m m' c p o->FrR c f' a'->Df w o a a'->Q e a' o)->Code.roundsIn (wr rr) 0 P b Q n a w:=by
 induction h with
 | stop d G =>
   intro φ M w a Q j u C B g y;rw[roundsIn_succ];refine wpIn_mono (d.2 φ M w a rr j u C B g) ?_;rintro E a' o ⟨rfl,c,p,i,k,z⟩;exact ynk G (y a' o c p i k z)
 | next d H I =>
   intro φ M w a Q j u C B g y;have l:=H.grow.1;rw[roundsIn_succ];refine wpIn_mono (d.2 φ M w a rr j u C B (g.left l.ext.next)) ?_
   rintro E a' o ⟨rfl,c,p,i,k,z⟩;exact I c p o a' Q (j.step u i.wg) i.rel i.sub k (i.fresh d.1.ext g) fun x D t v r q A=>y x D t v (Ev.Good.trans d.1.ext l.ext l.low i r) q (z.trans i.wg.size i.rel r.wg A)
theorem Rounds.sound{b:Code}{n:Nat}{e:Exit}(h:Rounds P b n f m e f' m'):ydb P (.loop b) f m e f' m' :=
 ⟨h.grow.1,fun r M w a _ p k q o d=>wpIn_loop_rounds n (Rounds.run (b:=b) h r M w a _ p k q o d fun _ _ i j g c l=>⟨rfl,i,j,g,c,l⟩)⟩
theorem ybpt(a:Conc lo F ω s f m){c:Operand}{x:Bool}(h:s.get c=some (.b x)):Conc lo F ω (s.lit c x) f m:=by
 cases c with
 |tmp t=>exact a.lit h
 |_=>exact a
theorem Grew.less{c a:List Nm}(h:∀b∈c,b∈a)(g:Grew a lo F ω F' ω'):Grew c lo F ω F' ω':=⟨g.1,g.2.1,fun b d x e=>g.2.2 b (h b d) x e⟩
theorem ybjf:∀{ps:List Nat}{i:List SV}{us:List Value}{s:SS}{f:Fr}{t:SS},Conc lo F ω s f m->puts s ps i=some t->RVL F ω i us->(ps.all fun p=>decide (p<nt))=true->nt<=f.n ->
 ∃f1,yboa us ps f=some f1/\Conc lo F ω t f1 m/\f1.n=f.n
 |[],[],[],s,f,t,g,h,.nil,_,_=>by cases h;exact⟨f,rfl,g,rfl⟩
 | p::ps,v::i,u::us,s,f,t,g,h,.cons a b,e,k=>by
   simp only[List.all_cons,zC,decide_eq_true_eq]at e;obtain⟨f1,c,j,r⟩:=yzo (f:=f) (nt:=nt) (d:=some p) (by simpa[ycpf]using e.1) k u
   obtain⟨f2,l,o,q⟩:=ybjf (g.put r a) h b e.2 (by rw[j];exact k)
   have c:Fr.putD u p f=some f1:=c;exact⟨f2,by show(Fr.putD u p f).bind _=_;rw[c];exact l,o,by rw[q,j]⟩
 |[],_::_,_,_,_,_,_,h,_,_,_=>by cases h
 |_::_,[],_,_,_,_,_,h,_,_,_=>by cases h
theorem ycqv{l:List Nm}{x:Nm}(h:nmem l x=true):x∈l:=yje.1 h
theorem Conc.back(k:Conc lo F ω s f m){t:SS}{d:List Nm}(a:Conc lo F' ω' t f' m')(c:allQ (fun p=>cln (nmem d) 5 p.2=true) s.f)(i:Le F F')(l:∀b∈d,∀x,ω b=some x->ω' b=some x):Conc lo F' ω' ⟨s.f,t.o⟩ f m' :=
 ⟨a.wf,a.low,a.nxt,a.sub,a.own,a.dom,a.inj,a.apart,fun x v e=>by
   obtain⟨u,g,h⟩:=k.fr x v e;exact⟨u,g,(ybry (L:=nmem d) (fun b y j n=>l b (ycqv j) y n) h (ycz c _ (ydr e))).mono i (Om.le_refl _)⟩⟩
theorem ybax{mu:List FuncId}(d3:P.follows .mixedOrders=true):∀(c:Code) (sc:SC),cmp P nt c=some sc->∀(q:List Nm) (K:Exit->SS->Prop) (s:SS) (lo:Nat) (F:AM) (ω:Om) (f:Fr) (m:Mem),vc ⟨Ct P,Cm P,ItC P,q,mu⟩ sc K s->Conc lo F ω s f m->nt<=f.n->ycgp P q lo c F ω f m K:=by
 intro c
 induction c with
 | skip =>
   intro sc h q K s lo F ω f m p j C;cases h
   exact⟨.normal,f,m,s,F,ω,⟨Grow.refl j.wf,fun G M w a r _ hR hs hf _=>wpIn_skip ⟨rfl,G,M,Ev.Good.refl hR hs,hf,Df.same rfl⟩⟩,j,p,rfl,Grew.refl _ _ _ _⟩
 | exit id =>
   intro sc h q K s lo F ω f m p j C;cases h
   exact⟨.exit id,f,m,s,F,ω,⟨Grow.refl j.wf,fun G M w a r _ hR hs hf _=>wpIn_exit ⟨rfl,G,M,Ev.Good.refl hR hs,hf,Df.same rfl⟩⟩,j,p,rfl,Grew.refl _ _ _ _⟩
 | ret =>
   intro sc h q K s lo F ω f m p j C;cases h
   exact⟨.ret,f,m,s,F,ω,⟨Grow.refl j.wf,fun G M w a r _ hR hs hf _=>wpIn_ret ⟨rfl,G,M,Ev.Good.refl hR hs,hf,Df.same rfl⟩⟩,j,p,rfl,Grew.refl _ _ _ _⟩
 | region id g4 d =>
   intro sc h q K s lo F ω f m p j C;obtain⟨l,X,h⟩:=bind_some h;split at h
   .rename_i f6
    cases h
    exact ybin d3 X f6 p j C
   .cases h
 | seq a b b6 b7 =>
   intro sc h q K s lo F ω f m p j C;obtain⟨sa,X,h⟩:=bind_some h;obtain⟨sb,h2,h⟩:=bind_some h;cases h
   obtain⟨e,f1,U,Z,F1,J,t1,t2,t3,t4,t5⟩:=b6 sa X q _ s lo F ω f m p j C
   by_cases he:e = .normal
   .subst he;obtain⟨e2,f2,m2,s2,F2,A,u1,u2,u3,u4,u5⟩:=b7 sb h2 q K Z lo F1 J f1 U t3 t2 (by rw[t4];exact C)
    exact⟨e2,f2,m2,s2,F2,A,t1.seq u1,u2,u3,by rw[u4,t4],t5.trans u5⟩
   .refine⟨e,f1,U,Z,F1,J,⟨t1.1,fun G M w W r b0 hR hs hf a8=>wpIn_seq (wpIn_mono (t1.2 G M w W r b0 hR hs hf a8) ?_)⟩,t2,by cases e<;>first|exact absurd rfl he|exact t3,t4,t5⟩
    intro e' g3 w' L;exact ynk (by rw[L.1];exact he) L
 | cond c a b b6 b7 =>
   intro sc h q K s lo F ω f m p j C;obtain⟨sa,X,h⟩:=bind_some h;obtain⟨sb,h2,h⟩:=bind_some h;cases h
   change yccs (s.get c) c s (vc ⟨Ct P,Cm P,ItC P,q,mu⟩ sa K) (vc ⟨Ct P,Cm P,ItC P,q,mu⟩ sb K)at p
   unfold yccs at p;split at p
   .rename_i x hx
    obtain⟨u,k1,k2⟩:=j.get hx;cases k2.bool_inv
    have d7:∀z:Code,ycgp P q lo z F ω f m K->(if x then a else b)=z->ycgp P q lo (.cond c a b) F ω f m K:=by
     rintro z ⟨e,f1,U,Z,F1,J,t1,t2,t3,t4,t5⟩ he;refine⟨e,f1,U,Z,F1,J,⟨t1.1,fun G M w W r b0 hR hs hf a8=>wpIn_cond (t:=x) ?_ (by rw[he];exact t1.2 G M w W r b0 hR hs hf a8)⟩,t2,t3,t4,t5⟩
     exact((yjq (fun t v _ ht=>hf.get t v ht) k1).bool_iff x).2 rfl
    cases x with
    |true=>exact d7 a (b6 sa X q K _ lo F ω f m (p.1 rfl) (ybpt j hx) C) rfl
    |false=>exact d7 b (b7 sb h2 q K _ lo F ω f m (p.2 rfl) (ybpt j hx) C) rfl
   .cases p
 | block id b ih =>
   intro sc h q K s lo F ω f m p j C;obtain⟨sb,X,h⟩:=bind_some h;cases h
   obtain⟨e,f1,U,Z,F1,J,t1,t2,t3,t4,t5⟩:=ih sb X q _ s lo F ω f m p j C
   have out:∀e',(∀G M w a W w',ycmm G M w m e f1 U a e W w'->Exit.inBlock id (ycmm G M w m e' f1 U a) e W w')->K e' Z->ycgp P q lo (.block id b) F ω f m K:=by
    intro e' hh hk;refine⟨e',f1,U,Z,F1,J,⟨t1.1,fun G M w a r b0 hR hs hf a8=>wpIn_block (wpIn_mono (t1.2 G M w a r b0 hR hs hf a8) ?_)⟩,t2,hk,t4,t5⟩;intro e2 W w' L;have e6:=L.1;subst e6;exact hh G M w a W w' L
   cases e with
   | exit i =>
     change (if i=id then K .normal Z else K (.exit i) Z)at t3
     by_cases hi:i=id
     .subst hi;rw[if_pos rfl]at t3;exact out .normal (fun G M w a W w' L=>by simp only[Exit.inBlock,if_true];exact⟨rfl,L.2⟩) t3
     .rw[if_neg hi]at t3;exact out (.exit i) (fun G M w a W w' L=>by simp only[Exit.inBlock,if_neg hi];exact L) t3
   |normal=>exact out .normal (fun G M w a W w' L=>L) t3
   |ret=>exact out .ret (fun G M w a W w' L=>L) t3
   |_=>exact out _ (fun G M w a W w' L=>L) t3
 | loop b ih =>
   intro sc h q K s lo F ω f m p j C;obtain⟨sb,X,h⟩:=bind_some h;cases h
   obtain⟨I,⟨n0,t0,a0,c7⟩,c6⟩:=p
   have b8:∀n t F ω f m,I n t->Conc lo F ω t f m->nt<=f.n->∃N e f' m' V F' ω',Rounds P b N f m e f' m'/\Conc lo F' ω' V f' m'/\K e V/\f'.n=f.n/\Grew q lo F ω F' ω':=by
    intro n
    induction n using Nat.strongRecOn with
    | _ n g0 =>
      intro t F ω f m hI j C;obtain⟨e,f1,U,Z,F1,J,t1,t2,t3,t4,t5⟩:=ih sb X q _ t lo F ω f m (c6 n t hI) j C
      by_cases he:e = .normal
      .subst he;obtain⟨n',u,O,d8,c8⟩:=t3;obtain⟨A,c2,w1,w2,R,w3⟩:=c8 lo F1 J f1 U t2;obtain⟨N,e2,f2,m2,s2,F2,c9,r1,r2,r3,r4,r5⟩:=g0 n' O u c2 A f1 U d8 R (by rw[t4];exact C)
       exact⟨N+1,e2,f2,m2,s2,F2,c9,.next t1 r1,r2,r3,by rw[r4,t4],t5.trans (Grew.trans ⟨w1,w2,w3⟩ r5)⟩
      .exact⟨1,e,f1,U,Z,F1,J,.stop t1 he,t2,by cases e<;>first|exact absurd rfl he|exact t3,t4,t5⟩
   obtain⟨A,c2,w1,w2,R,w3⟩:=c7 lo F ω f m j;obtain⟨N,e,f',m',V,F',ω',r1,r2,r3,r4,r5⟩:=b8 n0 t0 c2 A f m a0 R C;exact⟨e,f',m',V,F',ω',r1.sound,r2,r3,r4,Grew.trans ⟨w1,w2,w3⟩ r5⟩
 | rangeFunc gx ps a b b6 b7 =>
   intro sc h q K s lo F ω f m p j C;obtain⟨sa,X,h⟩:=bind_some h;obtain⟨sb,h2,h⟩:=bind_some h;split at h
   .rename_i e3
    cases h
    obtain⟨Y,I,g,d0,S,hit,⟨f0,c4⟩,⟨t0,a0,c7⟩,d2,a9,b9,hend⟩:=p;obtain⟨A,F2,w1,w2,R,w3⟩:=c7 lo F ω f m j;obtain⟨u,f7,f8⟩:=R.get (d2 t0 a0)
    obtain⟨B,rfl,hB⟩:∃B:List Value,u = .func (.func g) #[] B.toArray/\RVL F2 A d0 B:=by
     cases f8 with
     |fn X h2=>cases X;exact⟨_,rfl,h2⟩
    obtain⟨T,hT,c3,a6⟩:=hit lo F2 A t0 f m B R hB (a9 0 t0 a0).1
    have b8:∀d k t F' ω' m',S.n-k=d->k<=S.n->I k t->Conc lo F' ω' t f m'->Le F2 F'->(∀E∈Y,∀x,A E=some x->ω' E=some x) ->
     ∃e H V Q y,RRounds P f ps.toList a b T k m' e H/\Conc lo Q y V f H/\K e V/\Grew Y lo F' ω' Q y:=by
     intro d
     induction d with
     | zero =>
       intro k t F' ω' m' hd hk hI D hF ho;obtain rfl:k=S.n:=by omega
       have L:=(a6 F' ω' t f m' _ hF (fun E hb=>ho E (c4 E hb)) D (zJ _) (a9 _ t hI).1).1;refine⟨.normal,m',t,F',ω',?_,D,hend t hI,Grew.refl _ _ _ _⟩;rw[<-c3]at L ⊢;exact .done L
     | succ d f9 =>
       intro k t F' ω' m' hd hk hI D hF ho;have O:k<S.n:=by omega
       obtain⟨hown,e4⟩:=a9 k t hI;obtain⟨c1,e8⟩:=a6 F' ω' t f m' k hF (fun E hb=>ho E (c4 E hb)) D hk hown;obtain⟨e7,_⟩:=e8 O;obtain⟨t1,d6,f5⟩:=b9 k t hI O;obtain⟨f1,q1,q2,q3⟩:=ybjf D d6 e7 e3 C;obtain⟨e1,f3,U,Z,F3,c9,a1,a2,a3,a4,a5⟩:=b6 sa X Y _ t1 lo F' ω' f1 m' f5 q2 (by rw[q3];exact C)
       have e5:e1 = .normal:=by cases e1<;>first|rfl|exact a3.elim
       subst e5;obtain⟨e2,f4,m2,s2,F4,c0,b1,b2,b3,b4,b5⟩:=b7 sb h2 Y _ Z lo F3 c9 f3 U a3 a2 (by rw[a4,q3];exact C)
       have hG:=a5.trans b5;have a7:=D.back b2 e4 hG.1 hG.2.2
       have stop:(e2 = .ret\/∃id,e2 = .exit id)->K e2 ⟨t.f,s2.o⟩->∃e H V Q y,RRounds P f ps.toList a b T k m' e H/\Conc lo Q y V f H/\K e V/\Grew Y lo F' ω' Q y:=fun he hK =>
        ⟨e2,m2,⟨t.f,s2.o⟩,F4,c0,.stop (by rw[c3];exact O) c1 q1 a1 he b1,a7,hK,hG⟩
       cases e2 with
       | normal =>
         obtain⟨e9,u,d9,c8⟩:=b3;have d1:Le F2 F4:=hF.trans hG.1;have d5:∀E∈Y,∀x,A E=some x->c0 E=some x:=fun E hb x hx=>hG.2.2 E hb x (ho E hb x hx);obtain⟨c5,d4⟩:=a6 F4 c0 ⟨t.f,s2.o⟩ f m2 k d1 (fun E hb=>d5 E (c4 E hb)) a7 hk e9;obtain⟨g1,F5,v1,v2,e0,v3⟩:=c8 lo F4 c0 f _ (d4 O).2;obtain⟨e,H,V,F6,g2,r1,r2,r3,r4⟩:=f9 (k+1) u F5 g1 _ (by omega) O d9 e0 (d1.trans v1) (fun E hb x hx=>v3 E hb x (d5 E hb x hx))
         exact⟨e,H,V,F6,g2,.next (by rw[c3];exact O) c1 q1 a1 b1 c5 r1,r2,r3,hG.trans (Grew.trans ⟨v1,v2,v3⟩ r4)⟩
       |ret=>exact stop (.inl rfl) b3
       |exit id=>exact stop (.inr ⟨id,rfl⟩) b3
       |_=>exact b3.elim
    obtain⟨e,H,V,Q,y,r1,r2,r3,r4⟩:=b8 _ 0 t0 F2 A m rfl (zAE _) a0 R (Le.refl _) (fun _ _ _ h=>h);exact⟨e,f,H,V,Q,y,ycqs hT f7 j.wf r1,r2,r3,rfl,Grew.trans ⟨w1,w2,w3⟩ (r4.less f0)⟩
   .cases h
 |_=>intro sc h q K s lo F ω f m p;cases h;exact p.elim
end
end Sh
end
section
namespace Sh
open Go Ev
inductive SR where
 |t (n:Nat)
 |c (a:Nat) (ag:Bool) (n:Nat)
noncomputable def cmpR(P:Program):List ResultVar->Option (List SR)
 |[]=>some []
 |.tmp t::l=>(cmpR P l).bind fun r=>some (.t t::r)
 |.cell a t::l=>(P.underlying t).bind fun d=>(P.info? t).bind fun i=>(cmpR P l).bind fun r=>some (.c a (yjc d) i.size::r)
def resX(s:SS):List SR->(List SV->Prop)->Prop
 |[],K=>K []
 | .t n::l,K=>match look s.f n with
   |some v=>resX s l fun b=>K (v::b)
   |none=>False
 | .c a ag n::l,K=>match look s.f a with
   | some p=>(match yyv s ag n p with
     |some r=>r.c/\resX s l fun b=>K (r.v::b)
     |none=>False)
   |none=>False
def yji:List SV->SV
 |[v]=>v
 |vs=>.tp vs
def retK(rs:List SR)(Q:SV->Prop):Exit->SS->Prop
 |.normal,s=>resX s rs fun a=>vok s.o 5 (yji a)/\Q (view s.o 5 (yji a))
 |.ret,s=>resX s rs fun a=>vok s.o 5 (yji a)/\Q (view s.o 5 (yji a))
 |_,_=>False
def yhi(b:List Nm)(s:SS)(Q:SV->Own->Prop)(v:SV):Prop :=
 ∃r a,Weak b ⟨[(0,v)],s.o⟩ ⟨[(0,r)],a⟩/\(cln (live a) 5 r=true/\allQ (fun p=>ycl (live a) p.2) a/\allQ (fun c=>live a c=true) b)/\Q r a
def retM(rs:List SR)(b:List Nm)(Q:SV->Own->Prop):Exit->SS->Prop
 |.normal,s=>resX s rs fun a=>yhi b s Q (yji a)
 |.ret,s=>resX s rs fun a=>yhi b s Q (yji a)
 |_,_=>False
section
variable {P:Program}{lo nt:Nat}{F F':AM}{ω ω':Om}{s:SS}{f f':Fr}{m m':Mem}
theorem ybcb (D:Conc lo F ω s f m):∀{l:List ResultVar}{rs:List SR}{K:List SV->Prop},cmpR P l=some rs->resX s rs K->∃H us,resA P m f l=some us/\RVL F ω H us/\K H
 |[],rs,K,h,hk=>by cases h;exact⟨[],[],rfl,.nil,hk⟩
 | .tmp t::l,rs,K,h,hk=>by
   obtain⟨r,J,h⟩:=bind_some h;cases h
   unfold resX at hk;split at hk
   .rename_i v M
    obtain⟨H,us,U,W,Y⟩:=ybcb D J hk;obtain⟨u,Q,R⟩:=D.fr t v M;refine⟨v::H,u::us,?_,.cons R W,Y⟩;unfold resA;rw[Q,U]
   .cases hk
 | .cell a t :: l,rs,K,h,hk=>by
   obtain⟨d,J,h⟩:=bind_some h;obtain⟨i,Z,h⟩:=bind_some h;obtain⟨r,h3,h⟩:=bind_some h;cases h
   unfold resX at hk;split at hk
   .rename_i p hp
    split at hk
    .rename_i q c
     obtain⟨A,hk⟩:=hk;obtain⟨H,us,U,W,Y⟩:=ybcb D h3 hk;obtain⟨u,Q,R⟩:=D.fr a p hp
     let o : Oper := ⟨none, .load t (.tmp a), 0, "", #[], none⟩
     obtain⟨r0,ω',k1,k2,k3,k4,_⟩:=ycxt (P:=P) (o:=o) D rfl J Z (x:=.tmp a) hp c A;have e:ob (f.get (.tmp a)) (ytz P t m)=some r0:=k1;have a0:f.get (.tmp a)=some u:=Q;rw[a0]at e
     have hu:∃C w,u = .pointer (some C)/\ybeh P m t C=some w/\r0=⟨w,.none,[C.block]⟩:=by
      change ytz P t m u=some r0 at e
      unfold ytz at e;split at e
      .rename_i C
       obtain⟨w,O,w2⟩:=yc e;cases w2
       exact⟨C,w,rfl,O,rfl⟩
      .cases e
     obtain⟨C,w,rfl,O,rfl⟩:=hu
     have a2 : RV F ω q.v w:=by
      unfold yyv at c;split at c
      .split at c
       .rename_i v M
        cases c
        obtain⟨bk,y,T,N,e',zz,L,E,q1,q2,q3,q4,_⟩:=R.rf_inv;cases E
        obtain⟨z1,z2⟩:=yvt M q4;obtain⟨w',g,G⟩:=yva (F:=F) J Z (D.sub _ _ q1) (q:=y) q2 q3 z1 z2;rw[Nat.add_zero]at g;rw[O]at g;cases g
        exact G.mono (Le.refl _) (yul _)
       .cases c
      .rename_i β I j
       split at c
       .rename_i b hb
        split at c
        .split at c
         .rename_i v M
          cases c
          obtain⟨k,z,a1,E⟩:=R.pt_inv;cases E
          obtain⟨rfl,T,L,V,X⟩:=D.ownAt hb a1 (.inl (by have B:I<b.n:=A;omega))
          obtain⟨l1,l2,_,l3⟩:=X I A;obtain⟨z1,z2⟩:=yvt M l2;have B:I<b.n:=A;obtain⟨w',g,G⟩:=yva (F:=F) J Z V (q:=I*b.z) (L:=L I) (by rw[l1];have:=yln (z:=b.z) B;omega) (fun y hy=>l3 y (by omega)) z1 z2
          rw[O]at g;cases g
          exact G
         .cases c
        .cases c
       .cases c
      .cases c
     refine⟨q.v::H,w::us,?_,.cons a2 W,Y⟩;unfold resA;have S:f.t.get a=some (.pointer (some C)):=Q;rw[S,U];simp only;rw[O]
    .cases hk
   .cases hk
theorem ybor{e:List SV}{us:List Value}(h:RVL F ω e us):RV F ω (yji e) (ycw us):=by
 cases h with
 |nil=>exact .tp .nil
 | cons a b =>
   cases b with
   |nil=>exact a
   |cons c d=>exact .tp (.cons a (.cons c d))
theorem ycxn(t:yte P){g:FuncId}{fn:Func}{c:Code}(z:P.funcs[g]?=some fn)(y:fn.body=some c){us ws:List Value}{e:Exit}{j:Mem}(G:e = .normal\/e = .ret)(h:ydb P c ⟨zAF us.length fn.ntmps,tOf us⟩ (ygj m) e f' j)(H:resA P j f' fn.results.toList=some ws):ybx P (.call g us m) (.call (ycw ws) j):=by
 intro L;refine⟨⟨h.1.ext.next,h.1.ext.dom,h.1.ext.old,h.1.ext.wf⟩,fun A M w d D I J o=>.inl ⟨ybw t z y _ _,?_⟩⟩
 have v:Calls P g d.toArray w (fun e x=>∃k,e = .returned k/\∃b i,Ev.Good A M w (ygj m) j b i x/\VR b (ycw ws) k):=by
  refine callsIn_wide.1 (callsIn_of_wp_marks (n:=0) z y trivial ?_);refine wpIn_mono (h.2 A M w _ none (InR.none _) D I (ywz J fn.ntmps) o) ?_;rintro C B x ⟨rfl,b,i,a,l,E⟩;obtain⟨K,r,q⟩:=E;have p:=yto a l H q;rw[show K=B.defers by rw[r];simp]at p
  rcases G with rfl|rfl
  .exact p
  .exact p
 refine v.mono ?_;rintro C x ⟨k,rfl,b,i,a,u⟩;exact⟨k,rfl,b,i,⟨a.le,a.out,a.rel,a.sub,a.frame,a.wg⟩,u⟩
theorem yclq (N:P.follows .mixedOrders=true) (V:yte P) {g:FuncId}{fn:Func}{c:Code}{sc:SC}{rs:List SR}(hg:P.funcs[g]?=some fn) (hb:fn.body=some c) (J:cmp P fn.ntmps c=some sc) (W:cmpR P fn.results.toList=some rs)
 {mu:List FuncId}{args:List SV}{Q:SV->Prop}(h:vc ⟨Ct P,Cm P,ItC P,[],mu⟩ sc (retK rs Q) ⟨slots args 0,[]⟩):Ct P g args Q:=by
 classical
 intro G m S hw K B
 have U:Conc m.next G om0 ⟨slots args 0,[]⟩ ⟨zAF S.length fn.ntmps,tOf S⟩ (ygj m):=by
  refine⟨hw,zJ _,zJ _,K,fun E b h=>(by cases h),fun E _=>rfl,fun E γ k z k' z' h=>(by cases h),fun E k z h=>(by cases h),fun t v hv=>?_⟩
  obtain⟨_,I⟩:=yny hv;obtain⟨u,h3,h4⟩:=B.get I;exact⟨u,by rw[ydf];simpa using h3,h4⟩
 obtain⟨e,f',r,O,F',ω',t1,t2,t3,t4,t5⟩:=ybax N c sc J _ _ _ m.next G om0 _ (ygj m) h U (zAB _ _)
 have p:(e = .normal\/e = .ret)/\resX O rs fun R=>vok O.o 5 (yji R)/\Q (view O.o 5 (yji R)):=by
  cases e with
  |normal=>exact⟨.inl rfl,t3⟩
  |ret=>exact⟨.inr rfl,t3⟩
  |_=>cases t3
 obtain⟨he,p⟩:=p;obtain⟨R,ws,r1,r2,r3,r4⟩:=ybcb t2 W p;have Y:ybx P (.call g S m) (.call (ycw ws) r):=ycxn V hg hb he t1 r1;have L:m.next<=r.low:=t2.low
 have j:∀{i x},m.b.get i=some x->i<m.next:=fun {i x} q=>hw i x q
 have X:=ybor r2;have D:∀H:AM,Le F' H->(∀E k z,ω' E=some (some (k,z))->∀b,r.b.get k=some b->H k=some b)->RV H om0 (view O.o 5 (yji R)) (ycw ws):=fun H T I=>ylc t2 T I X r3
 .have Z:ybx P (.call g S m) (.call (ycw ws) ⟨r.next,yig m.b r.b,r.low⟩):=by
   intro a0;obtain⟨ext,C⟩:=Y a0
   have d:∀{i x},(yig m.b r.b).get i=some x->m.b.get i=some x\/r.b.get i=some x:=fun {i x} q=>by
    rw[ydp]at q;split at q
    .rename_i y hy;cases q;exact .inl hy
    .exact .inr q
   refine⟨⟨ext.next,fun i b l=>?_,fun i b T I l=>?_,fun i b l=>?_⟩,fun φ M w A hR hs ha hf=>?_⟩
   .rcases d l with q|q
    .exact .inl ⟨b,q⟩
    .exact ext.dom i b q
   .rcases d l with q|q
    .exact q
    .exact ext.old i b T I q
   .rcases d l with q|q
    .exact zG (j q) ext.next
    .exact ext.wf i b q
   .refine(C φ M w A hR hs ha hf).mono ?_;rintro e' w' ⟨v',rfl,a1,M',a,hv⟩;refine⟨v',rfl,a1,M',⟨a.le,a.out,a.rel,fun i b l=>?_,a.frame,a.wg⟩,hv⟩;rcases d l with q|q
    .have hi:=j q;rw[a.frame i (fun z=>by omega) (.inr (zG hi L))]
     exact hs i b q
    .exact a.sub i b q
  have n:∀{i},m.next<=i->m.b.get i=none:=fun {i} q=>by
   cases hh:m.b.get i with
   |none=>rfl
   |some x=>have:=j hh;omega
  refine⟨_,_,view O.o 5 (yji R),Z,L,fun i b l=>?_,r4,D _ (fun i b l=>?_) (fun E k z hk b l=>?_)⟩
  .show(yig m.b r.b).get i=some b;rw[ydp,l]
  .unfold frsh;rcases t5.2.1 i b l with q|q
   .rw[if_neg (by have:=j (K i b q);omega)];exact q
   .rw[if_pos q];show(yig m.b r.b).get i=some b;rw[ydp,n q];exact t2.sub i b l
  .unfold frsh;have:=(t2.apart E k z hk).2.1;rw[if_pos this];show(yig m.b r.b).get k=some b;rw[ydp,n this];exact l
theorem ycgc (l:P.follows .mixedOrders=true) (A:yte P) {g:FuncId}{fn:Func}{c:Code}{I:SC}{rs:List SR}(V:P.funcs[g]?=some fn) (T:fn.body=some c) (k:cmp P fn.ntmps c=some I) (B:cmpR P fn.results.toList=some rs)
 {n:List Nm}{X:List FuncId}{o:Own}{args:List SV}{Q:SV->Own->Prop}(h:vc ⟨Ct P,Cm P,ItC P,n,X⟩ I (retM rs n Q) ⟨slots args 0,o⟩):Cm P g n o args Q:=by
 classical
 intro lo G ω f m L i j
 have x:Conc lo G ω ⟨slots args 0,o⟩ ⟨zAF L.length fn.ntmps,tOf L⟩ (ygj m):=by
  refine⟨i.wf,i.nxt,i.nxt,i.sub,i.own,i.dom,i.inj,i.apart,fun t v d=>?_⟩;obtain⟨_,O⟩:=yny d;obtain⟨u,R,S⟩:=j.get O;exact⟨u,by rw[ydf];simpa using R,S⟩
 obtain⟨e,f',E,H,F',ω',t1,t2,t3,t4,t5⟩:=ybax l c I k _ _ _ lo G ω _ (ygj m) h x (zAB _ _)
 have b:(e = .normal\/e = .ret)/\resX H rs fun p=>yhi n H Q (yji p):=by
  cases e with
  |normal=>exact⟨.inl rfl,t3⟩
  |ret=>exact⟨.inr rfl,t3⟩
  |_=>cases t3
 obtain⟨U,b⟩:=b;obtain⟨p,M,r1,r2,r,Y,D,z,W⟩:=ybcb t2 B b;have C:=ybor r2
 have y:Conc lo F' ω' ⟨[(0,yji p)],H.o⟩ ⟨1,tOf [ycw M]⟩ E:=⟨t2.wf,t2.low,t2.nxt,t2.sub,t2.own,t2.dom,t2.inj,t2.apart,fun t v d=>by
  have d:(if 0=t then some (yji p)else none)=some v:=d
  split at d
  .rename_i q;subst q;cases d;exact⟨ycw M,by rw[ydf];rfl,C⟩
  .cases d⟩
 obtain⟨J,N,w1,w2,a,w3⟩:=D lo F' ω' _ E y;obtain⟨u,K,Z⟩:=a.fr 0 r (by show(if 0=0 then some r else none)=some r;rw[if_pos rfl])
 rw[ydf]at K;cases K
 have w:=t5.trans ⟨w1,w2,w3⟩;exact⟨_,E,r,Y,N,J,ycxn A V T U t1 r1,⟨a.wf,a.low,a.nxt,a.sub,a.own,a.dom,a.inj,a.apart,fun t v d=>by cases d⟩,Z,w.1,w.2.1,w.2.2,z,W⟩
end
end Sh
end
section
namespace Sh
open Go Ev
theorem Sim.refl(v:SV):Sim v v:=fun _ _ _ h=>h
theorem yvi(v:SV):Sim v v↔True:=⟨fun _=>trivial,fun _=>Sim.refl v⟩
theorem ycg{k c:IntKind}{a b:Int}:Sim (.i k a) (.i c b)↔k=c/\a=b :=
 ⟨fun h=>by have:=h (fun _=>none) om0 _ .i;cases this;exact⟨rfl,rfl⟩,fun h=>by rw[h.1,h.2];exact Sim.refl _⟩
theorem yyr{a b:Bool}:Sim (.b a) (.b b)↔a=b :=
 ⟨fun h=>by have:=h (fun _=>none) om0 _ .b;cases this;rfl,fun h=>by rw[h];exact Sim.refl _⟩
theorem wk:(∀(c:Type) (p:c->Prop),allQ p []=True)/\(∀(c:Type) (p:c->Prop) (x:c) (l:List c),allQ p (x::l)=(p x/\allQ p l))/\(∀o f,live o f=(lookO o f).isSome)/\(∀(c:Type) (a:c),none.getD a=a)/\(∀(c:Type) (a b:c),(some a).getD b=a)/\(∀v,Sim v v↔True)/\(∀{k e:IntKind}{a b:Int},Sim (.i k a) (.i e b)↔k=e/\a=b)/\(∀{a b:Bool},Sim (.b a) (.b b)↔a=b)/\((0:Nat):Int)=0 :=
 ⟨fun _ _=>rfl,fun _ _ _ _=>rfl,fun _ _=>rfl,fun _ _=>rfl,fun _ _ _=>rfl,yvi,ycg,yyr,rfl⟩
theorem ybre{z n:Nat}{g g':Nat->List SV}(h:∀k,k<n->g k=g' k):Sim (.sl z n g) (.sl z n g'):=by
 intro F v u o;rcases o.sl_inv with⟨rfl,m⟩|⟨q,p,r,T,N,e,t,L,rfl,a,b,c,f,i,j,l⟩
 .exact .sl0 m
 .exact .sl a b c f i (fun k hk=>h k hk▸j k hk) (fun k hk=>h k hk▸l k hk)
theorem ybkq {e:List Nm}(ρ:List (Nat×(Nat->Nm))) (a:List Nat) (c:List Nm) {s t:SS}(g:yyt s.o c) (h:ybih (rid ρ) a t.o) (i:allQ (yug (rid ρ) a c t.o s) t.f) (j:allQ (ymh (rid ρ) a c t.o s) t.o)
 (k:allQ (fun b=>live t.o b=true/\a.elem b.1=false/\rid ρ b=b) e):Weak e s t:=WeakBy.weak ⟨g,h,i,j⟩ k
theorem ydhu(ρ:List (Nat×(Nat->Nm)))(a:List Nat)(b:List Nm){s t:SS}(c:yyt s.o b)(e:ybih (rid ρ) a t.o)(g:allQ (yug (rid ρ) a b t.o s) t.f)(h:allQ (ymh (rid ρ) a b t.o s) t.o):Weak [] s t:=ybkq ρ a b c e g h trivial
theorem yca(ρ:List (Nat×(Nat->Nm)))(a:List Nat)(b:List Nm){s t:SS}(h:yyt s.o b/\ybih (rid ρ) a t.o/\allQ (yug (rid ρ) a b t.o s) t.f/\allQ (ymh (rid ρ) a b t.o s) t.o):Weak [] s t:=ydhu ρ a b h.1 h.2.1 h.2.2.1 h.2.2.2
theorem yw{s t:SS}(h:yyt s.o []/\ybih (rid []) [] t.o/\allQ (yug (rid []) [] [] t.o s) t.f/\allQ (ymh (rid []) [] [] t.o s) t.o):Weak [] s t:=yca [] [] [] h
theorem ybi{e:List Nm}(ρ:List (Nat×(Nat->Nm)))(a:List Nat)(b:List Nm){s t:SS}(h:(yyt s.o b/\ybih (rid ρ) a t.o/\allQ (yug (rid ρ) a b t.o s) t.f/\allQ (ymh (rid ρ) a b t.o s) t.o)/\allQ (fun c=>live t.o c=true/\a.elem c.1=false/\rid ρ c=c) e):Weak e s t:=ybkq ρ a b h.1.1 h.1.2.1 h.1.2.2.1 h.1.2.2.2 h.2
theorem yeh(o:Own):∀(n:Nat) (v:SV),ydt [] o n v=v
 |0,_=>rfl
 | n + 1,v=>by
   have e:∀l:List SV,l.map (ydt [] o n)=l:=fun l=>by
    induction l with
    |nil=>rfl
    |cons x l f=>rw[zY,yeh o n x,f]
   cases v with
   |ag c=>show SV.ag _=_;rw[e]
   |tp c=>show SV.tp _=_;rw[e]
   |fn g a b=>show SV.fn g _ _=_;rw[e,e]
   |_=>rfl
theorem yii(o:Own):∀(n:Nat) (v:SV),pok [] o n v↔True
 |0,_=>zAH
 | n + 1,v=>by
   have e:∀l:List SV,allP (pok [] o n) l:=fun l=>by
    induction l with
    |nil=>trivial
    |cons x l m=>exact⟨(yii o n x).2 trivial,m⟩
   cases v with
   |ag c=>exact⟨fun _=>trivial,fun _=>e _⟩
   |tp c=>exact⟨fun _=>trivial,fun _=>e _⟩
   |fn g a b=>exact⟨fun _=>trivial,fun _=>⟨e _,e _⟩⟩
   |pt f i j=>exact⟨fun _=>trivial,fun _ h=>by cases h⟩
   |os f p k c=>exact⟨fun _=>trivial,fun _ h=>by cases h⟩
   |mr f=>exact⟨fun _=>trivial,fun _ h=>by cases h⟩
   |_=>exact zAH
theorem ychd{n:Nat}(a:List Nm)(o:Own)(k:IntKind)(x:Int):ydt a o (n+1) (.i k x)=(.i k x):=rfl
theorem yefv{n:Nat}(a:List Nm)(o:Own)(k:IntKind)(x:Int):pok a o (n+1) (.i k x)=True:=rfl
theorem ydjl{n:Nat}(a:List Nm)(o:Own)(x:Bool):ydt a o (n+1) (.b x)=(.b x):=rfl
theorem yefu{n:Nat}(a:List Nm)(o:Own)(x:Bool):pok a o (n+1) (.b x)=True:=rfl
theorem ydnb{n:Nat}(b:List Nm)(o:Own)(x:Value):ydt b o (n+1) (.a x)=(.a x):=rfl
theorem yeep{n:Nat}(b:List Nm)(o:Own)(x:Value):pok b o (n+1) (.a x)=True:=rfl
theorem ycpb{n:Nat}(a:List Nm)(o:Own)(z k:Nat)(g:Nat->List SV):ydt a o (n+1) (.sl z k g)=(.sl z k g):=rfl
theorem ydzw{n:Nat}(a:List Nm)(o:Own)(z k:Nat)(g:Nat->List SV):pok a o (n+1) (.sl z k g)=True:=rfl
theorem ycqy{n:Nat}(a:List Nm)(o:Own)(c:List SV):ydt a o (n+1) (.rf c)=(.rf c):=rfl
theorem ydub{n:Nat}(a:List Nm)(o:Own)(c:List SV):pok a o (n+1) (.rf c)=True:=rfl
theorem ycoz{n:Nat}(a:List Nm)(o:Own)(Q:(Nat->Option ABlk)->Value->Prop)(v:SV):ydt a o (n+1) (.ex Q v)=(.ex Q v):=rfl
theorem yedb{n:Nat}(a:List Nm)(o:Own)(Q:(Nat->Option ABlk)->Value->Prop)(v:SV):pok a o (n+1) (.ex Q v)=True:=rfl
theorem ycor{n:Nat}(a:List Nm)(o:Own)(c:List SV):ydt a o (n+1) (.ag c) = .ag (c.map (ydt a o n)):=rfl
theorem ydsg{n:Nat}(a:List Nm)(o:Own)(c:List SV):pok a o (n+1) (.ag c)=allP (pok a o n) c:=rfl
theorem ycnp{n:Nat}(a:List Nm)(o:Own)(c:List SV):ydt a o (n+1) (.tp c) = .tp (c.map (ydt a o n)):=rfl
theorem ydpp{n:Nat}(a:List Nm)(o:Own)(c:List SV):pok a o (n+1) (.tp c)=allP (pok a o n) c:=rfl
theorem ycks{n:Nat}(c:List Nm)(o:Own)(g:FuncId)(a b:List SV):ydt c o (n+1) (.fn g a b) = .fn g (a.map (ydt c o n)) (b.map (ydt c o n)):=rfl
theorem yeaj{n:Nat}(c:List Nm)(o:Own)(g:FuncId)(a b:List SV):pok c o (n+1) (.fn g a b)=(allP (pok c o n) a/\allP (pok c o n) b):=rfl
theorem ycnb{n:Nat}(c:List Nm)(o:Own)(a:Nm)(i j:Nat):ydt c o (n+1) (.pt a i j)=(if nmem c a=true then(match lookO o a with|some b=>.rf ((b.g i).drop j)|none=>.bad)else .pt a i j):=rfl
theorem ydwx{n:Nat}(c:List Nm)(o:Own)(a:Nm)(i j:Nat):pok c o (n+1) (.pt a i j)=(nmem c a=true->(match lookO o a with|some b=>i<b.n/\j<=b.z|none=>False)):=rfl
theorem yclj{n:Nat}(c:List Nm)(o:Own)(a:Nm)(p k:Nat)(ap:Bool):ydt c o (n+1) (.os a p k ap)=(if nmem c a=true then(match lookO o a with|some b=>.sl b.z k (fun q=>b.g (p+q))|none=>.bad)else .os a p k ap):=rfl
theorem yduu{n:Nat}(c:List Nm)(o:Own)(a:Nm)(p k:Nat)(ap:Bool):pok c o (n+1) (.os a p k ap)=(nmem c a=true->(match lookO o a with|some b=>p+k<=b.n|none=>False)):=rfl
theorem ydjx(k:IntKind)(x:Int):SV.cells (.i k x)=[(.i k x)]:=rfl
theorem ydiw(x:Bool):SV.cells (.b x)=[(.b x)]:=rfl
theorem ydnl(x:Value):SV.cells (.a x)=[(.a x)]:=rfl
theorem yclh(z k:Nat)(g:Nat->List SV):SV.cells (.sl z k g)=[(.sl z k g)]:=rfl
theorem ycng(c:List SV):SV.cells (.rf c)=[(.rf c)]:=rfl
theorem ycli(Q:(Nat->Option ABlk)->Value->Prop)(v:SV):SV.cells (.ex Q v)=[(.ex Q v)]:=rfl
theorem ycmp(c:List SV):SV.cells (.tp c)=[(.tp c)]:=rfl
theorem ycnx(g:FuncId)(a b:List SV):SV.cells (.fn g a b)=[(.fn g a b)]:=rfl
theorem yclw(a:Nm)(i j:Nat):SV.cells (.pt a i j)=[(.pt a i j)]:=rfl
theorem ycou(a:Nm)(p k:Nat)(ap:Bool):SV.cells (.os a p k ap)=[(.os a p k ap)]:=rfl
theorem ydkj{e:Nat}(h:e<1000000000):mapE e=false:=decide_eq_false (by omega)
theorem ydjt:mapE CU=true:=rfl
theorem ycny{n:Nat}(b:List Nm)(o:Own)(a:Nm):ydt b o (n+1) (.mr a) = .mr a:=rfl
theorem ydrp{n:Nat}(a:List Nm)(o:Own)(b:Nm):pok a o (n+1) (.mr b)=(nmem a b=true->False):=rfl
theorem yclp(a:Nm):SV.cells (.mr a)=[(.mr a)]:=rfl
theorem ycox(c:List SV):SV.cells (.ag c)=c:=rfl
theorem ybf {h:List Nm}{b:(Exit->SS->Prop)->SS->Prop}{K:Exit->SS->Prop}{s:SS}{σ:Type}(e:σ->SS) (a:σ->Prop) (g:σ->Nat) (f:σ) (i:a f) (m:Weak h s (e f))
 (c:∀x,a x->b (ybvw h (fun n t=>∃y,a y/\g y=n/\t=e y) (g x) K) (e x)):ydmk h b K s :=
 ⟨fun n t=>∃y,a y/\g y=n/\t=e y,⟨g f,e f,⟨f,i,rfl,rfl⟩,m⟩,fun n t ⟨y,j,k,l⟩=>by subst k l;exact c y j⟩
theorem yj{e:List Nm}{σ:Type}{b:σ->SS}{a:σ->Prop}{c:σ->Nat}{n:Nat}{K:Exit->SS->Prop}{t:SS}(y:σ)(f:a y)(g:c y<n)(h:Weak e t (b y)):ybvw e (fun n t=>∃y,a y/\c y=n/\t=b y) n K .normal t :=
 ⟨c y,b y,g,⟨y,f,rfl,rfl⟩,h⟩
theorem ybz{b:List Nm}{σ:Type}{c:σ->SS}{a:σ->Prop}{e:σ->Nat}{n:Nat}{K:Exit->SS->Prop}{t:SS}(y:σ)(h:Weak b t (c y))(f:a y:=by omega)(g:e y<n:=by omega):ybvw b (fun n t=>∃y,a y/\e y=n/\t=c y) n K .normal t:=yj y f g h
def Returns(P:Program)(g:FuncId)(args:List SV)(r:SV):Prop:=Ct P g args (· = r)
theorem Returns.of{P:Program}{g:FuncId}{args:List SV}{r:SV}(h:Ct P g args fun x=>Sim x r):Returns P g args r:=fun G m l f i j=>by
 obtain⟨v,k,x,a,b,c,d,e⟩:=h G m l f i j;exact⟨v,k,r,a,b,c,rfl,d _ _ _ e⟩
theorem yblp{z:Nat}{g:Nat->List SV}:Sim (.a (.slice none 0 0)) (.sl z 0 g):=fun F b u h=>by cases h;exact .sl0 (.inl rfl)
theorem Returns.use{P:Program}{g:FuncId}{args:List SV}{r:SV}{Q:SV->Prop}(h:Returns P g args r)(a:Q r):Ct P g args Q:=h.mono fun _ e=>e▸a
def SimL:List SV->List SV->Prop
 |[],[]=>True
 |v::l,w::k=>Sim v w/\SimL l k
 |_,_=>False
theorem SimL.rvl{F:AM}{ω:Om}:∀{l k:List SV}{L:List Value},SimL l k->RVL F ω l L->RVL F ω k L
 |[],[],_,_,.nil=>.nil
 |_::_,_::_,_,h,.cons a b=>.cons (h.1 _ _ _ a) (h.2.rvl b)
 |[],_::_,_,h,_=>h.elim
 |_::_,[],_,h,_=>h.elim
theorem yczb{a b:List SV}(h:SimL a b)(j:b.all one1=true):Sim (.rf a) (.rf b):=fun F n u k=>by
 obtain⟨l,p,T,N,e,m,L,rfl,c,f,g,i,_⟩:=k.rf_inv;exact .rf c f g (h.rvl i) j
theorem ybqo{a b:List SV}(h:SimL a b):Sim (.ag a) (.ag b):=fun F f u e=>by
 obtain⟨L,rfl,c⟩:=e.ag_inv;exact .ag (h.rvl c)
theorem ybbp{a b:List SV}(h:SimL a b):Sim (.tp a) (.tp b):=fun F f u e=>by
 obtain⟨L,rfl,c⟩:=e.tp_inv;exact .tp (h.rvl c)
theorem yec{z n:Nat}{g g':Nat->List SV}(h:∀k,k<n->SimL (g k) (g' k)/\(g' k).all one1=true):Sim (.sl z n g) (.sl z n g'):=by
 intro F v u m;rcases m.sl_inv with⟨rfl,l⟩|⟨o,p,q,T,N,e,t,L,rfl,a,b,c,f,i,j,r⟩
 .exact .sl0 l
 .exact .sl a b c f i (fun k hk=>(h k hk).1.rvl (j k hk)) (fun k hk=>(h k hk).2)
theorem Ct.simL{P:Program}{g:FuncId}{a bs:List SV}{Q:SV->Prop}(h:Ct P g bs Q)(f:SimL a bs):Ct P g a Q:=fun G m i b c e=>h G m i b c (f.rvl e)
theorem Returns.useS{P:Program}{g:FuncId}{a bs:List SV}{r:SV}{Q:SV->Prop}(h:Returns P g bs r)(c:SimL a bs)(b:Q r):Ct P g a Q:=(h.use b).simL c
theorem yeu {P:Program}{q:List Nm}{G:List FuncId}{d:Bool}{rs:List (Nat×SRec)}{s:SS}{i an:Nat}{e:Option Nat}{m:List (Nat×SRec)->SS->Prop}{g:FuncId}{xs:List SV}{c:List Nm}{o:Own}{j:List SV}{Q:SV->Own->Prop}
 (k:Cm P g c o j Q) (ρ:List (Nat×Nat)) (a:Nat) (keep b:List Nat)
 (h:(xs.length=j.length/\ybih (to1 ρ) [] o/\allQ (yug (to1 ρ) [] [] o ⟨slots xs 0,s.o⟩) (slots j 0)/\allQ (ymh (to1 ρ) [] [] o ⟨slots xs 0,s.o⟩) o/\allQ (fun p=>(look ρ p.1).isSome=true) o)/\ydly d an o rs=true /\
   (allQ (fun l=>live o l=true) c/\allQ (fun p=>b.elem p.2=false) ρ/\allQ (fun p=>cln (okN ρ c b) 5 p.2=true) (yek s.f keep)/\allQ (fun p=>ycl (okN ρ c b) p.2) (ydx s.o b)/\allQ (fun l=>okN ρ c b l=true) q))
 (z:∀r n,Q r n->yoy d rs s i e m ρ a keep b r n):ycna ⟨Ct P,Cm P,ItC P,q,G⟩ d rs s i an e m g xs:=by
 obtain⟨⟨t,u,v,w,x⟩,y,A,B,D,E,F⟩:=h;exact⟨ρ,a,keep,b,c,o,j,t,⟨trivial,u,v,w⟩,ycz x,y,⟨A,ycz B,D,E,F⟩,k.mono z⟩
section
variable (C:CC) (K:Exit->SS->Prop) (s:SS)
def vN(b:SC):SS->Prop:=vc C b K
theorem yedj(b:SC):vN C K b s=vc C b K s:=rfl
theorem ydhy:vc C .skip K s=K .normal s:=rfl
theorem ydwf(a b:SC):vc C (.seq a b) K s=vc C a (ycht (vN C K b) K) s:=rfl
theorem ydir(c:Operand)(a b:SC):vc C (.cond c a b) K s=yccs (s.get c) c s (vN C K a) (vN C K b):=rfl
theorem yclm(id:Nat)(b:SC):vc C (.block id b) K s=vc C b (ybhq id K) s:=rfl
theorem ydhk(b:SC):vc C (.loop b) K s=ydmk C.pr (vc C b) K s:=rfl
theorem ycqw(g:Operand)(ps:List Nat)(a b:SC):vc C (.range g ps a b) K s=ychh C g ps (vcR a) (vcR b) K s:=rfl
theorem ydnr(id:Nat):vc C (.exit id) K s=K (.exit id) s:=rfl
theorem yeei:vc C .no K s=False:=rfl
theorem yeci:vc C .ret K s=K .ret s:=rfl
theorem ydpm(d:Bool)(ops:List SOper):vc C (.reg d ops) K s=yqx C d (K .normal) ops 0 [] s:=rfl
theorem ybhy(n:SS->Prop):ycht n K .normal s=n s:=rfl
theorem ybwn(n:SS->Prop)(i:Nat):ycht n K (.exit i) s=K (.exit i) s:=rfl
theorem ychl(n:SS->Prop):ycht n K .ret s=K .ret s:=rfl
theorem ybfi(n:SS->Prop):ydmd n .normal s=n s:=rfl
theorem ybcp(t:SS)(a:Own->Prop):ybjv K t a .normal s=a s.o:=rfl
theorem ybwc(t:SS)(a:Own->Prop):ybjv K t a .ret s=K .ret ⟨t.f,s.o⟩:=rfl
theorem ybkt(t:SS)(a:Own->Prop)(id:Nat):ybjv K t a (.exit id) s=K (.exit id) ⟨t.f,s.o⟩:=rfl
theorem ybea(id:Nat):ybhq id K .normal s=K .normal s:=rfl
theorem ybku(id i:Nat):ybhq id K (.exit i) s=if i=id then K .normal s else K (.exit i) s:=rfl
theorem ybta(id:Nat):ybhq id K .ret s=K .ret s:=rfl
theorem ybvr(a:List Nm)(I:Nat->SS->Prop)(n i:Nat):ybvw a I n K (.exit i) s=K (.exit i) s:=rfl
theorem ybya(a:List Nm)(I:Nat->SS->Prop)(n:Nat):ybvw a I n K .ret s=K .ret s:=rfl
theorem ybnl(rs:List SR)(Q:SV->Prop):retK rs Q .normal s=resX s rs fun a=>vok s.o 5 (yji a)/\Q (view s.o 5 (yji a)):=rfl
theorem ybll(rs:List SR)(a:List Nm)(Q:SV->Own->Prop):retM rs a Q .normal s=resX s rs fun b=>yhi a s Q (yji b):=rfl
theorem ycpi(rs:List SR)(a:List Nm)(Q:SV->Own->Prop):retM rs a Q .ret s=resX s rs fun b=>yhi a s Q (yji b):=rfl
theorem ycmo(rs:List SR)(Q:SV->Prop):retK rs Q .ret s=resX s rs fun a=>vok s.o 5 (yji a)/\Q (view s.o 5 (yji a)):=rfl
end
section
variable (C:CC) (d:Bool) (K:SS->Prop)
def vO(l:List SOper)(i:Nat):List (Nat×SRec)->SS->Prop:=yqx C d K l i
theorem yeel(l:List SOper)(i:Nat)(rs:List (Nat×SRec))(s:SS):vO C d K l i rs s=yqx C d K l i rs s:=rfl
theorem ydnu(i:Nat)(rs:List (Nat×SRec))(s:SS):yqx C d K [] i rs s=K s:=rfl
theorem ycop(b:SOp)(a:Option Nat)(an:Nat)(l:List SOper)(i:Nat)(rs:List (Nat×SRec))(s:SS):yqx C d K (⟨b,a,none,an⟩::l) i rs s=runO C d rs s i an a (vO C d K l (i+1)) b:=rfl
theorem ycjg(b:SOp)(a:Option Nat)(t:Nat)(w:Bool)(an:Nat)(l:List SOper)(i:Nat)(rs:List (Nat×SRec))(s:SS):yqx C d K (⟨b,a,some (t,w),an⟩::l) i rs s=yvs C d rs s i an a (vO C d K l (i+1)) b t w (look s.f t):=rfl
def gb(c:Bool)(A B:Prop):Prop:=(c=true->A)/\(c=false->B)
def gb2(c:Bool)(A B:Prop):Prop:=(c=false->A)/\(c=true->B)
theorem gb_t(A B:Prop):gb true A B=A:=propext ⟨fun h=>h.1 rfl,fun h=>⟨fun _=>h,fun q=>by cases q⟩⟩
theorem gb_f(A B:Prop):gb false A B=B:=propext ⟨fun h=>h.2 rfl,fun h=>⟨fun q=>(nomatch q),fun _=>h⟩⟩
theorem yeer(A B:Prop):gb2 true A B=B:=propext ⟨fun h=>h.2 rfl,fun h=>⟨fun q=>(nomatch q),fun _=>h⟩⟩
theorem yeem(A B:Prop):gb2 false A B=A:=propext ⟨fun h=>h.1 rfl,fun h=>⟨fun _=>h,fun q=>by cases q⟩⟩
theorem gb_x(c:Bool)(A B:Prop):gb c A B=((c=true->A)/\(c=false->B)):=rfl
theorem yedq(c:Bool)(A B:Prop):gb2 c A B=((c=false->A)/\(c=true->B)):=rfl
theorem ydnh(x:Bool)(c:Operand)(s:SS)(a b:SS->Prop):yccs (some (.b x)) c s a b=gb x (a (s.lit c true)) (b (s.lit c false)):=rfl
theorem ycmw(rs:List (Nat×SRec))(s:SS)(i an:Nat)(a:Option Nat)(e:List (Nat×SRec)->SS->Prop)(f:SOp)(t:Nat)(c:Bool):yvs C d rs s i an a e f t true (some (.b c))=gb c (runO C d rs (s.put (some t) (.b true)) i an a e f) (e rs ((s.put (some t) (.b false)).put a (.tp []))):=rfl
theorem yckj(rs:List (Nat×SRec))(s:SS)(i an:Nat)(a:Option Nat)(e:List (Nat×SRec)->SS->Prop)(f:SOp)(t:Nat)(c:Bool):yvs C d rs s i an a e f t false (some (.b c))=gb2 c (runO C d rs (s.put (some t) (.b false)) i an a e f) (e rs ((s.put (some t) (.b true)).put a (.tp []))):=rfl
theorem ycfk(rs:List (Nat×SRec))(s:SS)(i an:Nat)(a:Option Nat)(b:List (Nat×SRec)->SS->Prop)(c:SOp)(t:Nat)(w:Bool):yvs C d rs s i an a b c t w (some (.tp []))=b rs (s.put a (.tp [])):=rfl
end
theorem ydhe(a:Option Nat)(b:Bool)(rs:List (Nat×SRec)):ykp false a b rs=rs:=by unfold ykp;rfl
theorem ydkq(d:Bool)(a:Option Nat)(rs:List (Nat×SRec)):ykp d a true rs=rs:=by unfold ykp;cases d<;>cases a<;>rfl
theorem ydgo(d a:Bool)(rs:List (Nat×SRec)):ykp d none a rs=rs:=by unfold ykp;cases d<;>rfl
theorem ydfs(t:Nat)(rs:List (Nat×SRec)):ykp true (some t) false rs=(1000+t,SRec.no)::rs:=rfl
theorem ydke(d:Bool)(an:Nat)(r:SRec)(rs:List (Nat×SRec)):yckf d an false r rs=fits d an r rs:=rfl
theorem ydjq(d:Bool)(an:Nat)(r:SRec)(rs:List (Nat×SRec)):yckf d an true r rs=(!d||rs.all fun q=>zK an q.1 || !(yrc r q.2)):=rfl
theorem yky {C:CC}{E:Operand}{ps:List Nat}{a b:SC}{K:Exit->SS->Prop}{s:SS}{g:FuncId}{j:List SV}{S:ItS}(hit:C.it g j S) {σ:Type}(m:List Nm) (i:Nat->σ->SS) (c:Nat->σ->Prop) (v:σ) (A:c 0 v)
 (w:(∀D∈C.pr,D∈m)/\∀D∈S.pr,D∈m) (F:Weak C.pr s (i 0 v)) (I:∀x,(i 0 x).get E=some (.fn g [] j)) (r:∀k x,c k x->k<=S.n->S.own k (i k x).o/\allQ (fun p=>cln (nmem m) 5 p.2=true) (i k x).f)
 (l:∀k x,c k x->k<S.n->∃t1,puts (i k x) ps (S.el k)=some t1/\vc ⟨C.ct,C.cm,C.it,m,C.mu⟩ a (ydmd (vN ⟨C.ct,C.cm,C.it,m,C.mu⟩ (ybjv K (i k x) fun o=>S.own k o/\∃y,c (k+1) y/\Weak m ⟨(i k x).f,S.adv k o⟩ (i (k+1) y)) b)) t1)
 (hend:∀x,c S.n x->K .normal (i S.n x)):ychh C E ps (vcR a) (vcR b) K s:=by
 refine⟨m,fun k t=>k<=S.n/\∃x,c k x/\t=i k x,g,j,S,hit,w,⟨i 0 v,⟨zAE _,v,A,rfl⟩,F⟩,?_,?_,?_,?_⟩
 .rintro t ⟨_,x,q,rfl⟩;exact I x
 .rintro k t ⟨hk,x,q,rfl⟩;exact r k x q hk
 .rintro k t ⟨_,x,q,rfl⟩ hk;obtain⟨t1,G,H⟩:=l k x q hk;refine⟨t1,G,?_⟩
  have e:(fun o=>S.own k o/\∃u,(k+1<=S.n/\∃x,c (k+1) x/\u=i (k+1) x)/\Weak m ⟨(i k x).f,S.adv k o⟩ u)=(fun o=>S.own k o/\∃y,c (k+1) y/\Weak m ⟨(i k x).f,S.adv k o⟩ (i (k+1) y)):=by
   funext o
   refine propext ⟨?_,?_⟩
   .rintro⟨h,u,⟨_,y,B,rfl⟩,z⟩;exact⟨h,y,B,z⟩
   .rintro⟨h,y,B,z⟩;exact⟨h,_,⟨hk,y,B,rfl⟩,z⟩
  rw[e];exact H
 .rintro t ⟨_,x,q,rfl⟩;exact hend x q
theorem ydfu{b:Type}{a:b}{p:b->Prop}:(∃v,some a=some v/\p v)↔p a:=⟨fun⟨_,h,q⟩=>by cases h;exact q,fun h=>⟨a,rfl,h⟩⟩
theorem ydhw{n:Nat}(k:IntKind)(x:Int):owned (n+1) (.i k x)=false:=rfl
theorem yclc{n:Nat}(k:IntKind)(x:Int):scalar (n+1) (.i k x)=true:=rfl
theorem ydsj{n:Nat}(o:Own)(k:IntKind)(x:Int):view o (n+1) (.i k x)=(.i k x):=rfl
theorem yedt{n:Nat}(o:Own)(k:IntKind)(x:Int):vok o (n+1) (.i k x)=True:=rfl
theorem yih{n:Nat}(ρ:Nm->Nm)(k:IntKind)(x:Int):ren ρ (n+1) (.i k x)=(.i k x):=rfl
theorem yefc{n:Nat}(D:Nm->Bool)(k:IntKind)(x:Int):cln D (n+1) (.i k x)=true:=rfl
theorem yeab(k:IntKind)(x:Int):one1 (.i k x)=true:=rfl
theorem ydkt{n:Nat}(x:Bool):owned (n+1) (.b x)=false:=rfl
theorem ycoi{n:Nat}(x:Bool):scalar (n+1) (.b x)=true:=rfl
theorem yeda{n:Nat}(o:Own)(x:Bool):view o (n+1) (.b x)=(.b x):=rfl
theorem yeez{n:Nat}(o:Own)(x:Bool):vok o (n+1) (.b x)=True:=rfl
theorem ybyn{n:Nat}(ρ:Nm->Nm)(x:Bool):ren ρ (n+1) (.b x)=(.b x):=rfl
theorem yefg{n:Nat}(D:Nm->Bool)(x:Bool):cln D (n+1) (.b x)=true:=rfl
theorem ydtg(x:Bool):one1 (.b x)=true:=rfl
theorem ydgc{n:Nat}(x:Value):owned (n+1) (.a x)=false:=rfl
theorem yckr{n:Nat}(x:Value):scalar (n+1) (.a x)=true:=rfl
theorem yebv{n:Nat}(o:Own)(x:Value):view o (n+1) (.a x)=(.a x):=rfl
theorem yeef{n:Nat}(o:Own)(x:Value):vok o (n+1) (.a x)=True:=rfl
theorem ydtk{n:Nat}(ρ:Nm->Nm)(x:Value):ren ρ (n+1) (.a x)=(.a x):=rfl
theorem yefw{n:Nat}(D:Nm->Bool)(x:Value):cln D (n+1) (.a x)=true:=rfl
theorem ydta(x:Value):one1 (.a x)=true:=rfl
theorem ycky{n:Nat}(z k:Nat)(g:Nat->List SV):owned (n+1) (.sl z k g)=false:=rfl
theorem ycdj{n:Nat}(z k:Nat)(g:Nat->List SV):scalar (n+1) (.sl z k g)=false:=rfl
theorem ydgm{n:Nat}(o:Own)(z k:Nat)(g:Nat->List SV):view o (n+1) (.sl z k g)=(.sl z k g):=rfl
theorem ydui{n:Nat}(o:Own)(z k:Nat)(g:Nat->List SV):vok o (n+1) (.sl z k g)=True:=rfl
theorem ybbe{n:Nat}(ρ:Nm->Nm)(z k:Nat)(g:Nat->List SV):ren ρ (n+1) (.sl z k g)=(.sl z k g):=rfl
theorem ydwm{n:Nat}(D:Nm->Bool)(z k:Nat)(g:Nat->List SV):cln D (n+1) (.sl z k g)=true:=rfl
theorem ydhi(z k:Nat)(g:Nat->List SV):one1 (.sl z k g)=true:=rfl
theorem ycql{n:Nat}(c:List SV):owned (n+1) (.rf c)=false:=rfl
theorem ycex{n:Nat}(c:List SV):scalar (n+1) (.rf c)=false:=rfl
theorem ydgi{n:Nat}(o:Own)(c:List SV):view o (n+1) (.rf c)=(.rf c):=rfl
theorem yecx{n:Nat}(o:Own)(c:List SV):vok o (n+1) (.rf c)=True:=rfl
theorem ydua{n:Nat}(ρ:Nm->Nm)(c:List SV):ren ρ (n+1) (.rf c)=(.rf c):=rfl
theorem yeau{n:Nat}(D:Nm->Bool)(c:List SV):cln D (n+1) (.rf c)=true:=rfl
theorem ydmj(c:List SV):one1 (.rf c)=true:=rfl
theorem ycpa{n:Nat}(Q:(Nat->Option ABlk)->Value->Prop)(v:SV):owned (n+1) (.ex Q v)=false:=rfl
theorem ycat{n:Nat}(Q:(Nat->Option ABlk)->Value->Prop)(v:SV):scalar (n+1) (.ex Q v)=false:=rfl
theorem ydjz{n:Nat}(o:Own)(Q:(Nat->Option ABlk)->Value->Prop)(v:SV):view o (n+1) (.ex Q v) = .ex Q v:=rfl
theorem ydxv{n:Nat}(o:Own)(Q:(Nat->Option ABlk)->Value->Prop)(v:SV):vok o (n+1) (.ex Q v)=True:=rfl
theorem ydxc{n:Nat}(ρ:Nm->Nm)(Q:(Nat->Option ABlk)->Value->Prop)(v:SV):ren ρ (n+1) (.ex Q v) = .ex Q v:=rfl
theorem yduv{n:Nat}(D:Nm->Bool)(Q:(Nat->Option ABlk)->Value->Prop)(v:SV):cln D (n+1) (.ex Q v)=true:=rfl
theorem ydgu(Q:(Nat->Option ABlk)->Value->Prop)(v:SV):one1 (.ex Q v)=one1 v:=rfl
theorem ybjo(Q:(Nat->Option ABlk)->Value->Prop)(v:SV):Sim (.ex Q v) v:=fun F a u h=>by
 cases h with
 |ex _ _ h=>exact h.mono (Le.refl _) (yul _)
theorem ycne{n:Nat}(a:Nm):owned (n+1) (.mr a)=true:=rfl
theorem ycfr{n:Nat}(a:Nm):scalar (n+1) (.mr a)=false:=rfl
theorem ydms{n:Nat}(o:Own)(a:Nm):view o (n+1) (.mr a) = .bad:=rfl
theorem ydpz{n:Nat}(o:Own)(a:Nm):vok o (n+1) (.mr a)=False:=rfl
theorem ybpg{n:Nat}(ρ:Nm->Nm)(a:Nm):ren ρ (n+1) (.mr a) = .mr (ρ a):=rfl
theorem ydzp{n:Nat}(D:Nm->Bool)(a:Nm):cln D (n+1) (.mr a)=D a:=rfl
theorem ydkd(a:Nm):one1 (.mr a)=true:=rfl
theorem ycdg{n:Nat} :owned (n+1) .bad=true:=rfl
theorem ybun{n:Nat} :scalar (n+1) .bad=false:=rfl
theorem ycnj{n:Nat}(o:Own) :view o (n+1) .bad = .bad:=rfl
theorem ydhh{n:Nat}(o:Own) :vok o (n+1) .bad=False:=rfl
theorem ydlg{n:Nat}(ρ:Nm->Nm) :ren ρ (n+1) .bad = .bad:=rfl
theorem ydgp{n:Nat}(D:Nm->Bool) :cln D (n+1) .bad=true:=rfl
theorem ycnm :one1 .bad=false:=rfl
theorem yckg{n:Nat}(c:List SV):owned (n+1) (.ag c)=c.any (owned n):=rfl
theorem yccv{n:Nat}(c:List SV):scalar (n+1) (.ag c)=c.all (scalar n):=rfl
theorem ydhq{n:Nat}(o:Own)(c:List SV):view o (n+1) (.ag c) = .ag (c.map (view o n)):=rfl
theorem ydpu{n:Nat}(o:Own)(c:List SV):vok o (n+1) (.ag c)=allP (vok o n) c:=rfl
theorem ydcj{n:Nat}(ρ:Nm->Nm)(c:List SV):ren ρ (n+1) (.ag c) = .ag (c.map (ren ρ n)):=rfl
theorem ydpi{n:Nat}(D:Nm->Bool)(c:List SV):cln D (n+1) (.ag c)=c.all (cln D n):=rfl
theorem ydnp(c:List SV):one1 (.ag c)=false:=rfl
theorem yclu{n:Nat}(c:List SV):owned (n+1) (.tp c)=c.any (owned n):=rfl
theorem ycif{n:Nat}(c:List SV):scalar (n+1) (.tp c)=c.all (scalar n):=rfl
theorem ydjv{n:Nat}(o:Own)(c:List SV):view o (n+1) (.tp c) = .tp (c.map (view o n)):=rfl
theorem yeaa{n:Nat}(o:Own)(c:List SV):vok o (n+1) (.tp c)=allP (vok o n) c:=rfl
theorem yrh{n:Nat}(ρ:Nm->Nm)(c:List SV):ren ρ (n+1) (.tp c) = .tp (c.map (ren ρ n)):=rfl
theorem yeaw{n:Nat}(D:Nm->Bool)(c:List SV):cln D (n+1) (.tp c)=c.all (cln D n):=rfl
theorem ydmv(c:List SV):one1 (.tp c)=false:=rfl
theorem ycpy{n:Nat}(g:FuncId)(a b:List SV):owned (n+1) (.fn g a b)=(a.any (owned n)||b.any (owned n)):=rfl
theorem ychg{n:Nat}(g:FuncId)(a b:List SV):scalar (n+1) (.fn g a b)=false:=rfl
theorem ydkm{n:Nat}(o:Own)(g:FuncId)(a b:List SV):view o (n+1) (.fn g a b) = .fn g (a.map (view o n)) (b.map (view o n)):=rfl
theorem ydyf{n:Nat}(o:Own)(g:FuncId)(a b:List SV):vok o (n+1) (.fn g a b)=(allP (vok o n) a/\allP (vok o n) b):=rfl
theorem ycrp{n:Nat}(ρ:Nm->Nm)(g:FuncId)(a b:List SV):ren ρ (n+1) (.fn g a b) = .fn g (a.map (ren ρ n)) (b.map (ren ρ n)):=rfl
theorem ydsr{n:Nat}(D:Nm->Bool)(g:FuncId)(a b:List SV):cln D (n+1) (.fn g a b)=(a.all (cln D n)&&b.all (cln D n)):=rfl
theorem ydnj(g:FuncId)(a b:List SV):one1 (.fn g a b)=true:=rfl
theorem ycmv{n:Nat}(a:Nm)(i j:Nat):owned (n+1) (.pt a i j)=true:=rfl
theorem ycil{n:Nat}(a:Nm)(i j:Nat):scalar (n+1) (.pt a i j)=false:=rfl
theorem ydmz{n:Nat}(o:Own)(a:Nm)(i j:Nat):view o (n+1) (.pt a i j)=(match lookO o a with|some b=>.rf ((((b.g i).drop j)).map (view o n))|none=>.bad):=rfl
theorem ydvo{n:Nat}(o:Own)(a:Nm)(i j:Nat):vok o (n+1) (.pt a i j)=(match lookO o a with|some b=>(i<b.n/\j<=b.z)/\allP (vok o n) ((b.g i).drop j)|none=>False):=rfl
theorem ycwd{n:Nat}(ρ:Nm->Nm)(a:Nm)(i j:Nat):ren ρ (n+1) (.pt a i j) = .pt (ρ a) i j:=rfl
theorem ydpd{n:Nat}(D:Nm->Bool)(a:Nm)(i j:Nat):cln D (n+1) (.pt a i j)=D a:=rfl
theorem ydmu(a:Nm)(i j:Nat):one1 (.pt a i j)=true:=rfl
theorem ycko{n:Nat}(a:Nm)(p k:Nat)(ap:Bool):owned (n+1) (.os a p k ap)=true:=rfl
theorem ycdn{n:Nat}(a:Nm)(p k:Nat)(ap:Bool):scalar (n+1) (.os a p k ap)=false:=rfl
theorem ydmy{n:Nat}(o:Own)(a:Nm)(p k:Nat)(ap:Bool):view o (n+1) (.os a p k ap)=(match lookO o a with|some b=>.sl b.z k (fun q=>(b.g (p+q)).map (view o n))|none=>.bad):=rfl
theorem ydwk{n:Nat}(o:Own)(a:Nm)(p k:Nat)(ap:Bool):vok o (n+1) (.os a p k ap)=(match lookO o a with|some b=>p+k<=b.n/\∀q,q<k->allP (vok o n) (b.g (p+q))|none=>False):=rfl
theorem yjw{n:Nat}(ρ:Nm->Nm)(a:Nm)(p k:Nat)(ap:Bool):ren ρ (n+1) (.os a p k ap) = .os (ρ a) p k ap:=rfl
theorem ydzu{n:Nat}(D:Nm->Bool)(a:Nm)(p k:Nat)(ap:Bool):cln D (n+1) (.os a p k ap)=D a:=rfl
theorem ydfz(a:Nm)(p k:Nat)(ap:Bool):one1 (.os a p k ap)=true:=rfl
theorem any_false{a:Type}{p:a->Bool}{l:List a}(h:l.any p=false):∀x∈l,p x=false:=fun x c=>by
 cases b:p x with
 |false=>rfl
 |true=>rw[List.any_eq_true.2 ⟨x,c,b⟩]at h;cases h
theorem yei{b:Type}{p:b->Bool}{l:List b}(h:∀x∈l,p x=false):l.any p=false:=by
 cases e:l.any p with
 |false=>rfl
 |true=>obtain⟨x,c,a⟩:=List.any_eq_true.1 e;rw[h x c]at a;cases a
theorem yju:∀{n:Nat}{v:SV},owned n v=false->owned (n+1) v=false
 |0,_,h=>by cases h
 | n + 1,v,h=>by
   cases v with
   |ag c=>exact yei fun x e=>yju (any_false h x e)
   |tp c=>exact yei fun x e=>yju (any_false h x e)
   | fn g a b =>
     have h:(_||_)=false:=h;rw[zB]at h;show(_||_)=false;rw[zB];exact⟨yei fun x e=>yju (any_false h.1 x e),yei fun x e=>yju (any_false h.2 x e)⟩
   |_=>first|rfl|cases h
theorem yzc{n:Nat}{l:List SV}(h:l.any (owned n)=false):l.any (owned (n+1))=false:=yei fun x a=>yju (any_false h x a)
theorem ybfr(ρ:Nm->Nm):∀{n:Nat}{v:SV},owned n v=false->ren ρ n v=v
 |0,_,h=>by cases h
 | n + 1,v,h=>by
   have e:∀{l:List SV},l.any (owned n)=false->l.map (ren ρ n)=l:=fun {l} h=>by
    induction l with
    |nil=>rfl
    |cons x l i=>rw[zY,ybfr ρ (any_false h x zA),i (yei fun y f=>any_false h y (zF _ f))]
   cases v with
   |ag c=>show SV.ag _=_;rw[e h]
   |tp c=>show SV.tp _=_;rw[e h]
   | fn g a b =>
     have h:(_||_)=false:=h;rw[zB]at h;show SV.fn g _ _=_;rw[e h.1,e h.2]
   |_=>first|rfl|cases h
theorem yrm(ρ:Nm->Nm){n:Nat}{l:List SV}(h:l.any (owned n)=false):l.map (ren ρ n)=l:=by
 induction l with
 |nil=>rfl
 |cons x l b=>rw[zY,ybfr ρ (any_false h x zA),b (yei fun y a=>any_false h y (zF _ a))]
theorem ybjt(D:Nm->Bool):∀{n:Nat}{v:SV},owned n v=false->cln D n v=true
 |0,_,h=>by cases h
 | n + 1,v,h=>by
   have e:∀{l:List SV},l.any (owned n)=false->l.all (cln D n)=true:=fun {l} h=>List.all_eq_true.2 fun x f=>ybjt D (any_false h x f);cases v with
   |ag c=>exact e h
   |tp c=>exact e h
   | fn g a b =>
     have h:(_||_)=false:=h;rw[zB]at h;show(_&&_)=true;rw[e h.1,e h.2];rfl
   |_=>first|rfl|cases h
theorem yrb(D:Nm->Bool){n:Nat}{l:List SV}(h:l.any (owned n)=false):l.all (cln D n)=true:=List.all_eq_true.2 fun x a=>ybjt D (any_false h x a)
end Sh
end
end Go.Proofs.YthclbjjgfcgbgaaGreatDoor
