/- Joined. -/
import Derived.Test.YthclbjjgfcgbgaaGreatDoorPkCm5
set_option linter.unusedSimpArgs false
set_option linter.unusedVariables false
open List renaming mem_cons_self->zA,mem_cons_of_mem->zF,isEmpty_iff->zM,elem->zV
open Bool renaming and_eq_true->zB,not_eq_true'->zC,or_eq_false_iff->zD,not_eq_false'->zL,and_eq_false_iff->zO,true_and->zS,not_true->zAA,false_or->zAB
open Nat renaming le_trans->zG,le_of_ble_eq_true->zH,lt_of_lt_of_le->zI,le_refl->zJ,testBit->zK,ble->zN,blt->zQ,beq->zT,ble_eq_true_of_le->zX,beq_refl->zY,succ->zZ,min->zAC
open Classical renaming choose->zU,choose_spec->zW
open Go
namespace Go.Proofs.YthclbjjgfcgbgaaGreatDoor
section
namespace Sh
open Go Ev
def Cm(P:Program)(g:FuncId)(pr:List Nm)(o:Own)(args:List SV)(Q:SV->Own->Prop):Prop :=
 ∀ lo (G:AM) (ω:Om) (f:Fr) (m:Mem) (us:List Value),Conc lo G ω ⟨[],o⟩ f m->RVL G ω args us ->
   ∃ v m' r o' G' ω',ycb P (.call g us m) (.call v m')/\Conc lo G' ω' ⟨[],o'⟩ f m'/\RV G' ω' r v/\Le G G'/\(∀x b,G' x=some b->G x=some b\/lo<=x)/\(∀β∈pr,∀x,ω β=some x->ω' β=some x) /\
     (cln (live o') 5 r=true/\allQ (fun p=>yby (live o') p.2) o'/\allQ (fun β=>live o' β=true) pr)/\Q r o'
theorem Cm.mono{P:Program}{g:FuncId}{pr:List Nm}{o:Own}{args:List SV}{Q R:SV->Own->Prop}(h:Cm P g pr o args Q)(hq:∀r o',Q r o'->R r o'):Cm P g pr o args R:=fun lo G ω f m us h1 h2=>by
 obtain⟨v,m',r,o',G',ω',a1,a2,a3,a4,a5,a6,a7,a8⟩:=h lo G ω f m us h1 h2;exact⟨v,m',r,o',G',ω',a1,a2,a3,a4,a5,a6,a7,hq r o' a8⟩
def ItC(P:Program)(g:FuncId)(caps:List SV)(S:ItS):Prop :=
 ∀ lo (F:AM) (ω:Om) (s:SS) (f:Fr) (m:Mem) (us:List Value),Conc lo F ω s f m->RVL F ω caps us->S.own 0 s.o->∃T:It,ItOk P g us T/\T.n=S.n /\
   ∀ (F':AM) (ω':Om) (s':SS) (f':Fr) (m':Mem) (k:Nat),Le F F'->(∀β∈S.pr,∀x,ω β=some x->ω' β=some x)->Conc lo F' ω' s' f' m'->k<=S.n->S.own k s'.o ->
     T.pre k m'/\(k<S.n->RVL F' ω' (S.el k) (T.el k)/\Conc lo F' ω' ⟨s'.f,S.adv k s'.o⟩ f' (T.adv k m'))
theorem MapOk.ren{kd:Nat}{es:List MapEntry}{g:Nat->List SV}(h:MapOk kd es g)(f:Nm->Nm):MapOk kd es fun c=>(g c).map (Sh.ren f 5):=⟨h.key,h.kind,fun a b h1 h2 h3=>by
 show(g (mkey a b)).map _=_;rw[h.val a b h1 h2 h3];have hz:Sh.ren f 5 (ylp kd)=ylp kd:=by unfold ylp;split<;>rfl
 cases hq:ygy a b es with
 |none=>simp[hz]
 | some v =>
   have ho:Sh.ren f 5 (ofV v)=ofV v:=by unfold ofV;split<;>rfl
   simp[ho]⟩
noncomputable def Mem.rest(m' m:Mem)(ft:List Nat):Mem:=⟨m'.next,ylv m'.b (T.filt m.b fun i=>!(ft.elem i)),m'.low⟩
section
variable {P:Program}{lo:Nat}{F G:AM}{ω ψ:Om}{s t:SS}{f:Fr}{m:Mem}{o:Oper}
theorem ygk{m' m:Mem}{ft:List Nat}{i:Nat}{b:ABlk}:(Mem.rest m' m ft).b.get i=some b↔m'.b.get i=some b\/(m'.b.get i=none/\i∉ft/\m.b.get i=some b):=by
 show(ylv m'.b (T.filt m.b fun i=>!(ft.elem i))).get i=some b↔_;rw[ygh];cases h:m'.b.get i with
 |some x=>simp
 |none=>simp only[T.filt_get];simp
theorem ycb.relow{g:FuncId}{us:List Value}{v:Value}{m':Mem}{n l l':Nat}{b:Ev.T ABlk}(h:ycb P (.call g us ⟨n,b,l⟩) (.call v m')):ycb P (.call g us ⟨n,b,l'⟩) (.call v m'):=by
 intro hw;obtain⟨e,h2⟩:=h hw;refine⟨⟨e.next,e.dom,e.old,e.wf⟩,fun φ M w args' hR hs ha hf=>(h2 φ M w args' hR hs ha hf).mono ?_⟩
 rintro e' w' ⟨v',rfl,φ',M',hg,hv⟩;exact⟨v',rfl,φ',M',⟨hg.le,hg.out,hg.rel,hg.sub,hg.frame,hg.wg⟩,hv⟩
theorem ycb.rest{g:FuncId}{us:List Value}{v:Value}{m':Mem}{ft:List Nat}(hw:Wf m)(h:ycb P (.call g us (m.only ft)) (.call v m')):ycb P (.call g us m) (.call v (Mem.rest m' m ft)):=by
 intro _;obtain⟨e,h2⟩:=h (yeo hw);have hnx:m.next<=m'.next:=e.next
 refine⟨⟨e.next,fun i b hb=>?_,fun i b h1 h3 hb=>?_,fun i b hb=>?_⟩,fun φ M w args' hR hs ha hf=>?_⟩
 .rcases ygk.1 hb with hb|⟨_,_,hb⟩
  .rcases e.dom i b hb with⟨x,hx⟩|q
   .exact .inl ⟨x,(ydb.1 hx).2⟩
   .exact .inr q
  .exact .inl ⟨b,hb⟩
 .rcases ygk.1 hb with hb|⟨_,_,hb⟩
  .exact(ydb.1 (e.old i b h1 h3 hb)).2
  .exact hb
 .rcases ygk.1 hb with hb|⟨_,_,hb⟩
  .exact e.wf i b hb
  .exact zI (hw i b hb) hnx
 .refine(h2 φ M w args' hR (fun i b hb=>hs i b (ydb.1 hb).2) ha hf).mono ?_;rintro e' w' ⟨v',rfl,φ',M',hg,hv⟩
  have hfr:∀i,¬(m.next<=i/\i<m'.next)->(i∉ft\/m.b.get i=none\/i<m'.low)->M' i=M i:=fun i hi hn=>hg.frame i hi (by
   rcases hn with q|q|q
   .left
    cases hq:(m.only ft).b.get i with
    |none=>rfl
    |some x=>exact absurd (ydb.1 hq).1 q
   .left
    cases hq:(m.only ft).b.get i with
    |none=>rfl
    |some x=>rw[(ydb.1 hq).2]at q;cases q
   .exact .inr q)
  refine⟨v',rfl,φ',M',⟨hg.le,hg.out,hg.rel,fun i b hb=>?_,fun i hi hn=>hfr i hi (.inr hn),hg.wg⟩,hv⟩;rcases ygk.1 hb with hb|⟨_,q,hb⟩
  .exact hg.sub i b hb
  .rw[hfr i (fun z=>by have:=hw i b hb;omega) (.inl q)]
   exact hs i b hb
theorem RVL.of_slots:∀{as:List SV}{us:List Value},as.length=us.length->(∀(k:Nat) v,as[k]?=some v->∃u,us[k]?=some u/\RV F ω v u)->RVL F ω as us
 |[],[],_,_=>.nil
 | v::as,u::us,h,k=>by
   obtain⟨u',h1,h2⟩:=k 0 v rfl;cases h1
   exact .cons h2 (RVL.of_slots (by simpa using h) fun j w hj=>k (j+1) w (by simpa using hj))
 |[],_::_,h,_=>by simp at h
 |_::_,[],h,_=>by simp at h
theorem yyi{l:List (Nat×SV)}{ks:List Nat}{t:Nat}{v:SV}(h:look (ycs l ks) t=some v):look l t=some v:=by
 induction ks with
 |nil=>cases h
 | cons k ks ih =>
   unfold ycs at h;split at h
   .rename_i x hx
    have h':(if k=t then some x else look (ycs l ks) t)=some v:=h
    clear h
    split at h'
    .rename_i q;subst q;rw[hx];exact h'
    .exact ih h'
   .exact ih h
theorem ypd{l:Own}{ks:List Nat}{t:Nat}:look (yck l ks) t=if t∈ks then look l t else none:=by
 induction ks with
 |nil=>simp[yck,look]
 | cons k ks ih =>
   unfold yck;split
   .rename_i x hx
    show(if k=t then some x else look (yck l ks) t)=_
    by_cases q:k=t
    .subst q;rw[if_pos rfl,if_pos zA,hx]
    .rw[if_neg q,ih];simp[Ne.symm q]
   .rename_i hx
    rw[ih]
    by_cases q:t=k
    .subst q;simp[hx]
    .simp[q]
theorem ytl{α:Type}{a b:List (Nat×α)}{t:Nat}:look (a++b) t=match look a t with|some v=>some v|none=>look b t:=by
 induction a with
 |nil=>rfl
 | cons x a ih =>
   show(if x.1=t then some x.2 else look (a++b) t)=match (if x.1=t then some x.2 else look a t)with|some v=>some v|none=>look b t
   split
   .rfl
   .exact ih
theorem ybmt{α:Type}{k:Nat->Nat}{r:Nat->α->α}:∀{o:List (Nat×α)},difN (o.map fun p=>k p.1)=true->∀{c:Nat}{G:α},look (o.map fun p=>(k p.1,r p.1 p.2)) c=some G->∃b F,look o b=some F/\k b=c/\G=r b F
 |[],_,_,_,h=>by cases h
 | (b,F)::o,hd,c,G,h=>by
   have h:(if k b=c then some (r b F)else look (o.map fun p=>(k p.1,r p.1 p.2)) c)=some G:=h
   have hd:(!(zV (k b) (o.map fun p=>k p.1))&&difN (o.map fun p=>k p.1))=true:=hd;rw[zB,zC]at hd;split at h
   .rename_i q;cases h;exact⟨b,F,by show(if b=b then some F else _)=_;rw[if_pos rfl],q,rfl⟩
   .obtain⟨b',F',h1,h2,h3⟩:=ybmt hd.2 h;refine⟨b',F',?_,h2,h3⟩;show(if b=b' then some F else look o b')=_
    rw[if_neg]
    .exact h1
    .rintro rfl;exact elem_false' hd.1 (List.mem_map.2 ⟨(b,F'),ydt h1,rfl⟩)
where elem_false' {l:List Nat}{x:Nat}(h:l.elem x=false):x∉l:=by simpa using h
theorem ybnp{k:Nat->Nat}{α:Type}:∀{o:List (Nat×α)},difN (o.map fun p=>k p.1)=true->∀{b c:Nat}{F G:α},look o b=some F->look o c=some G->k b=k c->b=c
 |[],_,_,_,_,_,h,_,_=>by cases h
 | (a,A)::o,hd,b,c,F,G,h1,h2,he=>by
   have hd:(!(zV (k a) (o.map fun p=>k p.1))&&difN (o.map fun p=>k p.1))=true:=hd;rw[zB,zC]at hd
   have no:∀{x:Nat}{X:α},look o x=some X->k a≠k x:=fun {x X} hx e=>by
    have:k a∉o.map fun p=>k p.1:=by simpa using hd.1
    exact this (List.mem_map.2 ⟨(x,X),ydt hx,e.symm⟩)
   have h1:(if a=b then some A else look o b)=some F:=h1
   have h2:(if a=c then some A else look o c)=some G:=h2
   split at h1<;>split at h2
   .rename_i p q;rw[<-p,<-q]
   .rename_i p q;rw[<-p]at he;exact absurd he (no h2)
   .rename_i p q;rw[<-q]at he;exact absurd he.symm (no h1)
   .exact ybnp hd.2 h1 h2 he
theorem ybnl{α:Type}{k:Nat->Nat}{r:Nat->α->α}:∀{o:List (Nat×α)},difN (o.map fun p=>k p.1)=true->∀{b:Nat}{F:α},look o b=some F->look (o.map fun p=>(k p.1,r p.1 p.2)) (k b)=some (r b F)
 |[],_,_,_,h=>by cases h
 | (a,A)::o,hd,b,F,h=>by
   have hd':(!(zV (k a) (o.map fun p=>k p.1))&&difN (o.map fun p=>k p.1))=true:=hd;rw[zB,zC]at hd';have h':(if a=b then some A else look o b)=some F:=h
   clear h
   show(if k a=k b then some (r a A)else look (o.map fun p=>(k p.1,r p.1 p.2)) (k b))=some (r b F)
   split at h'
   .rename_i q;subst q;cases h';rw[if_pos rfl]
   .rename_i q
    rw[if_neg]
    .exact ybnl hd'.2 h'
    .intro e;have:k a∉o.map fun p=>k p.1:=by simpa using hd'.1
     exact this (List.mem_map.2 ⟨(b,F),ydt h',e.symm⟩)
open Classical in
noncomputable def yua(ω ω':Om)(ρ:List (Nat×Nat))(base:Nat)(kb:List Nat)(o:Own):Om:=fun γ=>if kb.elem γ.1=true then ω γ else
 if h:∃b,(∃F,look o b=some F)/\nuF ρ base b=γ.1/\live o (b,γ.2)=true then ω' (zU h,γ.2)else none
theorem ylf{ω':Om}{ρ:List (Nat×Nat)}{base:Nat}{kb:List Nat}{o':Own}(hd:difN (o'.map fun p=>nuF ρ base p.1)=true)(hk:(o'.all fun p=>!(kb.elem (nuF ρ base p.1)))=true){β:Nm}(hl:live o' β=true):yua ω ω' ρ base kb o' (nu ρ base β)=ω' β:=by
 obtain⟨b,hb⟩:=yif.1 hl;obtain⟨F,h1,h2⟩:=yfp hb
 have hkb:kb.elem (nuF ρ base β.1)=false:=by
  have:=List.all_eq_true.1 hk _ (ydt h1)
  simpa using this
 unfold yua;rw[if_neg (by show ¬kb.elem (nuF ρ base β.1)=true;rw[hkb];simp)]
 have hex:∃b,(∃F,look o' b=some F)/\nuF ρ base b=(nu ρ base β).1/\live o' (b,(nu ρ base β).2)=true:=⟨β.1,⟨F,h1⟩,rfl,hl⟩;rw[dif_pos hex];obtain⟨⟨F',q1⟩,q2,q3⟩:=zW hex;have:zU hex=β.1:=ybnp hd q1 h1 q2;rw[this];rfl
theorem yxg{ω':Om}{ρ:List (Nat×Nat)}{base:Nat}{kb:List Nat}{o':Own}{γ:Nm}(h:kb.elem γ.1=true):yua ω ω' ρ base kb o' γ=ω γ:=by
 unfold yua;rw[if_pos h]
theorem ylb{ω':Om}{ρ:List (Nat×Nat)}{base:Nat}{kb:List Nat}{o':Own}{γ:Nm}{x:Option (Nat×Nat)}(h:yua ω ω' ρ base kb o' γ=some x):(kb.elem γ.1=true/\ω γ=some x)\/(kb.elem γ.1=false/\∃β,live o' β=true/\nu ρ base β=γ/\ω' β=some x):=by
 unfold yua at h;split at h
 .rename_i q;exact .inl ⟨q,h⟩
 .rename_i q
  split at h
  .rename_i hex
   obtain⟨_,q2,q3⟩:=zW hex;exact .inr ⟨by simpa using q,(zU hex,γ.2),q3,Prod.ext q2 rfl,h⟩
  .cases h
theorem ybvh (hc:Conc lo F ω s f m) {fx:Operand}{args:Array Operand}{ats:Array TypeId}(hop:o.op = .call { callee:=.value fx,args:=args,argTypes:=ats }) {g:FuncId}{a b xs:List SV}(hf:s.get fx=some (.fn g a b)) (hx:s.gets args.toList=some xs)
 {pc:List Nm}{ρ:List (Nat×Nat)}{base:Nat}{keep kb:List Nat}{pr:List Nm}{o0:Own}{as:List SV}{Q:SV->Own->Prop}(hlen:(a++xs++b).length=as.length) (hw:WeakBy (to1 ρ) [] [] ⟨slots (a++xs++b) 0,s.o⟩ ⟨slots as 0,o0⟩)
 (hdom:∀p∈o0,(look ρ p.1).isSome=true) (hk:Kept pc s ρ pr o0 keep kb) (hct:Cm P g pr o0 as Q) :
 ∃ r2 F' ω'' rv o',One P f o m r2/\Q rv o'/\((difN (o'.map fun p=>nuF ρ base p.1)=true/\(o'.all fun p=>!(kb.elem (nuF ρ base p.1)))=true)->Conc lo F' ω'' (yhr s ρ base keep kb o') f r2.m/\RV F' ω'' (ren (nu ρ base) 5 rv) r2.v) /\
   m.next<=r2.m.next/\Le F F'/\(∀x b,F' x=some b->F x=some b\/lo<=x)/\((difN (o'.map fun p=>nuF ρ base p.1)=true/\(o'.all fun p=>!(kb.elem (nuF ρ base p.1)))=true)->∀β∈pc,∀x,ω β=some x->ω'' β=some x)/\r2.foot=none/\(o0=[]->r2.mods=some []):=by
 classical
 obtain⟨uf,e1,r1⟩:=hc.get hf;obtain⟨us,e2,r2⟩:=hc.gets hx
 obtain⟨A,B,rfl,rA,rB⟩:∃A B:List Value,uf = .func (.func g) A.toArray B.toArray/\RVL F ω a A/\RVL F ω b B:=by
  cases r1 with
  |fn h1 h2=>exact⟨_,_,rfl,h1,h2⟩
 have hall:RVL F ω (a++xs++b) (A++us++B):=(rA.append r2).append rB
 let f0:Fr:=⟨0,tOf (A++us++B)⟩
 have hc1:Conc lo F ω ⟨slots (a++xs++b) 0,s.o⟩ f0 m:=⟨hc.wf,hc.low,hc.nxt,hc.sub,hc.own,hc.dom,hc.inj,hc.apart,fun t v hv=>by
  obtain⟨_,h2⟩:=yll hv;obtain⟨u,h3,h4⟩:=hall.get h2;exact⟨u,by show(tOf (A++us++B)).get t=some u;rw[ydf];simpa using h3,h4⟩⟩
 have hc2:=hw.conc hc1;rw[yche]at hc2
 let ω0:Om:=omTo ω (to1 ρ) [] o0
 have hargs:RVL F ω0 as (A++us++B):=RVL.of_slots (hlen.symm.trans hall.length) fun k v hv=>by
  obtain⟨u,h1,h2⟩:=hc2.fr (0+k) v (ybnv hv);rw[Nat.zero_add]at h1;have h1:(tOf (A++us++B)).get k=some u:=h1;rw[ydf]at h1;exact⟨u,h1,h2⟩
 have hc3:Conc lo F ω0 ⟨[],o0⟩ f m:=⟨hc2.wf,hc2.low,hc2.nxt,hc2.sub,hc2.own,hc2.dom,hc2.inj,hc2.apart,fun t v hv=>by cases hv⟩
 obtain⟨ft,k1,k2,k3⟩:=hc3.only
 have hc4:Conc lo F ω0 ⟨[],o0⟩ f (m.only ft):=⟨yeo hc.wf,hc.low,hc.nxt,k2,fun β b hb=>by
  rcases hc3.own β b hb with⟨k,T,L,h1,h0,h2,h3⟩|h|⟨k,es,cl,h1,h2,h3,h4⟩
  .exact .inl ⟨k,T,L,h1,h0,k3 β k _ h1 _ h2,h3⟩
  .exact .inr (.inl h)
  .exact .inr (.inr ⟨k,es,cl,h1,h2,k3 β k _ h1 _ h3,h4⟩),hc3.dom,hc3.inj,hc3.apart,fun t v hv=>by cases hv⟩
 have hct2:∃v m' r o' G' ω',ycb P (.call g (A++us++B) (m.only ft)) (.call v m')/\Conc lo G' ω' ⟨[],o'⟩ f m'/\RV G' ω' r v/\Le F G'/\(∀x b,G' x=some b->F x=some b\/lo<=x)/\(∀β∈pr,∀x,ω0 β=some x->ω' β=some x) /\
  (cln (live o') 5 r=true/\allQ (fun p=>yby (live o') p.2) o'/\allQ (fun β=>live o' β=true) pr)/\Q r o'/\(o0=[]->m.next<=m'.low):=by
  by_cases h0:o0=[]
  .subst h0
   have hω00:∀β,ω0 β=none:=fun β=>by
    show(if live [] β=true then _ else none)=none
    rw[if_neg (by intro q;cases q)]
   have hc5:Conc m.next F ω0 ⟨[],[]⟩ f ⟨m.next,(m.only ft).b,m.next⟩:=⟨yeo hc.wf,zJ _,zJ _,k2,fun β b hb=>(by cases hb),fun β _=>hω00 β,fun β γ k z k' z' h1=>(by rw[hω00 β]at h1;cases h1),fun β k z h1=>(by rw[hω00 β]at h1;cases h1),fun t v hv=>(by cases hv)⟩
   obtain⟨v,m',r,o',G',ω',s1,c',rv,hle,hnew,hpr,hcl,hq⟩:=hct m.next F ω0 f _ _ hc5 hargs
   have hlo:lo<=m.next:=hc.nxt
   exact⟨v,m',r,o',G',ω',ycb.relow (b:=(m.only ft).b) s1,⟨c'.wf,zG hlo c'.low,zG hlo c'.nxt,c'.sub,c'.own,c'.dom,c'.inj,fun β k z h=>⟨(c'.apart β k z h).1,zG hlo (c'.apart β k z h).2.1,(c'.apart β k z h).2.2⟩,c'.fr⟩,rv,hle,fun x b h=>(hnew x b h).imp id (zG hlo),hpr,hcl,hq,fun _=>c'.low⟩
  .obtain⟨v,m',r,o',G',ω',s1,c',rv,hle,hnew,hpr,hcl,hq⟩:=hct lo F ω0 f (m.only ft) _ hc4 hargs;exact⟨v,m',r,o',G',ω',s1,c',rv,hle,hnew,hpr,hcl,hq,fun e=>absurd e h0⟩
 obtain⟨v,m',r,o',G',ω',s1,c',rv,hle,hnew,hpr,⟨cl1,cl2,cl3⟩,hq,hlow0⟩:=hct2;have hs:=ycb.rest hc.wf s1;have hext:=(s1 (yeo hc.wf)).1;have hnext:m.next<=m'.next:=hext.next
 have hft:∀{i x},m'.b.get i=some x->i<m.next->i∈ft:=fun {i x} q h=>by
  rcases hext.dom i x q with⟨y,hy⟩|q2
  .exact(ydb.1 hy).1
  .exact absurd q2.1 (Nat.not_le.2 h)
 have hω0:∀{β x},ω0 β=some x->live o0 β=true/\ω (to1 ρ β)=some x:=fun {β x} q=>by
  have q:(if live o0 β=true then(if zV β.1 []=true then some none else ω (to1 ρ β))else none)=some x:=q
  split at q
  .rename_i hl;rw[if_neg (by simp)]at q;exact⟨hl,q⟩
  .cases q
 have hto:∀{β},live o0 β=true->∃c,look ρ β.1=some c/\to1 ρ β=(c,β.2):=fun {β} hl=>by
  obtain⟨b,hb⟩:=yif.1 hl;obtain⟨F1,h1,_⟩:=yfp hb;obtain⟨c,hcc⟩:=Option.isSome_iff_exists.1 (hdom _ (ydt h1));have hcc:look ρ β.1=some c:=hcc;exact⟨c,hcc,by unfold to1;rw[hcc]⟩
 have hkeep:∀{γ k z},ω γ=some (some (k,z))->kb.elem γ.1=true->k∉ft:=fun {γ k z} hk1 hkb hm=>by
  rcases(k1 k hm).2 with⟨x,hx⟩|⟨β,z',hb⟩
  .rw[(hc.apart γ k z hk1).1]at hx;cases hx
  .obtain⟨q1,q2⟩:=hω0 hb;obtain⟨c,q3,q4⟩:=hto q1
   have hne:γ≠to1 ρ β:=fun e=>by
    have:=hk.apart _ (ydt q3);rw[e,q4]at hkb;rw[this]at hkb;cases hkb
   exact hc.inj γ _ k z k z' hk1 q2 hne rfl
 have hback:backM m.low (Mem.rest m' m ft)=⟨m'.next,(Mem.rest m' m ft).b,zAC m.low m'.low⟩:=ydz _ _
 let ω'':=yua ω ω' ρ base kb o'
 have hmean:((difN (o'.map fun p=>nuF ρ base p.1)=true/\(o'.all fun p=>!(kb.elem (nuF ρ base p.1)))=true)->∀β x,okN ρ pr kb β=true->ω β=some x->ω'' β=some x):=fun hd β x hok hx=>by
  unfold okN at hok;rw[Bool.or_eq_true]at hok;rcases hok with h|h
  .exact(yxg h).trans hx
  .obtain⟨q,hq1,hq2⟩:=List.any_eq_true.1 h;rw[zB]at hq2;have hlo0:=ycy hk.prl q hq1;obtain⟨c,q3,q4⟩:=hto hlo0;rw[q3]at hq2
   have e:β=nu ρ base q:=by
    have h1:=of_decide_eq_true hq2.1;have h2:=of_decide_eq_true hq2.2;refine Prod.ext ?_ h2.symm;show β.1=nuF ρ base q.1;unfold nuF;rw[q3];exact h1.symm
   have e':β=to1 ρ q:=by
    rw[q4];exact Prod.ext (of_decide_eq_true hq2.1).symm (of_decide_eq_true hq2.2).symm
   have h0:ω0 q=some x:=by
    show(if live o0 q=true then(if zV q.1 []=true then some none else ω (to1 ρ q))else none)=some x
    rw[if_pos hlo0,if_neg (by simp),<-e'];exact hx
   have hl':=ycy cl3 q hq1;rw[e];exact(ylf hd.1 hd.2 hl').trans (hpr q hq1 x h0)
 have hself:yex P (fun t=>if t = .call g (A++us++B) m then some (.call v (Mem.rest m' m ft))else none):=by
  intro t out h;simp only at h;split at h
  .rename_i e;subst e;cases h;exact hs
  .cases h
 refine⟨⟨v,backM m.low (Mem.rest m' m ft),none,iteB (zN m.next (Mem.rest m' m ft).low) (some []) none⟩,G',ω'',r,o',.inl ⟨_,hself,?_⟩,hq,fun hd=>⟨?_,?_⟩,by rw[hback];exact hnext,hle,hnew,fun hd β hβ x hx=>hmean hd β x (ycy hk.pin β hβ) hx,rfl,fun e=>?_⟩
 .unfold evOne evOne1;rw[hop];show(ob (f.get fx) fun g=>ob (valsA f args.toList) fun vs=>evCall _ m vs g)=_;rw[e1];show(ob (valsA f args.toList) fun vs=>evCall _ m vs _)=_;rw[e2];show ob ((fun t=>if t=Task.call g (A++us++B) m then some (Out.call v (Mem.rest m' m ft))else none) (.call g (A.toArray.toList++us++B.toArray.toList) m)) (afterCall m)=_
  simp only[if_true];rfl
 ·-- the state behind
  show Conc lo G' ω'' _ f (backM m.low (Mem.rest m' m ft));rw[hback]
  have hnewAt:∀{γ ob},lookO (o'.map (fun p=>(nuF ρ base p.1,p.2.ren (nu ρ base)))) γ=some ob->∃β ob0,nu ρ base β=γ/\lookO o' β=some ob0/\ob=ob0.ren (nu ρ base):=fun {γ ob} h=>by
   obtain⟨Fm,h1,h2⟩:=yfp h;obtain⟨b',F',q1,q2,q3⟩:=ybmt (r:=fun _ F=>F.ren (nu ρ base)) hd.1 h1;subst q3;refine⟨(b',γ.2),?_⟩;rcases ytc h2 with⟨e,hz⟩|⟨gg,e,hg⟩
   .cases F' with
    | one x =>
      cases x with
      |none=>cases e
      | some ob0 =>
        simp only[Fam.ren]at e;cases e
        refine⟨ob0,Prod.ext q2 rfl,?_,rfl⟩;unfold lookO;simp only[q1,Fam.at,hz,if_true]
    |many _=>cases e
   .cases F' with
    |one x=>cases x<;>cases e
    | many g0 =>
      simp only[Fam.ren]at e;cases e
      simp only at hg;split at hg
      .rename_i ob0 hg0
       cases hg
       refine⟨ob0,Prod.ext q2 rfl,?_,rfl⟩;unfold lookO;simp only[q1,Fam.at];exact hg0
      .cases hg
  have hbk:∀{γ ob},lookO (yhr s ρ base keep kb o').o γ=some ob->(∃β ob0,nu ρ base β=γ/\lookO o' β=some ob0/\ob=ob0.ren (nu ρ base))\/(kb.elem γ.1=true/\lookO s.o γ=some ob):=fun {γ ob} h=>by
   have h:(match look (o'.map (fun p=>(nuF ρ base p.1,p.2.ren (nu ρ base)))++yck s.o kb) γ.1 with|some F=>F.at γ.2|none=>none)=some ob:=h
   rw[ytl]at h;cases hl:look (o'.map (fun p=>(nuF ρ base p.1,p.2.ren (nu ρ base)))) γ.1 with
   | some Fm =>
     rw[hl]at h;exact .inl (hnewAt (by unfold lookO;rw[hl];exact h))
   | none =>
     rw[hl]at h;simp only[ypd]at h
     by_cases hm:γ.1∈kb
     .rw[if_pos hm]at h;exact .inr ⟨by simpa using hm,h⟩
     .rw[if_neg hm]at h;cases h
  refine⟨fun i x hx=>?_,?_,zG hc.nxt hnext,fun i x hx=>ygk.2 (.inl (c'.sub i x hx)),fun γ ob hob=>?_,fun γ hγ=>?_,fun γ δ k z k' z' h1 h2 hne=>?_,fun γ k z h1=>?_,fun t w hw'=>?_⟩
  .rcases ygk.1 hx with q|⟨_,_,q⟩
   .exact c'.wf i x q
   .exact zI (hc.wf i x q) hnext
  .show lo<=zAC m.low m'.low;have:=hc.low;have:=c'.low;rw[Nat.le_min];omega
  .rcases hbk hob with⟨β,ob0,rfl,h2,rfl⟩|⟨h1,h2⟩
   .have hlive:live o' β=true:=yif.2 ⟨_,h2⟩
    have hcln:ydn (live o') ob0:=by
     obtain⟨Fm,q1,q2⟩:=yfp h2;have:=ycy cl2 _ (ydt q1);rcases ytc q2 with⟨rfl,_⟩|⟨gg,rfl,hg⟩
     .exact this
     .exact this _ _ hg
    have hom:ω'' (nu ρ base β)=ω' β:=ylf hd.1 hd.2 hlive;rcases c'.own β ob0 h2 with⟨k,T,L,g1,g0,g2,g3⟩|⟨g1,g2,g3⟩|⟨k,es,cl,g1,g2,g3,g4⟩
    .refine .inl ⟨k,T,L,hom.trans g1,g0,ygk.2 (.inl g2),fun i hi=>?_⟩;obtain⟨l1,l2,l3,l4⟩:=g3 i hi;exact⟨l1,l2.yen fun v u hv hr=>ybif (fun β x hl hx=>(ylf hd.1 hd.2 hl).trans hx) hr (List.all_eq_true.1 (hcln i hi) v hv),ybkf (yclq _ _) l3,l4⟩
    .exact .inr (.inl ⟨hom.trans g1,g2,g3⟩)
    .exact .inr (.inr ⟨k,es,cl,hom.trans g1,g2,ygk.2 (.inl g3),g4.ren _⟩)
   .have hom:ω'' γ=ω γ:=yxg h1
    have hcln:ydn (okN ρ pr kb) ob:=by
     obtain⟨Fm,q1,q2⟩:=yfp h2;have hmem:look (yck s.o kb) γ.1=some Fm:=by rw[ypd,if_pos (by simpa using h1)];exact q1
     have:=ycy hk.own _ (ydt hmem);rcases ytc q2 with⟨rfl,_⟩|⟨gg,rfl,hg⟩
     .exact this
     .exact this _ _ hg
    rcases hc.own γ ob h2 with⟨k,T,L,g1,g0,g2,g3⟩|⟨g1,g2,g3⟩|⟨k,es,cl,g1,g2,g3,g4⟩
    .have hkft:=hkeep g1 h1;have hlt:=(hc.apart γ k _ g1).2.2;refine .inl ⟨k,T,L,hom.trans g1,g0,ygk.2 (.inr ⟨?_,hkft,g2⟩),fun i hi=>?_⟩
     .cases hq':m'.b.get k with
      |none=>rfl
      |some y=>exact absurd (hft hq' hlt) hkft
     .obtain⟨l1,l2,l3,l4⟩:=g3 i hi;exact⟨l1,(l2.of_get fun v u hv hr=>ybkt (hmean hd) hr (List.all_eq_true.1 (hcln i hi) v hv)).mono hle (Om.le_refl _),l3,l4⟩
    .exact .inr (.inl ⟨hom.trans g1,g2,g3⟩)
    .have hkft:=hkeep g1 h1;have hlt:=(hc.apart γ k _ g1).2.2;refine .inr (.inr ⟨k,es,cl,hom.trans g1,g2,ygk.2 (.inr ⟨?_,hkft,g3⟩),g4⟩);cases hq':m'.b.get k with
     |none=>rfl
     |some y=>exact absurd (hft hq' hlt) hkft
  .have hγ:look (o'.map (fun p=>(nuF ρ base p.1,p.2.ren (nu ρ base)))++yck s.o kb) γ.1=none:=hγ;rw[ytl]at hγ;cases hw2:ω'' γ with
   |none=>rfl
   | some x =>
     exfalso
     rcases ylb hw2 with⟨h1,h2⟩|⟨_,β,h1,rfl,_⟩
     .cases hl:look (o'.map (fun p=>(nuF ρ base p.1,p.2.ren (nu ρ base)))) γ.1 with
      |some Fm=>rw[hl]at hγ;cases hγ
      | none =>
        rw[hl,ypd,if_pos (by simpa using h1)]at hγ
        rw[hc.dom γ hγ]at h2;cases h2
     .obtain⟨b,hb⟩:=yif.1 h1;obtain⟨Fm,q1,_⟩:=yfp hb;have:=ybnl (r:=fun _ F=>F.ren (nu ρ base)) hd.1 q1;have e:(nu ρ base β).1=nuF ρ base β.1:=rfl;rw[e,this]at hγ;cases hγ
  .have key:∀{γ k z},ω γ=some (some (k,z))->kb.elem γ.1=true->∀{β z'},live o' β=true->ω' β=some (some (k,z'))->False:=fun {γ k z} hk1 hkb {β z'} hl hk2=>by
    obtain⟨ob,hb⟩:=yif.1 hl;obtain⟨rfl,x,g1⟩:=c'.ownZ hb hk2;exact hkeep hk1 hkb (hft g1 (hc.apart γ k z hk1).2.2)
   intro e;subst e;rcases ylb h1 with⟨a1,a2⟩|⟨a1,β,a2,a3,a4⟩<;>rcases ylb h2 with⟨b1,b2⟩|⟨b1,β',b2,b3,b4⟩
   .exact hc.inj γ δ k z k z' a2 b2 hne rfl
   .exact key a2 a1 b2 b4
   .exact key b2 b1 a2 a4
   .exact c'.inj β β' k z k z' a4 b4 (fun e=>hne (by rw[<-a3,<-b3,e])) rfl
  .rcases ylb h1 with⟨a1,a2⟩|⟨a1,β,a2,a3,a4⟩
   .obtain⟨q1,q2,q3⟩:=hc.apart γ k z a2;refine⟨?_,q2,zI q3 hnext⟩;cases hG:G' k with
    |none=>rfl
    |some y=>exact absurd (hft (c'.sub _ _ hG) q3) (hkeep a2 a1)
   .exact c'.apart β k z a4
  .have hw':look (ycs s.f keep) t=some w:=hw';obtain⟨u,g1,g2⟩:=hc.fr t w (yyi hw');exact⟨u,g1,(ybkt (hmean hd) g2 (ycy hk.slot _ (ydt hw'))).mono hle (Om.le_refl _)⟩
 .exact ybif (fun β x hl hx=>(ylf hd.1 hd.2 hl).trans hx) rv cl1
 .show iteB (zN m.next m'.low) (some []) none=some []
  rw[ybe,if_pos (zX (hlow0 e))]
end
end Sh
end
section
namespace Sh
open Go Ev
def guardOf(ops:List Oper):Option (Nat×Bool)->Option (Option (Nat×Bool))
 |none=>some none
 | some (j,w)=>match ops[j]? with
   | some oj=>(match oj.dst with
     |some d=>some (some (d,w))
     |none=>none)
   |none=>none
def ychi(nt:Nat):Option Nat->Bool
 |none=>true
 |some d=>zQ d nt
noncomputable def cmpL(P:Program)(nt:Nat)(ops:List Oper)(an:List Nat):List Oper->Nat->Option (List SOper)
 |[],_=>some []
 |o::l,i=>(some ((res P o.op).getD .no)).bind fun sop=>(guardOf ops o.guard).bind fun g=>(cmpL P nt ops an l (i+1)).bind fun r=>if ychi nt o.dst then some (⟨sop,o.dst,g,an.getD i 0⟩::r)else none
structure Past0(F:AM)(ω:Om)(rc:SRec)(e:Ent):Prop where
 mods:∃ms,e.r.mods=some ms/\∀x∈ms,∃β z,β∈rc.wr/\ω β=some (some (x,z))
 foot:(rc.cl=true/\rc.gr=true/\e.r.foot=none)\/∃ft,e.r.foot=some ft/\∀x∈ft,x<e.m.next/\((∃β z,β∈rc.rd/\ω β=some (some (x,z)))\/(rc.fz=true/\∃b,F x=some b)\/(rc.cl=true/\∃β z,ω β=some (some (x,z))))
 own:∀β k z,ω β=some (some (k,z))->e.m.next<=k->k<e.r.m.next->β∈rc.nw
 frz:rc.gr=false->∀x b,F x=some b->¬(e.m.next<=x/\x<e.r.m.next)
 still:rc.nw=[]->rc.cl=false->rc.gr=false->e.m.next=e.r.m.next
structure Past(F:AM)(ω:Om)(nxt:Nat)(rc:SRec)(e:Ent):Prop where
 le:e.m.next<=e.r.m.next/\e.r.m.next<=nxt
 rest:rc.mu=true\/Past0 F ω rc e
section
variable {P:Program}{lo nt:Nat}{F F':AM}{ω ω':Om}{s:SS}{f:Fr}{m:Mem}{o:Oper}
theorem Past.mono{nxt nxt':Nat}{rc:SRec}{e:Ent}(h:Past F ω nxt rc e)(hF:Le F F')(ho:ω.le ω')(h1:∀β k z,ω' β=some (some (k,z))->ω β=some (some (k,z))\/nxt<=k)(h2:∀x b,F' x=some b->F x=some b\/nxt<=x)(h3:nxt<=nxt'):Past F' ω' nxt' rc e:=by
 refine⟨⟨h.le.1,zG h.le.2 h3⟩,h.rest.imp id fun q=>⟨?_,?_,fun β k z hk a b=>?_,fun hg x b hb q'=>?_,q.still⟩⟩
 .obtain⟨ms,a,b⟩:=q.mods;exact⟨ms,a,fun x hx=>by obtain⟨β,z,c,d⟩:=b x hx;exact⟨β,z,c,ho _ _ d⟩⟩
 .rcases q.foot with q|⟨ft,a,b⟩
  .exact .inl q
  .refine .inr ⟨ft,a,fun x hx=>⟨(b x hx).1,?_⟩⟩;rcases(b x hx).2 with⟨β,z,c,d⟩|⟨c,y,d⟩|⟨c,β,z,d⟩
   .exact .inl ⟨β,z,c,ho _ _ d⟩
   .exact .inr (.inl ⟨c,y,hF _ _ d⟩)
   .exact .inr (.inr ⟨c,β,z,ho _ _ d⟩)
 .rcases h1 β k z hk with c|c
  .exact q.own β k z c a b
  .have:=h.le.2;omega
 .rcases h2 x b hb with c|c
  .exact q.frz hg x b c q'
  .have:=h.le.2;omega
theorem ybrz{r:SRec}(h:r.pure=true):r.rd=[]/\r.wr=[]/\r.nw=[]/\r.fz=false/\r.cl=false/\r.gr=false/\r.mu=false:=by
 unfold SRec.pure at h;simp only[zB,zC,zM]at h;obtain⟨⟨⟨⟨⟨⟨a,b⟩,c⟩,d⟩,e⟩,f⟩,g⟩:=h;exact⟨a,b,c,d,e,f,g⟩
theorem ydho{r:R2}{a b:Nat}(h1:r.foot=some [])(h2:r.mods=some [])(h3:a=b):Ev.idle r a b=true:=by
 unfold Ev.idle;rw[h1,h2,h3];simp
theorem Past.pure{nxt:Nat}{rc:SRec}{e:Ent}(h:Past F ω nxt rc e)(hp:rc.pure=true):e.idle=true:=by
 obtain⟨h1,h2,h3,h4,h5,h6,h7⟩:=ybrz hp;have q:=h.rest.resolve_left (by rw[h7];simp)
 obtain⟨ms,a1,a2⟩:=q.mods
 have hms:ms=[]:=by
  cases ms with
  |nil=>rfl
  |cons x l=>obtain⟨β,z,v,_⟩:=a2 x zA;rw[h2]at v;cases v
 have hft:e.r.foot=some []:=by
  rcases q.foot with⟨v,_⟩|⟨ft,b1,b2⟩
  .rw[h5]at v;cases v
  .cases ft with
   |nil=>exact b1
   | cons x l =>
     rcases(b2 x zA).2 with⟨β,z,v,_⟩|⟨v,_⟩|⟨v,_⟩
     .rw[h1]at v;cases v
     .rw[h4]at v;cases v
     .rw[h5]at v;cases v
 subst hms;exact ydho hft a1 (q.still h3 h5 h6)
theorem Past.dim{nxt nxt':Nat}{rc:SRec}{e:Ent}(h:Past F ω nxt rc e)(h3:nxt<=nxt'):e.idle=true\/Past F' ω' nxt' (if rc.pure=true then rc else SRec.top) e:=by
 split
 .rename_i q;exact .inl (h.pure q)
 .exact .inr ⟨⟨h.le.1,zG h.le.2 h3⟩,.inl rfl⟩
theorem ylj{l:List Nm}{x:Nm}(h:nmem l x=false):x∉l:=fun q=>by rw[yik.2 q]at h;cases h
theorem ybme(hc:Conc lo F ω s f m){nxt:Nat}{a b:SRec}{e q:Ent}{k j:Nat}(ha:Past F ω nxt a e)(hb:Past F ω nxt b q)(hlt:q.r.m.next<=e.m.next)(h:yny a b=false)(c8:(b.gr=false\/a.fz=false)\/∀ft,e.r.foot=some ft->∀x∈ft,x<q.m.next):Ap k j e q:=by
 unfold yny at h;rw[zD,zD]at h;obtain⟨⟨hma,hmb⟩,h⟩:=h
 by_cases hmua:a.mu=true
 .rw[hmua,zS,zL]at hma;exact .inr (.inl (hb.pure hma))
 by_cases hmub:b.mu=true
 .rw[hmub,zS,zL]at hmb;exact .inl (ha.pure hmb)
 replace ha:Past0 F ω a e/\(e.m.next<=e.r.m.next/\e.r.m.next<=nxt):=⟨ha.rest.resolve_left hmua,ha.le⟩
 replace hb:Past0 F ω b q/\(q.m.next<=q.r.m.next/\q.r.m.next<=nxt):=⟨hb.rest.resolve_left hmub,hb.le⟩
 obtain⟨ha,hale⟩:=ha;obtain⟨hb,hble⟩:=hb;refine .inr (.inr ?_);simp only[zD,zO,List.any_eq_false,Bool.not_eq_true,zL,zM,zD]at h;obtain⟨⟨⟨⟨⟨c1,c2⟩,c3⟩,c4⟩,c5⟩,c6⟩:=h;obtain⟨ma,a1,a2⟩:=ha.mods;obtain⟨mb,b1,b2⟩:=hb.mods
 have same:∀{β γ k z z'},ω β=some (some (k,z))->ω γ=some (some (k,z'))->β=γ:=fun {β γ k z z'} h1 h2=>by
  by_cases q:β=γ
  .exact q
  .exact absurd rfl (hc.inj β γ k z k z' h1 h2 q)
 have noF:∀{β k z b},ω β=some (some (k,z))->F k≠some b:=fun {β k z b} h1 h2=>by rw[(hc.apart β k z h1).1]at h2;cases h2
 have B1 : before1 (e.rec' k) (q.rec' j)=true:=by
  unfold before1;show(match q.r.mods with|none=>false|some ms=>match e.r.foot with|none=>ms.isEmpty&&zT q.m.next q.r.m.next|some fs=>fs.all fun x=>!(ms.elem x) && !(zN q.m.next x&&zQ x q.r.m.next))=true
  rw[b1];rcases ha.foot with⟨d1,d2,d3⟩|⟨ft,d1,d2⟩
  .rw[d3]
   have w0:b.wr=[]/\b.nw=[]/\b.cl=false/\b.gr=false:=by
    rcases c5 with w|w
    .rw[d1]at w;cases w
    .refine⟨w.1.1,w.1.2,?_,w.2⟩;rcases c6 with v|v
     .exact v
     .rw[d2]at v;cases v.2
   have:mb=[]:=by
    cases mb with
    |nil=>rfl
    |cons x l=>obtain⟨β,z,v,_⟩:=b2 x zA;rw[w0.1]at v;cases v
   rw[this,hb.still w0.2.1 w0.2.2.1 w0.2.2.2];show(true&&zT _ _)=true;rw[zY];rfl
  .rw[d1];refine List.all_eq_true.2 fun x hx=>?_;obtain⟨e1,e2⟩:=d2 x hx
   have g1:x∉mb:=fun hm=>by
    obtain⟨γ,z,v1,v2⟩:=b2 x hm;rcases e2 with⟨β,z',w1,w2⟩|⟨_,y,w2⟩|⟨w1,_⟩
    .rw[same w2 v2]at w1;exact ylj (c2 γ v1).1.1 w1
    .exact noF v2 w2
    .rcases c5 with w|w
     .rw[w1]at w;cases w
     .rw[w.1.1]at v1;cases v1
   have g2:¬(q.m.next<=x/\x<q.r.m.next):=fun hq=>by
    rcases e2 with⟨β,z',w1,w2⟩|⟨w1,y,w2⟩|⟨w1,β,z',w2⟩
    .exact ylj (c3 β w1) (hb.own β x z' w2 hq.1 hq.2)
    .refine hb.frz ?_ x y w2 hq;rcases c8 with(w|w)|w
     .exact w
     .rw[w1]at w;cases w
     .have:=w ft d1 x hx;have:=hq.1;omega
    .have:=hb.own β x z' w2 hq.1 hq.2;rcases c5 with w|w
     .rw[w1]at w;cases w
     .rw[w.1.2]at this;cases this
   rw[zB,zC,zC,zO];refine⟨by simpa using g1,?_⟩
   by_cases hq:q.m.next<=x
   .right
    cases hqq:zQ x q.r.m.next with
    |false=>rfl
    |true=>exact absurd ⟨hq,zH hqq⟩ g2
   .left
    cases hqq:zN q.m.next x with
    |false=>rfl
    |true=>exact absurd (zH hqq) hq
 have B2 : before1 (q.rec' j) (e.rec' k)=true:=by
  unfold before1;show(match e.r.mods with|none=>false|some ms=>match q.r.foot with|none=>ms.isEmpty&&zT e.m.next e.r.m.next|some fs=>fs.all fun x=>!(ms.elem x) && !(zN e.m.next x&&zQ x e.r.m.next))=true
  rw[a1];rcases hb.foot with⟨d1,d2,d3⟩|⟨ft,d1,d2⟩
  .rw[d3]
   have w0:a.wr=[]/\a.nw=[]/\a.cl=false/\a.gr=false:=by
    rcases c6 with w|w
    .rw[d1]at w;cases w
    .refine⟨w.1.1,w.1.2,?_,w.2⟩;rcases c5 with v|v
     .exact v
     .rw[d2]at v;cases v.2
   have:ma=[]:=by
    cases ma with
    |nil=>rfl
    |cons x l=>obtain⟨β,z,v,_⟩:=a2 x zA;rw[w0.1]at v;cases v
   rw[this,ha.still w0.2.1 w0.2.2.1 w0.2.2.2];show(true&&zT _ _)=true;rw[zY];rfl
  .rw[d1];refine List.all_eq_true.2 fun x hx=>?_;obtain⟨e1,e2⟩:=d2 x hx
   have g1:x∉ma:=fun hm=>by
    obtain⟨γ,z,v1,v2⟩:=a2 x hm;rcases e2 with⟨β,z',w1,w2⟩|⟨_,y,w2⟩|⟨w1,_⟩
    .rw[same w2 v2]at w1;exact ylj (c1 γ v1).1.1 w1
    .exact noF v2 w2
    .rcases c6 with w|w
     .rw[w1]at w;cases w
     .rw[w.1.1]at v1;cases v1
   rw[zB,zC,zC,zO];refine⟨by simpa using g1,.inl ?_⟩
   cases hqq:zN e.m.next x with
   |false=>rfl
   |true=>have:=zH hqq;have:=hble.1;omega
 unfold apart2;rw[B1,B2];show(match e.r.mods,q.r.mods with|some x,some y=>x.all fun i=>!(y.elem i)|_,_=>false)=true
 rw[a1,b1];refine List.all_eq_true.2 fun x hx=>?_;rw[zC];cases hq:mb.elem x with
 |false=>rfl
 | true =>
   exfalso
   obtain⟨β,z,v1,v2⟩:=a2 x hx;obtain⟨γ,z',w1,w2⟩:=b2 x (by simpa using hq)
   rw[<-same v2 w2]at w1;exact ylj (c1 β v1).1.2 w1
theorem ybiz{nxt:Nat}{b:SRec}{e q:Ent}{k j:Nat}(hm:e.r.mods=some [])(hf:e.r.foot=none)(hb:Past F ω nxt b q)(hq:ybne b=true)(hlt:q.r.m.next<=e.m.next):Ap k j e q:=by
 unfold ybne at hq;simp only[zB,zC,zM]at hq;obtain⟨⟨⟨⟨q1,q2⟩,q3⟩,q4⟩,q5⟩:=hq;have hle:=hb.le;have hb:=hb.rest.resolve_left (by rw[q1];simp)
 obtain⟨mb,b1,b2⟩:=hb.mods
 have hmb:mb=[]:=by
  cases mb with
  |nil=>rfl
  |cons x l=>obtain⟨β,z,v,_⟩:=b2 x zA;rw[q2]at v;cases v
 subst hmb;have hst:=hb.still q3 q4 q5;obtain⟨ft,d1,d2⟩:=hb.foot.resolve_left (fun h=>by rw[q4]at h;cases h.1)
 refine .inr (.inr ?_)
 have B1:before1 (e.rec' k) (q.rec' j)=true:=by
  unfold before1;show(match q.r.mods with|none=>false|some ms=>match e.r.foot with|none=>ms.isEmpty&&zT q.m.next q.r.m.next|some fs=>fs.all fun x=>!(ms.elem x) && !(zN q.m.next x&&zQ x q.r.m.next))=true
  rw[b1,hf,hst];show(true&&zT _ _)=true;rw[zY];rfl
 have B2:before1 (q.rec' j) (e.rec' k)=true:=by
  unfold before1;show(match e.r.mods with|none=>false|some ms=>match q.r.foot with|none=>ms.isEmpty&&zT e.m.next e.r.m.next|some fs=>fs.all fun x=>!(ms.elem x) && !(zN e.m.next x&&zQ x e.r.m.next))=true
  rw[hm,d1];refine List.all_eq_true.2 fun x hx=>?_;have e1:=(d2 x hx).1;cases hqq:zN e.m.next x with
  |false=>rfl
  |true=>have:=zH hqq;have:=hle.1;omega
 unfold apart2;rw[B1,B2];show(match e.r.mods,q.r.mods with|some x,some y=>x.all fun i=>!(y.elem i)|_,_=>false)=true
 rw[hm,b1];rfl
end
end Sh
end
section
namespace Sh
open Go Ev
section
variable {P:Program}{lo nt:Nat}{F F':AM}{ω ω':Om}{s:SS}{f:Fr}{m:Mem}{o:Oper}
theorem yyj{d:Option Nat}(h:ychi nt d=true)(hn:nt<=f.n)(u:Value):∃f',f.put d u=some f'/\f'.n=f.n/\((d=none/\f'=f)\/∃k,d=some k/\f'.t=T.set (zZ k) f.t k (some u)):=by
 cases d with
 |none=>exact⟨f,rfl,rfl,.inl ⟨rfl,rfl⟩⟩
 | some k =>
   have hk:k<f.n:=zI (zH h) hn;obtain⟨n,t⟩:=f;refine⟨⟨n,T.set (zZ k) t k (some u)⟩,?_,rfl,.inr ⟨k,rfl,rfl⟩⟩;show iteB (zQ k n) (Fr.set1 n t k u) none=_;rw[ybe,if_pos (show zQ k n=true from zX hk)]
   unfold Fr.set1;rw[force_eq,T.strict_eq]
theorem Conc.put(hc:Conc lo F ω s f m){d:Option Nat}{v:SV}{u:Value}{f':Fr}(hf:(d=none/\f'=f)\/∃k,d=some k/\f'.t=T.set (zZ k) f.t k (some u))(hv:RV F ω v u):Conc lo F ω (s.put d v) f' m:=by
 rcases hf with⟨rfl,rfl⟩|⟨k,rfl,hk⟩
 .exact hc
 .refine⟨hc.wf,hc.low,hc.nxt,hc.sub,hc.own,hc.dom,hc.inj,hc.apart,fun t w hw=>?_⟩;have hw':(if k=t then some v else look s.f t)=some w:=hw
  rw[hk];rw[T.set_at];split at hw'
  .rename_i q;cases hw';exact⟨u,by rw[if_pos q.symm],hv⟩
  .rename_i q;rw[if_neg (Ne.symm q)];exact hc.fr t w hw'
theorem ybkc{r0:R}(h:evOp P f o m=some r0):One P f o m ⟨r0.v,m.app r0.e,some r0.foot,some r0.e.mods⟩:=by
 refine .inl ⟨fun _=>none,fun t out q=>(by cases q),?_⟩
 unfold evOne evOne1;split
 .rename_i fx args ats hop
  unfold evOp at h;rw[hop]at h;cases h
 .rw[h];rfl
def yvw(F:AM)(ω:Om)(nxt:Nat)(rs:List (Nat×SRec))(ps:List (Nat×Ent)):Prop:=∀p∈ps,p.2.idle=true\/∃rc,(p.1,rc)∈rs/\Past F ω nxt rc p.2
theorem yvw.mono{nxt nxt':Nat}{rs rs':List (Nat×SRec)}{ps:List (Nat×Ent)}(h:yvw F ω nxt rs ps)(hs:∀x∈rs,x∈rs')(hF:Le F F')(ho:ω.le ω')(h1:∀β k z,ω' β=some (some (k,z))->ω β=some (some (k,z))\/nxt<=k)(h2:∀x b,F' x=some b->F x=some b\/nxt<=x)(h3:nxt<=nxt'):yvw F' ω' nxt' rs' ps:=fun p hp =>
 (h p hp).imp id fun⟨rc,a,b⟩=>⟨rc,hs _ a,b.mono hF ho h1 h2 h3⟩
theorem ybbd{d:Bool}{an:Nat}{r:SRec}{rs:List (Nat×SRec)}(h:fits d an r rs=true)(hd:d=true){q:Nat}{rc:SRec}(hq:(q,rc)∈rs):zK an q=true\/clash r rc=false:=by
 subst hd;unfold fits at h;simp only[zAA,zAB]at h;have:=List.all_eq_true.1 h _ hq
 simpa using this
theorem ycgb{d:Bool}{an:Nat}{old:Bool}{r:SRec}{rs:List (Nat×SRec)}(h:ycjz d an old r rs=true)(hd:d=true){q:Nat}{rc:SRec}(hq:(q,rc)∈rs):zK an q=true\/(yny r rc=false/\((rc.gr=false\/r.fz=false)\/old=true)):=by
 cases old with
 |false=>exact(ybbd h hd hq).imp id fun q=>⟨(ybac q).1,.inl (ybac q).2⟩
 | true =>
   subst hd;have h:(!true||rs.all fun q=>zK an q.1 || !(yny r q.2))=true:=h;rw[zAA,zAB]at h;have:=List.all_eq_true.1 h _ hq;rcases Bool.or_eq_true_iff.1 this with q|q
   .exact .inl q
   .exact .inr ⟨by simpa using q,.inr rfl⟩
def OldI(F0:AM)(rs:List (Nat×SRec))(s:SS)(f:Fr):Prop:=∀t v,look s.f t=some v->ykd rs t=false->owned 5 v=false->∃u,f.t.get t=some u/\RV F0 om0 v u
theorem yjk{i:Nat}{rc:SRec}{rs:List (Nat×SRec)}{t:Nat}(h:ykd ((i,rc)::rs) t=false):ykd rs t=false:=by
 unfold ykd at h ⊢;rw[List.any_cons,zD]at h;exact h.2
theorem ybya{rs:List (Nat×SRec)}{t:Nat}(h:ykd (rs.map dim) t=false):ykd rs t=false:=by
 unfold ykd at h ⊢;rw[List.any_map]at h;exact h
theorem ylg{d:Bool}{dst:Option Nat}{old:Bool}{rs:List (Nat×SRec)}{t:Nat}(h:ykd (yjm d dst old rs) t=false):ykd rs t=false:=by
 unfold yjm at h;split at h
 .exact yjk h
 .exact h
theorem yrx{t:Nat}{rs:List (Nat×SRec)}(h:ykd (yjm true (some t) false rs) t=false):False:=by
 unfold ykd yjm at h;simp at h
theorem ynj{d:Bool}{dst:Option Nat}{old:Bool}{rs:List (Nat×SRec)}{x:Nat×SRec}(h:x∈rs):x∈yjm d dst old rs:=by
 unfold yjm;split
 .exact zF _ h
 .exact h
theorem yvw.mark{nxt:Nat}{rs:List (Nat×SRec)}{ps:List (Nat×Ent)}{d:Bool}{dst:Option Nat}{old:Bool}(h:yvw F ω nxt rs ps):yvw F ω nxt (yjm d dst old rs) ps:=fun p hp =>
 (h p hp).imp id fun⟨rc,a,b⟩=>⟨rc,ynj a,b⟩
theorem OldI.put {F0:AM}{rs rs':List (Nat×SRec)}{s s':SS}{f f':Fr}{dst:Option Nat}{v:SV}{u:Value}(h:OldI F0 rs s f) (hs:∀t w,look s'.f t=some w->look s.f t=some w) (hrs:∀t,ykd rs' t=false->ykd rs t=false)
 (hf:(dst=none/\f'=f)\/∃k,dst=some k/\f'.t=T.set (zZ k) f.t k (some u)) (hd:∀k,dst=some k->ykd rs' k=false->owned 5 v=false->RV F0 om0 v u):OldI F0 rs' (s'.put dst v) f':=fun t w hw hy ho=>by
 rcases hf with⟨rfl,rfl⟩|⟨k,rfl,hk⟩
 .exact h t w (hs t w hw) (hrs t hy) ho
 .have hw':(if k=t then some v else look s'.f t)=some w:=hw
  rw[hk,T.set_at];split at hw'
  .rename_i q;cases hw';subst q;exact⟨u,by rw[if_pos rfl],hd _ rfl hy ho⟩
  .rename_i q;rw[if_neg (Ne.symm q)];exact h t w (hs t w hw') (hrs t hy) ho
theorem yxk{v:SV}(h:owned 5 v=false):(∀β i j,v ≠ .pt β i j)/\(∀β o n a,v ≠ .os β o n a):=⟨fun β i j q=>by(subst q;cases h),fun β o n a q=>by(subst q;cases h)⟩
theorem ysl{rs:List (Nat×SRec)}{x:Operand}(h:oldX s rs x=true):∃t v,x = .tmp t/\ykd rs t=false/\look s.f t=some v/\owned 5 v=false:=by
 unfold oldX at h;split at h
 .rename_i t
  rw[zB]at h;obtain⟨h1,h2⟩:=h;cases hl:look s.f t with
  |none=>rw[hl]at h2;cases h2
  | some v =>
    rw[hl]at h2;exact⟨t,v,rfl,by simpa using h1,hl,by simpa[oldV]using h2⟩
 .cases h
theorem ycno{F0:AM}{rs:List (Nat×SRec)}{sop:SOp}{X:XR}{r0:R}(hc:Conc lo F ω s f m)(hF:Le F0 F)(hI:OldI F0 rs s f)(hold:ybqt s rs sop=true)(hres:res P o.op=some sop)(hX:xOp s o.dst sop=some X)(hXc:X.c)(hev:evOp P f o m=some r0) :
 (owned 5 X.v=false->RV F0 om0 X.v r0.v)/\∀x∈r0.foot,∃b,F0 x=some b:=by
 have fin:∀(s0:SS) (X0:XR),Conc lo F0 om0 s0 f m->xOp s0 o.dst sop=some X0->X0.v=X.v->X0.c->(owned 5 X.v=false->RV F0 om0 X.v r0.v)/\∀x∈r0.foot,∃b,F0 x=some b:=by
  intro s0 X0 hc0 h0 hv h0c;obtain⟨r1,ω',e1,e2,e3,e4,e5,e6,_⟩:=ybdb hc0 hres h0 h0c;rw[hev]at e1;cases e1
  refine⟨fun ho=>?_,fun x hx=>?_⟩
  .rw[hv]at e4;exact yei ho e4
  .rcases e6 x hx with⟨β,z,_,b⟩|⟨_,b⟩
   .cases b
   .exact b
 have conc0:∀(l:List (Nat×SV)),(∀t v,look l t=some v->∃u,f.t.get t=some u/\RV F0 om0 v u)->Conc lo F0 om0 ⟨l,[]⟩ f m:=fun l hl =>
  ⟨hc.wf,hc.low,hc.nxt,fun i b h=>hc.sub i b (hF i b h),fun β b h=>(by cases h),fun β _=>rfl,fun β γ k z k' z' h=>(by cases h),fun β k z h=>(by cases h),hl⟩
 have one:∀{t:Nat}{v:SV},look s.f t=some v->ykd rs t=false->owned 5 v=false->∀t' v',look [(t,v)] t'=some v'->∃u,f.t.get t'=some u/\RV F0 om0 v' u:=fun {t v} h1 h2 h3 t' v' h=>by
  have h:(if t=t' then some v else none)=some v':=h
  by_cases q:t=t'
  .rw[if_pos q]at h;cases h;rw[<-q];exact hI _ _ h1 h2 h3
  .rw[if_neg q]at h;cases h
 have self1:∀(t:Nat) (v:SV),SS.get ⟨[(t,v)],[]⟩ (.tmp t)=some v:=fun t v=>by show(if t=t then some v else none)=_;rw[if_pos rfl]
 cases sop with
 | mv x =>
   obtain⟨t,v,rfl,h1,h2,h3⟩:=ysl (show oldX s rs x=true from hold)
   have hX':(match s.get (.tmp t)with|some v=>some (⟨True,SRec.no,v,s⟩:XR)|none=>none)=some X:=hX
   rw[show s.get (.tmp t)=some v from h2]at hX'
   cases hX'
   refine fin ⟨[(t,v)],[]⟩ ⟨True,SRec.no,v,⟨[(t,v)],[]⟩⟩ (conc0 _ (one h2 h1 h3)) ?_ rfl trivial;simp only[xOp,self1]
 | load ag n x =>
   obtain⟨t,v,rfl,h1,h2,h3⟩:=ysl (show oldX s rs x=true from hold)
   have hX':(match s.get (.tmp t)with|some p=>yvz s ag n p|none=>none)=some X:=hX
   rw[show s.get (.tmp t)=some v from h2]at hX'
   have hl:∃X0,yvz ⟨[(t,v)],[]⟩ ag n v=some X0/\X0.v=X.v/\(X.c->X0.c):=by
    unfold yvz at hX' ⊢;cases v with
    | rf c =>
      simp only at hX' ⊢;cases hp:part ag 0 n c with
      |none=>rw[hp]at hX';cases hX'
      |some w=>rw[hp]at hX';cases hX';exact⟨_,rfl,rfl,fun h=>h⟩
    |pt β i j=>exact absurd rfl ((yxk h3).1 β i j)
    |_=>cases hX'
   obtain⟨X0,k1,k2,k3⟩:=hl;refine fin ⟨[(t,v)],[]⟩ X0 (conc0 _ (one h2 h1 h3)) ?_ k2 (k3 hXc);simp only[xOp,self1];exact k1
 | faddr p n x =>
   obtain⟨t,v,rfl,h1,h2,h3⟩:=ysl (show oldX s rs x=true from hold)
   have hX':(match s.get (.tmp t)with
    |some (.rf c)=>if p+n<=c.length then some (⟨True,SRec.no,.rf ((c.drop p).take n),s⟩:XR)else none
    |some (.pt β i j)=>some ⟨True,SRec.no,.pt β i (j+p),s⟩
    |_=>none)=some X:=hX
   rw[show s.get (.tmp t)=some v from h2]at hX'
   cases v with
   | rf c =>
     simp only at hX';split at hX'
     .rename_i hle
      cases hX'
      refine fin ⟨[(t,.rf c)],[]⟩ ⟨True,SRec.no,.rf ((c.drop p).take n),⟨[(t,.rf c)],[]⟩⟩ (conc0 _ (one h2 h1 h3)) ?_ rfl trivial;simp only[xOp,self1];rw[if_pos hle]
     .cases hX'
   |pt β i j=>exact absurd rfl ((yxk h3).1 β i j)
   |_=>cases hX'
 | idx z x k =>
   obtain⟨t,v,rfl,h1,h2,h3⟩:=ysl (show oldX s rs x=true from hold)
   have hX':(match s.pget (.tmp t),s.get k with
    |some p,some (.i _ n)=>idxX s n z p
    |_,_=>none)=some X:=hX
   obtain⟨p,kd,n,hp,hk,hX''⟩:∃p kd n,s.pget (.tmp t)=some p/\s.get k=some (.i kd n)/\idxX s n z p=some X:=by
    split at hX'
    .rename_i p kd n e1 e2
     exact⟨p,kd,n,e1,e2,hX'⟩
    .cases hX'
   have hpv:∀(s1:SS),s1.get (.tmp t)=some v->s1.pget (.tmp t)=some p:=fun s1 e=>by
    unfold SS.pget at hp ⊢;rw[show s.get (.tmp t)=some v from h2]at hp
    rw[e];cases v with
    |ex Q w=>exact hp
    |_=>exact hp
   have hpo:∀β o m a,p ≠ .os β o m a:=by
    rintro β o m a rfl;unfold SS.pget at hp;rw[show s.get (.tmp t)=some v from h2]at hp
    obtain⟨u,_,hu⟩:=hI t v h2 h1 h3;cases v with
    | ex Q w =>
      cases hp
      cases hu with
      | ex _ _ h =>
        rcases h.os_inv with⟨k,z,cp,q,_⟩|⟨q,_⟩<;>cases q
    |_=>cases hp;try cases h3
   have hl:∀s1:SS,∃X0,idxX s1 n z p=some X0/\X0.v=X.v/\(X.c->X0.c):=fun s1=>by
    unfold idxX at hX'' ⊢;cases p with
    | sl z' m g =>
      simp only at hX'' ⊢;split at hX''
      .rename_i hz;cases hX'';rw[if_pos hz];exact⟨_,rfl,rfl,fun h=>h⟩
      .cases hX''
    |os β o m a=>exact absurd rfl (hpo β o m a)
    |_=>cases hX''
   obtain⟨l,hl1,hl2,hl3⟩:∃l:List (Nat×SV),SS.get ⟨l,[]⟩ (.tmp t)=some v/\SS.get ⟨l,[]⟩ k=some (.i kd n)/\∀t' v',look l t'=some v'->∃u,f.t.get t'=some u/\RV F0 om0 v' u:=by
    cases k with
    | tmp q =>
      have hq:look s.f q=some (.i kd n):=hk
      by_cases e:q=t
      .subst e;rw[h2]at hq;cases hq
       exact⟨[(q,.i kd n)],self1 _ _,self1 _ _,one h2 h1 h3⟩
      .refine⟨[(q,.i kd n),(t,v)],?_,?_,fun t' v' h=>?_⟩
       .show(if q=t then some (SV.i kd n)else if t=t then some v else none)=_
        rw[if_neg e,if_pos rfl]
       .show(if q=q then some (SV.i kd n)else if t=q then some v else none)=_
        rw[if_pos rfl]
       .have h:(if q=t' then some (SV.i kd n)else if t=t' then some v else none)=some v':=h
        by_cases e1:q=t'
        .rw[if_pos e1]at h;cases h
         obtain⟨u,g1,g2⟩:=hc.fr q _ hq;cases g2.int_inv
         rw[<-e1];exact⟨_,g1,.i⟩
        .rw[if_neg e1]at h;exact one h2 h1 h3 t' v' h
    |const c=>exact⟨[(t,v)],self1 _ _,hk,one h2 h1 h3⟩
    |global g=>cases hk
    |func g=>cases hk
   obtain⟨X0,k1,k2,k3⟩:=hl ⟨l,[]⟩;refine fin ⟨l,[]⟩ X0 (conc0 _ hl3) ?_ k2 (k3 hXc);simp only[xOp,hpv _ hl1,hl2];exact k1
 |_=>cases hold
theorem yeak{d:Option Nat}{sop:SOp}{X:XR}(h:xOp s d sop=some X):X.s.f=s.f:=by
 unfold xOp at h;unfold yvz ybbx idxX ybqw at h
 repeat' (first|(cases h;rfl)|split at h|cases h)
theorem yceq{op:BinOp}{t:TypeId}{x y fx:Operand}{xs:List Operand}(h:yckz P op t x y = .call fx xs):False:=by
 unfold yckz at h;split at h
 .unfold ycfs at h;split at h<;>cases h
 .split at h<;>first|(cases h;done)|(unfold ybzo at h;split at h<;>first|(cases h;done)|(split at h<;>first|(cases h;done)|(split at h<;>cases h;done)))|(split at h<;>first|(cases h;done)|(split at h<;>cases h;done))
theorem ychp{op:Op}{fx:Operand}{xs:List Operand}(h:res P op=some (.call fx xs)):∃args ats,op = .call { callee:=.value fx,args:=args,argTypes:=ats }/\args.toList=xs:=by
 unfold res at h;split at h
 case h_4 =>
  exfalso
  obtain⟨_,_,h⟩:=bind_some h;obtain⟨_,_,h⟩:=bind_some h;obtain⟨_,_,h⟩:=bind_some h;have h:=Option.some.inj h;unfold yyr at h;split at h
  .split at h
   .cases h
   .split at h
    .split at h
     .split at h<;>cases h
     .cases h
    .cases h
  .cases h
 case h_6 =>
  exfalso
  obtain⟨_,_,h⟩:=bind_some h;obtain⟨_,_,h⟩:=bind_some h;obtain⟨_,_,h⟩:=bind_some h;obtain⟨_,_,h⟩:=bind_some h;unfold yzf at h;split at h<;>cases h
 case h_7 =>
  exfalso
  obtain⟨_,_,h⟩:=bind_some h;split at h
  .obtain⟨_,_,h⟩:=bind_some h;obtain⟨_,_,h⟩:=bind_some h;unfold yso at h;split at h
   .split at h<;>cases h
   .cases h
  .cases h
 case h_25 =>
  rename_i c
  obtain⟨cl,args,ats⟩:=c;unfold callOf at h;split at h
  .cases h;rename_i hcl;exact⟨args,ats,by rw[show cl=_ from hcl],rfl⟩
  .exfalso;split at h<;>cases h
  .exfalso
   split at h
   .split at h
    .split at h
     .split at h<;>cases h
     .cases h
    .cases h
   .cases h
  .cases h
  .cases h
  .cases h
 all_goals
  exfalso
  first
   |exact(yceq (Option.some.inj h)).elim
   |(cases h;done)
   |(obtain⟨_,_,h⟩:=bind_some h;cases h;done)
   |(obtain⟨_,_,h⟩:=bind_some h;obtain⟨_,_,h⟩:=bind_some h;cases h;done)
   |(obtain⟨_,_,h⟩:=bind_some h;obtain⟨_,_,h⟩:=bind_some h;split at h<;>cases h;done)
   |(obtain⟨_,_,h⟩:=bind_some h;split at h<;>first|(cases h;done)|(obtain⟨_,_,h⟩:=bind_some h;cases h;done)|(obtain⟨_,_,h⟩:=bind_some h;obtain⟨_,_,h⟩:=bind_some h;first|(cases h;done)|(split at h<;>cases h;done)|(obtain⟨_,_,h⟩:=bind_some h;cases h;done)))
def RunR(P:Program)(pr:List Nm)(lo:Nat)(F:AM)(ω:Om)(f:Fr)(m:Mem)(o:Oper)(d:Bool)(i an:Nat)(ps:List (Nat×Ent))(nx:List (Nat×SRec)->SS->Prop)(F0:AM):Prop :=
 ∃r2 f1 F' ω' s' rc rs',One P f o m r2/\f.put o.dst r2.v=some f1/\f1.n=f.n/\Conc lo F' ω' s' f1 r2.m/\(nx rs' s'/\(i,rc)∈rs'/\(d=true->OldI F0 rs' s' f1))/\Past F' ω' r2.m.next rc ⟨f,m,true,r2⟩/\yvw F' ω' r2.m.next rs' ps /\
  (d=true->∀p∈ps,zK an p.1=true\/(p.2.idle=true\/Ap i p.1 ⟨f,m,true,r2⟩ p.2)\/∃rc',Past F' ω' r2.m.next rc' p.2/\clash rc rc'=false/\p.2.r.m.next<=m.next)/\(Le F F'/\(∀x b,F' x=some b->F x=some b\/lo<=x)/\∀β∈pr,∀x,ω β=some x->ω' β=some x)
theorem ybzp {pr:List Nm}{mu:List FuncId}{d:Bool}{rs:List (Nat×SRec)}{i an:Nat}{nx:List (Nat×SRec)->SS->Prop}{sop:SOp}{ps:List (Nat×Ent)}(hc:Conc lo F ω s f m) (hres0:(res P o.op).getD .no=sop) (hnt:nt<=f.n) (hd:ychi nt o.dst=true) (hps:yvw F ω m.next rs ps)
 {F0:AM}(hF0:Le F0 F) (hI:d=true->OldI F0 rs s f) (hbase:∀x b,F0 x=some b->∀p∈ps,x<p.2.m.next)
 (h:runO ⟨Ct P,Cm P,ItC P,pr,mu⟩ d rs s i an o.dst nx sop):RunR P pr lo F ω f m o d i an ps nx F0:=by
 have step : (∀X,xOp s o.dst sop=some X->X.c->OpS P lo F ω f m o X)->res P o.op=some sop->opO d rs i an o.dst nx (d&&ybqt s rs sop) (xOp s o.dst sop)->RunR P pr lo F ω f m o d i an ps nx F0:=by
  intro hall hres hk;unfold opO at hk;split at hk
  .rename_i X hX
   obtain⟨k1,k2,k3⟩:=hk;obtain⟨r0,ω',e1,e2,e3,e4,e5,e6,e7,e8,e9⟩:=hall X hX k1;have hxf:=yeak hX;obtain⟨f1,g1,g2,g3⟩:=yyj hd hnt r0.v;have hnext:=yob m r0.e;have hle:m.next<=(m.app r0.e).next:=by rw[hnext];split<;>omega
   have hpm:=hps.mono (rs':=(i,X.r)::rs) (F':=F) (ω':=ω') (nxt':=(m.app r0.e).next) (fun x hx=>zF _ hx) (Le.refl _) e2 e5 (fun x b h=>.inl h) hle
   have hpast:Past F ω' (m.app r0.e).next X.r ⟨f,m,true,⟨r0.v,m.app r0.e,some r0.foot,some r0.e.mods⟩⟩:=by
    refine⟨⟨hle,zJ _⟩,.inr ⟨⟨_,rfl,fun x hx=>?_⟩,.inr ⟨_,rfl,fun x hx=>?_⟩,fun β k z hk a b=>?_,fun hg x b hb q=>?_,fun a b _=>?_⟩⟩
    .obtain⟨β,z,a,b⟩:=e7 x hx;exact⟨β,z,a,e2 _ _ b⟩
    .rcases e6 x hx with⟨β,z,a,b⟩|⟨a,y,b⟩
     .exact⟨(hc.apart β x z b).2.2,.inl ⟨β,z,a,e2 _ _ b⟩⟩
     .exact⟨hc.wf x y (hc.sub x y b),.inr (.inl ⟨a,y,b⟩)⟩
    .have a:m.next<=k:=a
     have b:k<(m.app r0.e).next:=b
     rw[hnext]at b;split at b
     .rename_i hq
      obtain⟨γ,z',c1,c2⟩:=e9 hq;obtain rfl:k=m.next:=by omega
      by_cases q:β=γ
      .rw[q];exact c1
      .exact absurd rfl (e3.inj β γ _ z _ z' hk c2 q)
     .omega
    .have:=hc.wf x b (hc.sub x b hb);have q1:m.next<=x:=q.1
     omega
    .show m.next=(m.app r0.e).next
     rw[hnext,e8 a];rfl
   have hnew:d=true->OldI F0 (yjm d o.dst (d&&ybqt s rs sop) ((i,X.r)::rs)) (X.s.put o.dst X.v) f1:=fun hdd=>by
    refine(hI hdd).put (fun t w hw=>by rw[hxf]at hw;exact hw) (fun t ht=>yjk (ylg ht)) g3 fun k hk hy ho=>?_
    cases hold:ybqt s rs sop with
    |true=>exact(ycno hc hF0 (hI hdd) hold hres hX k1 e1).1 ho
    | false =>
      rw[hold,hk,hdd]at hy;exact(yrx hy).elim
   refine⟨⟨r0.v,m.app r0.e,some r0.foot,some r0.e.mods⟩,f1,F,ω',X.s.put o.dst X.v,X.r,_,ybkc e1,g1,g2,e3.put g3 e4,⟨k3,ynj zA,hnew⟩,?_,hpm.mark,fun hdd p hp=>?_,Le.refl _,fun x b h=>.inl h,fun β _ x hx=>e2 β x hx⟩
   .exact hpast
   .rcases hpm p hp with q|⟨rc',a,b⟩
    .exact .inr (.inl (.inl q))
    .rcases hps p hp with q|⟨rc',a,b⟩
     .exact .inr (.inl (.inl q))
     .rcases ycgb k2 hdd a with q|⟨q,q8⟩
      .exact .inl q
      .refine .inr (.inl (.inr (ybme (a:=X.r) (e:=⟨f,m,true,⟨r0.v,m.app r0.e,some r0.foot,some r0.e.mods⟩⟩) e3 hpast (b.mono (Le.refl _) e2 e5 (fun x b h=>.inl h) hle) b.le.2 q (q8.imp id fun hold ft hft x hx=>?_))));rw[hdd,zS]at hold;cases hft
       obtain⟨y,hy⟩:=(ycno hc hF0 (hI hdd) hold hres hX k1 e1).2 x hx;exact hbase x y hy p hp
  .cases hk
 have hres:res P o.op=some sop:=by
  cases hq:res P o.op with
  |some x=>rw[hq]at hres0;exact congrArg some hres0
  |none=>rw[hq]at hres0;subst hres0;cases h
 cases sop with
 | call fx xs =>
   obtain⟨args,ats,hop,rfl⟩:=ychp hres
   change ybyi ⟨Ct P,Cm P,ItC P,pr,mu⟩ d rs s i an o.dst nx (s.get fx) (s.gets args.toList)at h
   unfold ybyi at h;split at h
   .rename_i g a b xs hf hx
    have main:∀{as:List SV}{Q:SV->Prop},Ct P g as Q->((as=a++xs++b/\(a++xs++b).any (owned 5)=false)\/(as=(a++xs++b).map (view s.o 5)/\allP (vok s.o 5) (a++xs++b)/\∀r,Q r->scalar 5 r=true)) ->
     (∀r,Q r->ybh d rs s i an o.dst nx (scalar 5 r) r)->RunR P pr lo F ω f m o d i an ps nx F0:=by
     intro as Q hct has hth;obtain⟨r2,F',rv,t1,t2,t3,t4,t5,t6,t7,t8,t9⟩:=ycme hc hop hf hx hct has;obtain⟨k2,k3⟩:=hth rv t2;obtain⟨f1,g1,g2,g3⟩:=yyj hd hnt r2.v;have t8':∀x b,F' x=some b->F x=some b\/m.next<=x:=fun x b h=>(t8 x b h).imp id And.right
     have hpm:=hps.mono (rs':=(i,⟨[],[],[],true,true,!(scalar 5 rv),false⟩)::rs) (F':=F') (ω':=ω) (nxt':=r2.m.next) (fun x hx=>zF _ hx) t3 (Om.le_refl _) (fun _ _ _ h=>.inl h) t8' t6
     refine⟨r2,f1,F',ω,s.put o.dst rv,_,_,t1,g1,g2,t5.put g3 t4,⟨k3,ynj zA,fun hdd=>(hI hdd).put (fun t w hw=>hw) (fun t ht=>yjk (ylg ht)) g3 fun k hk hy _=>by rw[hk,hdd]at hy;exact(yrx hy).elim⟩,?_,hpm.mark,fun hdd p hp=>?_,t3,fun x b h=>(t8' x b h).imp id (zG hc.nxt),fun β _ x hx=>hx⟩
     .refine⟨⟨t6,zJ _⟩,.inr ⟨⟨[],t7,fun x hx=>(by cases hx)⟩,?_,fun β k z hk a b=>?_,fun hg x b hb q=>?_,fun a b _=>(by cases b)⟩⟩
      .rcases t9 with⟨hs,ft,h1,h2⟩|⟨hs,h1⟩
       .refine .inr ⟨ft,h1,fun x hx=>⟨(h2 x hx).1,?_⟩⟩;rcases(h2 x hx).2 with⟨b,hb⟩|⟨β,z,hb⟩
        .exact .inr (.inl ⟨rfl,b,t3 _ _ hb⟩)
        .exact .inr (.inr ⟨rfl,β,z,hb⟩)
       .exact .inl ⟨rfl,by rw[hs];rfl,h1⟩
      .have:=(hc.apart β k z hk).2.2;have a:m.next<=k:=a
       omega
      .rcases t8 x b hb with h|⟨h,_⟩
       .have:=hc.wf x b (hc.sub x b h);have q1:m.next<=x:=q.1
        omega
       .have hg:(!(scalar 5 rv))=false:=hg;rw[h]at hg;cases hg
     .rcases hps p hp with q|⟨rc',a,b⟩
      .exact .inr (.inl (.inl q))
      .rcases ybbd k2 hdd a with q|q
       .exact .inl q
       .exact .inr (.inr ⟨rc',b.mono t3 (Om.le_refl _) (fun _ _ _ h=>.inl h) t8' t6,q,b.le.2⟩)
    have mainF:∀{Q:SV->Prop},Ct P g (a++xs++b) Q->(a++xs++b).any (owned 5)=false->(∀r,Q r->ydty d rs s i an o.dst nx r)->RunR P pr lo F ω f m o d i an ps nx F0:=by
     intro Q hct hown hth;obtain⟨r2,F',rv,t1,t2,t3,t4,t5,t6,t7,t8,ft,h1,h2⟩:=ycep hc hop hf hx hct hown;obtain⟨k2,k3⟩:=hth rv t2;obtain⟨f1,g1,g2,g3⟩:=yyj hd hnt r2.v;have hpm:=hps.mono (rs':=(i,⟨[],[],[],true,false,true,false⟩)::rs) (F':=F') (ω':=ω) (nxt':=r2.m.next) (fun x hx=>zF _ hx) t3 (Om.le_refl _) (fun _ _ _ h=>.inl h) t8 t6
     refine⟨r2,f1,F',ω,s.put o.dst rv,_,_,t1,g1,g2,t5.put g3 t4,⟨k3,ynj zA,fun hdd=>(hI hdd).put (fun t w hw=>hw) (fun t ht=>yjk (ylg ht)) g3 fun k hk hy _=>by rw[hk,hdd]at hy;exact(yrx hy).elim⟩,?_,hpm.mark,fun hdd p hp=>?_,t3,fun x b h=>(t8 x b h).imp id (zG hc.nxt),fun β _ x hx=>hx⟩
     .refine⟨⟨t6,zJ _⟩,.inr ⟨⟨[],t7,fun x hx=>(by cases hx)⟩,.inr ⟨ft,h1,fun x hx=>⟨(h2 x hx).1,.inr (.inl ⟨rfl,(h2 x hx).2.imp fun b hb=>t3 _ _ hb⟩)⟩⟩,fun β k z hk a b=>?_,fun hg=>(by cases hg),fun _ _ hg=>(by cases hg)⟩⟩
      have:=(hc.apart β k z hk).2.2;have a:m.next<=k:=a
      omega
     .rcases hps p hp with q|⟨rc',a,b⟩
      .exact .inr (.inl (.inl q))
      .rcases ybbd k2 hdd a with q|q
       .exact .inl q
       .exact .inr (.inr ⟨rc',b.mono t3 (Om.le_refl _) (fun _ _ _ h=>.inl h) t8 t6,q,b.le.2⟩)
    have mutC : ycit ⟨Ct P,Cm P,ItC P,pr,mu⟩ d rs s i an o.dst nx g (a++xs++b)->RunR P pr lo F ω f m o d i an ps nx F0:=by
     intro h;obtain⟨ρ,base,keep,kb,pr',o0,as,hlen,hw,hdom,hfit,hkept,hcm⟩:=h;obtain⟨r2,F',ω',rv,o',t1,t2,t3,t4,t5,t6,t7,t8,t9⟩:=ybvh hc hop hf hx hlen hw hdom hkept hcm;obtain⟨hd1,hnx⟩:=t2;obtain⟨c1,c2⟩:=t3 hd1;obtain⟨f1,g1,g2,g3⟩:=yyj hd hnt r2.v;refine⟨r2,f1,F',ω',(yhr s ρ base keep kb o').put o.dst (ren (nu ρ base) 5 rv),SRec.top,_,t1,g1,g2,c1.put g3 c2,⟨hnx,ynj zA,fun hdd=>(hI hdd).put (fun t w hw=>yyi hw) (fun t ht=>ybya (yjk (ylg ht))) g3 fun k hk hy _=>by rw[hk,hdd]at hy;exact(yrx hy).elim⟩,⟨⟨t4,zJ _⟩,.inl rfl⟩,yvw.mark fun p hp=>?_,fun hdd p hp=>?_,t5,t6,t7 hd1⟩
     .rcases hps p hp with q|⟨rc',a,b⟩
      .exact .inl q
      .rcases b.dim (F':=F') (ω':=ω') t4 with q|q
       .exact .inl q
       .exact .inr ⟨_,zF _ (List.mem_map.2 ⟨_,a,rfl⟩),q⟩
     .rcases hps p hp with q|⟨rc',a,b⟩
      .exact .inr (.inl (.inl q))
      .rcases Bool.or_eq_true_iff.1 hfit with hfit|hfit
       .rcases ybbd hfit hdd a with q|q
        .exact .inl q
        .refine .inr (.inl (.inl (b.pure ?_)));unfold clash at q;rw[zD,zD]at q;have:=q.1.1
         rwa [show SRec.top.mu=true from rfl,zS,zL]at this
       .rw[zB,zM]at hfit;rcases Bool.or_eq_true_iff.1 (List.all_eq_true.1 hfit.2 _ a)with q|q
        .exact .inl q
        .rcases Bool.or_eq_true_iff.1 q with q|q
         .exact .inr (.inl (.inl (b.pure q)))
         .exact .inr (.inl (.inr (ybiz (t9 hfit.1) t8 b q b.le.2)))
    split at h
    .exact mutC h
    split at h
    .rcases h with h|h
     .exact main h.2 (.inr ⟨rfl,h.1,fun r hr=>hr.1⟩) (fun r hr=>by rw[hr.1];exact hr.2)
     .exact mutC h
    .rename_i hown
     split at h
     .exact mainF h (by simpa using hown) (fun r hr=>hr)
     .exact main h (.inl ⟨rfl,by simpa using hown⟩) (fun r hr=>hr)
   .cases h
 |_=>exact step (fun X hX hXc=>ybdb hc hres hX hXc) hres h
end
end Sh
end
section
namespace Sh
open Go Ev
section
variable {P:Program}{lo nt:Nat}{F F':AM}{ω ω':Om}{s:SS}{f:Fr}{m:Mem}{o:Oper}
theorem ybla:RV F ω (.tp []) undef:=RV.tp (L:=[]) .nil
theorem ybgn{ops:List Oper}(h:o.guard=none):wantedA ops f o=some true:=by unfold wantedA;rw[h]
theorem yul{ops:List Oper}{j d:Nat}{w:Bool}{oj:Oper}(h:o.guard=some (j,w))(hj:ops[j]?=some oj)(hd:oj.dst=some d){v:Value}(hv:f.t.get d=some v):wantedA ops f o=some (boolIs w v):=by
 unfold wantedA;rw[h];show wantedG ops f (j,w)=_;unfold wantedG;simp only[hj,hd];show ob (f.t.get d) _=_;rw[hv];rfl
theorem ybcm{ops:List Oper}{g:Option (Nat×Bool)}{t:Nat}{w:Bool}(h:guardOf ops g=some (some (t,w))):∃j oj,g=some (j,w)/\ops[j]?=some oj/\oj.dst=some t:=by
 unfold guardOf at h;split at h
 .cases h
 .rename_i j w'
  split at h
  .rename_i oj hj
   split at h
   .rename_i d hd;cases h;exact⟨j,oj,rfl,hj,hd⟩
   .cases h
  .cases h
theorem ybcb{ops:List Oper}{g:Option (Nat×Bool)}(h:guardOf ops g=some none):g=none:=by
 unfold guardOf at h;split at h
 .rfl
 .split at h
  .split at h<;>cases h
  .cases h
theorem Conc.lit(hc:Conc lo F ω s f m){t:Nat}{c:Bool}(h:look s.f t=some (.b c)):Conc lo F ω (s.put (some t) (.b c)) f m:=by
 refine⟨hc.wf,hc.low,hc.nxt,hc.sub,hc.own,hc.dom,hc.inj,hc.apart,fun k v hv=>?_⟩;have hv':(if t=k then some (SV.b c)else look s.f k)=some v:=hv
 split at hv'
 .rename_i q;subst q;cases hv';exact hc.fr _ _ h
 .exact hc.fr k v hv'
def Later(an:List Nat)(i:Nat)(es:List Ent)(ps:List (Nat×Ent)):Prop:=∀k e,es[k]?=some e->∀p∈ps,zK (an.getD (i+k) 0) p.1=true\/Ap (i+k) p.1 e p.2
def Among(an:List Nat)(i:Nat)(es:List Ent):Prop:=∀k q e d,q<k->es[k]?=some e->es[q]?=some d->zK (an.getD (i+k) 0) (i+q)=true\/Ap (i+k) (i+q) e d
theorem yxz{an:List Nat}{i:Nat}{e:Ent}{es:List Ent}{ps:List (Nat×Ent)}(h:Later an (i+1) es ((i,e)::ps))(h0:∀p∈ps,zK (an.getD i 0) p.1=true\/Ap i p.1 e p.2)(ha:Among an (i+1) es):Later an i (e::es) ps/\Among an i (e::es):=by
 refine⟨fun k x hk p hp=>?_,fun k q x d hlt hk hq=>?_⟩
 .cases k with
  |zero=>simp at hk;subst hk;simpa using h0 p hp
  |succ k=>have:=h k x (by simpa using hk) p (zF _ hp);rw[show i+(k+1)=i+1+k by omega];exact this
 .cases k with
  |zero=>omega
  | succ k =>
    rw[show i+(k+1)=i+1+k by omega]
    cases q with
    |zero=>simp at hq;subst hq;exact h k x (by simpa using hk) (i,e) zA
    |succ q=>rw[show i+(q+1)=i+1+q by omega];exact ha k q x d (by omega) (by simpa using hk) (by simpa using hq)
theorem OldI.lit{F0:AM}{rs:List (Nat×SRec)}{t:Nat}{c:Bool}(h:OldI F0 rs s f)(k:f.t.get t=some (.bool c)):OldI F0 rs (s.put (some t) (.b c)) f:=fun t' v hv hy ho=>by
 have hv:(if t=t' then some (SV.b c)else look s.f t')=some v:=hv
 by_cases q:t=t'
 .rw[if_pos q]at hv;cases hv;rw[<-q];exact⟨_,k,.b⟩
 .rw[if_neg q]at hv;exact h t' v hv hy ho
theorem yvi{pr:List Nm}{mu:List FuncId}{d:Bool}{K:SS->Prop}{ops:List Oper}{an:List Nat}{F0:AM}:∀(l:List Oper) (i:Nat) (sl:List SOper) (rs:List (Nat×SRec)) (ps:List (Nat×Ent)) (F:AM) (ω:Om) (s:SS) (f:Fr) (m:Mem),
 cmpL P nt ops an l i=some sl->ynv ⟨Ct P,Cm P,ItC P,pr,mu⟩ d K sl i rs s->Conc lo F ω s f m->nt<=f.n->yvw F ω m.next rs ps->Le F0 F->(d=true->OldI F0 rs s f)->(∀x b,F0 x=some b->x<m.next)->(∀x b,F0 x=some b->∀p∈ps,x<p.2.m.next) ->
 ∃x es s' F' ω',Ev.Trace P ops x l es f m/\Conc lo F' ω' s' x.f x.m/\K s'/\x.f.n=f.n/\(d=true->Later an i es ps/\Among an i es)/\(Le F F'/\(∀y b,F' y=some b->F y=some b\/lo<=y)/\∀β∈pr,∀x,ω β=some x->ω' β=some x)
 | [],i,sl,rs,ps,F,ω,s,f,m,hcmp,h,hc,hnt,hps,_,_,_,_=>by
   cases hcmp
   exact⟨⟨f,m⟩,[],s,F,ω,.nil,hc,h,rfl,fun _=>⟨fun k e hk=>by simp at hk,fun k q e d _ hk=>by simp at hk⟩,Le.refl _,fun y b h=>.inl h,fun β _ x hx=>hx⟩
 | o :: l,i,sl,rs,ps,F,ω,s,f,m,hcmp,h,hc,hnt,hps,hF0,hI,hlt,hbase=>by
   unfold cmpL at hcmp;obtain⟨sop,hres,hcmp⟩:=bind_some hcmp;have hres:=Option.some.inj hres;obtain⟨g,hg,hcmp⟩:=bind_some hcmp;obtain⟨sl',hl,hcmp⟩:=bind_some hcmp;split at hcmp
   .rename_i hd
    cases hcmp
    have wanted:∀(s:SS),Conc lo F ω s f m->(d=true->OldI F0 rs s f)->wantedA ops f o=some true->runO ⟨Ct P,Cm P,ItC P,pr,mu⟩ d rs s i (an.getD i 0) o.dst (ynv ⟨Ct P,Cm P,ItC P,pr,mu⟩ d K sl' (i+1)) sop ->
     ∃x es s' F' ω',Ev.Trace P ops x (o::l) es f m/\Conc lo F' ω' s' x.f x.m/\K s'/\x.f.n=f.n/\(d=true->Later an i es ps/\Among an i es)/\(Le F F'/\(∀y b,F' y=some b->F y=some b\/lo<=y)/\∀β∈pr,∀x,ω β=some x->ω' β=some x):=by
     intro s hc hI hw hrun;obtain⟨r2,f1,F1,ω1,s1,rc,rs1,t1,t2,t3,t4,⟨t5,tm,tI⟩,t6,t7,t8,t9,t10,t11⟩:=ybzp hc hres hnt hd hps hF0 hI hbase hrun;have hnext:m.next<=r2.m.next:=t6.le.1
     obtain⟨x,es,s',F',ω',u1,u2,u3,u4,u5,u6,u7,u8⟩:=yvi l (i+1) sl' rs1 ((i,⟨f,m,true,r2⟩)::ps) F1 ω1 s1 f1 r2.m hl t5 t4 (by rw[t3];exact hnt)
      (fun p hp=>by
        rcases List.mem_cons.1 hp with q|q
        .subst q;exact .inr ⟨rc,tm,t6⟩
        .exact t7 p q) (hF0.trans t9) tI (fun x b h=>zI (hlt x b h) hnext) (fun x b h p hp=>by
        rcases List.mem_cons.1 hp with q|q
        .subst q;exact hlt x b h
        .exact hbase x b h p q)
     refine⟨x,⟨f,m,true,r2⟩::es,s',F',ω',.cons (e:=⟨f,m,true,r2⟩) ⟨hw,fun _=>t1,fun q=>by cases q⟩ t2 u1,u2,u3,by rw[u4,t3],fun hdd=>?_,t9.trans u6,fun y b h=>(u7 y b h).elim (t10 y b) .inr,fun β hβ x hx=>u8 β hβ x (t11 β hβ x hx)⟩
     obtain⟨v1,v2⟩:=u5 hdd;refine yxz v1 (fun p hp=>?_) v2;rcases t8 hdd p hp with q|(q|q)|⟨rc',a,b,c⟩
     .exact .inl q
     .exact .inr (.inr (.inl q))
     .exact .inr q
     .exact .inr (ybme t4 t6 a c (ybac b).1 (.inl (ybac b).2))
    have idle:∀(s:SS),Conc lo F ω s f m->(d=true->OldI F0 rs s f)->wantedA ops f o=some false->ynv ⟨Ct P,Cm P,ItC P,pr,mu⟩ d K sl' (i+1) rs (s.put o.dst (.tp [])) ->
     ∃x es s' F' ω',Ev.Trace P ops x (o::l) es f m/\Conc lo F' ω' s' x.f x.m/\K s'/\x.f.n=f.n/\(d=true->Later an i es ps/\Among an i es)/\(Le F F'/\(∀y b,F' y=some b->F y=some b\/lo<=y)/\∀β∈pr,∀x,ω β=some x->ω' β=some x):=by
     intro s hc hI hw hrun;obtain⟨f1,g1,g2,g3⟩:=yyj hd hnt undef;have hidle:Ent.idle ⟨f,m,false,⟨undef,m,some [],some []⟩⟩=true:=yof rfl
     obtain⟨x,es,s',F',ω',u1,u2,u3,u4,u5,u6⟩:=yvi l (i+1) sl' rs ((i,⟨f,m,false,⟨undef,m,some [],some []⟩⟩)::ps) F ω _ f1 m hl hrun (hc.put g3 ybla) (by rw[g2];exact hnt)
      (fun p hp=>by
        rcases List.mem_cons.1 hp with q|q
        .subst q;exact .inl hidle
        .exact hps p q) hF0 (fun hdd=>(hI hdd).put (fun t w hw=>hw) (fun t ht=>ht) g3 fun k hk hy ho=>ybla) hlt (fun x b h p hp=>by
        rcases List.mem_cons.1 hp with q|q
        .subst q;exact hlt x b h
        .exact hbase x b h p q)
     refine⟨x,⟨f,m,false,⟨undef,m,some [],some []⟩⟩::es,s',F',ω',.cons (e:=⟨f,m,false,⟨undef,m,some [],some []⟩⟩) ⟨hw,fun q=>(by cases q),fun _=>rfl⟩ g1 u1,u2,u3,by rw[u4,g2],fun hdd=>?_,u6⟩
     obtain⟨v1,v2⟩:=u5 hdd;exact yxz v1 (fun p hp=>.inr (.inl hidle)) v2
    cases g with
    |none=>exact wanted s hc hI (ybgn (ybcb hg)) h
    | some tw =>
      obtain⟨t,w⟩:=tw;obtain⟨j,oj,e1,e2,e3⟩:=ybcm hg
      change yux ⟨Ct P,Cm P,ItC P,pr,mu⟩ d rs s i (an.getD i 0) o.dst (ynv ⟨Ct P,Cm P,ItC P,pr,mu⟩ d K sl' (i+1)) sop t w (look s.f t)at h
      unfold yux at h;split at h
      .rename_i c hl'
       obtain⟨u,k1,k2⟩:=hc.fr t _ hl';cases k2.bool_inv
       have hw:=yul e1 e2 e3 k1;have hb:boolIs w (.bool c)=(c==w):=rfl
       by_cases hcw:c=w
       .subst hcw;exact wanted _ (hc.lit hl') (fun hdd=>(hI hdd).lit k1) (by rw[hw,hb];simp) (h.1 rfl)
       .have hcn:c = !w:=by cases c<;>cases w<;>simp_all
        refine idle _ (by rw[<-hcn];exact hc.lit hl') (fun hdd=>by rw[<-hcn];exact(hI hdd).lit k1) (by rw[hw,hb];simp[hcw]) (h.2 hcn)
      .rename_i hl'
       obtain⟨u,k1,k2⟩:=hc.fr t _ hl';obtain⟨L,rfl,hL⟩:=k2.tp_inv;exact idle s hc hI (by rw[yul e1 e2 e3 k1];rfl) h
      .cases h
   .cases hcmp
end
end Sh
end
section
namespace Sh
open Go Ev
noncomputable def cmp(P:Program)(nt:Nat):Code->Option SC
 |.skip=>some .skip
 |.seq a b=>(cmp P nt a).bind fun a=>(cmp P nt b).bind fun b=>some (.seq a b)
 |.cond c a b=>(cmp P nt a).bind fun a=>(cmp P nt b).bind fun b=>some (.cond c a b)
 |.block id b=>(cmp P nt b).bind fun b=>some (.block id b)
 |.loop b=>(cmp P nt b).bind fun b=>some (.loop b)
 |.exit id=>some (.exit id)
 |.ret=>some .ret
 |.region _ ops d=>(cmpL P nt ops.toList (ancs ops.toList []).reverse ops.toList 0).bind fun l=>if d=false\/slotsOk ops.toList (ancs ops.toList []).reverse=true then some (.reg d l)else none
 |.rangeFunc g ps a b=>(cmp P nt a).bind fun sa=>(cmp P nt b).bind fun sb=>if (ps.toList.all fun p=>decide (p<nt))=true then some (.range g ps.toList sa sb)else none
 |_=>some .no
def ybuo(n:SS->Prop)(K:Exit->SS->Prop):Exit->SS->Prop
 |.normal,s=>n s
 |e,s=>K e s
def ybdg(id:Nat)(K:Exit->SS->Prop):Exit->SS->Prop
 |.exit i,s=>if i=id then K .normal s else K (.exit i) s
 |e,s=>K e s
def SS.lit(s:SS)(c:Operand)(x:Bool):SS:=match c with
 |.tmp t=>s.put (some t) (.b x)
 |_=>s
def ybze(t:Option SV)(c:Operand)(s:SS)(a b:SS->Prop):Prop:=match t with
 |some (.b x)=>(x=true->a (s.lit c true))/\(x=false->b (s.lit c false))
 |_=>False
def ybwi(pr:List Nm)(I:Nat->SS->Prop)(n:Nat)(K:Exit->SS->Prop):Exit->SS->Prop
 |.normal,t=>∃n' u,n'<n/\I n' u/\Weak pr t u
 |e,t=>K e t
def ydhu(pr:List Nm)(body:(Exit->SS->Prop)->SS->Prop)(K:Exit->SS->Prop)(s:SS):Prop :=
 ∃I:Nat->SS->Prop,(∃n t,I n t/\Weak pr s t)/\∀n t,I n t->body (ybwi pr I n K) t
def puts(s:SS):List Nat->List SV->Option SS
 |p::ps,v::vs=>puts (s.put (some p) v) ps vs
 |[],[]=>some s
 |_,_=>none
def ydep(n:SS->Prop):Exit->SS->Prop
 |.normal,s=>n s
 |_,_=>False
def ybcz(K:Exit->SS->Prop)(t:SS)(fin:Own->Prop):Exit->SS->Prop
 |.normal,u=>fin u.o
 |.ret,u=>K .ret ⟨t.f,u.o⟩
 |.exit id,u=>K (.exit id) ⟨t.f,u.o⟩
 |_,_=>False
def ycae(C:CC)(gx:Operand)(ps:List Nat)(ra rb:CC->(Exit->SS->Prop)->SS->Prop)(K:Exit->SS->Prop)(s:SS):Prop :=
 ∃ (pr:List Nm) (I:Nat->SS->Prop) (g:FuncId) (caps:List SV) (S:ItS),C.it g caps S/\((∀β∈C.pr,β∈pr)/\∀β∈S.pr,β∈pr)/\(∃t,I 0 t/\Weak C.pr s t)/\(∀t,I 0 t->t.get gx=some (.fn g [] caps)) /\
   (∀k t,I k t->S.own k t.o/\allQ (fun p=>cln (nmem pr) 5 p.2=true) t.f) /\
   (∀k t,I k t->k<S.n->∃t1,puts t ps (S.el k)=some t1/\ra ⟨C.ct,C.cm,C.it,pr,C.mu⟩ (ydep (rb ⟨C.ct,C.cm,C.it,pr,C.mu⟩ (ybcz K t fun o=>S.own k o/\∃u,I (k+1) u/\Weak pr ⟨t.f,S.adv k o⟩ u))) t1) /\
   (∀t,I S.n t->K .normal t)
def vcR:SC->CC->(Exit->SS->Prop)->SS->Prop
 |.skip,_,K,s=>K .normal s
 |.seq a b,C,K,s=>vcR a C (ybuo (vcR b C K) K) s
 |.cond c a b,C,K,s=>ybze (s.get c) c s (vcR a C K) (vcR b C K)
 |.block id b,C,K,s=>vcR b C (ybdg id K) s
 |.loop b,C,K,s=>ydhu C.pr (vcR b C) K s
 |.exit id,_,K,s=>K (.exit id) s
 |.ret,_,K,s=>K .ret s
 |.reg d ops,C,K,s=>ynv C d (K .normal) ops 0 [] s
 |.range g ps a b,C,K,s=>ycae C g ps (vcR a) (vcR b) K s
 |.no,_,_,_=>False
def vc(C:CC)(c:SC)(K:Exit->SS->Prop)(s:SS):Prop:=vcR c C K s
section
variable {P:Program}{lo nt:Nat}{F F':AM}{ω ω':Om}{s:SS}{f f':Fr}{m m':Mem}
theorem yuy{ops:Array Oper}{x:FM}{rr:Option Nat}:∀{l:List Oper}{es:List Ent}{f:Fr}{m:Mem},Ev.Trace P ops.toList x l es f m->Wf m ->
 Grow m x.m/\∀φ M w a Q,Rel φ M w->Sub m M->FrR φ f a->ygv φ m.next x.m.next->(∀a' w' φ' M',Ev.Good φ M w m x.m φ' M' w'->FrR φ' x.f a'->a'.defers=a.defers->Q .normal a' w')->wpListIn (wr rr) 0 P ops Q l a w
 |_,_,_,_,.nil,hw=>⟨Grow.refl hw,fun φ M w a Q hR hs hf _ hQ=>hQ a w φ M (Ev.Good.refl hR hs) hf rfl⟩
 | _,_,_,_,.cons (o:=o) (l:=l) (e:=e) (es:=es) (f1:=f1) he hp h,hw=>by
   obtain⟨h1,h2,h3⟩:=he;cases hwt:e.w with
   | false =>
     have hr:=h3 hwt;rw[hr]at hp h;obtain⟨g1,g2⟩:=yuy h hw;refine⟨g1,fun φ M w a Q hR hs hf hfr hQ=>wpListIn_step fun K hK=>?_⟩;rw[yfr (φ:=φ) h1 (fun _ _ _ d v _ _ _ hv=>hf.get d v hv),hwt];exact⟨fun _ _=>trivial,hK _ _ (g2 φ M w _ Q hR hs (hf.put hp VR.undef) hfr fun a' w' φ' M' q1 q2 q3=>hQ a' w' φ' M' q1 q2 (q3.trans (Ev.Act.put_defers _ _ _)))⟩
   | true =>
     have hone:=h2 hwt;have hpu:=hone.pure hw;obtain⟨g1,g2⟩:=yuy h hpu.ext.wf;refine⟨Grow.trans ⟨hpu.ext,hpu.low⟩ g1,fun φ M w a Q hR hs hf hfr hQ=>wpListIn_step fun K hK=>?_⟩;rw[yfr (φ:=φ) h1 (fun _ _ _ d v _ _ _ hv=>hf.get d v hv),hwt];refine opIn hone.plain (hone.seq hw hR hs hf (hfr.left g1.ext.next) fun v' w' φ' M' hg hv=>hK _ _ ?_)
     refine g2 φ' M' w' _ Q hg.rel hg.sub ((hf.mono hg.le).put hp hv) (hg.fresh hpu.ext hfr) fun a' w'' φ'' M'' hg' hf' hd=>?_;exact hQ a' w'' φ'' M'' (Ev.Good.trans hpu.ext g1.ext g1.low hg hg') hf' (hd.trans (Ev.Act.put_defers _ _ _))
def Grew(pr:List Nm)(lo:Nat)(F:AM)(ω:Om)(F':AM)(ω':Om):Prop:=Le F F'/\(∀y b,F' y=some b->F y=some b\/lo<=y)/\∀β∈pr,∀x,ω β=some x->ω' β=some x
theorem Grew.refl(pr:List Nm)(lo:Nat)(F:AM)(ω:Om):Grew pr lo F ω F ω:=⟨Le.refl _,fun _ _ h=>.inl h,fun _ _ _ h=>h⟩
theorem Grew.trans{pr:List Nm}{lo:Nat}{F F' F'':AM}{ω ω' ω'':Om}(a:Grew pr lo F ω F' ω')(b:Grew pr lo F' ω' F'' ω''):Grew pr lo F ω F'' ω'' :=
 ⟨a.1.trans b.1,fun y x h=>(b.2.1 y x h).elim (a.2.1 y x) .inr,fun β hβ x hx=>b.2.2 β hβ x (a.2.2 β hβ x hx)⟩
def yces(P:Program)(pr:List Nm)(lo:Nat)(c:Code)(F:AM)(ω:Om)(f:Fr)(m:Mem)(K:Exit->SS->Prop):Prop :=
 ∃e f' m' s' F' ω',yda P c f m e f' m'/\Conc lo F' ω' s' f' m'/\K e s'/\f'.n=f.n/\Grew pr lo F ω F' ω'
theorem ybcq {pr:List Nm}{mu:List FuncId}(hmix:P.follows .mixedOrders=true) {id:Nat}{ops:Array Oper}{d:Bool}{l:List SOper}{K:Exit->SS->Prop}(hcmp:cmpL P nt ops.toList (ancs ops.toList []).reverse ops.toList 0=some l) (hsl:d=false\/slotsOk ops.toList (ancs ops.toList []).reverse=true)
 (h:ynv ⟨Ct P,Cm P,ItC P,pr,mu⟩ d (K .normal) l 0 [] s) (hc:Conc lo F ω s f m) (hnt:nt<=f.n):yces P pr lo (.region id ops d) F ω f m K:=by
 obtain⟨x,es,s',F',ω',t1,t2,t3,t4,t5,t6⟩:=yvi (an:=(ancs ops.toList []).reverse) (F0:=F) ops.toList 0 l [] [] F ω s f m hcmp h hc hnt (fun p hp=>by cases hp) (Le.refl _) (fun _ t v hv _ ho=>by
  obtain⟨u,h1,h2⟩:=hc.fr t v hv;exact⟨u,h1,yei ho h2⟩) (fun x b h=>hc.wf x b (hc.sub x b h)) (fun x b _ p hp=>by cases hp)
 refine⟨.normal,x.f,x.m,s',F',ω',?_,t2,t3,t4,t6⟩;cases d with
 | false =>
   have hall:=fun rr=>yuy (rr:=rr) t1 hc.wf;exact⟨(hall none).1,fun φ M w a r _ hR hs hf hfr=>wpIn_region_list ((hall r).2 φ M w a _ hR hs hf hfr fun a' w' φ' M' hgd hf' hd=>⟨rfl,φ',M',hgd,hf',Df.same hd⟩)⟩
 | true =>
   rcases hsl with q|hsl
   .cases q
   .obtain⟨_,ham⟩:=t5 rfl;have hall:=fun rr=>ybcr (rr:=rr) hmix hsl t1 (fun k q e d hlt hk hq=>by have:=ham k q e d hlt hk hq;simpa using this) hc.wf
    exact⟨(hall none).1,fun φ M w a r _ hR hs hf hfr=>(hall r).2 id φ M w a _ hR hs hf hfr fun a' w' φ' M' hgd hf' hd=>⟨rfl,φ',M',hgd,hf',Df.same hd⟩⟩
inductive Rounds (P:Program) (b:Code):Nat->Fr->Mem->Exit->Fr->Mem->Prop
 |stop {f m e f' m'} (h:yda P b f m e f' m') (he:e ≠ .normal):Rounds P b 1 f m e f' m'
 |next {n f m f1 m1 e f' m'} (h:yda P b f m .normal f1 m1) (hr:Rounds P b n f1 m1 e f' m'):Rounds P b (n+1) f m e f' m'
theorem Rounds.grow{b:Code}{n:Nat}{e:Exit}(h:Rounds P b n f m e f' m'):Grow m m'/\e ≠ .normal:=by
 induction h with
 |stop h he=>exact⟨h.1,he⟩
 |next h _ ih=>exact⟨h.1.trans ih.1,ih.2⟩
theorem Rounds.run{b:Code}{rr:Option Nat}{n:Nat}{f f':Fr}{m m':Mem}{e:Exit}(h:Rounds P b n f m e f' m'):
 ∀φ M w a Q,InR rr w->Rel φ M w->Sub m M->FrR φ f a->ygv φ m.next m'.next->(∀a' w' φ' M',Ev.Good φ M w m m' φ' M' w'->FrR φ' f' a'->Df w w' a a'->Q e a' w')->Code.roundsIn (wr rr) 0 P b Q n a w:=by
 induction h with
 | stop hs1 he =>
   intro φ M w a Q hrr hR hs hf hfr hQ;rw[roundsIn_succ];refine wpIn_mono (hs1.2 φ M w a rr hrr hR hs hf hfr) ?_;rintro e' a' w' ⟨rfl,φ',M',hg,hf',hd⟩;exact ylh he (hQ a' w' φ' M' hg hf' hd)
 | next hs1 hr ih =>
   intro φ M w a Q hrr hR hs hf hfr hQ;have hg2:=hr.grow.1;rw[roundsIn_succ];refine wpIn_mono (hs1.2 φ M w a rr hrr hR hs hf (hfr.left hg2.ext.next)) ?_
   rintro e' a' w' ⟨rfl,φ',M',hg,hf',hd⟩;exact ih φ' M' w' a' Q (hrr.step hR hg.wg) hg.rel hg.sub hf' (hg.fresh hs1.1.ext hfr) fun a'' w'' φ'' M'' hg' hf'' hd'=>hQ a'' w'' φ'' M'' (Ev.Good.trans hs1.1.ext hg2.ext hg2.low hg hg') hf'' (hd.trans hg.wg.size hg.rel hg'.wg hd')
theorem Rounds.sound{b:Code}{n:Nat}{e:Exit}(h:Rounds P b n f m e f' m'):yda P (.loop b) f m e f' m' :=
 ⟨h.grow.1,fun φ M w a _ hn hR hs hf hfr=>wpIn_loop_rounds n (Rounds.run (b:=b) h φ M w a _ hn hR hs hf hfr fun _ _ φ' M' hgd hf' hd=>⟨rfl,φ',M',hgd,hf',hd⟩)⟩
theorem yboe(hc:Conc lo F ω s f m){c:Operand}{x:Bool}(h:s.get c=some (.b x)):Conc lo F ω (s.lit c x) f m:=by
 cases c with
 |tmp t=>exact hc.lit h
 |_=>exact hc
theorem Grew.less{pr pr':List Nm}(h:∀β∈pr,β∈pr')(g:Grew pr' lo F ω F' ω'):Grew pr lo F ω F' ω':=⟨g.1,g.2.1,fun β hb x hx=>g.2.2 β (h β hb) x hx⟩
theorem yber:∀{ps:List Nat}{vs:List SV}{us:List Value}{s:SS}{f:Fr}{t:SS},Conc lo F ω s f m->puts s ps vs=some t->RVL F ω vs us->(ps.all fun p=>decide (p<nt))=true->nt<=f.n ->
 ∃f1,ybgm us ps f=some f1/\Conc lo F ω t f1 m/\f1.n=f.n
 |[],[],[],s,f,t,hc,h,.nil,_,_=>by cases h;exact⟨f,rfl,hc,rfl⟩
 | p::ps,v::vs,u::us,s,f,t,hc,h,.cons a b,hb,hn=>by
   simp only[List.all_cons,zB,decide_eq_true_eq]at hb;obtain⟨f1,h1,h2,h3⟩:=yyj (f:=f) (nt:=nt) (d:=some p) (by simpa[ychi]using hb.1) hn u
   obtain⟨f2,g1,g2,g3⟩:=yber (hc.put h3 a) h b hb.2 (by rw[h2];exact hn)
   have h1:Fr.putD u p f=some f1:=h1;exact⟨f2,by show(Fr.putD u p f).bind _=_;rw[h1];exact g1,g2,by rw[g3,h2]⟩
 |[],_::_,_,_,_,_,_,h,_,_,_=>by cases h
 |_::_,[],_,_,_,_,_,h,_,_,_=>by cases h
theorem ycll{l:List Nm}{x:Nm}(h:nmem l x=true):x∈l:=yik.1 h
theorem Conc.back(hc:Conc lo F ω s f m){t:SS}{pr:List Nm}(hc':Conc lo F' ω' t f' m')(hcl:allQ (fun p=>cln (nmem pr) 5 p.2=true) s.f)(hF:Le F F')(ho:∀β∈pr,∀x,ω β=some x->ω' β=some x):Conc lo F' ω' ⟨s.f,t.o⟩ f m' :=
 ⟨hc'.wf,hc'.low,hc'.nxt,hc'.sub,hc'.own,hc'.dom,hc'.inj,hc'.apart,fun x v hv=>by
   obtain⟨u,h1,h2⟩:=hc.fr x v hv;exact⟨u,h1,(ybkt (L:=nmem pr) (fun β y hb hy=>ho β (ycll hb) y hy) h2 (ycy hcl _ (ydt hv))).mono hF (Om.le_refl _)⟩⟩
theorem yxv{mu:List FuncId}(hmix:P.follows .mixedOrders=true):∀(c:Code) (sc:SC),cmp P nt c=some sc->∀(pr:List Nm) (K:Exit->SS->Prop) (s:SS) (lo:Nat) (F:AM) (ω:Om) (f:Fr) (m:Mem),vc ⟨Ct P,Cm P,ItC P,pr,mu⟩ sc K s->Conc lo F ω s f m->nt<=f.n->yces P pr lo c F ω f m K:=by
 intro c
 induction c with
 | skip =>
   intro sc h pr K s lo F ω f m hv hc hn;cases h
   exact⟨.normal,f,m,s,F,ω,⟨Grow.refl hc.wf,fun φ M w a r _ hR hs hf _=>wpIn_skip ⟨rfl,φ,M,Ev.Good.refl hR hs,hf,Df.same rfl⟩⟩,hc,hv,rfl,Grew.refl _ _ _ _⟩
 | exit id =>
   intro sc h pr K s lo F ω f m hv hc hn;cases h
   exact⟨.exit id,f,m,s,F,ω,⟨Grow.refl hc.wf,fun φ M w a r _ hR hs hf _=>wpIn_exit ⟨rfl,φ,M,Ev.Good.refl hR hs,hf,Df.same rfl⟩⟩,hc,hv,rfl,Grew.refl _ _ _ _⟩
 | ret =>
   intro sc h pr K s lo F ω f m hv hc hn;cases h
   exact⟨.ret,f,m,s,F,ω,⟨Grow.refl hc.wf,fun φ M w a r _ hR hs hf _=>wpIn_ret ⟨rfl,φ,M,Ev.Good.refl hR hs,hf,Df.same rfl⟩⟩,hc,hv,rfl,Grew.refl _ _ _ _⟩
 | region id ops d =>
   intro sc h pr K s lo F ω f m hv hc hn;obtain⟨l,h1,h⟩:=bind_some h;split at h
   .rename_i hsl
    cases h
    exact ybcq hmix h1 hsl hv hc hn
   .cases h
 | seq a b iha ihb =>
   intro sc h pr K s lo F ω f m hv hc hn;obtain⟨sa,h1,h⟩:=bind_some h;obtain⟨sb,h2,h⟩:=bind_some h;cases h
   obtain⟨e,f1,m1,s1,F1,ω1,t1,t2,t3,t4,t5⟩:=iha sa h1 pr _ s lo F ω f m hv hc hn
   by_cases he:e = .normal
   .subst he;obtain⟨e2,f2,m2,s2,F2,ω2,u1,u2,u3,u4,u5⟩:=ihb sb h2 pr K s1 lo F1 ω1 f1 m1 t3 t2 (by rw[t4];exact hn)
    exact⟨e2,f2,m2,s2,F2,ω2,t1.seq u1,u2,u3,by rw[u4,t4],t5.trans u5⟩
   .refine⟨e,f1,m1,s1,F1,ω1,⟨t1.1,fun φ M w a' r hnr hR hs hf hfr=>wpIn_seq (wpIn_mono (t1.2 φ M w a' r hnr hR hs hf hfr) ?_)⟩,t2,by cases e<;>first|exact absurd rfl he|exact t3,t4,t5⟩
    intro e' a'' w' hp;exact ylh (by rw[hp.1];exact he) hp
 | cond c a b iha ihb =>
   intro sc h pr K s lo F ω f m hv hc hn;obtain⟨sa,h1,h⟩:=bind_some h;obtain⟨sb,h2,h⟩:=bind_some h;cases h
   change ybze (s.get c) c s (vc ⟨Ct P,Cm P,ItC P,pr,mu⟩ sa K) (vc ⟨Ct P,Cm P,ItC P,pr,mu⟩ sb K)at hv
   unfold ybze at hv;split at hv
   .rename_i x hx
    obtain⟨u,k1,k2⟩:=hc.get hx;cases k2.bool_inv
    have key:∀z:Code,yces P pr lo z F ω f m K->(if x then a else b)=z->yces P pr lo (.cond c a b) F ω f m K:=by
     rintro z ⟨e,f1,m1,s1,F1,ω1,t1,t2,t3,t4,t5⟩ he;refine⟨e,f1,m1,s1,F1,ω1,⟨t1.1,fun φ M w a' r hnr hR hs hf hfr=>wpIn_cond (t:=x) ?_ (by rw[he];exact t1.2 φ M w a' r hnr hR hs hf hfr)⟩,t2,t3,t4,t5⟩
     exact((yjj (fun t v _ ht=>hf.get t v ht) k1).bool_iff x).2 rfl
    cases x with
    |true=>exact key a (iha sa h1 pr K _ lo F ω f m (hv.1 rfl) (yboe hc hx) hn) rfl
    |false=>exact key b (ihb sb h2 pr K _ lo F ω f m (hv.2 rfl) (yboe hc hx) hn) rfl
   .cases hv
 | block id b ih =>
   intro sc h pr K s lo F ω f m hv hc hn;obtain⟨sb,h1,h⟩:=bind_some h;cases h
   obtain⟨e,f1,m1,s1,F1,ω1,t1,t2,t3,t4,t5⟩:=ih sb h1 pr _ s lo F ω f m hv hc hn
   have out:∀e',(∀φ M w a a' w',ycly φ M w m e f1 m1 a e a' w'->Exit.inBlock id (ycly φ M w m e' f1 m1 a) e a' w')->K e' s1->yces P pr lo (.block id b) F ω f m K:=by
    intro e' hh hk;refine⟨e',f1,m1,s1,F1,ω1,⟨t1.1,fun φ M w a r hnr hR hs hf hfr=>wpIn_block (wpIn_mono (t1.2 φ M w a r hnr hR hs hf hfr) ?_)⟩,t2,hk,t4,t5⟩;intro e2 a' w' hp;have he2:=hp.1;subst he2;exact hh φ M w a a' w' hp
   cases e with
   | exit i =>
     change (if i=id then K .normal s1 else K (.exit i) s1)at t3
     by_cases hi:i=id
     .subst hi;rw[if_pos rfl]at t3;exact out .normal (fun φ M w a a' w' hp=>by simp only[Exit.inBlock,if_true];exact⟨rfl,hp.2⟩) t3
     .rw[if_neg hi]at t3;exact out (.exit i) (fun φ M w a a' w' hp=>by simp only[Exit.inBlock,if_neg hi];exact hp) t3
   |normal=>exact out .normal (fun φ M w a a' w' hp=>hp) t3
   |ret=>exact out .ret (fun φ M w a a' w' hp=>hp) t3
   |_=>exact out _ (fun φ M w a a' w' hp=>hp) t3
 | loop b ih =>
   intro sc h pr K s lo F ω f m hv hc hn;obtain⟨sb,h1,h⟩:=bind_some h;cases h
   obtain⟨I,⟨n0,t0,hI0,hw0⟩,hstep⟩:=hv
   have main:∀n t F ω f m,I n t->Conc lo F ω t f m->nt<=f.n->∃N e f' m' s' F' ω',Rounds P b N f m e f' m'/\Conc lo F' ω' s' f' m'/\K e s'/\f'.n=f.n/\Grew pr lo F ω F' ω':=by
    intro n
    induction n using Nat.strongRecOn with
    | _ n ihn =>
      intro t F ω f m hI hc hn;obtain⟨e,f1,m1,s1,F1,ω1,t1,t2,t3,t4,t5⟩:=ih sb h1 pr _ t lo F ω f m (hstep n t hI) hc hn
      by_cases he:e = .normal
      .subst he;obtain⟨n',u,hlt,hI',hwk⟩:=t3;obtain⟨ω2,F2',w1,w2,hc2,w3⟩:=hwk lo F1 ω1 f1 m1 t2;obtain⟨N,e2,f2,m2,s2,F2,ω3,r1,r2,r3,r4,r5⟩:=ihn n' hlt u F2' ω2 f1 m1 hI' hc2 (by rw[t4];exact hn)
       exact⟨N+1,e2,f2,m2,s2,F2,ω3,.next t1 r1,r2,r3,by rw[r4,t4],t5.trans (Grew.trans ⟨w1,w2,w3⟩ r5)⟩
      .exact⟨1,e,f1,m1,s1,F1,ω1,.stop t1 he,t2,by cases e<;>first|exact absurd rfl he|exact t3,t4,t5⟩
   obtain⟨ω2,F2',w1,w2,hc2,w3⟩:=hw0 lo F ω f m hc;obtain⟨N,e,f',m',s',F',ω',r1,r2,r3,r4,r5⟩:=main n0 t0 F2' ω2 f m hI0 hc2 hn;exact⟨e,f',m',s',F',ω',r1.sound,r2,r3,r4,Grew.trans ⟨w1,w2,w3⟩ r5⟩
 | rangeFunc gx ps a b iha ihb =>
   intro sc h pr K s lo F ω f m hv hc hn;obtain⟨sa,h1,h⟩:=bind_some h;obtain⟨sb,h2,h⟩:=bind_some h;split at h
   .rename_i hck
    cases h
    obtain⟨pr',I,g,caps,S,hit,⟨hp1,hp2⟩,⟨t0,hI0,hw0⟩,hget,hinv,hround,hend⟩:=hv;obtain⟨ω2,F2,w1,w2,hc2,w3⟩:=hw0 lo F ω f m hc;obtain⟨u,hu1,hu2⟩:=hc2.get (hget t0 hI0)
    obtain⟨B,rfl,hB⟩:∃B:List Value,u = .func (.func g) #[] B.toArray/\RVL F2 ω2 caps B:=by
     cases hu2 with
     |fn h1 h2=>cases h1;exact⟨_,rfl,h2⟩
    obtain⟨T,hT,hTn,hall⟩:=hit lo F2 ω2 t0 f m B hc2 hB (hinv 0 t0 hI0).1
    have main:∀d k t F' ω' m',S.n-k=d->k<=S.n->I k t->Conc lo F' ω' t f m'->Le F2 F'->(∀β∈pr',∀x,ω2 β=some x->ω' β=some x) ->
     ∃e m'' s' F'' ω'',RRounds P f ps.toList a b T k m' e m''/\Conc lo F'' ω'' s' f m''/\K e s'/\Grew pr' lo F' ω' F'' ω'':=by
     intro d
     induction d with
     | zero =>
       intro k t F' ω' m' hd hk hI hck' hF ho;obtain rfl:k=S.n:=by omega
       have hp:=(hall F' ω' t f m' _ hF (fun β hb=>ho β (hp2 β hb)) hck' (zJ _) (hinv _ t hI).1).1;refine⟨.normal,m',t,F',ω',?_,hck',hend t hI,Grew.refl _ _ _ _⟩;rw[<-hTn]at hp ⊢;exact .done hp
     | succ d ihd =>
       intro k t F' ω' m' hd hk hI hck' hF ho;have hlt:k<S.n:=by omega
       obtain⟨hown,hcl⟩:=hinv k t hI;obtain⟨hpre,hnx⟩:=hall F' ω' t f m' k hF (fun β hb=>ho β (hp2 β hb)) hck' hk hown;obtain⟨hel,_⟩:=hnx hlt;obtain⟨t1,hput,hra⟩:=hround k t hI hlt;obtain⟨f1,q1,q2,q3⟩:=yber hck' hput hel hck hn;obtain⟨e1,f3,m1,s1,F3,ω3,a1,a2,a3,a4,a5⟩:=iha sa h1 pr' _ t1 lo F' ω' f1 m' hra q2 (by rw[q3];exact hn)
       have he1:e1 = .normal:=by cases e1<;>first|rfl|exact a3.elim
       subst he1;obtain⟨e2,f4,m2,s2,F4,ω4,b1,b2,b3,b4,b5⟩:=ihb sb h2 pr' _ s1 lo F3 ω3 f3 m1 a3 a2 (by rw[a4,q3];exact hn)
       have hG:=a5.trans b5;have hback:=hck'.back b2 hcl hG.1 hG.2.2
       have stop:(e2 = .ret\/∃id,e2 = .exit id)->K e2 ⟨t.f,s2.o⟩->∃e m'' s' F'' ω'',RRounds P f ps.toList a b T k m' e m''/\Conc lo F'' ω'' s' f m''/\K e s'/\Grew pr' lo F' ω' F'' ω'':=fun he hK =>
        ⟨e2,m2,⟨t.f,s2.o⟩,F4,ω4,.stop (by rw[hTn];exact hlt) hpre q1 a1 he b1,hback,hK,hG⟩
       cases e2 with
       | normal =>
         obtain⟨ho2,u,hIu,hwk⟩:=b3;have hF4:Le F2 F4:=hF.trans hG.1;have ho4:∀β∈pr',∀x,ω2 β=some x->ω4 β=some x:=fun β hb x hx=>hG.2.2 β hb x (ho β hb x hx);obtain⟨hpre2,hnx2⟩:=hall F4 ω4 ⟨t.f,s2.o⟩ f m2 k hF4 (fun β hb=>ho4 β (hp2 β hb)) hback hk ho2;obtain⟨ω5,F5,v1,v2,hc5,v3⟩:=hwk lo F4 ω4 f _ (hnx2 hlt).2;obtain⟨e,m'',s',F6,ω6,r1,r2,r3,r4⟩:=ihd (k+1) u F5 ω5 _ (by omega) hlt hIu hc5 (hF4.trans v1) (fun β hb x hx=>v3 β hb x (ho4 β hb x hx))
         exact⟨e,m'',s',F6,ω6,.next (by rw[hTn];exact hlt) hpre q1 a1 b1 hpre2 r1,r2,r3,hG.trans (Grew.trans ⟨v1,v2,v3⟩ r4)⟩
       |ret=>exact stop (.inl rfl) b3
       |exit id=>exact stop (.inr ⟨id,rfl⟩) b3
       |_=>exact b3.elim
    obtain⟨e,m'',s',F'',ω'',r1,r2,r3,r4⟩:=main _ 0 t0 F2 ω2 m rfl (Nat.zero_le _) hI0 hc2 (Le.refl _) (fun _ _ _ h=>h);exact⟨e,f,m'',s',F'',ω'',ycig hT hu1 hc.wf r1,r2,r3,rfl,Grew.trans ⟨w1,w2,w3⟩ (r4.less hp1)⟩
   .cases h
 |_=>intro sc h pr K s lo F ω f m hv;cases h;exact hv.elim
end
end Sh
end
end Go.Proofs.YthclbjjgfcgbgaaGreatDoor
