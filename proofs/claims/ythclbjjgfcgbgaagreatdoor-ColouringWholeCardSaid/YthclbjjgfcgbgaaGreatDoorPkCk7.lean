/- Joined. -/
import Derived.Test.YthclbjjgfcgbgaaGreatDoorPkCk6
set_option linter.unusedSimpArgs false
set_option linter.unusedVariables false
open Nat renaming lt_of_lt_of_le->zA,le_max_right->zB,le_refl->zC,max->zD
open Iff renaming rfl->zF
open Go
namespace Go.Proofs.YthclbjjgfcgbgaaGreatDoor
section
namespace Sh
open Go Ev
inductive SR where
 |t (n:Nat)
 |c (a:Nat) (ag:Bool) (n:Nat)
noncomputable def cmpR(P:Program):List ResultVar->Option (List SR)
 |[]=>some []
 |.tmp t::l=>(cmpR P l).bind fun r=>some (.t t::r)
 |.cell a t::l=>(P.underlying t).bind fun d=>(P.info? t).bind fun i=>(cmpR P l).bind fun r=>some (.c a (isAggD d) i.size::r)
def resX(s:SS):List SR->(List SV->Prop)->Prop
 |[],K=>K []
 | .t n::l,K=>match look s.f n with
   |some v=>resX s l fun vs=>K (v::vs)
   |none=>False
 | .c a ag n::l,K=>match look s.f a with
   | some p=>(match yuk s ag n p with
     |some r=>r.c/\resX s l fun vs=>K (r.v::vs)
     |none=>False)
   |none=>False
def yig:List SV->SV
 |[v]=>v
 |vs=>.tp vs
def retK(rs:List SR)(Q:SV->Prop):Exit->SS->Prop
 |.normal,s=>resX s rs fun vs=>vok s.o 5 (yig vs)/\Q (view s.o 5 (yig vs))
 |.ret,s=>resX s rs fun vs=>vok s.o 5 (yig vs)/\Q (view s.o 5 (yig vs))
 |_,_=>False
def yfu(pr:List Nm)(s:SS)(Q:SV->Own->Prop)(v:SV):Prop :=
 ∃r o',Weak pr ⟨[(0,v)],s.o⟩ ⟨[(0,r)],o'⟩/\(cln (live o') 5 r=true/\allQ (fun p=>ybu (live o') p.2) o'/\allQ (fun β=>live o' β=true) pr)/\Q r o'
def retM(rs:List SR)(pr:List Nm)(Q:SV->Own->Prop):Exit->SS->Prop
 |.normal,s=>resX s rs fun vs=>yfu pr s Q (yig vs)
 |.ret,s=>resX s rs fun vs=>yfu pr s Q (yig vs)
 |_,_=>False
section
variable {P:Program}{lo nt:Nat}{F F':AM}{ω ω':Om}{s:SS}{f f':Fr}{m m':Mem}
theorem yzd (hc:Conc lo F ω s f m):∀{l:List ResultVar}{rs:List SR}{K:List SV->Prop},cmpR P l=some rs->resX s rs K->∃vs us,resA P m f l=some us/\RVL F ω vs us/\K vs
 |[],rs,K,h,hk=>by cases h;exact⟨[],[],rfl,.nil,hk⟩
 | .tmp t::l,rs,K,h,hk=>by
   obtain⟨r,h1,h⟩:=bind_some h;cases h
   unfold resX at hk;split at hk
   .rename_i v hv
    obtain⟨vs,us,g1,g2,g3⟩:=yzd hc h1 hk;obtain⟨u,e1,e2⟩:=hc.fr t v hv;refine⟨v::vs,u::us,?_,.cons e2 g2,g3⟩;unfold resA;rw[e1,g1]
   .cases hk
 | .cell a t :: l,rs,K,h,hk=>by
   obtain⟨d,h1,h⟩:=bind_some h;obtain⟨i,h2,h⟩:=bind_some h;obtain⟨r,h3,h⟩:=bind_some h;cases h
   unfold resX at hk;split at hk
   .rename_i p hp
    split at hk
    .rename_i q hq
     obtain⟨hqc,hk⟩:=hk;obtain⟨vs,us,g1,g2,g3⟩:=yzd hc h3 hk;obtain⟨u,e1,e2⟩:=hc.fr a p hp
     let o : Oper := ⟨none, .load t (.tmp a), 0, "", #[], none⟩
     obtain⟨r0,ω',k1,k2,k3,k4,_⟩:=ycwd (P:=P) (o:=o) hc rfl h1 h2 (x:=.tmp a) hp hq hqc;have hev:ob (f.get (.tmp a)) (evLoad P t m)=some r0:=k1;have hfa:f.get (.tmp a)=some u:=e1;rw[hfa]at hev
     have hu:∃ad w,u = .pointer (some ad)/\loadA P m t ad=some w/\r0=⟨w,.none,[ad.block]⟩:=by
      change evLoad P t m u=some r0 at hev
      unfold evLoad at hev;split at hev
      .rename_i ad
       obtain⟨w,w1,w2⟩:=yg hev;cases w2
       exact⟨ad,w,rfl,w1,rfl⟩
      .cases hev
     obtain⟨ad,w,rfl,w1,rfl⟩:=hu
     have hω : RV F ω q.v w:=by
      unfold yuk at hq;split at hq
      .split at hq
       .rename_i v hv
        cases hq
        obtain⟨bk,y,T,N,e',zz,L,hpp,q1,q2,q3,q4,_⟩:=e2.rf_inv;cases hpp
        obtain⟨z1,z2⟩:=yto hv q4;obtain⟨w',w1',w2'⟩:=yrm (F:=F) h1 h2 (hc.sub _ _ q1) (q:=y) q2 q3 z1 z2;rw[Nat.add_zero]at w1';rw[w1]at w1';cases w1'
        exact w2'.mono (Le.refl _) (yqi _)
       .cases hq
      .rename_i β ai j
       split at hq
       .rename_i b hb
        split at hq
        .split at hq
         .rename_i v hv
          cases hq
          obtain⟨k,z,hk',hpp⟩:=e2.pt_inv;cases hpp
          obtain⟨rfl,T,L,g1',g2'⟩:=hc.ownAt hb hk' (.inl (by have hqc':ai<b.n:=hqc;omega))
          obtain⟨l1,l2,_,l3⟩:=g2' ai hqc;obtain⟨z1,z2⟩:=yto hv l2;have hqc':ai<b.n:=hqc;obtain⟨w',w1',w2'⟩:=yrm (F:=F) h1 h2 g1' (q:=ai*b.z) (L:=L ai) (by rw[l1];have:=yjq (z:=b.z) hqc';omega) (fun y hy=>l3 y (by omega)) z1 z2
          rw[w1]at w1';cases w1'
          exact w2'
         .cases hq
        .cases hq
       .cases hq
      .cases hq
     refine⟨q.v::vs,w::us,?_,.cons hω g2,g3⟩;unfold resA;have e1':f.t.get a=some (.pointer (some ad)):=e1;rw[e1',g1];simp only;rw[w1]
    .cases hk
   .cases hk
theorem ybkq{vs:List SV}{us:List Value}(h:RVL F ω vs us):RV F ω (yig vs) (oneOrTuple us):=by
 cases h with
 |nil=>exact .tp .nil
 | cons a b =>
   cases b with
   |nil=>exact a
   |cons c d=>exact .tp (.cons a (.cons c d))
theorem yclz(hnn:ypj P){g:FuncId}{fn:Func}{c:Code}(hg:P.funcs[g]?=some fn)(hb:fn.body=some c){us ws:List Value}{e:Exit}{m1:Mem}(he:e = .normal\/e = .ret)(h:ycw P c ⟨zD us.length fn.ntmps,tOf us⟩ (enterM m) e f' m1)(hr:resA P m1 f' fn.results.toList=some ws):yby P (.call g us m) (.call (oneOrTuple ws) m1):=by
 intro hw;refine⟨⟨h.1.ext.next,h.1.ext.dom,h.1.ext.old,h.1.ext.wf⟩,fun φ M w args' hR hs hv hfr=>.inl ⟨ybv hnn hg hb _ _,?_⟩⟩
 have key:Calls P g args'.toArray w (fun e w'=>∃v',e = .returned v'/\∃φ' M',Ev.Good φ M w (enterM m) m1 φ' M' w'/\VR φ' (oneOrTuple ws) v'):=by
  refine callsIn_wide.1 (callsIn_of_wp_marks (n:=0) hg hb trivial ?_);refine wpIn_mono (h.2 φ M w _ none (InR.none _) hR hs (yss hv fn.ntmps) hfr) ?_;rintro e' a' w' ⟨rfl,φ',M',hgd,hf',hd⟩;obtain⟨ms,hms,hmk⟩:=hd;have hl:=yqg hgd hf' hr hmk;rw[show ms=a'.defers by rw[hms];simp]at hl
  rcases he with rfl|rfl
  .exact hl
  .exact hl
 refine key.mono ?_;rintro e' w' ⟨v',rfl,φ',M',hgd,hvr⟩;exact⟨v',rfl,φ',M',⟨hgd.le,hgd.out,hgd.rel,hgd.sub,hgd.frame,hgd.wg⟩,hvr⟩
theorem ychh (hmix:P.follows .mixedOrders=true) (hnn:ypj P) {g:FuncId}{fn:Func}{c:Code}{sc:SC}{rs:List SR}(hg:P.funcs[g]?=some fn) (hb:fn.body=some c) (hcmp:cmp P fn.ntmps c=some sc) (hrs:cmpR P fn.results.toList=some rs)
 {mu:List FuncId}{args:List SV}{Q:SV->Prop}(h:vc ⟨Ct P,Cm P,ItC P,[],mu⟩ sc (retK rs Q) ⟨slots args 0,[]⟩):Ct P g args Q:=by
 classical
 intro G m us hw hle hargs
 have hc0:Conc m.next G om0 ⟨slots args 0,[]⟩ ⟨zD us.length fn.ntmps,tOf us⟩ (enterM m):=by
  refine⟨hw,zC _,zC _,hle,fun β b h=>(by cases h),fun β _=>rfl,fun β γ k z k' z' h=>(by cases h),fun β k z h=>(by cases h),fun t v hv=>?_⟩
  obtain⟨_,h2⟩:=ykv hv;obtain⟨u,h3,h4⟩:=hargs.get h2;exact⟨u,by rw[ycz];simpa using h3,h4⟩
 obtain⟨e,f',m1,s',F',ω',t1,t2,t3,t4,t5⟩:=yvu hmix c sc hcmp _ _ _ m.next G om0 _ (enterM m) h hc0 (zB _ _)
 have hres:(e = .normal\/e = .ret)/\resX s' rs fun vs=>vok s'.o 5 (yig vs)/\Q (view s'.o 5 (yig vs)):=by
  cases e with
  |normal=>exact⟨.inl rfl,t3⟩
  |ret=>exact⟨.inr rfl,t3⟩
  |_=>cases t3
 obtain⟨he,hres⟩:=hres;obtain⟨vs,ws,r1,r2,r3,r4⟩:=yzd t2 hrs hres;have hs0:yby P (.call g us m) (.call (oneOrTuple ws) m1):=yclz hnn hg hb he t1 r1;have hm1:m.next<=m1.low:=t2.low
 have hold:∀{i x},m.b.get i=some x->i<m.next:=fun {i x} q=>hw i x q
 have hrv:=ybkq r2;have hview:∀H:AM,Le F' H->(∀β k z,ω' β=some (some (k,z))->∀b,m1.b.get k=some b->H k=some b)->RV H om0 (view s'.o 5 (yig vs)) (oneOrTuple ws):=fun H h1 h2=>ykf t2 h1 h2 hrv r3
 .have hs1:yby P (.call g us m) (.call (oneOrTuple ws) ⟨m1.next,yli m.b m1.b,m1.low⟩):=by
   intro hwm;obtain⟨ext,hcall⟩:=hs0 hwm
   have hget:∀{i x},(yli m.b m1.b).get i=some x->m.b.get i=some x\/m1.b.get i=some x:=fun {i x} q=>by
    rw[yfv]at q;split at q
    .rename_i y hy;cases q;exact .inl hy
    .exact .inr q
   refine⟨⟨ext.next,fun i b hq=>?_,fun i b h1 h2 hq=>?_,fun i b hq=>?_⟩,fun φ M w args' hR hs ha hf=>?_⟩
   .rcases hget hq with q|q
    .exact .inl ⟨b,q⟩
    .exact ext.dom i b q
   .rcases hget hq with q|q
    .exact q
    .exact ext.old i b h1 h2 q
   .rcases hget hq with q|q
    .exact zA (hold q) ext.next
    .exact ext.wf i b q
   .refine(hcall φ M w args' hR hs ha hf).mono ?_;rintro e' w' ⟨v',rfl,φ',M',hgd,hv⟩;refine⟨v',rfl,φ',M',⟨hgd.le,hgd.out,hgd.rel,fun i b hq=>?_,hgd.frame,hgd.wg⟩,hv⟩;rcases hget hq with q|q
    .have hi:=hold q;rw[hgd.frame i (fun z=>by omega) (.inr (zA hi hm1))]
     exact hs i b q
    .exact hgd.sub i b q
  have hnone:∀{i},m.next<=i->m.b.get i=none:=fun {i} q=>by
   cases hh:m.b.get i with
   |none=>rfl
   |some x=>have:=hold hh;omega
  refine⟨_,_,view s'.o 5 (yig vs),hs1,hm1,fun i b hq=>?_,r4,hview _ (fun i b hq=>?_) (fun β k z hk b hq=>?_)⟩
  .show(yli m.b m1.b).get i=some b;rw[yfv,hq]
  .unfold frsh;rcases t5.2.1 i b hq with q|q
   .rw[if_neg (by have:=hold (hle i b q);omega)];exact q
   .rw[if_pos q];show(yli m.b m1.b).get i=some b;rw[yfv,hnone q];exact t2.sub i b hq
  .unfold frsh;have:=(t2.apart β k z hk).2.1;rw[if_pos this];show(yli m.b m1.b).get k=some b;rw[yfv,hnone this];exact hq
theorem yccc (hmix:P.follows .mixedOrders=true) (hnn:ypj P) {g:FuncId}{fn:Func}{c:Code}{sc:SC}{rs:List SR}(hg:P.funcs[g]?=some fn) (hb:fn.body=some c) (hcmp:cmp P fn.ntmps c=some sc) (hrs:cmpR P fn.results.toList=some rs)
 {pr:List Nm}{mu:List FuncId}{o:Own}{args:List SV}{Q:SV->Own->Prop}(h:vc ⟨Ct P,Cm P,ItC P,pr,mu⟩ sc (retM rs pr Q) ⟨slots args 0,o⟩):Cm P g pr o args Q:=by
 classical
 intro lo G ω f m us hc hargs
 have hc0:Conc lo G ω ⟨slots args 0,o⟩ ⟨zD us.length fn.ntmps,tOf us⟩ (enterM m):=by
  refine⟨hc.wf,hc.nxt,hc.nxt,hc.sub,hc.own,hc.dom,hc.inj,hc.apart,fun t v hv=>?_⟩;obtain⟨_,h2⟩:=ykv hv;obtain⟨u,h3,h4⟩:=hargs.get h2;exact⟨u,by rw[ycz];simpa using h3,h4⟩
 obtain⟨e,f',m1,s',F',ω',t1,t2,t3,t4,t5⟩:=yvu hmix c sc hcmp _ _ _ lo G ω _ (enterM m) h hc0 (zB _ _)
 have hres:(e = .normal\/e = .ret)/\resX s' rs fun vs=>yfu pr s' Q (yig vs):=by
  cases e with
  |normal=>exact⟨.inl rfl,t3⟩
  |ret=>exact⟨.inr rfl,t3⟩
  |_=>cases t3
 obtain⟨he,hres⟩:=hres;obtain⟨vs,ws,r1,r2,r,o',hwk,hcl,hq⟩:=yzd t2 hrs hres;have hrv:=ybkq r2
 have hc1:Conc lo F' ω' ⟨[(0,yig vs)],s'.o⟩ ⟨1,tOf [oneOrTuple ws]⟩ m1:=⟨t2.wf,t2.low,t2.nxt,t2.sub,t2.own,t2.dom,t2.inj,t2.apart,fun t v hv=>by
  have hv:(if 0=t then some (yig vs)else none)=some v:=hv
  split at hv
  .rename_i q;subst q;cases hv;exact⟨oneOrTuple ws,by rw[ycz];rfl,hrv⟩
  .cases hv⟩
 obtain⟨ω2,F2,w1,w2,hc2,w3⟩:=hwk lo F' ω' _ m1 hc1;obtain⟨u,q1,q2⟩:=hc2.fr 0 r (by show(if 0=0 then some r else none)=some r;rw[if_pos rfl])
 rw[ycz]at q1;cases q1
 have hG:=t5.trans ⟨w1,w2,w3⟩;exact⟨_,m1,r,o',F2,ω2,yclz hnn hg hb he t1 r1,⟨hc2.wf,hc2.low,hc2.nxt,hc2.sub,hc2.own,hc2.dom,hc2.inj,hc2.apart,fun t v hv=>by cases hv⟩,q2,hG.1,hG.2.1,hG.2.2,hcl,hq⟩
end
end Sh
end
section
namespace Sh
open Go Ev
theorem Sim.refl(v:SV):Sim v v:=fun _ _ _ h=>h
theorem yc(v:SV):Sim v v↔True:=⟨fun _=>trivial,fun _=>Sim.refl v⟩
theorem yba{k k':IntKind}{a b:Int}:Sim (.i k a) (.i k' b)↔k=k'/\a=b :=
 ⟨fun h=>by have:=h (fun _=>none) om0 _ .i;cases this;exact⟨rfl,rfl⟩,fun h=>by rw[h.1,h.2];exact Sim.refl _⟩
theorem yrw{a b:Bool}:Sim (.b a) (.b b)↔a=b :=
 ⟨fun h=>by have:=h (fun _=>none) om0 _ .b;cases this;rfl,fun h=>by rw[h];exact Sim.refl _⟩
theorem ybix{z n:Nat}{g g':Nat->List SV}(h:∀k,k<n->g k=g' k):Sim (.sl z n g) (.sl z n g'):=by
 intro F ω u hr;rcases hr.sl_inv with⟨rfl,h0⟩|⟨bk,p,cp,T,N,e,zz,L,rfl,g1,g2,g3,g4,g5,g6,g7⟩
 .exact .sl0 h0
 .exact .sl g1 g2 g3 g4 g5 (fun k hk=>h k hk▸g6 k hk) (fun k hk=>h k hk▸g7 k hk)
theorem ybfu {pr:List Nm}(ρ:List (Nat×(Nat->Nm))) (vir:List Nat) (fr:List Nm) {s t:SS}(h1:yzk s.o fr) (h2:ybfk (rid ρ) vir t.o) (h3:allQ (ysl (rid ρ) vir fr t.o s) t.f) (h4:allQ (ymc (rid ρ) vir fr t.o s) t.o)
 (hp:allQ (fun β=>live t.o β=true/\vir.elem β.1=false/\rid ρ β=β) pr):Weak pr s t:=WeakBy.weak ⟨h1,h2,h3,h4⟩ hp
theorem ydac(ρ:List (Nat×(Nat->Nm)))(vir:List Nat)(fr:List Nm){s t:SS}(h1:yzk s.o fr)(h2:ybfk (rid ρ) vir t.o)(h3:allQ (ysl (rid ρ) vir fr t.o s) t.f)(h4:allQ (ymc (rid ρ) vir fr t.o s) t.o):Weak [] s t:=ybfu ρ vir fr h1 h2 h3 h4 trivial
theorem yh(ρ:List (Nat×(Nat->Nm)))(vir:List Nat)(fr:List Nm){s t:SS}(h:yzk s.o fr/\ybfk (rid ρ) vir t.o/\allQ (ysl (rid ρ) vir fr t.o s) t.f/\allQ (ymc (rid ρ) vir fr t.o s) t.o):Weak [] s t:=ydac ρ vir fr h.1 h.2.1 h.2.2.1 h.2.2.2
theorem ybi{pr:List Nm}(ρ:List (Nat×(Nat->Nm)))(vir:List Nat)(fr:List Nm){s t:SS}(h:(yzk s.o fr/\ybfk (rid ρ) vir t.o/\allQ (ysl (rid ρ) vir fr t.o s) t.f/\allQ (ymc (rid ρ) vir fr t.o s) t.o)/\allQ (fun β=>live t.o β=true/\vir.elem β.1=false/\rid ρ β=β) pr):Weak pr s t:=ybfu ρ vir fr h.1.1 h.1.2.1 h.1.2.2.1 h.1.2.2.2 h.2
theorem ydu(o:Own):∀(n:Nat) (v:SV),ydn [] o n v=v
 |0,_=>rfl
 | n + 1,v=>by
   have ml:∀l:List SV,l.map (ydn [] o n)=l:=fun l=>by
    induction l with
    |nil=>rfl
    |cons x l ih=>rw[List.map_cons,ydu o n x,ih]
   cases v with
   |ag c=>show SV.ag _=_;rw[ml]
   |tp c=>show SV.tp _=_;rw[ml]
   |fn g a b=>show SV.fn g _ _=_;rw[ml,ml]
   |_=>rfl
theorem yhi(o:Own):∀(n:Nat) (v:SV),pok [] o n v↔True
 |0,_=>zF
 | n + 1,v=>by
   have ml:∀l:List SV,allP (pok [] o n) l:=fun l=>by
    induction l with
    |nil=>trivial
    |cons x l ih=>exact⟨(yhi o n x).2 trivial,ih⟩
   cases v with
   |ag c=>exact⟨fun _=>trivial,fun _=>ml _⟩
   |tp c=>exact⟨fun _=>trivial,fun _=>ml _⟩
   |fn g a b=>exact⟨fun _=>trivial,fun _=>⟨ml _,ml _⟩⟩
   |pt β i j=>exact⟨fun _=>trivial,fun _ h=>by cases h⟩
   |os β p k c=>exact⟨fun _=>trivial,fun _ h=>by cases h⟩
   |mr β=>exact⟨fun _=>trivial,fun _ h=>by cases h⟩
   |_=>exact zF
theorem ybwe{n:Nat}(fr:List Nm)(o:Own)(k:IntKind)(x:Int):ydn fr o (n+1) (.i k x)=(.i k x):=rfl
theorem ydwl{n:Nat}(fr:List Nm)(o:Own)(k:IntKind)(x:Int):pok fr o (n+1) (.i k x)=True:=rfl
theorem yczh{n:Nat}(fr:List Nm)(o:Own)(x:Bool):ydn fr o (n+1) (.b x)=(.b x):=rfl
theorem ydwa{n:Nat}(fr:List Nm)(o:Own)(x:Bool):pok fr o (n+1) (.b x)=True:=rfl
theorem ycxl{n:Nat}(fr:List Nm)(o:Own)(x:Value):ydn fr o (n+1) (.a x)=(.a x):=rfl
theorem ydvq{n:Nat}(fr:List Nm)(o:Own)(x:Value):pok fr o (n+1) (.a x)=True:=rfl
theorem ycft{n:Nat}(fr:List Nm)(o:Own)(z k:Nat)(g:Nat->List SV):ydn fr o (n+1) (.sl z k g)=(.sl z k g):=rfl
theorem ydhs{n:Nat}(fr:List Nm)(o:Own)(z k:Nat)(g:Nat->List SV):pok fr o (n+1) (.sl z k g)=True:=rfl
theorem ycdu{n:Nat}(fr:List Nm)(o:Own)(c:List SV):ydn fr o (n+1) (.rf c)=(.rf c):=rfl
theorem ydpq{n:Nat}(fr:List Nm)(o:Own)(c:List SV):pok fr o (n+1) (.rf c)=True:=rfl
theorem ycdf{n:Nat}(fr:List Nm)(o:Own)(Q:(Nat->Option ABlk)->Value->Prop)(v:SV):ydn fr o (n+1) (.ex Q v)=(.ex Q v):=rfl
theorem ydke{n:Nat}(fr:List Nm)(o:Own)(Q:(Nat->Option ABlk)->Value->Prop)(v:SV):pok fr o (n+1) (.ex Q v)=True:=rfl
theorem ychb{n:Nat}(fr:List Nm)(o:Own)(c:List SV):ydn fr o (n+1) (.ag c) = .ag (c.map (ydn fr o n)):=rfl
theorem ydpj{n:Nat}(fr:List Nm)(o:Own)(c:List SV):pok fr o (n+1) (.ag c)=allP (pok fr o n) c:=rfl
theorem ychv{n:Nat}(fr:List Nm)(o:Own)(c:List SV):ydn fr o (n+1) (.tp c) = .tp (c.map (ydn fr o n)):=rfl
theorem ydln{n:Nat}(fr:List Nm)(o:Own)(c:List SV):pok fr o (n+1) (.tp c)=allP (pok fr o n) c:=rfl
theorem ycec{n:Nat}(fr:List Nm)(o:Own)(g:FuncId)(a b:List SV):ydn fr o (n+1) (.fn g a b) = .fn g (a.map (ydn fr o n)) (b.map (ydn fr o n)):=rfl
theorem ydtk{n:Nat}(fr:List Nm)(o:Own)(g:FuncId)(a b:List SV):pok fr o (n+1) (.fn g a b)=(allP (pok fr o n) a/\allP (pok fr o n) b):=rfl
theorem ycgn{n:Nat}(fr:List Nm)(o:Own)(β:Nm)(i j:Nat):ydn fr o (n+1) (.pt β i j)=(if nmem fr β=true then(match lookO o β with|some b=>.rf ((b.g i).drop j)|none=>.bad)else .pt β i j):=rfl
theorem ydom{n:Nat}(fr:List Nm)(o:Own)(β:Nm)(i j:Nat):pok fr o (n+1) (.pt β i j)=(nmem fr β=true->(match lookO o β with|some b=>i<b.n/\j<=b.z|none=>False)):=rfl
theorem ycdw{n:Nat}(fr:List Nm)(o:Own)(β:Nm)(p k:Nat)(ap:Bool):ydn fr o (n+1) (.os β p k ap)=(if nmem fr β=true then(match lookO o β with|some b=>.sl b.z k (fun q=>b.g (p+q))|none=>.bad)else .os β p k ap):=rfl
theorem ydog{n:Nat}(fr:List Nm)(o:Own)(β:Nm)(p k:Nat)(ap:Bool):pok fr o (n+1) (.os β p k ap)=(nmem fr β=true->(match lookO o β with|some b=>p+k<=b.n|none=>False)):=rfl
theorem ycxf(k:IntKind)(x:Int):SV.cells (.i k x)=[(.i k x)]:=rfl
theorem ydfp(x:Bool):SV.cells (.b x)=[(.b x)]:=rfl
theorem ycyx(x:Value):SV.cells (.a x)=[(.a x)]:=rfl
theorem ycgv(z k:Nat)(g:Nat->List SV):SV.cells (.sl z k g)=[(.sl z k g)]:=rfl
theorem ycgp(c:List SV):SV.cells (.rf c)=[(.rf c)]:=rfl
theorem ychl(Q:(Nat->Option ABlk)->Value->Prop)(v:SV):SV.cells (.ex Q v)=[(.ex Q v)]:=rfl
theorem yceb(c:List SV):SV.cells (.tp c)=[(.tp c)]:=rfl
theorem ycgh(g:FuncId)(a b:List SV):SV.cells (.fn g a b)=[(.fn g a b)]:=rfl
theorem yccz(β:Nm)(i j:Nat):SV.cells (.pt β i j)=[(.pt β i j)]:=rfl
theorem ychx(β:Nm)(p k:Nat)(ap:Bool):SV.cells (.os β p k ap)=[(.os β p k ap)]:=rfl
theorem ydcl{e:Nat}(h:e<1000000000):mapE e=false:=decide_eq_false (by omega)
theorem ydet:mapE CU=true:=rfl
theorem ycew{n:Nat}(fr:List Nm)(o:Own)(β:Nm):ydn fr o (n+1) (.mr β) = .mr β:=rfl
theorem ydrn{n:Nat}(fr:List Nm)(o:Own)(β:Nm):pok fr o (n+1) (.mr β)=(nmem fr β=true->False):=rfl
theorem ycex(β:Nm):SV.cells (.mr β)=[(.mr β)]:=rfl
theorem ycic(c:List SV):SV.cells (.ag c)=c:=rfl
theorem ybf {pr:List Nm}{body:(Exit->SS->Prop)->SS->Prop}{K:Exit->SS->Prop}{s:SS}{σ:Type}(st:σ->SS) (inv:σ->Prop) (μ:σ->Nat) (x0:σ) (h0:inv x0) (hs:Weak pr s (st x0))
 (hstep:∀x,inv x->body (ybxu pr (fun n t=>∃y,inv y/\μ y=n/\t=st y) (μ x) K) (st x)):ycxb pr body K s :=
 ⟨fun n t=>∃y,inv y/\μ y=n/\t=st y,⟨μ x0,st x0,⟨x0,h0,rfl,rfl⟩,hs⟩,fun n t ⟨y,h1,h2,h3⟩=>by subst h2 h3;exact hstep y h1⟩
theorem yj{pr:List Nm}{σ:Type}{st:σ->SS}{inv:σ->Prop}{μ:σ->Nat}{n:Nat}{K:Exit->SS->Prop}{t:SS}(y:σ)(h1:inv y)(h2:μ y<n)(h3:Weak pr t (st y)):ybxu pr (fun n t=>∃y,inv y/\μ y=n/\t=st y) n K .normal t :=
 ⟨μ y,st y,h2,⟨y,h1,rfl,rfl⟩,h3⟩
def Returns(P:Program)(g:FuncId)(args:List SV)(r:SV):Prop:=Ct P g args (· = r)
theorem Returns.of{P:Program}{g:FuncId}{args:List SV}{r:SV}(h:Ct P g args fun x=>Sim x r):Returns P g args r:=fun G m us h1 h2 h3=>by
 obtain⟨v,m',x,a,b,c,d,e⟩:=h G m us h1 h2 h3;exact⟨v,m',r,a,b,c,rfl,d _ _ _ e⟩
theorem ybfq{z:Nat}{g:Nat->List SV}:Sim (.a (.slice none 0 0)) (.sl z 0 g):=fun F ω u h=>by cases h;exact .sl0 (.inl rfl)
theorem Returns.use{P:Program}{g:FuncId}{args:List SV}{r:SV}{Q:SV->Prop}(h:Returns P g args r)(hq:Q r):Ct P g args Q:=h.mono fun _ e=>e▸hq
def SimL:List SV->List SV->Prop
 |[],[]=>True
 |v::l,w::k=>Sim v w/\SimL l k
 |_,_=>False
theorem SimL.rvl{F:AM}{ω:Om}:∀{l k:List SV}{L:List Value},SimL l k->RVL F ω l L->RVL F ω k L
 |[],[],_,_,.nil=>.nil
 |_::_,_::_,_,h,.cons a b=>.cons (h.1 _ _ _ a) (h.2.rvl b)
 |[],_::_,_,h,_=>h.elim
 |_::_,[],_,h,_=>h.elim
theorem yckb{a b:List SV}(h:SimL a b)(h1:b.all one1=true):Sim (.rf a) (.rf b):=fun F ω u hr=>by
 obtain⟨bk,p,T,N,e,zz,L,rfl,g1,g2,g3,g4,_⟩:=hr.rf_inv;exact .rf g1 g2 g3 (h.rvl g4) h1
theorem ybao{a b:List SV}(h:SimL a b):Sim (.ag a) (.ag b):=fun F ω u hr=>by
 obtain⟨L,rfl,hl⟩:=hr.ag_inv;exact .ag (h.rvl hl)
theorem ywk{a b:List SV}(h:SimL a b):Sim (.tp a) (.tp b):=fun F ω u hr=>by
 obtain⟨L,rfl,hl⟩:=hr.tp_inv;exact .tp (h.rvl hl)
theorem ydo{z n:Nat}{g g':Nat->List SV}(h:∀k,k<n->SimL (g k) (g' k)/\(g' k).all one1=true):Sim (.sl z n g) (.sl z n g'):=by
 intro F ω u hr;rcases hr.sl_inv with⟨rfl,h0⟩|⟨bk,p,cp,T,N,e,zz,L,rfl,g1,g2,g3,g4,g5,g6,g7⟩
 .exact .sl0 h0
 .exact .sl g1 g2 g3 g4 g5 (fun k hk=>(h k hk).1.rvl (g6 k hk)) (fun k hk=>(h k hk).2)
theorem Ct.simL{P:Program}{g:FuncId}{as bs:List SV}{Q:SV->Prop}(h:Ct P g bs Q)(hs:SimL as bs):Ct P g as Q:=fun G m us h1 h2 h3=>h G m us h1 h2 (hs.rvl h3)
theorem Returns.useS{P:Program}{g:FuncId}{as bs:List SV}{r:SV}{Q:SV->Prop}(h:Returns P g bs r)(hs:SimL as bs)(hq:Q r):Ct P g as Q:=(h.use hq).simL hs
theorem yck {P:Program}{pc:List Nm}{mu:List FuncId}{d:Bool}{rs:List (Nat×SRec)}{s:SS}{i an:Nat}{dst:Option Nat}{nx:List (Nat×SRec)->SS->Prop}{g:FuncId}{xs:List SV}{pr:List Nm}{o:Own}{as:List SV}{Q:SV->Own->Prop}
 (hcm:Cm P g pr o as Q) (ρ:List (Nat×Nat)) (base:Nat) (keep kb:List Nat)
 (h:(xs.length=as.length/\ybfk (to1 ρ) [] o/\allQ (ysl (to1 ρ) [] [] o ⟨slots xs 0,s.o⟩) (slots as 0)/\allQ (ymc (to1 ρ) [] [] o ⟨slots xs 0,s.o⟩) o/\allQ (fun p=>(look ρ p.1).isSome=true) o)/\ycxp d an o rs=true /\
   (allQ (fun β=>live o β=true) pr/\allQ (fun p=>kb.elem p.2=false) ρ/\allQ (fun p=>cln (okN ρ pr kb) 5 p.2=true) (ycp s.f keep)/\allQ (fun p=>ybu (okN ρ pr kb) p.2) (ycj s.o kb)/\allQ (fun β=>okN ρ pr kb β=true) pc))
 (hq:∀r o',Q r o'->yif d rs s i dst nx ρ base keep kb r o'):ycde ⟨Ct P,Cm P,ItC P,pc,mu⟩ d rs s i an dst nx g xs:=by
 obtain⟨⟨h1,h2,h3,h4,h5⟩,h6,k1,k2,k3,k4,k5⟩:=h;exact⟨ρ,base,keep,kb,pr,o,as,h1,⟨trivial,h2,h3,h4⟩,ycu h5,h6,⟨k1,ycu k2,k3,k4,k5⟩,hcm.mono hq⟩
section
variable (C:CC) (K:Exit->SS->Prop) (s:SS)
def vN(b:SC):SS->Prop:=vc C b K
theorem ydvi(b:SC):vN C K b s=vc C b K s:=rfl
theorem ycyf:vc C .skip K s=K .normal s:=rfl
theorem ydgg(a b:SC):vc C (.seq a b) K s=vc C a (ybyj (vN C K b) K) s:=rfl
theorem ycxk(c:Operand)(a b:SC):vc C (.cond c a b) K s=ybuj (s.get c) c s (vN C K a) (vN C K b):=rfl
theorem yccw(id:Nat)(b:SC):vc C (.block id b) K s=vc C b (ybdb id K) s:=rfl
theorem ydfq(b:SC):vc C (.loop b) K s=ycxb C.pr (vc C b) K s:=rfl
theorem ycfe(g:Operand)(ps:List Nat)(a b:SC):vc C (.range g ps a b) K s=ycba C g ps (vcR a) (vcR b) K s:=rfl
theorem ydbt(id:Nat):vc C (.exit id) K s=K (.exit id) s:=rfl
theorem ydvb:vc C .no K s=False:=rfl
theorem ydjr:vc C .ret K s=K .ret s:=rfl
theorem ydrf(d:Bool)(ops:List SOper):vc C (.reg d ops) K s=ymp C d (K .normal) ops 0 [] s:=rfl
theorem ybbh(n:SS->Prop):ybyj n K .normal s=n s:=rfl
theorem ybqd(n:SS->Prop)(i:Nat):ybyj n K (.exit i) s=K (.exit i) s:=rfl
theorem ybwg(n:SS->Prop):ybyj n K .ret s=K .ret s:=rfl
theorem ybct(n:SS->Prop):ydat n .normal s=n s:=rfl
theorem yxx(t:SS)(fin:Own->Prop):yzz K t fin .normal s=fin s.o:=rfl
theorem yboa(t:SS)(fin:Own->Prop):yzz K t fin .ret s=K .ret ⟨t.f,s.o⟩:=rfl
theorem ybhq(t:SS)(fin:Own->Prop)(id:Nat):yzz K t fin (.exit id) s=K (.exit id) ⟨t.f,s.o⟩:=rfl
theorem yyw(id:Nat):ybdb id K .normal s=K .normal s:=rfl
theorem ybei(id i:Nat):ybdb id K (.exit i) s=if i=id then K .normal s else K (.exit i) s:=rfl
theorem ybnu(id:Nat):ybdb id K .ret s=K .ret s:=rfl
theorem ybmy(pr:List Nm)(I:Nat->SS->Prop)(n i:Nat):ybxu pr I n K (.exit i) s=K (.exit i) s:=rfl
theorem ycac(pr:List Nm)(I:Nat->SS->Prop)(n:Nat):ybxu pr I n K .ret s=K .ret s:=rfl
theorem ybhp(rs:List SR)(Q:SV->Prop):retK rs Q .normal s=resX s rs fun vs=>vok s.o 5 (yig vs)/\Q (view s.o 5 (yig vs)):=rfl
theorem ybfh(rs:List SR)(pr:List Nm)(Q:SV->Own->Prop):retM rs pr Q .normal s=resX s rs fun vs=>yfu pr s Q (yig vs):=rfl
theorem ycer(rs:List SR)(pr:List Nm)(Q:SV->Own->Prop):retM rs pr Q .ret s=resX s rs fun vs=>yfu pr s Q (yig vs):=rfl
theorem ycfx(rs:List SR)(Q:SV->Prop):retK rs Q .ret s=resX s rs fun vs=>vok s.o 5 (yig vs)/\Q (view s.o 5 (yig vs)):=rfl
end
section
variable (C:CC) (d:Bool) (K:SS->Prop)
def vO(l:List SOper)(i:Nat):List (Nat×SRec)->SS->Prop:=ymp C d K l i
theorem ydut(l:List SOper)(i:Nat)(rs:List (Nat×SRec))(s:SS):vO C d K l i rs s=ymp C d K l i rs s:=rfl
theorem yddk(i:Nat)(rs:List (Nat×SRec))(s:SS):ymp C d K [] i rs s=K s:=rfl
theorem ycds(op:SOp)(dst:Option Nat)(an:Nat)(l:List SOper)(i:Nat)(rs:List (Nat×SRec))(s:SS):ymp C d K (⟨op,dst,none,an⟩::l) i rs s=runO C d rs s i an dst (vO C d K l (i+1)) op:=rfl
theorem ybtv(op:SOp)(dst:Option Nat)(t:Nat)(w:Bool)(an:Nat)(l:List SOper)(i:Nat)(rs:List (Nat×SRec))(s:SS):ymp C d K (⟨op,dst,some (t,w),an⟩::l) i rs s=ysa C d rs s i an dst (vO C d K l (i+1)) op t w (look s.f t):=rfl
def gb(c:Bool)(A B:Prop):Prop:=(c=true->A)/\(c=false->B)
def gb2(c:Bool)(A B:Prop):Prop:=(c=false->A)/\(c=true->B)
theorem gb_t(A B:Prop):gb true A B=A:=propext ⟨fun h=>h.1 rfl,fun h=>⟨fun _=>h,fun q=>by cases q⟩⟩
theorem gb_f(A B:Prop):gb false A B=B:=propext ⟨fun h=>h.2 rfl,fun h=>⟨fun q=>(nomatch q),fun _=>h⟩⟩
theorem ydur(A B:Prop):gb2 true A B=B:=propext ⟨fun h=>h.2 rfl,fun h=>⟨fun q=>(nomatch q),fun _=>h⟩⟩
theorem ydvn(A B:Prop):gb2 false A B=A:=propext ⟨fun h=>h.1 rfl,fun h=>⟨fun _=>h,fun q=>by cases q⟩⟩
theorem gb_x(c:Bool)(A B:Prop):gb c A B=((c=true->A)/\(c=false->B)):=rfl
theorem yduz(c:Bool)(A B:Prop):gb2 c A B=((c=false->A)/\(c=true->B)):=rfl
theorem ydfs(x:Bool)(c:Operand)(s:SS)(a b:SS->Prop):ybuj (some (.b x)) c s a b=gb x (a (s.lit c true)) (b (s.lit c false)):=rfl
theorem ycdq(rs:List (Nat×SRec))(s:SS)(i an:Nat)(dst:Option Nat)(nx:List (Nat×SRec)->SS->Prop)(op:SOp)(t:Nat)(c:Bool):ysa C d rs s i an dst nx op t true (some (.b c))=gb c (runO C d rs (s.put (some t) (.b true)) i an dst nx op) (nx rs ((s.put (some t) (.b false)).put dst (.tp []))):=rfl
theorem ycia(rs:List (Nat×SRec))(s:SS)(i an:Nat)(dst:Option Nat)(nx:List (Nat×SRec)->SS->Prop)(op:SOp)(t:Nat)(c:Bool):ysa C d rs s i an dst nx op t false (some (.b c))=gb2 c (runO C d rs (s.put (some t) (.b false)) i an dst nx op) (nx rs ((s.put (some t) (.b true)).put dst (.tp []))):=rfl
theorem ybvu(rs:List (Nat×SRec))(s:SS)(i an:Nat)(dst:Option Nat)(nx:List (Nat×SRec)->SS->Prop)(op:SOp)(t:Nat)(w:Bool):ysa C d rs s i an dst nx op t w (some (.tp []))=nx rs (s.put dst (.tp [])):=rfl
end
theorem ycyo(dst:Option Nat)(old:Bool)(rs:List (Nat×SRec)):yjm false dst old rs=rs:=by unfold yjm;rfl
theorem ycxr(d:Bool)(dst:Option Nat)(rs:List (Nat×SRec)):yjm d dst true rs=rs:=by unfold yjm;cases d<;>cases dst<;>rfl
theorem yczg(d old:Bool)(rs:List (Nat×SRec)):yjm d none old rs=rs:=by unfold yjm;cases d<;>rfl
theorem yczm(t:Nat)(rs:List (Nat×SRec)):yjm true (some t) false rs=(1000+t,SRec.no)::rs:=rfl
theorem ycxt(d:Bool)(an:Nat)(r:SRec)(rs:List (Nat×SRec)):yccq d an false r rs=fits d an r rs:=rfl
theorem ydem(d:Bool)(an:Nat)(r:SRec)(rs:List (Nat×SRec)):yccq d an true r rs=(!d||rs.all fun q=>Nat.testBit an q.1 || !(ynj r q.2)):=rfl
theorem yjb {C:CC}{gx:Operand}{ps:List Nat}{a b:SC}{K:Exit->SS->Prop}{s:SS}{g:FuncId}{caps:List SV}{S:ItS}(hit:C.it g caps S) {σ:Type}(pr:List Nm) (st:Nat->σ->SS) (inv:Nat->σ->Prop) (x0:σ) (hx0:inv 0 x0)
 (hpr:(∀β∈C.pr,β∈pr)/\∀β∈S.pr,β∈pr) (h0:Weak C.pr s (st 0 x0)) (hg:∀x,(st 0 x).get gx=some (.fn g [] caps)) (hinv:∀k x,inv k x->k<=S.n->S.own k (st k x).o/\allQ (fun p=>cln (nmem pr) 5 p.2=true) (st k x).f)
 (hround:∀k x,inv k x->k<S.n->∃t1,puts (st k x) ps (S.el k)=some t1/\vc ⟨C.ct,C.cm,C.it,pr,C.mu⟩ a (ydat (vN ⟨C.ct,C.cm,C.it,pr,C.mu⟩ (yzz K (st k x) fun o=>S.own k o/\∃y,inv (k+1) y/\Weak pr ⟨(st k x).f,S.adv k o⟩ (st (k+1) y)) b)) t1)
 (hend:∀x,inv S.n x->K .normal (st S.n x)):ycba C gx ps (vcR a) (vcR b) K s:=by
 refine⟨pr,fun k t=>k<=S.n/\∃x,inv k x/\t=st k x,g,caps,S,hit,hpr,⟨st 0 x0,⟨Nat.zero_le _,x0,hx0,rfl⟩,h0⟩,?_,?_,?_,?_⟩
 .rintro t ⟨_,x,hx,rfl⟩;exact hg x
 .rintro k t ⟨hk,x,hx,rfl⟩;exact hinv k x hx hk
 .rintro k t ⟨_,x,hx,rfl⟩ hk;obtain⟨t1,h1,h2⟩:=hround k x hx hk;refine⟨t1,h1,?_⟩
  have e:(fun o=>S.own k o/\∃u,(k+1<=S.n/\∃x,inv (k+1) x/\u=st (k+1) x)/\Weak pr ⟨(st k x).f,S.adv k o⟩ u)=(fun o=>S.own k o/\∃y,inv (k+1) y/\Weak pr ⟨(st k x).f,S.adv k o⟩ (st (k+1) y)):=by
   funext o
   refine propext ⟨?_,?_⟩
   .rintro⟨h,u,⟨_,y,hy,rfl⟩,hw⟩;exact⟨h,y,hy,hw⟩
   .rintro⟨h,y,hy,hw⟩;exact⟨h,_,⟨hk,y,hy,rfl⟩,hw⟩
  rw[e];exact h2
 .rintro t ⟨_,x,hx,rfl⟩;exact hend x hx
theorem ydas{α:Type}{a:α}{p:α->Prop}:(∃v,some a=some v/\p v)↔p a:=⟨fun⟨_,h,q⟩=>by cases h;exact q,fun h=>⟨a,rfl,h⟩⟩
theorem ycxx{n:Nat}(k:IntKind)(x:Int):owned (n+1) (.i k x)=false:=rfl
theorem ycev{n:Nat}(k:IntKind)(x:Int):scalar (n+1) (.i k x)=true:=rfl
theorem ydis{n:Nat}(o:Own)(k:IntKind)(x:Int):view o (n+1) (.i k x)=(.i k x):=rfl
theorem ydwk{n:Nat}(o:Own)(k:IntKind)(x:Int):vok o (n+1) (.i k x)=True:=rfl
theorem ygh{n:Nat}(ρ:Nm->Nm)(k:IntKind)(x:Int):ren ρ (n+1) (.i k x)=(.i k x):=rfl
theorem ydvz{n:Nat}(D:Nm->Bool)(k:IntKind)(x:Int):cln D (n+1) (.i k x)=true:=rfl
theorem ydqy(k:IntKind)(x:Int):one1 (.i k x)=true:=rfl
theorem ydby{n:Nat}(x:Bool):owned (n+1) (.b x)=false:=rfl
theorem ycee{n:Nat}(x:Bool):scalar (n+1) (.b x)=true:=rfl
theorem ydia{n:Nat}(o:Own)(x:Bool):view o (n+1) (.b x)=(.b x):=rfl
theorem ydvl{n:Nat}(o:Own)(x:Bool):vok o (n+1) (.b x)=True:=rfl
theorem ybsp{n:Nat}(ρ:Nm->Nm)(x:Bool):ren ρ (n+1) (.b x)=(.b x):=rfl
theorem ydwc{n:Nat}(D:Nm->Bool)(x:Bool):cln D (n+1) (.b x)=true:=rfl
theorem ydin(x:Bool):one1 (.b x)=true:=rfl
theorem ycym{n:Nat}(x:Value):owned (n+1) (.a x)=false:=rfl
theorem ycct{n:Nat}(x:Value):scalar (n+1) (.a x)=true:=rfl
theorem ydqr{n:Nat}(o:Own)(x:Value):view o (n+1) (.a x)=(.a x):=rfl
theorem ydum{n:Nat}(o:Own)(x:Value):vok o (n+1) (.a x)=True:=rfl
theorem ydpl{n:Nat}(ρ:Nm->Nm)(x:Value):ren ρ (n+1) (.a x)=(.a x):=rfl
theorem ydux{n:Nat}(D:Nm->Bool)(x:Value):cln D (n+1) (.a x)=true:=rfl
theorem ydga(x:Value):one1 (.a x)=true:=rfl
theorem yced{n:Nat}(z k:Nat)(g:Nat->List SV):owned (n+1) (.sl z k g)=false:=rfl
theorem ybtr{n:Nat}(z k:Nat)(g:Nat->List SV):scalar (n+1) (.sl z k g)=false:=rfl
theorem ycwz{n:Nat}(o:Own)(z k:Nat)(g:Nat->List SV):view o (n+1) (.sl z k g)=(.sl z k g):=rfl
theorem ydgy{n:Nat}(o:Own)(z k:Nat)(g:Nat->List SV):vok o (n+1) (.sl z k g)=True:=rfl
theorem yvc{n:Nat}(ρ:Nm->Nm)(z k:Nat)(g:Nat->List SV):ren ρ (n+1) (.sl z k g)=(.sl z k g):=rfl
theorem ydso{n:Nat}(D:Nm->Bool)(z k:Nat)(g:Nat->List SV):cln D (n+1) (.sl z k g)=true:=rfl
theorem ydag(z k:Nat)(g:Nat->List SV):one1 (.sl z k g)=true:=rfl
theorem ycih{n:Nat}(c:List SV):owned (n+1) (.rf c)=false:=rfl
theorem ybtt{n:Nat}(c:List SV):scalar (n+1) (.rf c)=false:=rfl
theorem ydbh{n:Nat}(o:Own)(c:List SV):view o (n+1) (.rf c)=(.rf c):=rfl
theorem ydqa{n:Nat}(o:Own)(c:List SV):vok o (n+1) (.rf c)=True:=rfl
theorem ydtr{n:Nat}(ρ:Nm->Nm)(c:List SV):ren ρ (n+1) (.rf c)=(.rf c):=rfl
theorem ydsj{n:Nat}(D:Nm->Bool)(c:List SV):cln D (n+1) (.rf c)=true:=rfl
theorem ydex(c:List SV):one1 (.rf c)=true:=rfl
theorem ycid{n:Nat}(Q:(Nat->Option ABlk)->Value->Prop)(v:SV):owned (n+1) (.ex Q v)=false:=rfl
theorem ybsy{n:Nat}(Q:(Nat->Option ABlk)->Value->Prop)(v:SV):scalar (n+1) (.ex Q v)=false:=rfl
theorem yddn{n:Nat}(o:Own)(Q:(Nat->Option ABlk)->Value->Prop)(v:SV):view o (n+1) (.ex Q v) = .ex Q v:=rfl
theorem ydhv{n:Nat}(o:Own)(Q:(Nat->Option ABlk)->Value->Prop)(v:SV):vok o (n+1) (.ex Q v)=True:=rfl
theorem ydif{n:Nat}(ρ:Nm->Nm)(Q:(Nat->Option ABlk)->Value->Prop)(v:SV):ren ρ (n+1) (.ex Q v) = .ex Q v:=rfl
theorem ydpf{n:Nat}(D:Nm->Bool)(Q:(Nat->Option ABlk)->Value->Prop)(v:SV):cln D (n+1) (.ex Q v)=true:=rfl
theorem yczx(Q:(Nat->Option ABlk)->Value->Prop)(v:SV):one1 (.ex Q v)=one1 v:=rfl
theorem ybbx(Q:(Nat->Option ABlk)->Value->Prop)(v:SV):Sim (.ex Q v) v:=fun F ω u h=>by
 cases h with
 |ex _ _ h=>exact h.mono (Le.refl _) (yqi _)
theorem ycfr{n:Nat}(β:Nm):owned (n+1) (.mr β)=true:=rfl
theorem ybqw{n:Nat}(β:Nm):scalar (n+1) (.mr β)=false:=rfl
theorem ycya{n:Nat}(o:Own)(β:Nm):view o (n+1) (.mr β) = .bad:=rfl
theorem ydtt{n:Nat}(o:Own)(β:Nm):vok o (n+1) (.mr β)=False:=rfl
theorem ybjw{n:Nat}(ρ:Nm->Nm)(β:Nm):ren ρ (n+1) (.mr β) = .mr (ρ β):=rfl
theorem ydhc{n:Nat}(D:Nm->Bool)(β:Nm):cln D (n+1) (.mr β)=D β:=rfl
theorem ycyg(β:Nm):one1 (.mr β)=true:=rfl
theorem ybwb{n:Nat} :owned (n+1) .bad=true:=rfl
theorem ybpl{n:Nat} :scalar (n+1) .bad=false:=rfl
theorem yciq{n:Nat}(o:Own) :view o (n+1) .bad = .bad:=rfl
theorem ydbw{n:Nat}(o:Own) :vok o (n+1) .bad=False:=rfl
theorem yczb{n:Nat}(ρ:Nm->Nm) :ren ρ (n+1) .bad = .bad:=rfl
theorem yddt{n:Nat}(D:Nm->Bool) :cln D (n+1) .bad=true:=rfl
theorem ycej :one1 .bad=false:=rfl
theorem ychg{n:Nat}(c:List SV):owned (n+1) (.ag c)=c.any (owned n):=rfl
theorem ybxk{n:Nat}(c:List SV):scalar (n+1) (.ag c)=c.all (scalar n):=rfl
theorem yczy{n:Nat}(o:Own)(c:List SV):view o (n+1) (.ag c) = .ag (c.map (view o n)):=rfl
theorem ydkv{n:Nat}(o:Own)(c:List SV):vok o (n+1) (.ag c)=allP (vok o n) c:=rfl
theorem ywr{n:Nat}(ρ:Nm->Nm)(c:List SV):ren ρ (n+1) (.ag c) = .ag (c.map (ren ρ n)):=rfl
theorem ydgi{n:Nat}(D:Nm->Bool)(c:List SV):cln D (n+1) (.ag c)=c.all (cln D n):=rfl
theorem ydeu(c:List SV):one1 (.ag c)=false:=rfl
theorem ychf{n:Nat}(c:List SV):owned (n+1) (.tp c)=c.any (owned n):=rfl
theorem ybsh{n:Nat}(c:List SV):scalar (n+1) (.tp c)=c.all (scalar n):=rfl
theorem yczc{n:Nat}(o:Own)(c:List SV):view o (n+1) (.tp c) = .tp (c.map (view o n)):=rfl
theorem ydjj{n:Nat}(o:Own)(c:List SV):vok o (n+1) (.tp c)=allP (vok o n) c:=rfl
theorem yll{n:Nat}(ρ:Nm->Nm)(c:List SV):ren ρ (n+1) (.tp c) = .tp (c.map (ren ρ n)):=rfl
theorem ydrw{n:Nat}(D:Nm->Bool)(c:List SV):cln D (n+1) (.tp c)=c.all (cln D n):=rfl
theorem ydfg(c:List SV):one1 (.tp c)=false:=rfl
theorem yccu{n:Nat}(g:FuncId)(a b:List SV):owned (n+1) (.fn g a b)=(a.any (owned n)||b.any (owned n)):=rfl
theorem ybzp{n:Nat}(g:FuncId)(a b:List SV):scalar (n+1) (.fn g a b)=false:=rfl
theorem ydbk{n:Nat}(o:Own)(g:FuncId)(a b:List SV):view o (n+1) (.fn g a b) = .fn g (a.map (view o n)) (b.map (view o n)):=rfl
theorem ydrm{n:Nat}(o:Own)(g:FuncId)(a b:List SV):vok o (n+1) (.fn g a b)=(allP (vok o n) a/\allP (vok o n) b):=rfl
theorem ybua{n:Nat}(ρ:Nm->Nm)(g:FuncId)(a b:List SV):ren ρ (n+1) (.fn g a b) = .fn g (a.map (ren ρ n)) (b.map (ren ρ n)):=rfl
theorem ydkm{n:Nat}(D:Nm->Bool)(g:FuncId)(a b:List SV):cln D (n+1) (.fn g a b)=(a.all (cln D n)&&b.all (cln D n)):=rfl
theorem yczi(g:FuncId)(a b:List SV):one1 (.fn g a b)=true:=rfl
theorem yccy{n:Nat}(β:Nm)(i j:Nat):owned (n+1) (.pt β i j)=true:=rfl
theorem ycbb{n:Nat}(β:Nm)(i j:Nat):scalar (n+1) (.pt β i j)=false:=rfl
theorem yddp{n:Nat}(o:Own)(β:Nm)(i j:Nat):view o (n+1) (.pt β i j)=(match lookO o β with|some b=>.rf ((((b.g i).drop j)).map (view o n))|none=>.bad):=rfl
theorem ydhx{n:Nat}(o:Own)(β:Nm)(i j:Nat):vok o (n+1) (.pt β i j)=(match lookO o β with|some b=>(i<b.n/\j<=b.z)/\allP (vok o n) ((b.g i).drop j)|none=>False):=rfl
theorem ycbl{n:Nat}(ρ:Nm->Nm)(β:Nm)(i j:Nat):ren ρ (n+1) (.pt β i j) = .pt (ρ β) i j:=rfl
theorem ydkz{n:Nat}(D:Nm->Bool)(β:Nm)(i j:Nat):cln D (n+1) (.pt β i j)=D β:=rfl
theorem ycxe(β:Nm)(i j:Nat):one1 (.pt β i j)=true:=rfl
theorem ycfz{n:Nat}(β:Nm)(p k:Nat)(ap:Bool):owned (n+1) (.os β p k ap)=true:=rfl
theorem ybul{n:Nat}(β:Nm)(p k:Nat)(ap:Bool):scalar (n+1) (.os β p k ap)=false:=rfl
theorem ydfn{n:Nat}(o:Own)(β:Nm)(p k:Nat)(ap:Bool):view o (n+1) (.os β p k ap)=(match lookO o β with|some b=>.sl b.z k (fun q=>(b.g (p+q)).map (view o n))|none=>.bad):=rfl
theorem ydhw{n:Nat}(o:Own)(β:Nm)(p k:Nat)(ap:Bool):vok o (n+1) (.os β p k ap)=(match lookO o β with|some b=>p+k<=b.n/\∀q,q<k->allP (vok o n) (b.g (p+q))|none=>False):=rfl
theorem yfq{n:Nat}(ρ:Nm->Nm)(β:Nm)(p k:Nat)(ap:Bool):ren ρ (n+1) (.os β p k ap) = .os (ρ β) p k ap:=rfl
theorem ydsk{n:Nat}(D:Nm->Bool)(β:Nm)(p k:Nat)(ap:Bool):cln D (n+1) (.os β p k ap)=D β:=rfl
theorem yddr(β:Nm)(p k:Nat)(ap:Bool):one1 (.os β p k ap)=true:=rfl
end Sh
end
end Go.Proofs.YthclbjjgfcgbgaaGreatDoor
