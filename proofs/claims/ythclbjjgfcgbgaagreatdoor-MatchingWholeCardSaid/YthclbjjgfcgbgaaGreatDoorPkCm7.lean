/- Joined. -/
import Derived.Test.YthclbjjgfcgbgaaGreatDoorPkCm6
set_option linter.unusedSimpArgs false
set_option linter.unusedVariables false
open Nat renaming lt_of_lt_of_le->zA,le_max_right->zB,le_refl->zC,max->zD
open Iff renaming rfl->zF
open Go
namespace Go.Proofs.YthclbjjgfcgbgaaGreatDoor
section
namespace Sh
open Go Ev
inductive SR where
 |t (n:Nat)
 |c (a:Nat) (ag:Bool) (n:Nat)
noncomputable def cmpR(P:Program):List ResultVar->Option (List SR)
 |[]=>some []
 |.tmp t::l=>(cmpR P l).bind fun r=>some (.t t::r)
 |.cell a t::l=>(P.underlying t).bind fun d=>(P.info? t).bind fun i=>(cmpR P l).bind fun r=>some (.c a (isAggD d) i.size::r)
def resX(s:SS):List SR->(List SV->Prop)->Prop
 |[],K=>K []
 | .t n::l,K=>match look s.f n with
   |some v=>resX s l fun vs=>K (v::vs)
   |none=>False
 | .c a ag n::l,K=>match look s.f a with
   | some p=>(match yvz s ag n p with
     |some r=>r.c/\resX s l fun vs=>K (r.v::vs)
     |none=>False)
   |none=>False
def yim:List SV->SV
 |[v]=>v
 |vs=>.tp vs
def retK(rs:List SR)(Q:SV->Prop):Exit->SS->Prop
 |.normal,s=>resX s rs fun vs=>vok s.o 5 (yim vs)/\Q (view s.o 5 (yim vs))
 |.ret,s=>resX s rs fun vs=>vok s.o 5 (yim vs)/\Q (view s.o 5 (yim vs))
 |_,_=>False
def yga(pr:List Nm)(s:SS)(Q:SV->Own->Prop)(v:SV):Prop :=
 ∃r o',Weak pr ⟨[(0,v)],s.o⟩ ⟨[(0,r)],o'⟩/\(cln (live o') 5 r=true/\allQ (fun p=>yby (live o') p.2) o'/\allQ (fun β=>live o' β=true) pr)/\Q r o'
def retM(rs:List SR)(pr:List Nm)(Q:SV->Own->Prop):Exit->SS->Prop
 |.normal,s=>resX s rs fun vs=>yga pr s Q (yim vs)
 |.ret,s=>resX s rs fun vs=>yga pr s Q (yim vs)
 |_,_=>False
section
variable {P:Program}{lo nt:Nat}{F F':AM}{ω ω':Om}{s:SS}{f f':Fr}{m m':Mem}
theorem ybbg (hc:Conc lo F ω s f m):∀{l:List ResultVar}{rs:List SR}{K:List SV->Prop},cmpR P l=some rs->resX s rs K->∃vs us,resA P m f l=some us/\RVL F ω vs us/\K vs
 |[],rs,K,h,hk=>by cases h;exact⟨[],[],rfl,.nil,hk⟩
 | .tmp t::l,rs,K,h,hk=>by
   obtain⟨r,h1,h⟩:=bind_some h;cases h
   unfold resX at hk;split at hk
   .rename_i v hv
    obtain⟨vs,us,g1,g2,g3⟩:=ybbg hc h1 hk;obtain⟨u,e1,e2⟩:=hc.fr t v hv;refine⟨v::vs,u::us,?_,.cons e2 g2,g3⟩;unfold resA;rw[e1,g1]
   .cases hk
 | .cell a t :: l,rs,K,h,hk=>by
   obtain⟨d,h1,h⟩:=bind_some h;obtain⟨i,h2,h⟩:=bind_some h;obtain⟨r,h3,h⟩:=bind_some h;cases h
   unfold resX at hk;split at hk
   .rename_i p hp
    split at hk
    .rename_i q hq
     obtain⟨hqc,hk⟩:=hk;obtain⟨vs,us,g1,g2,g3⟩:=ybbg hc h3 hk;obtain⟨u,e1,e2⟩:=hc.fr a p hp
     let o : Oper := ⟨none, .load t (.tmp a), 0, "", #[], none⟩
     obtain⟨r0,ω',k1,k2,k3,k4,_⟩:=ycve (P:=P) (o:=o) hc rfl h1 h2 (x:=.tmp a) hp hq hqc;have hev:ob (f.get (.tmp a)) (evLoad P t m)=some r0:=k1;have hfa:f.get (.tmp a)=some u:=e1;rw[hfa]at hev
     have hu:∃ad w,u = .pointer (some ad)/\loadA P m t ad=some w/\r0=⟨w,.none,[ad.block]⟩:=by
      change evLoad P t m u=some r0 at hev
      unfold evLoad at hev;split at hev
      .rename_i ad
       obtain⟨w,w1,w2⟩:=yg hev;cases w2
       exact⟨ad,w,rfl,w1,rfl⟩
      .cases hev
     obtain⟨ad,w,rfl,w1,rfl⟩:=hu
     have hω : RV F ω q.v w:=by
      unfold yvz at hq;split at hq
      .split at hq
       .rename_i v hv
        cases hq
        obtain⟨bk,y,T,N,e',zz,L,hpp,q1,q2,q3,q4,_⟩:=e2.rf_inv;cases hpp
        obtain⟨z1,z2⟩:=yuj hv q4;obtain⟨w',w1',w2'⟩:=ysq (F:=F) h1 h2 (hc.sub _ _ q1) (q:=y) q2 q3 z1 z2;rw[Nat.add_zero]at w1';rw[w1]at w1';cases w1'
        exact w2'.mono (Le.refl _) (yqo _)
       .cases hq
      .rename_i β ai j
       split at hq
       .rename_i b hb
        split at hq
        .split at hq
         .rename_i v hv
          cases hq
          obtain⟨k,z,hk',hpp⟩:=e2.pt_inv;cases hpp
          obtain⟨rfl,T,L,g1',g2'⟩:=hc.ownAt hb hk' (.inl (by have hqc':ai<b.n:=hqc;omega))
          obtain⟨l1,l2,_,l3⟩:=g2' ai hqc;obtain⟨z1,z2⟩:=yuj hv l2;have hqc':ai<b.n:=hqc;obtain⟨w',w1',w2'⟩:=ysq (F:=F) h1 h2 g1' (q:=ai*b.z) (L:=L ai) (by rw[l1];have:=ykc (z:=b.z) hqc';omega) (fun y hy=>l3 y (by omega)) z1 z2
          rw[w1]at w1';cases w1'
          exact w2'
         .cases hq
        .cases hq
       .cases hq
      .cases hq
     refine⟨q.v::vs,w::us,?_,.cons hω g2,g3⟩;unfold resA;have e1':f.t.get a=some (.pointer (some ad)):=e1;rw[e1',g1];simp only;rw[w1]
    .cases hk
   .cases hk
theorem ybmq{vs:List SV}{us:List Value}(h:RVL F ω vs us):RV F ω (yim vs) (oneOrTuple us):=by
 cases h with
 |nil=>exact .tp .nil
 | cons a b =>
   cases b with
   |nil=>exact a
   |cons c d=>exact .tp (.cons a (.cons c d))
theorem ycpb(hnn:ypr P){g:FuncId}{fn:Func}{c:Code}(hg:P.funcs[g]?=some fn)(hb:fn.body=some c){us ws:List Value}{e:Exit}{m1:Mem}(he:e = .normal\/e = .ret)(h:yda P c ⟨zD us.length fn.ntmps,tOf us⟩ (enterM m) e f' m1)(hr:resA P m1 f' fn.results.toList=some ws):ycb P (.call g us m) (.call (oneOrTuple ws) m1):=by
 intro hw;refine⟨⟨h.1.ext.next,h.1.ext.dom,h.1.ext.old,h.1.ext.wf⟩,fun φ M w args' hR hs hv hfr=>.inl ⟨ybx hnn hg hb _ _,?_⟩⟩
 have key:Calls P g args'.toArray w (fun e w'=>∃v',e = .returned v'/\∃φ' M',Ev.Good φ M w (enterM m) m1 φ' M' w'/\VR φ' (oneOrTuple ws) v'):=by
  refine callsIn_wide.1 (callsIn_of_wp_marks (n:=0) hg hb trivial ?_);refine wpIn_mono (h.2 φ M w _ none (InR.none _) hR hs (yug hv fn.ntmps) hfr) ?_;rintro e' a' w' ⟨rfl,φ',M',hgd,hf',hd⟩;obtain⟨ms,hms,hmk⟩:=hd;have hl:=yqj hgd hf' hr hmk;rw[show ms=a'.defers by rw[hms];simp]at hl
  rcases he with rfl|rfl
  .exact hl
  .exact hl
 refine key.mono ?_;rintro e' w' ⟨v',rfl,φ',M',hgd,hvr⟩;exact⟨v',rfl,φ',M',⟨hgd.le,hgd.out,hgd.rel,hgd.sub,hgd.frame,hgd.wg⟩,hvr⟩
theorem ycgd (hmix:P.follows .mixedOrders=true) (hnn:ypr P) {g:FuncId}{fn:Func}{c:Code}{sc:SC}{rs:List SR}(hg:P.funcs[g]?=some fn) (hb:fn.body=some c) (hcmp:cmp P fn.ntmps c=some sc) (hrs:cmpR P fn.results.toList=some rs)
 {mu:List FuncId}{args:List SV}{Q:SV->Prop}(h:vc ⟨Ct P,Cm P,ItC P,[],mu⟩ sc (retK rs Q) ⟨slots args 0,[]⟩):Ct P g args Q:=by
 classical
 intro G m us hw hle hargs
 have hc0:Conc m.next G om0 ⟨slots args 0,[]⟩ ⟨zD us.length fn.ntmps,tOf us⟩ (enterM m):=by
  refine⟨hw,zC _,zC _,hle,fun β b h=>(by cases h),fun β _=>rfl,fun β γ k z k' z' h=>(by cases h),fun β k z h=>(by cases h),fun t v hv=>?_⟩
  obtain⟨_,h2⟩:=yll hv;obtain⟨u,h3,h4⟩:=hargs.get h2;exact⟨u,by rw[ydf];simpa using h3,h4⟩
 obtain⟨e,f',m1,s',F',ω',t1,t2,t3,t4,t5⟩:=yxv hmix c sc hcmp _ _ _ m.next G om0 _ (enterM m) h hc0 (zB _ _)
 have hres:(e = .normal\/e = .ret)/\resX s' rs fun vs=>vok s'.o 5 (yim vs)/\Q (view s'.o 5 (yim vs)):=by
  cases e with
  |normal=>exact⟨.inl rfl,t3⟩
  |ret=>exact⟨.inr rfl,t3⟩
  |_=>cases t3
 obtain⟨he,hres⟩:=hres;obtain⟨vs,ws,r1,r2,r3,r4⟩:=ybbg t2 hrs hres;have hs0:ycb P (.call g us m) (.call (oneOrTuple ws) m1):=ycpb hnn hg hb he t1 r1;have hm1:m.next<=m1.low:=t2.low
 have hold:∀{i x},m.b.get i=some x->i<m.next:=fun {i x} q=>hw i x q
 have hrv:=ybmq r2;have hview:∀H:AM,Le F' H->(∀β k z,ω' β=some (some (k,z))->∀b,m1.b.get k=some b->H k=some b)->RV H om0 (view s'.o 5 (yim vs)) (oneOrTuple ws):=fun H h1 h2=>ykj t2 h1 h2 hrv r3
 .have hs1:ycb P (.call g us m) (.call (oneOrTuple ws) ⟨m1.next,ylv m.b m1.b,m1.low⟩):=by
   intro hwm;obtain⟨ext,hcall⟩:=hs0 hwm
   have hget:∀{i x},(ylv m.b m1.b).get i=some x->m.b.get i=some x\/m1.b.get i=some x:=fun {i x} q=>by
    rw[ygh]at q;split at q
    .rename_i y hy;cases q;exact .inl hy
    .exact .inr q
   refine⟨⟨ext.next,fun i b hq=>?_,fun i b h1 h2 hq=>?_,fun i b hq=>?_⟩,fun φ M w args' hR hs ha hf=>?_⟩
   .rcases hget hq with q|q
    .exact .inl ⟨b,q⟩
    .exact ext.dom i b q
   .rcases hget hq with q|q
    .exact q
    .exact ext.old i b h1 h2 q
   .rcases hget hq with q|q
    .exact zA (hold q) ext.next
    .exact ext.wf i b q
   .refine(hcall φ M w args' hR hs ha hf).mono ?_;rintro e' w' ⟨v',rfl,φ',M',hgd,hv⟩;refine⟨v',rfl,φ',M',⟨hgd.le,hgd.out,hgd.rel,fun i b hq=>?_,hgd.frame,hgd.wg⟩,hv⟩;rcases hget hq with q|q
    .have hi:=hold q;rw[hgd.frame i (fun z=>by omega) (.inr (zA hi hm1))]
     exact hs i b q
    .exact hgd.sub i b q
  have hnone:∀{i},m.next<=i->m.b.get i=none:=fun {i} q=>by
   cases hh:m.b.get i with
   |none=>rfl
   |some x=>have:=hold hh;omega
  refine⟨_,_,view s'.o 5 (yim vs),hs1,hm1,fun i b hq=>?_,r4,hview _ (fun i b hq=>?_) (fun β k z hk b hq=>?_)⟩
  .show(ylv m.b m1.b).get i=some b;rw[ygh,hq]
  .unfold frsh;rcases t5.2.1 i b hq with q|q
   .rw[if_neg (by have:=hold (hle i b q);omega)];exact q
   .rw[if_pos q];show(ylv m.b m1.b).get i=some b;rw[ygh,hnone q];exact t2.sub i b hq
  .unfold frsh;have:=(t2.apart β k z hk).2.1;rw[if_pos this];show(ylv m.b m1.b).get k=some b;rw[ygh,hnone this];exact hq
theorem ybuk (hmix:P.follows .mixedOrders=true) (hnn:ypr P) {g:FuncId}{fn:Func}{c:Code}{sc:SC}{rs:List SR}(hg:P.funcs[g]?=some fn) (hb:fn.body=some c) (hcmp:cmp P fn.ntmps c=some sc) (hrs:cmpR P fn.results.toList=some rs)
 {pr:List Nm}{mu:List FuncId}{o:Own}{args:List SV}{Q:SV->Own->Prop}(h:vc ⟨Ct P,Cm P,ItC P,pr,mu⟩ sc (retM rs pr Q) ⟨slots args 0,o⟩):Cm P g pr o args Q:=by
 classical
 intro lo G ω f m us hc hargs
 have hc0:Conc lo G ω ⟨slots args 0,o⟩ ⟨zD us.length fn.ntmps,tOf us⟩ (enterM m):=by
  refine⟨hc.wf,hc.nxt,hc.nxt,hc.sub,hc.own,hc.dom,hc.inj,hc.apart,fun t v hv=>?_⟩;obtain⟨_,h2⟩:=yll hv;obtain⟨u,h3,h4⟩:=hargs.get h2;exact⟨u,by rw[ydf];simpa using h3,h4⟩
 obtain⟨e,f',m1,s',F',ω',t1,t2,t3,t4,t5⟩:=yxv hmix c sc hcmp _ _ _ lo G ω _ (enterM m) h hc0 (zB _ _)
 have hres:(e = .normal\/e = .ret)/\resX s' rs fun vs=>yga pr s' Q (yim vs):=by
  cases e with
  |normal=>exact⟨.inl rfl,t3⟩
  |ret=>exact⟨.inr rfl,t3⟩
  |_=>cases t3
 obtain⟨he,hres⟩:=hres;obtain⟨vs,ws,r1,r2,r,o',hwk,hcl,hq⟩:=ybbg t2 hrs hres;have hrv:=ybmq r2
 have hc1:Conc lo F' ω' ⟨[(0,yim vs)],s'.o⟩ ⟨1,tOf [oneOrTuple ws]⟩ m1:=⟨t2.wf,t2.low,t2.nxt,t2.sub,t2.own,t2.dom,t2.inj,t2.apart,fun t v hv=>by
  have hv:(if 0=t then some (yim vs)else none)=some v:=hv
  split at hv
  .rename_i q;subst q;cases hv;exact⟨oneOrTuple ws,by rw[ydf];rfl,hrv⟩
  .cases hv⟩
 obtain⟨ω2,F2,w1,w2,hc2,w3⟩:=hwk lo F' ω' _ m1 hc1;obtain⟨u,q1,q2⟩:=hc2.fr 0 r (by show(if 0=0 then some r else none)=some r;rw[if_pos rfl])
 rw[ydf]at q1;cases q1
 have hG:=t5.trans ⟨w1,w2,w3⟩;exact⟨_,m1,r,o',F2,ω2,ycpb hnn hg hb he t1 r1,⟨hc2.wf,hc2.low,hc2.nxt,hc2.sub,hc2.own,hc2.dom,hc2.inj,hc2.apart,fun t v hv=>by cases hv⟩,q2,hG.1,hG.2.1,hG.2.2,hcl,hq⟩
end
end Sh
end
section
namespace Sh
open Go Ev
theorem Sim.refl(v:SV):Sim v v:=fun _ _ _ h=>h
theorem yc(v:SV):Sim v v↔True:=⟨fun _=>trivial,fun _=>Sim.refl v⟩
theorem yx{k k':IntKind}{a b:Int}:Sim (.i k a) (.i k' b)↔k=k'/\a=b :=
 ⟨fun h=>by have:=h (fun _=>none) om0 _ .i;cases this;exact⟨rfl,rfl⟩,fun h=>by rw[h.1,h.2];exact Sim.refl _⟩
theorem yvd{a b:Bool}:Sim (.b a) (.b b)↔a=b :=
 ⟨fun h=>by have:=h (fun _=>none) om0 _ .b;cases this;rfl,fun h=>by rw[h];exact Sim.refl _⟩
theorem ybce{z n:Nat}{g g':Nat->List SV}(h:∀k,k<n->g k=g' k):Sim (.sl z n g) (.sl z n g'):=by
 intro F ω u hr;rcases hr.sl_inv with⟨rfl,h0⟩|⟨bk,p,cp,T,N,e,zz,L,rfl,g1,g2,g3,g4,g5,g6,g7⟩
 .exact .sl0 h0
 .exact .sl g1 g2 g3 g4 g5 (fun k hk=>h k hk▸g6 k hk) (fun k hk=>h k hk▸g7 k hk)
theorem ybgv {pr:List Nm}(ρ:List (Nat×(Nat->Nm))) (vir:List Nat) (fr:List Nm) {s t:SS}(h1:yyn s.o fr) (h2:ybgz (rid ρ) vir t.o) (h3:allQ (yub (rid ρ) vir fr t.o s) t.f) (h4:allQ (ymm (rid ρ) vir fr t.o s) t.o)
 (hp:allQ (fun β=>live t.o β=true/\vir.elem β.1=false/\rid ρ β=β) pr):Weak pr s t:=WeakBy.weak ⟨h1,h2,h3,h4⟩ hp
theorem ydco(ρ:List (Nat×(Nat->Nm)))(vir:List Nat)(fr:List Nm){s t:SS}(h1:yyn s.o fr)(h2:ybgz (rid ρ) vir t.o)(h3:allQ (yub (rid ρ) vir fr t.o s) t.f)(h4:allQ (ymm (rid ρ) vir fr t.o s) t.o):Weak [] s t:=ybgv ρ vir fr h1 h2 h3 h4 trivial
theorem yh(ρ:List (Nat×(Nat->Nm)))(vir:List Nat)(fr:List Nm){s t:SS}(h:yyn s.o fr/\ybgz (rid ρ) vir t.o/\allQ (yub (rid ρ) vir fr t.o s) t.f/\allQ (ymm (rid ρ) vir fr t.o s) t.o):Weak [] s t:=ydco ρ vir fr h.1 h.2.1 h.2.2.1 h.2.2.2
theorem ybi{pr:List Nm}(ρ:List (Nat×(Nat->Nm)))(vir:List Nat)(fr:List Nm){s t:SS}(h:(yyn s.o fr/\ybgz (rid ρ) vir t.o/\allQ (yub (rid ρ) vir fr t.o s) t.f/\allQ (ymm (rid ρ) vir fr t.o s) t.o)/\allQ (fun β=>live t.o β=true/\vir.elem β.1=false/\rid ρ β=β) pr):Weak pr s t:=ybgv ρ vir fr h.1.1 h.1.2.1 h.1.2.2.1 h.1.2.2.2 h.2
theorem yec(o:Own):∀(n:Nat) (v:SV),ydu [] o n v=v
 |0,_=>rfl
 | n + 1,v=>by
   have ml:∀l:List SV,l.map (ydu [] o n)=l:=fun l=>by
    induction l with
    |nil=>rfl
    |cons x l ih=>rw[List.map_cons,yec o n x,ih]
   cases v with
   |ag c=>show SV.ag _=_;rw[ml]
   |tp c=>show SV.tp _=_;rw[ml]
   |fn g a b=>show SV.fn g _ _=_;rw[ml,ml]
   |_=>rfl
theorem yhn(o:Own):∀(n:Nat) (v:SV),pok [] o n v↔True
 |0,_=>zF
 | n + 1,v=>by
   have ml:∀l:List SV,allP (pok [] o n) l:=fun l=>by
    induction l with
    |nil=>trivial
    |cons x l ih=>exact⟨(yhn o n x).2 trivial,ih⟩
   cases v with
   |ag c=>exact⟨fun _=>trivial,fun _=>ml _⟩
   |tp c=>exact⟨fun _=>trivial,fun _=>ml _⟩
   |fn g a b=>exact⟨fun _=>trivial,fun _=>⟨ml _,ml _⟩⟩
   |pt β i j=>exact⟨fun _=>trivial,fun _ h=>by cases h⟩
   |os β p k c=>exact⟨fun _=>trivial,fun _ h=>by cases h⟩
   |mr β=>exact⟨fun _=>trivial,fun _ h=>by cases h⟩
   |_=>exact zF
theorem ycer{n:Nat}(fr:List Nm)(o:Own)(k:IntKind)(x:Int):ydu fr o (n+1) (.i k x)=(.i k x):=rfl
theorem yebl{n:Nat}(fr:List Nm)(o:Own)(k:IntKind)(x:Int):pok fr o (n+1) (.i k x)=True:=rfl
theorem ydfz{n:Nat}(fr:List Nm)(o:Own)(x:Bool):ydu fr o (n+1) (.b x)=(.b x):=rfl
theorem yeai{n:Nat}(fr:List Nm)(o:Own)(x:Bool):pok fr o (n+1) (.b x)=True:=rfl
theorem ydeh{n:Nat}(fr:List Nm)(o:Own)(x:Value):ydu fr o (n+1) (.a x)=(.a x):=rfl
theorem yebb{n:Nat}(fr:List Nm)(o:Own)(x:Value):pok fr o (n+1) (.a x)=True:=rfl
theorem ycgj{n:Nat}(fr:List Nm)(o:Own)(z k:Nat)(g:Nat->List SV):ydu fr o (n+1) (.sl z k g)=(.sl z k g):=rfl
theorem ydze{n:Nat}(fr:List Nm)(o:Own)(z k:Nat)(g:Nat->List SV):pok fr o (n+1) (.sl z k g)=True:=rfl
theorem yclw{n:Nat}(fr:List Nm)(o:Own)(c:List SV):ydu fr o (n+1) (.rf c)=(.rf c):=rfl
theorem ydku{n:Nat}(fr:List Nm)(o:Own)(c:List SV):pok fr o (n+1) (.rf c)=True:=rfl
theorem ycio{n:Nat}(fr:List Nm)(o:Own)(Q:(Nat->Option ABlk)->Value->Prop)(v:SV):ydu fr o (n+1) (.ex Q v)=(.ex Q v):=rfl
theorem ydyf{n:Nat}(fr:List Nm)(o:Own)(Q:(Nat->Option ABlk)->Value->Prop)(v:SV):pok fr o (n+1) (.ex Q v)=True:=rfl
theorem ycik{n:Nat}(fr:List Nm)(o:Own)(c:List SV):ydu fr o (n+1) (.ag c) = .ag (c.map (ydu fr o n)):=rfl
theorem ydob{n:Nat}(fr:List Nm)(o:Own)(c:List SV):pok fr o (n+1) (.ag c)=allP (pok fr o n) c:=rfl
theorem ycft{n:Nat}(fr:List Nm)(o:Own)(c:List SV):ydu fr o (n+1) (.tp c) = .tp (c.map (ydu fr o n)):=rfl
theorem ydoz{n:Nat}(fr:List Nm)(o:Own)(c:List SV):pok fr o (n+1) (.tp c)=allP (pok fr o n) c:=rfl
theorem ychg{n:Nat}(fr:List Nm)(o:Own)(g:FuncId)(a b:List SV):ydu fr o (n+1) (.fn g a b) = .fn g (a.map (ydu fr o n)) (b.map (ydu fr o n)):=rfl
theorem ydzd{n:Nat}(fr:List Nm)(o:Own)(g:FuncId)(a b:List SV):pok fr o (n+1) (.fn g a b)=(allP (pok fr o n) a/\allP (pok fr o n) b):=rfl
theorem ycli{n:Nat}(fr:List Nm)(o:Own)(β:Nm)(i j:Nat):ydu fr o (n+1) (.pt β i j)=(if nmem fr β=true then(match lookO o β with|some b=>.rf ((b.g i).drop j)|none=>.bad)else .pt β i j):=rfl
theorem ydqi{n:Nat}(fr:List Nm)(o:Own)(β:Nm)(i j:Nat):pok fr o (n+1) (.pt β i j)=(nmem fr β=true->(match lookO o β with|some b=>i<b.n/\j<=b.z|none=>False)):=rfl
theorem yclo{n:Nat}(fr:List Nm)(o:Own)(β:Nm)(p k:Nat)(ap:Bool):ydu fr o (n+1) (.os β p k ap)=(if nmem fr β=true then(match lookO o β with|some b=>.sl b.z k (fun q=>b.g (p+q))|none=>.bad)else .os β p k ap):=rfl
theorem ydqm{n:Nat}(fr:List Nm)(o:Own)(β:Nm)(p k:Nat)(ap:Bool):pok fr o (n+1) (.os β p k ap)=(nmem fr β=true->(match lookO o β with|some b=>p+k<=b.n|none=>False)):=rfl
theorem ydia(k:IntKind)(x:Int):SV.cells (.i k x)=[(.i k x)]:=rfl
theorem ydkn(x:Bool):SV.cells (.b x)=[(.b x)]:=rfl
theorem yddn(x:Value):SV.cells (.a x)=[(.a x)]:=rfl
theorem ycln(z k:Nat)(g:Nat->List SV):SV.cells (.sl z k g)=[(.sl z k g)]:=rfl
theorem ycgl(c:List SV):SV.cells (.rf c)=[(.rf c)]:=rfl
theorem ychy(Q:(Nat->Option ABlk)->Value->Prop)(v:SV):SV.cells (.ex Q v)=[(.ex Q v)]:=rfl
theorem ycjk(c:List SV):SV.cells (.tp c)=[(.tp c)]:=rfl
theorem ycgr(g:FuncId)(a b:List SV):SV.cells (.fn g a b)=[(.fn g a b)]:=rfl
theorem yclp(β:Nm)(i j:Nat):SV.cells (.pt β i j)=[(.pt β i j)]:=rfl
theorem ycgm(β:Nm)(p k:Nat)(ap:Bool):SV.cells (.os β p k ap)=[(.os β p k ap)]:=rfl
theorem ydhf{e:Nat}(h:e<1000000000):mapE e=false:=decide_eq_false (by omega)
theorem ydjm:mapE CU=true:=rfl
theorem ycjg{n:Nat}(fr:List Nm)(o:Own)(β:Nm):ydu fr o (n+1) (.mr β) = .mr β:=rfl
theorem ydsw{n:Nat}(fr:List Nm)(o:Own)(β:Nm):pok fr o (n+1) (.mr β)=(nmem fr β=true->False):=rfl
theorem ycic(β:Nm):SV.cells (.mr β)=[(.mr β)]:=rfl
theorem yclf(c:List SV):SV.cells (.ag c)=c:=rfl
theorem ybf {pr:List Nm}{body:(Exit->SS->Prop)->SS->Prop}{K:Exit->SS->Prop}{s:SS}{σ:Type}(st:σ->SS) (inv:σ->Prop) (μ:σ->Nat) (x0:σ) (h0:inv x0) (hs:Weak pr s (st x0))
 (hstep:∀x,inv x->body (ybwi pr (fun n t=>∃y,inv y/\μ y=n/\t=st y) (μ x) K) (st x)):ydhu pr body K s :=
 ⟨fun n t=>∃y,inv y/\μ y=n/\t=st y,⟨μ x0,st x0,⟨x0,h0,rfl,rfl⟩,hs⟩,fun n t ⟨y,h1,h2,h3⟩=>by subst h2 h3;exact hstep y h1⟩
theorem yj{pr:List Nm}{σ:Type}{st:σ->SS}{inv:σ->Prop}{μ:σ->Nat}{n:Nat}{K:Exit->SS->Prop}{t:SS}(y:σ)(h1:inv y)(h2:μ y<n)(h3:Weak pr t (st y)):ybwi pr (fun n t=>∃y,inv y/\μ y=n/\t=st y) n K .normal t :=
 ⟨μ y,st y,h2,⟨y,h1,rfl,rfl⟩,h3⟩
def Returns(P:Program)(g:FuncId)(args:List SV)(r:SV):Prop:=Ct P g args (· = r)
theorem Returns.of{P:Program}{g:FuncId}{args:List SV}{r:SV}(h:Ct P g args fun x=>Sim x r):Returns P g args r:=fun G m us h1 h2 h3=>by
 obtain⟨v,m',x,a,b,c,d,e⟩:=h G m us h1 h2 h3;exact⟨v,m',r,a,b,c,rfl,d _ _ _ e⟩
theorem ybkd{z:Nat}{g:Nat->List SV}:Sim (.a (.slice none 0 0)) (.sl z 0 g):=fun F ω u h=>by cases h;exact .sl0 (.inl rfl)
theorem Returns.use{P:Program}{g:FuncId}{args:List SV}{r:SV}{Q:SV->Prop}(h:Returns P g args r)(hq:Q r):Ct P g args Q:=h.mono fun _ e=>e▸hq
def SimL:List SV->List SV->Prop
 |[],[]=>True
 |v::l,w::k=>Sim v w/\SimL l k
 |_,_=>False
theorem SimL.rvl{F:AM}{ω:Om}:∀{l k:List SV}{L:List Value},SimL l k->RVL F ω l L->RVL F ω k L
 |[],[],_,_,.nil=>.nil
 |_::_,_::_,_,h,.cons a b=>.cons (h.1 _ _ _ a) (h.2.rvl b)
 |[],_::_,_,h,_=>h.elim
 |_::_,[],_,h,_=>h.elim
theorem ycxx{a b:List SV}(h:SimL a b)(h1:b.all one1=true):Sim (.rf a) (.rf b):=fun F ω u hr=>by
 obtain⟨bk,p,T,N,e,zz,L,rfl,g1,g2,g3,g4,_⟩:=hr.rf_inv;exact .rf g1 g2 g3 (h.rvl g4) h1
theorem ybca{a b:List SV}(h:SimL a b):Sim (.ag a) (.ag b):=fun F ω u hr=>by
 obtain⟨L,rfl,hl⟩:=hr.ag_inv;exact .ag (h.rvl hl)
theorem ywu{a b:List SV}(h:SimL a b):Sim (.tp a) (.tp b):=fun F ω u hr=>by
 obtain⟨L,rfl,hl⟩:=hr.tp_inv;exact .tp (h.rvl hl)
theorem ydp{z n:Nat}{g g':Nat->List SV}(h:∀k,k<n->SimL (g k) (g' k)/\(g' k).all one1=true):Sim (.sl z n g) (.sl z n g'):=by
 intro F ω u hr;rcases hr.sl_inv with⟨rfl,h0⟩|⟨bk,p,cp,T,N,e,zz,L,rfl,g1,g2,g3,g4,g5,g6,g7⟩
 .exact .sl0 h0
 .exact .sl g1 g2 g3 g4 g5 (fun k hk=>(h k hk).1.rvl (g6 k hk)) (fun k hk=>(h k hk).2)
theorem Ct.simL{P:Program}{g:FuncId}{as bs:List SV}{Q:SV->Prop}(h:Ct P g bs Q)(hs:SimL as bs):Ct P g as Q:=fun G m us h1 h2 h3=>h G m us h1 h2 (hs.rvl h3)
theorem Returns.useS{P:Program}{g:FuncId}{as bs:List SV}{r:SV}{Q:SV->Prop}(h:Returns P g bs r)(hs:SimL as bs)(hq:Q r):Ct P g as Q:=(h.use hq).simL hs
theorem yco {P:Program}{pc:List Nm}{mu:List FuncId}{d:Bool}{rs:List (Nat×SRec)}{s:SS}{i an:Nat}{dst:Option Nat}{nx:List (Nat×SRec)->SS->Prop}{g:FuncId}{xs:List SV}{pr:List Nm}{o:Own}{as:List SV}{Q:SV->Own->Prop}
 (hcm:Cm P g pr o as Q) (ρ:List (Nat×Nat)) (base:Nat) (keep kb:List Nat)
 (h:(xs.length=as.length/\ybgz (to1 ρ) [] o/\allQ (yub (to1 ρ) [] [] o ⟨slots xs 0,s.o⟩) (slots as 0)/\allQ (ymm (to1 ρ) [] [] o ⟨slots xs 0,s.o⟩) o/\allQ (fun p=>(look ρ p.1).isSome=true) o)/\ydir d an o rs=true /\
   (allQ (fun β=>live o β=true) pr/\allQ (fun p=>kb.elem p.2=false) ρ/\allQ (fun p=>cln (okN ρ pr kb) 5 p.2=true) (ycs s.f keep)/\allQ (fun p=>yby (okN ρ pr kb) p.2) (yck s.o kb)/\allQ (fun β=>okN ρ pr kb β=true) pc))
 (hq:∀r o',Q r o'->yiq d rs s i dst nx ρ base keep kb r o'):ycit ⟨Ct P,Cm P,ItC P,pc,mu⟩ d rs s i an dst nx g xs:=by
 obtain⟨⟨h1,h2,h3,h4,h5⟩,h6,k1,k2,k3,k4,k5⟩:=h;exact⟨ρ,base,keep,kb,pr,o,as,h1,⟨trivial,h2,h3,h4⟩,ycy h5,h6,⟨k1,ycy k2,k3,k4,k5⟩,hcm.mono hq⟩
section
variable (C:CC) (K:Exit->SS->Prop) (s:SS)
def vN(b:SC):SS->Prop:=vc C b K
theorem ydzy(b:SC):vN C K b s=vc C b K s:=rfl
theorem ydjs:vc C .skip K s=K .normal s:=rfl
theorem ydxy(a b:SC):vc C (.seq a b) K s=vc C a (ybuo (vN C K b) K) s:=rfl
theorem ydfm(c:Operand)(a b:SC):vc C (.cond c a b) K s=ybze (s.get c) c s (vN C K a) (vN C K b):=rfl
theorem ycgs(id:Nat)(b:SC):vc C (.block id b) K s=vc C b (ybdg id K) s:=rfl
theorem ydcc(b:SC):vc C (.loop b) K s=ydhu C.pr (vc C b) K s:=rfl
theorem ycie(g:Operand)(ps:List Nat)(a b:SC):vc C (.range g ps a b) K s=ycae C g ps (vcR a) (vcR b) K s:=rfl
theorem yder(id:Nat):vc C (.exit id) K s=K (.exit id) s:=rfl
theorem yeao:vc C .no K s=False:=rfl
theorem ydko:vc C .ret K s=K .ret s:=rfl
theorem ydok(d:Bool)(ops:List SOper):vc C (.reg d ops) K s=ynv C d (K .normal) ops 0 [] s:=rfl
theorem ybfk(n:SS->Prop):ybuo n K .normal s=n s:=rfl
theorem ybqr(n:SS->Prop)(i:Nat):ybuo n K (.exit i) s=K (.exit i) s:=rfl
theorem ybvv(n:SS->Prop):ybuo n K .ret s=K .ret s:=rfl
theorem ybck(n:SS->Prop):ydep n .normal s=n s:=rfl
theorem yzh(t:SS)(fin:Own->Prop):ybcz K t fin .normal s=fin s.o:=rfl
theorem ybpg(t:SS)(fin:Own->Prop):ybcz K t fin .ret s=K .ret ⟨t.f,s.o⟩:=rfl
theorem ybjt(t:SS)(fin:Own->Prop)(id:Nat):ybcz K t fin (.exit id) s=K (.exit id) ⟨t.f,s.o⟩:=rfl
theorem yyz(id:Nat):ybdg id K .normal s=K .normal s:=rfl
theorem ybgg(id i:Nat):ybdg id K (.exit i) s=if i=id then K .normal s else K (.exit i) s:=rfl
theorem ybpf(id:Nat):ybdg id K .ret s=K .ret s:=rfl
theorem ybph(pr:List Nm)(I:Nat->SS->Prop)(n i:Nat):ybwi pr I n K (.exit i) s=K (.exit i) s:=rfl
theorem ybvd(pr:List Nm)(I:Nat->SS->Prop)(n:Nat):ybwi pr I n K .ret s=K .ret s:=rfl
theorem ybjz(rs:List SR)(Q:SV->Prop):retK rs Q .normal s=resX s rs fun vs=>vok s.o 5 (yim vs)/\Q (view s.o 5 (yim vs)):=rfl
theorem ybjw(rs:List SR)(pr:List Nm)(Q:SV->Own->Prop):retM rs pr Q .normal s=resX s rs fun vs=>yga pr s Q (yim vs):=rfl
theorem ycka(rs:List SR)(pr:List Nm)(Q:SV->Own->Prop):retM rs pr Q .ret s=resX s rs fun vs=>yga pr s Q (yim vs):=rfl
theorem ycfw(rs:List SR)(Q:SV->Prop):retK rs Q .ret s=resX s rs fun vs=>vok s.o 5 (yim vs)/\Q (view s.o 5 (yim vs)):=rfl
end
section
variable (C:CC) (d:Bool) (K:SS->Prop)
def vO(l:List SOper)(i:Nat):List (Nat×SRec)->SS->Prop:=ynv C d K l i
theorem yebg(l:List SOper)(i:Nat)(rs:List (Nat×SRec))(s:SS):vO C d K l i rs s=ynv C d K l i rs s:=rfl
theorem ydfv(i:Nat)(rs:List (Nat×SRec))(s:SS):ynv C d K [] i rs s=K s:=rfl
theorem yckm(op:SOp)(dst:Option Nat)(an:Nat)(l:List SOper)(i:Nat)(rs:List (Nat×SRec))(s:SS):ynv C d K (⟨op,dst,none,an⟩::l) i rs s=runO C d rs s i an dst (vO C d K l (i+1)) op:=rfl
theorem yccy(op:SOp)(dst:Option Nat)(t:Nat)(w:Bool)(an:Nat)(l:List SOper)(i:Nat)(rs:List (Nat×SRec))(s:SS):ynv C d K (⟨op,dst,some (t,w),an⟩::l) i rs s=yux C d rs s i an dst (vO C d K l (i+1)) op t w (look s.f t):=rfl
def gb(c:Bool)(A B:Prop):Prop:=(c=true->A)/\(c=false->B)
def gb2(c:Bool)(A B:Prop):Prop:=(c=false->A)/\(c=true->B)
theorem gb_t(A B:Prop):gb true A B=A:=propext ⟨fun h=>h.1 rfl,fun h=>⟨fun _=>h,fun q=>by cases q⟩⟩
theorem gb_f(A B:Prop):gb false A B=B:=propext ⟨fun h=>h.2 rfl,fun h=>⟨fun q=>(nomatch q),fun _=>h⟩⟩
theorem ydzj(A B:Prop):gb2 true A B=B:=propext ⟨fun h=>h.2 rfl,fun h=>⟨fun q=>(nomatch q),fun _=>h⟩⟩
theorem yebf(A B:Prop):gb2 false A B=A:=propext ⟨fun h=>h.1 rfl,fun h=>⟨fun _=>h,fun q=>by cases q⟩⟩
theorem gb_x(c:Bool)(A B:Prop):gb c A B=((c=true->A)/\(c=false->B)):=rfl
theorem yebo(c:Bool)(A B:Prop):gb2 c A B=((c=false->A)/\(c=true->B)):=rfl
theorem ydfx(x:Bool)(c:Operand)(s:SS)(a b:SS->Prop):ybze (some (.b x)) c s a b=gb x (a (s.lit c true)) (b (s.lit c false)):=rfl
theorem yclj(rs:List (Nat×SRec))(s:SS)(i an:Nat)(dst:Option Nat)(nx:List (Nat×SRec)->SS->Prop)(op:SOp)(t:Nat)(c:Bool):yux C d rs s i an dst nx op t true (some (.b c))=gb c (runO C d rs (s.put (some t) (.b true)) i an dst nx op) (nx rs ((s.put (some t) (.b false)).put dst (.tp []))):=rfl
theorem ycls(rs:List (Nat×SRec))(s:SS)(i an:Nat)(dst:Option Nat)(nx:List (Nat×SRec)->SS->Prop)(op:SOp)(t:Nat)(c:Bool):yux C d rs s i an dst nx op t false (some (.b c))=gb2 c (runO C d rs (s.put (some t) (.b false)) i an dst nx op) (nx rs ((s.put (some t) (.b true)).put dst (.tp []))):=rfl
theorem ybtn(rs:List (Nat×SRec))(s:SS)(i an:Nat)(dst:Option Nat)(nx:List (Nat×SRec)->SS->Prop)(op:SOp)(t:Nat)(w:Bool):yux C d rs s i an dst nx op t w (some (.tp []))=nx rs (s.put dst (.tp [])):=rfl
end
theorem ydfh(dst:Option Nat)(old:Bool)(rs:List (Nat×SRec)):yjm false dst old rs=rs:=by unfold yjm;rfl
theorem ydbk(d:Bool)(dst:Option Nat)(rs:List (Nat×SRec)):yjm d dst true rs=rs:=by unfold yjm;cases d<;>cases dst<;>rfl
theorem ydbj(d old:Bool)(rs:List (Nat×SRec)):yjm d none old rs=rs:=by unfold yjm;cases d<;>rfl
theorem ydil(t:Nat)(rs:List (Nat×SRec)):yjm true (some t) false rs=(1000+t,SRec.no)::rs:=rfl
theorem ydev(d:Bool)(an:Nat)(r:SRec)(rs:List (Nat×SRec)):ycjz d an false r rs=fits d an r rs:=rfl
theorem ydgb(d:Bool)(an:Nat)(r:SRec)(rs:List (Nat×SRec)):ycjz d an true r rs=(!d||rs.all fun q=>Nat.testBit an q.1 || !(yny r q.2)):=rfl
theorem yjl {C:CC}{gx:Operand}{ps:List Nat}{a b:SC}{K:Exit->SS->Prop}{s:SS}{g:FuncId}{caps:List SV}{S:ItS}(hit:C.it g caps S) {σ:Type}(pr:List Nm) (st:Nat->σ->SS) (inv:Nat->σ->Prop) (x0:σ) (hx0:inv 0 x0)
 (hpr:(∀β∈C.pr,β∈pr)/\∀β∈S.pr,β∈pr) (h0:Weak C.pr s (st 0 x0)) (hg:∀x,(st 0 x).get gx=some (.fn g [] caps)) (hinv:∀k x,inv k x->k<=S.n->S.own k (st k x).o/\allQ (fun p=>cln (nmem pr) 5 p.2=true) (st k x).f)
 (hround:∀k x,inv k x->k<S.n->∃t1,puts (st k x) ps (S.el k)=some t1/\vc ⟨C.ct,C.cm,C.it,pr,C.mu⟩ a (ydep (vN ⟨C.ct,C.cm,C.it,pr,C.mu⟩ (ybcz K (st k x) fun o=>S.own k o/\∃y,inv (k+1) y/\Weak pr ⟨(st k x).f,S.adv k o⟩ (st (k+1) y)) b)) t1)
 (hend:∀x,inv S.n x->K .normal (st S.n x)):ycae C gx ps (vcR a) (vcR b) K s:=by
 refine⟨pr,fun k t=>k<=S.n/\∃x,inv k x/\t=st k x,g,caps,S,hit,hpr,⟨st 0 x0,⟨Nat.zero_le _,x0,hx0,rfl⟩,h0⟩,?_,?_,?_,?_⟩
 .rintro t ⟨_,x,hx,rfl⟩;exact hg x
 .rintro k t ⟨hk,x,hx,rfl⟩;exact hinv k x hx hk
 .rintro k t ⟨_,x,hx,rfl⟩ hk;obtain⟨t1,h1,h2⟩:=hround k x hx hk;refine⟨t1,h1,?_⟩
  have e:(fun o=>S.own k o/\∃u,(k+1<=S.n/\∃x,inv (k+1) x/\u=st (k+1) x)/\Weak pr ⟨(st k x).f,S.adv k o⟩ u)=(fun o=>S.own k o/\∃y,inv (k+1) y/\Weak pr ⟨(st k x).f,S.adv k o⟩ (st (k+1) y)):=by
   funext o
   refine propext ⟨?_,?_⟩
   .rintro⟨h,u,⟨_,y,hy,rfl⟩,hw⟩;exact⟨h,y,hy,hw⟩
   .rintro⟨h,y,hy,hw⟩;exact⟨h,_,⟨hk,y,hy,rfl⟩,hw⟩
  rw[e];exact h2
 .rintro t ⟨_,x,hx,rfl⟩;exact hend x hx
theorem ydbg{α:Type}{a:α}{p:α->Prop}:(∃v,some a=some v/\p v)↔p a:=⟨fun⟨_,h,q⟩=>by cases h;exact q,fun h=>⟨a,rfl,h⟩⟩
theorem ydfb{n:Nat}(k:IntKind)(x:Int):owned (n+1) (.i k x)=false:=rfl
theorem ycfl{n:Nat}(k:IntKind)(x:Int):scalar (n+1) (.i k x)=true:=rfl
theorem ydlb{n:Nat}(o:Own)(k:IntKind)(x:Int):view o (n+1) (.i k x)=(.i k x):=rfl
theorem yeam{n:Nat}(o:Own)(k:IntKind)(x:Int):vok o (n+1) (.i k x)=True:=rfl
theorem ygr{n:Nat}(ρ:Nm->Nm)(k:IntKind)(x:Int):ren ρ (n+1) (.i k x)=(.i k x):=rfl
theorem yeau{n:Nat}(D:Nm->Bool)(k:IntKind)(x:Int):cln D (n+1) (.i k x)=true:=rfl
theorem ydsy(k:IntKind)(x:Int):one1 (.i k x)=true:=rfl
theorem ydhx{n:Nat}(x:Bool):owned (n+1) (.b x)=false:=rfl
theorem ychx{n:Nat}(x:Bool):scalar (n+1) (.b x)=true:=rfl
theorem ydlv{n:Nat}(o:Own)(x:Bool):view o (n+1) (.b x)=(.b x):=rfl
theorem ydzw{n:Nat}(o:Own)(x:Bool):vok o (n+1) (.b x)=True:=rfl
theorem ybyy{n:Nat}(ρ:Nm->Nm)(x:Bool):ren ρ (n+1) (.b x)=(.b x):=rfl
theorem ydzu{n:Nat}(D:Nm->Bool)(x:Bool):cln D (n+1) (.b x)=true:=rfl
theorem ydlz(x:Bool):one1 (.b x)=true:=rfl
theorem yddp{n:Nat}(x:Value):owned (n+1) (.a x)=false:=rfl
theorem ycja{n:Nat}(x:Value):scalar (n+1) (.a x)=true:=rfl
theorem ydmw{n:Nat}(o:Own)(x:Value):view o (n+1) (.a x)=(.a x):=rfl
theorem yeba{n:Nat}(o:Own)(x:Value):vok o (n+1) (.a x)=True:=rfl
theorem ydpv{n:Nat}(ρ:Nm->Nm)(x:Value):ren ρ (n+1) (.a x)=(.a x):=rfl
theorem yeab{n:Nat}(D:Nm->Bool)(x:Value):cln D (n+1) (.a x)=true:=rfl
theorem yduw(x:Value):one1 (.a x)=true:=rfl
theorem ychb{n:Nat}(z k:Nat)(g:Nat->List SV):owned (n+1) (.sl z k g)=false:=rfl
theorem ybwq{n:Nat}(z k:Nat)(g:Nat->List SV):scalar (n+1) (.sl z k g)=false:=rfl
theorem ydin{n:Nat}(o:Own)(z k:Nat)(g:Nat->List SV):view o (n+1) (.sl z k g)=(.sl z k g):=rfl
theorem ydpe{n:Nat}(o:Own)(z k:Nat)(g:Nat->List SV):vok o (n+1) (.sl z k g)=True:=rfl
theorem yyb{n:Nat}(ρ:Nm->Nm)(z k:Nat)(g:Nat->List SV):ren ρ (n+1) (.sl z k g)=(.sl z k g):=rfl
theorem ydnl{n:Nat}(D:Nm->Bool)(z k:Nat)(g:Nat->List SV):cln D (n+1) (.sl z k g)=true:=rfl
theorem ydet(z k:Nat)(g:Nat->List SV):one1 (.sl z k g)=true:=rfl
theorem ychs{n:Nat}(c:List SV):owned (n+1) (.rf c)=false:=rfl
theorem ycbn{n:Nat}(c:List SV):scalar (n+1) (.rf c)=false:=rfl
theorem ydhg{n:Nat}(o:Own)(c:List SV):view o (n+1) (.rf c)=(.rf c):=rfl
theorem ydyi{n:Nat}(o:Own)(c:List SV):vok o (n+1) (.rf c)=True:=rfl
theorem ydyk{n:Nat}(ρ:Nm->Nm)(c:List SV):ren ρ (n+1) (.rf c)=(.rf c):=rfl
theorem ydph{n:Nat}(D:Nm->Bool)(c:List SV):cln D (n+1) (.rf c)=true:=rfl
theorem ydhc(c:List SV):one1 (.rf c)=true:=rfl
theorem yckk{n:Nat}(Q:(Nat->Option ABlk)->Value->Prop)(v:SV):owned (n+1) (.ex Q v)=false:=rfl
theorem ycey{n:Nat}(Q:(Nat->Option ABlk)->Value->Prop)(v:SV):scalar (n+1) (.ex Q v)=false:=rfl
theorem ydjc{n:Nat}(o:Own)(Q:(Nat->Option ABlk)->Value->Prop)(v:SV):view o (n+1) (.ex Q v) = .ex Q v:=rfl
theorem ydqc{n:Nat}(o:Own)(Q:(Nat->Option ABlk)->Value->Prop)(v:SV):vok o (n+1) (.ex Q v)=True:=rfl
theorem ydlr{n:Nat}(ρ:Nm->Nm)(Q:(Nat->Option ABlk)->Value->Prop)(v:SV):ren ρ (n+1) (.ex Q v) = .ex Q v:=rfl
theorem ydvs{n:Nat}(D:Nm->Bool)(Q:(Nat->Option ABlk)->Value->Prop)(v:SV):cln D (n+1) (.ex Q v)=true:=rfl
theorem ydhi(Q:(Nat->Option ABlk)->Value->Prop)(v:SV):one1 (.ex Q v)=one1 v:=rfl
theorem ybbq(Q:(Nat->Option ABlk)->Value->Prop)(v:SV):Sim (.ex Q v) v:=fun F ω u h=>by
 cases h with
 |ex _ _ h=>exact h.mono (Le.refl _) (yqo _)
theorem ycfr{n:Nat}(β:Nm):owned (n+1) (.mr β)=true:=rfl
theorem ybzq{n:Nat}(β:Nm):scalar (n+1) (.mr β)=false:=rfl
theorem ydcx{n:Nat}(o:Own)(β:Nm):view o (n+1) (.mr β) = .bad:=rfl
theorem ydpr{n:Nat}(o:Own)(β:Nm):vok o (n+1) (.mr β)=False:=rfl
theorem ybnt{n:Nat}(ρ:Nm->Nm)(β:Nm):ren ρ (n+1) (.mr β) = .mr (ρ β):=rfl
theorem ydpl{n:Nat}(D:Nm->Bool)(β:Nm):cln D (n+1) (.mr β)=D β:=rfl
theorem yddu(β:Nm):one1 (.mr β)=true:=rfl
theorem ycfb{n:Nat} :owned (n+1) .bad=true:=rfl
theorem yboq{n:Nat} :scalar (n+1) .bad=false:=rfl
theorem ycjt{n:Nat}(o:Own) :view o (n+1) .bad = .bad:=rfl
theorem ydjo{n:Nat}(o:Own) :vok o (n+1) .bad=False:=rfl
theorem yddr{n:Nat}(ρ:Nm->Nm) :ren ρ (n+1) .bad = .bad:=rfl
theorem yddw{n:Nat}(D:Nm->Bool) :cln D (n+1) .bad=true:=rfl
theorem yckg :one1 .bad=false:=rfl
theorem ycjl{n:Nat}(c:List SV):owned (n+1) (.ag c)=c.any (owned n):=rfl
theorem ycdz{n:Nat}(c:List SV):scalar (n+1) (.ag c)=c.all (scalar n):=rfl
theorem ydbs{n:Nat}(o:Own)(c:List SV):view o (n+1) (.ag c) = .ag (c.map (view o n)):=rfl
theorem ydoh{n:Nat}(o:Own)(c:List SV):vok o (n+1) (.ag c)=allP (vok o n) c:=rfl
theorem yyf{n:Nat}(ρ:Nm->Nm)(c:List SV):ren ρ (n+1) (.ag c) = .ag (c.map (ren ρ n)):=rfl
theorem ydtr{n:Nat}(D:Nm->Bool)(c:List SV):cln D (n+1) (.ag c)=c.all (cln D n):=rfl
theorem ydhe(c:List SV):one1 (.ag c)=false:=rfl
theorem ycmc{n:Nat}(c:List SV):owned (n+1) (.tp c)=c.any (owned n):=rfl
theorem ycah{n:Nat}(c:List SV):scalar (n+1) (.tp c)=c.all (scalar n):=rfl
theorem yddd{n:Nat}(o:Own)(c:List SV):view o (n+1) (.tp c) = .tp (c.map (view o n)):=rfl
theorem ydpq{n:Nat}(o:Own)(c:List SV):vok o (n+1) (.tp c)=allP (vok o n) c:=rfl
theorem ymc{n:Nat}(ρ:Nm->Nm)(c:List SV):ren ρ (n+1) (.tp c) = .tp (c.map (ren ρ n)):=rfl
theorem ydra{n:Nat}(D:Nm->Bool)(c:List SV):cln D (n+1) (.tp c)=c.all (cln D n):=rfl
theorem ydhv(c:List SV):one1 (.tp c)=false:=rfl
theorem ycho{n:Nat}(g:FuncId)(a b:List SV):owned (n+1) (.fn g a b)=(a.any (owned n)||b.any (owned n)):=rfl
theorem ycai{n:Nat}(g:FuncId)(a b:List SV):scalar (n+1) (.fn g a b)=false:=rfl
theorem ydci{n:Nat}(o:Own)(g:FuncId)(a b:List SV):view o (n+1) (.fn g a b) = .fn g (a.map (view o n)) (b.map (view o n)):=rfl
theorem ydqa{n:Nat}(o:Own)(g:FuncId)(a b:List SV):vok o (n+1) (.fn g a b)=(allP (vok o n) a/\allP (vok o n) b):=rfl
theorem ycay{n:Nat}(ρ:Nm->Nm)(g:FuncId)(a b:List SV):ren ρ (n+1) (.fn g a b) = .fn g (a.map (ren ρ n)) (b.map (ren ρ n)):=rfl
theorem ydws{n:Nat}(D:Nm->Bool)(g:FuncId)(a b:List SV):cln D (n+1) (.fn g a b)=(a.all (cln D n)&&b.all (cln D n)):=rfl
theorem ydgr(g:FuncId)(a b:List SV):one1 (.fn g a b)=true:=rfl
theorem ycjd{n:Nat}(β:Nm)(i j:Nat):owned (n+1) (.pt β i j)=true:=rfl
theorem ybxm{n:Nat}(β:Nm)(i j:Nat):scalar (n+1) (.pt β i j)=false:=rfl
theorem ydij{n:Nat}(o:Own)(β:Nm)(i j:Nat):view o (n+1) (.pt β i j)=(match lookO o β with|some b=>.rf ((((b.g i).drop j)).map (view o n))|none=>.bad):=rfl
theorem ydnh{n:Nat}(o:Own)(β:Nm)(i j:Nat):vok o (n+1) (.pt β i j)=(match lookO o β with|some b=>(i<b.n/\j<=b.z)/\allP (vok o n) ((b.g i).drop j)|none=>False):=rfl
theorem ycch{n:Nat}(ρ:Nm->Nm)(β:Nm)(i j:Nat):ren ρ (n+1) (.pt β i j) = .pt (ρ β) i j:=rfl
theorem ydnc{n:Nat}(D:Nm->Bool)(β:Nm)(i j:Nat):cln D (n+1) (.pt β i j)=D β:=rfl
theorem yddg(β:Nm)(i j:Nat):one1 (.pt β i j)=true:=rfl
theorem ycfm{n:Nat}(β:Nm)(p k:Nat)(ap:Bool):owned (n+1) (.os β p k ap)=true:=rfl
theorem ybtl{n:Nat}(β:Nm)(p k:Nat)(ap:Bool):scalar (n+1) (.os β p k ap)=false:=rfl
theorem ydjy{n:Nat}(o:Own)(β:Nm)(p k:Nat)(ap:Bool):view o (n+1) (.os β p k ap)=(match lookO o β with|some b=>.sl b.z k (fun q=>(b.g (p+q)).map (view o n))|none=>.bad):=rfl
theorem ydmi{n:Nat}(o:Own)(β:Nm)(p k:Nat)(ap:Bool):vok o (n+1) (.os β p k ap)=(match lookO o β with|some b=>p+k<=b.n/\∀q,q<k->allP (vok o n) (b.g (p+q))|none=>False):=rfl
theorem yfx{n:Nat}(ρ:Nm->Nm)(β:Nm)(p k:Nat)(ap:Bool):ren ρ (n+1) (.os β p k ap) = .os (ρ β) p k ap:=rfl
theorem ydnu{n:Nat}(D:Nm->Bool)(β:Nm)(p k:Nat)(ap:Bool):cln D (n+1) (.os β p k ap)=D β:=rfl
theorem ydfa(β:Nm)(p k:Nat)(ap:Bool):one1 (.os β p k ap)=true:=rfl
end Sh
end
end Go.Proofs.YthclbjjgfcgbgaaGreatDoor
