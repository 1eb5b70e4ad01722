/- Joined. -/
import Derived.Deep.Matrix
import Derived.Lib.SmallJoins
import Derived.Test.YtiejahgklcjhkaaGreatDoorPkT10
import Derived.Test.YtiejahgklcjhkaaGreatDoorTie
import Derived.Test.YtiejahgklcjhkaaGreatDoorCards
import Derived.LaidMore
set_option linter.unusedSimpArgs false
set_option linter.unusedVariables false
set_option maxRecDepth 8000
open Nat renaming reduceEqDiff->zA,reduceLeDiff->zB,reduceAdd->zD,reduceBEq->zF,reduceBNe->zG,reduceMul->zH,reduceLT->zI,le_trans->zAF
open Int renaming reduceToNat->zC,natCast_zero->zM
open Go.Proofs.Tryz renaming prog->zJ,f11->zX,checked->zAA,func11->zAB,underlying3->zAC
open Option renaming getD_none->zK,getD_some->zL,getD->zN
open List renaming getElem?_cons_zero->zO,take->zQ,drop->zS,getElem?_cons_succ->zT,map_cons->zV,length_cons->zW,getD_cons_zero->zY,getD_cons_succ->zZ,getElem_map->zAD,length_map->zAE
open Array renaming getElem?_eq_none->zU
open Go
namespace Go.Proofs.YtiejahgklcjhkaaGreatDoor
section
open Go.ChangeShapes Go.WideShapes Go.ChangeAt Go.RowKit
section
variable {H:Type}{enc:TypeId×Value->H}{P:Program}{w:World}{base:Nat}{held:Bool}
theorem wf_i64{n:Int}(h:(Lit.int .i64 n).wf=true):I64 n:=by
 simp only[Lit.wf,Bool.and_eq_true,decide_eq_true_eq]at h;have e1:IntKind.i64.min = -9223372036854775808:=rfl;have e2:IntKind.i64.max=9223372036854775807:=rfl;rw[e1,e2]at h;exact h
end
theorem own:ownKnob Tryz.prog.godebug=Option.none:=by kernel_rfl
theorem laidOut:laidOutB zJ=true:=by kernel_rfl
section
variable {H:Type}{enc:TypeId×Value->H}{w:World}{base:Nat}{held:Bool}{n:Nat}{v:Value}{x:DataW H×List MemPlace}
end
end
section
namespace Sh
open Go Ev Go.RowKit
noncomputable def ybit{α:Type}(t:T α):Nat->List (Option α)->T α
 |_,[]=>t
 |i,x::l=>ybit (T.set (Nat.succ i) t i x) (i+1) l
theorem yrq{α:Type}:∀(l:List (Option α)) (t:T α) (i j:Nat),(ybit t i l).get j=if i<=j/\j<i+l.length then(l[j-i]?).join else t.get j
 |[],t,i,j=>by rw[if_neg (by simp)];rfl
 | x :: l,t,i,j=>by
   unfold ybit;rw[yrq l _ _ j]
   by_cases c:i+1<=j/\j<i+1+l.length
   .rw[if_pos c,if_pos (by simp;omega),show j-i=(j-(i+1))+1 by omega]
    rfl
   .rw[if_neg c,T.set_at]
    by_cases q:j=i
    .subst q;rw[if_pos rfl,if_pos (by simp)]
     simp
    .rw[if_neg q,if_neg (by simp;omega)]
def absV(Z:Nat)(v:Value):Option Value:=if simple v then some v else match v with
 |.slice (some ⟨b,o,none⟩) n c=>if n<=c/\c<=9223372036854775807 then(if c=0 then some (.slice (some ⟨Z,0,none⟩) n CU)else if b<=Z then some (.slice (some ⟨b,o,none⟩) n CU)else none)else none
 |.slice (some ⟨_,_,some _⟩) n c=>if n<=c/\c=0 then some (.slice (some ⟨Z,0,none⟩) n CU)else none
 |_=>none
def isU8:Value->Bool
 |.int .u8 _=>true
 |_=>false
noncomputable def absB(Z:Nat)(w:World)(i:Nat):Option ABlk:=match w.heap[i]? with
 |some (.cells c _ _)=>if c.toList.all isU8=true then none else some (.cells (ybit .leaf 0 (c.toList.map (absV Z))) c.size CU 0)
 |_=>none
def phiW(w:World):Phi:=fun i=>match w.heap[i]? with
 |some (.cells c _ _)=>some ⟨i,0,c.size,0,w.heap[i]?⟩
 |_=>if i<=w.heap.size then some ⟨i,0,0,0,none⟩else none
noncomputable def memW(w:World):Mem:=⟨w.heap.size+1,ybit .leaf 0 ((List.range w.heap.size).map (absB w.heap.size w)),w.heap.size+1⟩
theorem ynb{w:World}{i:Nat}{b:ABlk}:(memW w).b.get i=some b↔absB w.heap.size w i=some b:=by
 show(ybit .leaf 0 _).get i=some b↔_;rw[yrq]
 by_cases h:i<w.heap.size
 .rw[if_pos (by simpa using h)]
  simp[h]
 .rw[if_neg (by simpa using h),T.get_leaf]
  have:absB w.heap.size w i=none:=by unfold absB;rw[zU (by omega)]
  rw[this]
theorem ybdi(w:World):Wf (memW w):=fun i b h=>by
 rw[ynb]at h;show i<w.heap.size+1;unfold absB at h;split at h
 .rename_i hc;have:=(Array.getElem?_eq_some_iff.1 hc).1;omega
 .cases h
theorem ybry{w:World}{v u:Value}(h:absV w.heap.size v=some u):VR (phiW w) u v:=by
 have hZ:∃l,phiW w w.heap.size=some l:=by
  unfold phiW;rw[zU (Nat.le_refl _)];simp
 have hφ:∀b,b<=w.heap.size->∃sz ob,phiW w b=some ⟨b,0,sz,0,ob⟩:=by
  intro b hb;unfold phiW;split
  .exact⟨_,_,rfl⟩
  .rw[if_pos hb];exact⟨_,_,rfl⟩
 unfold absV at h;split at h
 .rename_i hs;cases h;exact .simple hs
 .split at h
  .rename_i b o n c _
   split at h
   .rename_i hc
    split at h
    .rename_i h0
     cases h
     obtain⟨l,hl⟩:=hZ;exact .slice hl hc.1 (fun q=>absurd rfl q) hc.2 (.inr h0)
    .split at h
     .rename_i hbl
      cases h
      obtain⟨sz,ob',hl⟩:=hφ b hbl;exact .slice hl hc.1 (fun q=>absurd rfl q) hc.2 (.inl ⟨by simp,.inl rfl⟩)
     .cases h
   .cases h
  .rename_i b o sp n c _
   split at h
   .rename_i hc
    cases h
    obtain⟨l,hl⟩:=hZ;exact .slice hl hc.1 (fun q=>absurd rfl q) (by omega) (.inr hc.2)
   .cases h
  .cases h
theorem ycch:∀x,ybyc=some x->x.2.all isU8=true:=by
 intro x hx;unfold ybyc at hx
 first|(cases hx;done)|(cases hx;rfl)
theorem relW{w:World}(hG:GlW w):Rel (phiW w) (memW w).b.get w:=by
 have hblk:∀i b,(memW w).b.get i=some b->∃l,phiW w i=some l/\l.blk=i/\l.ob=w.heap[i]?/\BR (phiW w) l w b:=by
  intro i b hb;rw[ynb]at hb;unfold absB at hb;split at hb
  .rename_i c e fz hc
   split at hb
   .cases hb
   cases hb
   refine⟨⟨i,0,c.size,0,w.heap[i]?⟩,by unfold phiW;rw[hc],rfl,rfl,rfl,by simp,c.toList,e,fz,⟨fun q=>absurd rfl q,fun o ho=>ho⟩,by simpa using hc,by simp,fun j v hj hg=>?_⟩
   rw[yrq]at hg;split at hg
   .simp only[Nat.sub_zero,List.getElem?_map]at hg;cases hcj:c.toList[j]? with
    |none=>rw[hcj]at hg;cases hg
    | some x =>
      rw[hcj]at hg;have hg:absV w.heap.size x=some v:=by simpa using hg
      exact⟨x,by rw[Nat.zero_add];exact hcj,ybry hg⟩
   .rw[T.get_leaf]at hg;cases hg
  .cases hb
 refine⟨⟨fun i b hb=>by obtain⟨l,h1,_,_,h2⟩:=hblk i b hb;exact⟨l,h1,h2⟩,fun i j x y li lj hne hx hy hi hj=>?_⟩,fun x hx=>⟨hG x hx,fun⟨i,b,l,h1,h2,h3⟩=>?_⟩⟩
 rotate_left
 .obtain⟨l',k1,k2,_⟩:=hblk i b h1;rw[h2]at k1;cases k1
  rw[h3]at k2;obtain⟨e,fz,q⟩:=hG x hx;rw[ynb]at h1;unfold absB at h1;rw[<-k2,q]at h1;simp only at h1;rw[if_pos (by simpa using ycch x hx)]at h1
  cases h1
 obtain⟨l,h1,h2,_⟩:=hblk i x hx;obtain⟨l',h3,h4,_⟩:=hblk j y hy;rw[hi]at h1;cases h1
 rw[hj]at h3;cases h3
 rw[h2,h4];exact hne
theorem ydaf{w:World}{i:Nat}{b:ABlk}{l:Ev.Loc}(hb:(memW w).b.get i=some b)(hl:phiW w i=some l):l.blk=i/\∃o,l.ob=some o/\w.heap[i]?=some o:=by
 rw[ynb]at hb;unfold absB at hb;split at hb
 .rename_i c e fz hc
  unfold phiW at hl;rw[hc]at hl;cases hl
  exact⟨rfl,_,rfl,hc⟩
 .cases hb
theorem ydhc(w:World)(n:Nat):yfj (phiW w) (memW w).next n:=by
 intro i h1 _;have h1:w.heap.size+1<=i:=h1;unfold phiW;rw[zU (by omega)]
 simp only;rw[if_neg (by omega)]
theorem ycao {P:Program}{g:FuncId}{args:List SV}{r:SV}{v:Value}{us us':List Value}{w:World}(h:Returns P g args r) (hg:∃fn c,P.funcs[g]?=some fn/\fn.body=some c) (hn:yoo P) (hG:GlW w)
 (ha:RVL (memW w).b.get om0 args us) (hv:VRL (phiW w) us us') (hr:∀F u,RV F om0 r u->u=v) (hat:∀φ v',VR φ v v'->v'=v):Calls P g us'.toArray w fun e w'=>e = .returned v/\Below w.heap.size w w':=by
 obtain⟨u,m',x,h1,h2,h3,rfl,h5⟩:=h (memW w).b.get (memW w) us (ybdi w) (Le.refl _) ha;have hu:=hr _ _ h5;subst hu;have hs:=(h1 (ybdi w)).2 (phiW w) (memW w).b.get w us' (relW hG) (fun i b hb=>hb) hv (ydhc w _);obtain⟨fn,c,k1,k2⟩:=hg;rcases hs with⟨_,hc⟩|⟨v',w',hrun,_⟩
 .refine hc.mono ?_;rintro e w' ⟨v',rfl,φ',M',hgd,hvr⟩;rw[hat _ _ hvr];refine⟨rfl,hgd.wg.os,hgd.wg.tape,hgd.wg.output,hgd.wg.size,fun k hk=>?_⟩
  by_cases hi:Img (phiW w) (memW w).b.get k
  .obtain⟨i,b,l,e1,e2,e3⟩:=hi;obtain⟨k4,o,k5,k6⟩:=ydaf e1 e2;have hik:i=k:=k4.symm.trans e3;subst hik;have hlt:i<(memW w).next:=ybdi w i b e1
   have hM:M' i=some b:=by
    rw[hgd.frame i (fun q=>by omega) (.inr (Nat.lt_of_lt_of_le hlt h2))]
    exact e1
   obtain⟨l',q1,q2⟩:=hgd.rel.blk i b hM;rw[hgd.le i l e2]at q1;cases q1
   have hcells:∃c n,b = .cells c n CU 0:=by
    rw[ynb]at e1;unfold absB at e1;split at e1
    .split at e1
     .cases e1
     .cases e1;exact⟨_,_,rfl⟩
    .cases e1
   obtain⟨c',n',rfl⟩:=hcells;obtain⟨_,_,cs,e',fz,h0,_⟩:=q2;rw[k4]at h0;rw[h0.2 o k5,k6]
  .exact hgd.wg.keep k hk hi
 .rw[ycb hn k1 k2]at hrun;cases hrun
end Sh
end
section
namespace Sh
open Go Ev Go.RowKit Go.ChangeShapes Go.WideShapes Go.ChangeAt
def ybzz(w:World)(g:SV)(v:Value):Prop:=∃u,absV w.heap.size v=some u/\RV (memW w).b.get om0 g u
def ycbf(w:World)(g:List SV)(cs:List Value):Prop:=∃L,cs.map (absV w.heap.size)=L.map some/\RVL (memW w).b.get om0 g L
theorem ycbf.nil(w:World):ycbf w [] []:=⟨[],rfl,.nil⟩
theorem ybzz.cons{w:World}{g:SV}{v:Value}{gs:List SV}{cs:List Value}(h:ybzz w g v)(t:ycbf w gs cs):ycbf w (g::gs) (v::cs):=by
 obtain⟨u,h1,h2⟩:=h;obtain⟨L,h3,h4⟩:=t;exact⟨u::L,by rw[zV,zV,h1,h3],.cons h2 h4⟩
theorem yccb(w:World)(k:IntKind)(n:Int):ybzz w (.i k n) (.int k n):=⟨.int k n,rfl,.i⟩
section
variable {H:Type}{enc:TypeId×Value->H}{P:Program}{w:World}{base:Nat}{held:Bool}
end
section
variable {H:Type}{enc:TypeId×Value->H}{w:World}{base:Nat}{held:Bool}{n:Nat}{v:Value}{x:DataW H×List MemPlace}
end
theorem ybkt {P:Program}{g:FuncId}{args:List SV}{x:Bool}{us':List Value}{w:World}(h:Returns P g args (.b x)) (hg:∃fn c,P.funcs[g]?=some fn/\fn.body=some c) (hn:yoo P) (hG:GlW w)
 {us:List Value}(ha:RVL (memW w).b.get om0 args us) (hv:VRL (phiW w) us us'):Calls P g us'.toArray w fun e w'=>e = .returned (.bool x)/\Below w.heap.size w w' :=
 ycao h hg hn hG ha hv (fun F u hu=>by cases hu;rfl) (fun φ v' hv'=>hv'.eq_simple rfl)
end Sh
end
section
namespace Sh
open Go Ev Go.RowKit Go.ChangeShapes Go.WideShapes Go.ChangeAt Go.Joins
section
variable {H:Type}{enc:TypeId×Value->H}{P:Program}{w:World}{base:Nat}{held:Bool}{spare:Nat->Bool}
end
section
variable {H:Type}{enc:TypeId×Value->H}{w:World}{base:Nat}{held:Bool}{n:Nat}{v:Value}{x:DataW H×List MemPlace}
theorem ybri{v:Value}{x:DataW H×List MemPlace}(h:DataW.trod enc zJ w base (fun _=>true) held n 3 [v]=some x):∃k,inK .i64 k/\ybzz w (.i .i64 k) v:=by
 obtain⟨k,e,_,hw⟩:=DataW.trod_int zAC h;simp at e;subst e;exact⟨k,wf_i64 hw,yccb w .i64 k⟩
end
end Sh
end
section
def c2(x:Int):Conf:=[[0,x],[0,x]]
section
variable {nm nh nl nf nd nt ni:ByteArray}{g:Gr}{x:Int}{v:Nat}
theorem yst(hv:v<2):(c2 x).getD v []=[0,x]:=by
 rcases(show v=0\/v=1 by omega)with rfl|rfl<;>rfl
theorem yblr(h:Tr g)(h2:g.ids.length=2)(hv:v<2):adj g v (1-v)/\∀u,adj g v u->u=1-v:=by
 have hpl:=h.good.2.2.1
 have only:∀u,adj g v u->u=1-v:=fun u hu=>by
  have h1:=(h.good.adj_lt hu).2;have h3:=h.ne hu;omega
 obtain⟨u,hu,_⟩:=h.back (a:=1-v) (v:=v) (by omega) (by omega) (by omega)
 exact⟨only u hu▸hu,only⟩
theorem ycvw(h:Tr g)(h2:g.ids.length=2)(hv:v<2):((g.ports.getD v []).length:Int)<2:=by
 have hpl:=h.good.2.2.1;have hn:=ykw h.good (show v<g.ports.length by omega)
 have only:=(yblr h h2 hv).2;refine Int.not_le.1 fun hge=>?_;have l0:0<(g.ports.getD v []).length:=by omega
 have l1:1<(g.ports.getD v []).length:=by omega
 have e:∀i (hi:i<(g.ports.getD v []).length),((g.ports.getD v [])[i]).1=((1-v:Nat):Int):=fun i hi=>by
  obtain⟨m1,m2,m3,_⟩:=ydc h.good (show v<g.ports.length by omega) (List.getElem_mem hi)
  have:=only _ m3;omega
 have h0:0<((g.ports.getD v []).map (·.1)).length:=by rw[zAE];exact l0
 have h1:1<((g.ports.getD v []).map (·.1)).length:=by rw[zAE];exact l1
 have:=(List.getElem_inj (h₀:=h0) (h₁:=h1) hn).1 (by rw[zAD,zAD,e 0 l0,e 1 l1])
 omega
theorem ymd(h2:g.ids.length=2)(h0:0<=x)(h1:x<=1):ygr (ybj nm nh nl nf nd nt ni) g (c2 x)=true:=by
 refine(yel _ _ _).2 ⟨by rw[h2];rfl,fun v s hs=>?_⟩
 have hv:v<2:=(List.getElem?_eq_some_iff.1 hs).1
 have e:s=[0,x]:=by
  have:=yst (x:=x) hv;rw[List.getD_eq_getElem?_getD,hs]at this;exact this
 subst e;refine⟨rfl,fun i b y hb hy=>?_⟩
 match i with
 | 0 =>
   simp only[ybj,zV,zO]at hb hy;cases hb
   cases hy
   unfold ybi;simp
 | 1 =>
   simp only[ybj,zV,zT,zO]at hb hy;cases hb
   cases hy
   unfold ybi;simp;omega
 |i+2=>simp[ybj]at hb
theorem ybge(h:Tr g)(h2:g.ids.length=2)(h0:0<=x)(h1:x<=1)(hv:v<2):hAt (c2 x) v=cnV g (c2 x) v/\¬ynj g (c2 x) v/\¬ynw g (c2 x) v/\gTie g (c2 x) v:=by
 obtain⟨a1,a2⟩:=yblr h h2 hv;have hh:∀u,u<2->hAt (c2 x) u=0:=fun u hu=>by unfold hAt;rw[yst hu];rfl
 have hl:∀u,u<2->lAt (c2 x) u=x:=fun u hu=>by unfold lAt;rw[yst hu];rfl
 have hw:1-v<2:=by omega
 refine⟨?_,?_,?_,?_⟩
 .unfold cnV;rw[if_pos (ycvw h h2 hv),hh v hv]
 .rintro⟨_,u,hu,q⟩;rw[a2 u hu,hh v hv,hh _ hw]at q;omega
 .rintro⟨_,q⟩;have:=q _ a1;rw[hh v hv,hh _ hw]at this;omega
 .refine⟨by rw[hh v hv,h2];decide,fun u hu=>?_,_,a1,?_,?_⟩
  .rw[a2 u hu,hh v hv,hh _ hw];omega
  .rw[hh v hv,hh _ hw]
  .rw[hl v hv,hl _ hw]
theorem ybpl(h:Tr g)(h2:g.ids.length=2)(h0:0<=x)(h1:x<=1)(hv:v<2):(ybk (ybj nm nh nl nf nd nt ni) g (c2 x)).testBit v=true:=by
 have hC:=yje (ymd (nm:=nm) (nh:=nh) (nl:=nl) (nf:=nf) (nd:=nd) (nt:=nt) (ni:=ni) h2 h0 h1);obtain⟨r1,r2,r3,r4⟩:=ybge h h2 h0 h1 hv;cases q:(ybk (ybj nm nh nl nf nd nt ni) g (c2 x)).testBit v with
 |true=>rfl
 |false=>exact absurd r4 (ybtx h.good hC (by omega) q).2.2.2
theorem ycbc(h:Tr g)(h2:g.ids.length=2)(h0:0<=x)(h1:x<=1):ydk (ybj nm nh nl nf nd nt ni) g (c2 x) (ybk (ybj nm nh nl nf nd nt ni) g (c2 x))=c2 (1-x):=by
 have hV:=ymd (nm:=nm) (nh:=nh) (nl:=nl) (nf:=nf) (nd:=nd) (nt:=nt) (ni:=ni) h2 h0 h1;have hC:=yje hV;have hS:=yje (Sh.yoa h.good ydeu (ybex h.good) hV (ybk (ybj nm nh nl nf nd nt ni) g (c2 x)))
 have row:∀v,v<2->(ydk (ybj nm nh nl nf nd nt ni) g (c2 x) (ybk (ybj nm nh nl nf nd nt ni) g (c2 x))).getD v []=[0,1-x]:=fun v hv=>by
  have hm:=ywd h.good hC (show v<g.ids.length by omega) (ybpl (nm:=nm) (nh:=nh) (nl:=nl) (nf:=nf) (nd:=nd) (nt:=nt) (ni:=ni) h h2 h0 h1 hv) (fun i hi=>hi)
  obtain⟨r1,r2,r3,r4⟩:=ybge h h2 h0 h1 hv;have hl:=(hS.row v (by omega)).1
  obtain⟨a,b,hab⟩:∃a b,(ydk (ybj nm nh nl nf nd nt ni) g (c2 x) (ybk (ybj nm nh nl nf nd nt ni) g (c2 x))).getD v []=[a,b]:=by
   match hq:(ydk (ybj nm nh nl nf nd nt ni) g (c2 x) (ybk (ybj nm nh nl nf nd nt ni) g (c2 x))).getD v [],hl with
   |[a,b],_=>exact⟨a,b,rfl⟩
  obtain⟨m1,m2⟩:=hm;rw[<-r1]at m1;unfold hAt at m1 m2;unfold lAt at m2;rw[hab,yst hv]at m1 m2;rw[hab];simp only[zY,zZ]at m1 m2
  have h2':b=1-x:=by
   rcases m2 with⟨q,_⟩|⟨_,⟨q,_⟩|⟨q,_⟩|⟨_,q⟩⟩
   .unfold hAt at r1;rw[yst hv]at r1;exact absurd r1 q
   .exact absurd q r2
   .exact absurd q r3
   .exact q
  rw[m1,h2']
 have hl:(ydk (ybj nm nh nl nf nd nt ni) g (c2 x) (ybk (ybj nm nh nl nf nd nt ni) g (c2 x))).length=2:=by rw[hS.len,h2]
 refine List.ext_getElem hl fun i h1 h2=>?_;have hi:i<2:=by omega
 have e1:=row i hi;have e2:=yst (x:=1-x) hi;rw[Sh.getD_at h1]at e1;rw[Sh.getD_at h2]at e2;rw[e1,e2]
theorem ybtr(h:Tr g)(h2:g.ids.length=2):∀(ws:List Nat) (c:Conf) (k:Cnt) (b:Nat),b<2->c=c2 (b:Int)->((ybp (ybj nm nh nl nf nd nt ni) g).run resS ws c k).length=ws.length/\∀i p,((ybp (ybj nm nh nl nf nd nt ni) g).run resS ws c k)[i]?=some p->p.1=c2 (((b+1+i)%2:Nat):Int)
 |[],c,k,b,hb,hc=>⟨by simp[Sys.run],fun i p h=>by simp[Sys.run]at h⟩
 | w :: ws,c,k,b,hb,hc=>by
   have st:(ybp (ybj nm nh nl nf nd nt ni) g).en c≠0/\(ybp (ybj nm nh nl nf nd nt ni) g).mv c (resS ((ybp (ybj nm nh nl nf nd nt ni) g).en c) w)=c2 (((b+1)%2:Nat):Int):=by
    subst hc;show ybk _ g _≠0/\ydk _ g _ (ybk _ g _)=_;refine⟨fun e=>?_,?_⟩
    .have:=ybpl (nm:=nm) (nh:=nh) (nl:=nl) (nf:=nf) (nd:=nd) (nt:=nt) (ni:=ni) (x:=(b:Int)) (v:=0) h h2 (by omega) (by omega) (by omega)
     rw[e]at this;simp at this
    .rw[ycbc h h2 (by omega) (by omega),show(1:Int)-(b:Int)=(((b+1)%2:Nat):Int)by omega]
   unfold Sys.run;rw[if_neg st.1];obtain⟨r1,r2⟩:=ybtr h h2 ws _ (addP k (resS ((ybp (ybj nm nh nl nf nd nt ni) g).en c) w) ((ybp (ybj nm nh nl nf nd nt ni) g).en ((ybp (ybj nm nh nl nf nd nt ni) g).mv c (resS ((ybp (ybj nm nh nl nf nd nt ni) g).en c) w)))) ((b+1)%2) (Nat.mod_lt _ (by decide)) st.2
   refine⟨by simp only[zW];rw[r1],fun i p h=>?_⟩
   cases i with
   | zero =>
     rw[zO]at h;cases h
     exact st.2
   | succ i =>
     rw[zT]at h;rw[r2 i p h];congr 2;omega
theorem ywb(h:Tr g)(h2:g.ids.length=2){ws:List Nat}:((ybp (ybj nm nh nl nf nd nt ni) g).runs resS ws (c2 0)).length=ws.length+1/\∀i p,((ybp (ybj nm nh nl nf nd nt ni) g).runs resS ws (c2 0))[i]?=some p->p.1=c2 ((i%2:Nat):Int):=by
 obtain⟨r1,r2⟩:=ybtr (nm:=nm) (nh:=nh) (nl:=nl) (nf:=nf) (nd:=nd) (nt:=nt) (ni:=ni) h h2 ws (c2 0) (ydi ((ybp (ybj nm nh nl nf nd nt ni) g).en (c2 0))) 0 (by decide) rfl
 refine⟨by simp only[Sys.runs,zW];rw[r1],fun i p h=>?_⟩
 cases i with
 | zero =>
   simp only[Sys.runs,zO]at h;cases h
   rfl
 | succ i =>
   simp only[Sys.runs,zT]at h;rw[r2 i p h];congr 2;omega
theorem ybuu(h:Tr g)(h2:g.ids.length=2)(h0:0<=x)(h1:x<=1):¬yoi g (c2 x):=fun hr=>by
 have:=(ybxv (nm:=ByteArray.mk #[]) (nh:=ByteArray.mk #[]) (nl:=ByteArray.mk #[]) (nf:=ByteArray.mk #[]) (nd:=ByteArray.mk #[]) (nt:=ByteArray.mk #[]) (ni:=ByteArray.mk #[]) h (ymd h2 h0 h1)).2 hr;have he:=ybpl (nm:=ByteArray.mk #[]) (nh:=ByteArray.mk #[]) (nl:=ByteArray.mk #[]) (nf:=ByteArray.mk #[]) (nd:=ByteArray.mk #[]) (nt:=ByteArray.mk #[]) (ni:=ByteArray.mk #[]) (v:=0) h h2 h0 h1 (by omega)
 rw[this]at he;simp at he
end
end
section
namespace Sh
open Go Ev
theorem Ct.cmv{P:Program}{g:FuncId}{o:Own}{args bs:List SV}{Q:SV->Prop}(h:Ct P g bs Q)(hlen:args.length=bs.length)(hw:Weak [] ⟨slots args 0,o⟩ ⟨slots bs 0,[]⟩)(hq:∀r,Q r->cln (live []) 5 r=true) :
 Cm P g [] o args fun r o'=>o'=[]/\Q r:=by
 intro lo G ω f m us hc ha
 have hc0:Conc lo G ω ⟨slots args 0,o⟩ ⟨us.length,tOf us⟩ m:=⟨hc.wf,hc.low,hc.nxt,hc.sub,hc.own,hc.dom,hc.inj,hc.apart,fun t v hv=>by
  obtain⟨_,h2⟩:=yhn hv;obtain⟨u,h3,h4⟩:=ha.get h2;exact⟨u,by rw[yca];simpa using h3,h4⟩⟩
 obtain⟨ω',F',k1,k2,k3,_⟩:=hw lo G ω _ m hc0;have e0:ω'=om0:=funext fun β=>k3.dom β rfl;subst e0
 have hr:RVL F' om0 bs us:=RVL.of_slots (by rw[<-hlen];exact ha.length) fun k v hk=>by
  obtain⟨u,q1,q2⟩:=k3.fr k v (by simpa using yxp (i:=0) hk)
  rw[yca]at q1;exact⟨u,q1,q2⟩
 obtain⟨v,m',r,s0,l1,l2,hQ,hv⟩:=h F' m us k3.wf k3.sub hr;obtain⟨ext,_⟩:=s0 hc.wf;have hlt:∀{x b},m.b.get x=some b->x<m.next:=fun {x b} q=>hc.wf x b q
 have hn:=hc.nxt
 have hF:∀{x b},F' x=some b->frsh m.next m' F' x=some b:=fun {x b} q=>by
  unfold frsh;rw[if_neg (by have:=hlt (k3.sub x b q);omega)];exact q
 refine⟨v,m',r,[],frsh m.next m' F',om0,s0,⟨fun i b q=>ext.wf i b q,zAF hn l1,zAF hn ext.next,fun i b q=>?_,fun β b hb=>(by cases hb),fun β _=>rfl,fun β γ k z k' z' hk=>(by cases hk),fun β k z hk=>(by cases hk),fun t x hx=>(by cases hx)⟩,hv,fun x b q=>hF (k1 x b q),fun x b q=>?_,fun β hβ=>absurd hβ List.not_mem_nil,⟨hq r hQ,trivial,trivial⟩,rfl,hQ⟩
 .unfold frsh at q;split at q
  .exact q
  .exact l2 _ _ (k3.sub i b q)
 .unfold frsh at q;split at q
  .exact .inr (by omega)
  .exact k2 x b q
end Sh
end
section
namespace Sh
open Ev Go.RowKit
set_option maxHeartbeats 4000000 in
theorem yta{st:Int}(hst:inK .i64 st):Returns zJ 11 [.i .i64 st] (.b true):=by
 refine Returns.of (yczr [1000000000] _ _ ?_);have z0:∀k,inK .i64 (([]:List Int).getD k 0):=fun k=>by simp;exact ikw (by omega) (by omega)
 have hx:NetR.ok ⟨2,[],[],[],false,false⟩:=⟨show inK .i64 2 from ikw (by omega) (by omega),z0,z0,z0⟩
 have hC:=ybru hx (most:=2) (by omega)
 simp only[netC]at hC;have hC:=Ct.simL hC (show SimL [.ag [.i .i64 2,.a (.slice none 0 0),.a (.slice none 0 0),.a (.slice none 0 0),.b false,.b false],.i .i64 (2:Nat)] _ from⟨ysb ⟨Sim.refl _,yxi,yxi,yxi,Sim.refl _,Sim.refl _,trivial⟩,Sim.refl _,trivial⟩)
 simp only[c11,ydfn,yddy,ycwh,splice,clash,go_sem,zC,zA,zD,zB,zI,zF,zG,zH,↓reduceIte,reduceCtorEq];refine hC.found (V:=grV) (fun r g h=>h.2.2.2) fun r g h=>?_;obtain⟨hT,hit,hn2,-⟩:=h;have hg:=hT.good;have hI:=ycyy hg;have hCh:Checked (Lies NqB Nqv) (Lies NqC Nqr) NqP g:=⟨hg,ydfy,ybex hg,ybxz⟩;have hTx:=ybne;have hK:=ybdy;have hpl:=hg.2.2.1
 have h2:g.ids.length=2:=by
  have e:IntKind.wrap .i64 ((2:Int)-1)=1:=rfl;have:=hn2.2
  change (g.ports.length:Int)=1+ycu (IntKind.wrap .i64 ((2:Int)-1)) ((2:Nat):Int)at this
  rw[e]at this;have e2:ycu 1 ((2:Nat):Int)=1:=rfl;rw[e2]at this;omega
 have hW:=yhl st 60 (by omega) hst
 obtain⟨w1,w2⟩:=yhw (v:=st) (m:=60) (by omega)
 obtain⟨k,hk⟩:∃k:Nat,ycu st 60=k:=Int.eq_ofNat_of_zero_le w1;rw[hk]at hW w1 w2;have hcv:ygr NqP g (c2 0)=true:=ymd h2 (by omega) (by omega)
 have hWs:=Ct.simL (ybjf [] (fun k=>by simp) k (by omega)) (show SimL [.a (.slice none 0 0),.i .i64 k] _ from⟨yxi,Sim.refl _,trivial⟩)
 simp only[ybh,ybby,ycwh,grV,clash,go_sem,zC,zA,zD,zB,zI,zF,zG,zH,↓reduceIte,reduceCtorEq];refine hW.use ?_;simp only[ybh,ybby,ydbw,splice,clash,go_sem,zC,zA,zD,zB,zI,zF,zG,zH,↓reduceIte,reduceCtorEq];refine hTx.use ?_;simp only[ybh,ybby,splice,clash,go_sem,zC,zA,zD,zB,zI,zF,zG,zH,↓reduceIte,reduceCtorEq]
 try refine⟨by decide,?_⟩
 refine hWs.found (V:=usV) (fun r ws h=>h.2.2) fun r ws h=>?_;obtain⟨hwl,hw,-⟩:=h;have hRun:=ycug ybkp hCh (kind:=4) (by omega) (ycxz _) hcv hw (by omega)
 obtain⟨m,Cs,Ks,hD⟩:=runD (ybp NqP g) resS ws (c2 0);obtain⟨r1,r2⟩:=ywb (nm:=by8 []) (nh:=by8 []) (nl:=by8 []) (nf:=by8 []) (nd:=by8 []) (nt:=by8 []) (ni:=by8 []) hT h2 (ws:=ws);have hm:m=k+1:=by rw[<-hD.len,<-hwl];exact(ywb hT h2 (ws:=ws)).1
 have hat:∀i,i<m->Cs.getD i []=c2 ((i%2:Nat):Int):=fun i hi=>(ywb hT h2 (ws:=ws)).2 i _ (hD.at_ hi).2;have hv2:∀x:Int,0<=x->x<=1->ygr NqP g (c2 x)=true:=fun x h0 h1=>ymd h2 h0 h1;have hLg:=fun(x:Int) (h0:0<=x) (h1:x<=1)=>ybjw hI (ycbx (yml hg ydfy (hv2 x h0 h1))) (fun _=>hT)
 have hwr:∀x:Int,0<=x->x<=1->yjx g (c2 x)=false:=fun x h0 h1=>by
  cases hb:yjx g (c2 x)with
  |false=>rfl
  |true=>exact absurd ((ywi hT (yddb hT hit (hv2 x h0 h1))).1 hb) (ybuu hT h2 h0 h1)
 rw[hD.cs,hD.ks]at hRun;simp only[grV,yeh,yhx,hD.lC,hD.lK]at hRun;simp only[ybh,ybby,splice,clash,go_sem,zC,zA,zD,zB,zI,zF,zG,zH,↓reduceIte,reduceCtorEq]
 have hsim:Sim (.sl 1 2 fun _=>[.sl 1 2 fun _=>[.i .i64 0]]) (ybm (c2 0)):=by
  refine yhz fun q hq=>?_;rcases(show q=0\/q=1 by omega)with rfl|rfl
  all_goals
   exact congrArg (fun x=>[x]) (congrArg (SV.sl 1 2) (funext fun j=>congrArg (fun x=>[SV.i .i64 x]) (by
    match j with
    |0=>rfl
    |1=>rfl
    |j+2=>rfl)))
 have hR2:=(Ct.simL hRun (show SimL [SV.a (Value.string Nqt),SV.ag [yw g.ids,ybe g.ports],SV.i IntKind.i64 4,.sl 1 2 fun _=>[.sl 1 2 fun _=>[.i .i64 0]],usV ws] _ from⟨Sim.refl _,Sim.refl _,Sim.refl _,hsim,Sim.refl _,trivial⟩))
 have hM : Cm zJ 22 [] [(17,Fam.one (some ⟨22,false,1,2,fun k=>zQ 1 (zS (k*1) [SV.os (15,0) 0 2 true,SV.os (16,0) 0 2 true])⟩)),(16,Fam.one (some ⟨3,false,1,2,fun k=>zQ 1 (zS (k*1) [SV.i IntKind.i64 0,SV.i IntKind.i64 0])⟩)),(15,Fam.one (some ⟨3,false,1,2,fun k=>zQ 1 (zS (k*1) [SV.i IntKind.i64 0,SV.i IntKind.i64 0])⟩))]
  [SV.a (Value.string Nqt),SV.ag [yw g.ids,ybe g.ports],SV.i IntKind.i64 4,.os (17,0) 0 2 true,usV ws] (fun r o'=>o'=[]/\r = .tp [.sl 1 m fun i=>[ybm (Cs.getD i [])],.sl 5 m fun i=>cntV (Ks.getD i default),.b true]):=by
  refine Ct.cmv hR2 rfl (Weak.trans (t:=⟨slots [SV.a (Value.string Nqt),SV.ag [yw g.ids,ybe g.ports],SV.i IntKind.i64 4,.os (17,0) 0 2 true,usV ws] 0,[(17,Fam.one (some ⟨22,false,1,2,fun _=>[.sl 1 2 fun _=>[.i .i64 0]]⟩))]⟩) ?_ ?_) ?_
  .refine yh [] [] [(15,0),(16,0)] ?_;simp only[slots,allQ,live,zN,zK,zL,yc,yba,yfk,zM,go_sem,zC,zA,zD,zB,zI,zF,zG,zH,↓reduceIte,reduceCtorEq];refine⟨fun k hk=>?_,fun i hi=>?_⟩
   .rcases(show k=0\/k=1 by omega)with rfl|rfl<;>rfl
   .rcases(show i=0\/i=1 by omega)with rfl|rfl
    .rw[show zQ 1 (zS (0*1) [SV.os (15,0) 0 2 true,SV.os (16,0) 0 2 true])=[SV.os (15,0) 0 2 true]from rfl]
     simp only[go_sem,allQ,live,zN,zK,zL,yc,yba,yfk,zM,go_sem,zC,zA,zD,zB,zI,zF,zG,zH,↓reduceIte,reduceCtorEq];exact yhz fun k hk=>by rcases(show k=0\/k=1 by omega)with rfl|rfl<;>rfl
    .rw[show zQ 1 (zS (1*1) [SV.os (15,0) 0 2 true,SV.os (16,0) 0 2 true])=[SV.os (16,0) 0 2 true]from rfl]
     simp only[go_sem,allQ,live,zN,zK,zL,yc,yba,yfk,zM,go_sem,zC,zA,zD,zB,zI,zF,zG,zH,↓reduceIte,reduceCtorEq];exact yhz fun k hk=>by rcases(show k=0\/k=1 by omega)with rfl|rfl<;>rfl
  .refine yh [] [] [(17,0)] ?_;simp only[slots,allQ,live,zN,zK,zL,yc,yba,yfk,zM,go_sem,zC,zA,zD,zB,zI,zF,zG,zH,↓reduceIte,reduceCtorEq]
  .rintro r rfl;rfl
 refine⟨by decide,.inr (yfr hM [(15,15),(16,16),(17,17)] 0 [0,3] [3] ?_ ?_)⟩
 .simp only[go_sem,to1,okN,yco,yfe,yej,ydu,allQ,live,zN,zK,zL,yc,yba,yfk,zM,go_sem,zC,zA,zD,zB,zI,zF,zG,zH,↓reduceIte,reduceCtorEq];refine⟨⟨fun i hi=>?_,fun i hi=>?_⟩,by decide⟩
  .rcases(show i=0\/i=1 by omega)with rfl|rfl
   .rw[show zQ 1 (zS (0*1) [SV.os (15,0) 0 2 true,SV.os (16,0) 0 2 true])=[SV.os (15,0) 0 2 true]from rfl]
    simp only[go_sem,to1,okN,yco,yfe,yej,ydu,allQ,live,zN,zK,zL,yc,yba,yfk,zM,go_sem,zC,zA,zD,zB,zI,zF,zG,zH,↓reduceIte,reduceCtorEq]
   .rw[show zQ 1 (zS (1*1) [SV.os (15,0) 0 2 true,SV.os (16,0) 0 2 true])=[SV.os (16,0) 0 2 true]from rfl]
    simp only[go_sem,to1,okN,yco,yfe,yej,ydu,allQ,live,zN,zK,zL,yc,yba,yfk,zM,go_sem,zC,zA,zD,zB,zI,zF,zG,zH,↓reduceIte,reduceCtorEq]
  .rw[show zQ 1 (zS (i*1) [SV.i IntKind.i64 0,SV.i IntKind.i64 0])=[SV.i IntKind.i64 0]by rcases(show i=0\/i=1 by omega)with rfl|rfl<;>rfl]
   simp only[go_sem,to1,okN,yco,yfe,yej,ydu,allQ,live,zN,zK,zL,yc,yba,yfk,zM,go_sem,zC,zA,zD,zB,zI,zF,zG,zH,↓reduceIte,reduceCtorEq]
 rintro r o' ⟨rfl,rfl⟩;simp only[clash,splice,SRec.top,yrl,ynr,nuF,nu,difN,yej,ydu,Fam.ren,OB.ren,dim,yhk,ydgi,ybxe,yub,ycjd,ybop,ybqu,yvo,yso,ybnz,ybqj,ymy,go_sem,zC,zA,zD,zB,zI,zF,zG,zH,↓reduceIte,reduceCtorEq];have hal:∀x:Int,(c2 x).length=2:=fun x=>rfl;have hrow:∀(x:Int) v,v<2->(c2 x).getD v []=[0,x]:=fun x v hv=>yst hv;simp only[ydex,clash,go_sem,zC,zA,zD,zB,zI,zF,zG,zH,↓reduceIte,reduceCtorEq]
 refine ybn (σ:=Nat) (fun i=>⟨[(7,.i .i64 i),(6,.b true),(4,.sl 1 m fun i=>[ybm (Cs.getD i [])]),(0,.i .i64 k),(3,.pt (3,0) 0 0)],[(3,.one (some ⟨27,true,2,1,fun _=>[yw g.ids,ybe g.ports]⟩))]⟩) (fun i=>i<=m) (fun i=>m-i) 0 (Nat.zero_le _) ?_ ?_
 .refine yh [] [] [] ?_;simp only[go_sem,allQ,live,zN,zK,zL,yc,yba,yfk,zM,go_sem,zC,zA,zD,zB,zI,zF,zG,zH,↓reduceIte,reduceCtorEq]
 intro i hi
 by_cases hlt:i<m
 .have t1:decide ((i:Int)<(m:Int))=true:=decide_eq_true (by omega)
  have hCi:=hat i hlt;obtain⟨E,hE⟩:∃E,((i%2:Nat):Int)=E:=⟨_,rfl⟩
  have em:(i:Int).tmod 2=E:=by
   rw[<-hE,Int.tmod_eq_emod_of_nonneg (by omega)]
   rfl
  rw[hE]at hCi;have hLgE:=hLg E (by omega) (by omega)
  rw[hwr E (by omega) (by omega)]at hLgE
  have f2:(E != E)=false:=by simp
  have hlE:=hal E;have hrE:=hrow E 0 (by omega)
  simp only[grV]at hLgE;have n1:(((2:Nat):Int)!=2)=false:=rfl;simp only[ycvv,ydib,ybm,hCi,hlE,t1,n1,clash,go_sem,zC,zA,zD,zB,zI,zF,zG,zH,↓reduceIte,reduceCtorEq];simp only[ybm,hlE]at hLgE
  repeat (first|refine⟨(⟨by omega,by omega⟩:_/\_),?_⟩|refine⟨(by omega:(_:Prop)),?_⟩)
  refine hLgE.use ?_;simp only[ybh,ybby,ydda,ybm,yw,hCi,hlE,hrE,zW,List.length_nil,zY,zZ,Int.reduceBNe,n1,em,f2,clash,go_sem,zC,zA,zD,zB,zI,zF,zG,zH,↓reduceIte,reduceCtorEq]
  repeat (first|refine⟨(⟨by omega,by omega⟩:_/\_),?_⟩|refine⟨(by omega:(_:Prop)),?_⟩|refine⟨ikw (by omega) (by omega),?_⟩|refine⟨(by decide:(_:Prop)),?_⟩)
  refine yu (i+1) (by omega) (by omega) ?_
  refine yh [] [] [] ?_;simp only[ybm,hlE,allQ,live,zN,zK,zL,yc,yba,yfk,zM,go_sem,zC,zA,zD,zB,zI,zF,zG,zH,↓reduceIte,reduceCtorEq];omega
 .obtain rfl:i=m:=by omega
  have t1:decide ((i:Int)<(i:Int))=false:=decide_eq_false (by omega)
  have t3:(((i:Nat):Int)==(k:Int)+1)=true:=by simp;omega
  simp only[ycvv,ydhw,t1,clash,go_sem,zC,zA,zD,zB,zI,zF,zG,zH,↓reduceIte,reduceCtorEq];refine hK.use ?_;simp only[ybh,ybby,t3,clash,go_sem,zC,zA,zD,zB,zI,zF,zG,zH,↓reduceIte,reduceCtorEq];exact⟨ikw (by omega) (by omega),Sim.refl _⟩
end Sh
end
section
open Go.ChangeShapes Go.WideShapes Go.ChangeAt Go.RowKit Go.Joins Go.WideMaps Go.WideElems
set_option linter.unusedVariables false
set_option maxRecDepth 100000 in
theorem yjh(W:World)(h:laidMetH zJ Rows.electionTogetherRow.laid W):Ev.GlW W:=fun x hx=>by
 rw[MakeChecks.laidMetH_plain _ _ _ (by kernel_rfl)]at h
 have hg : Tryz.prog.globalNamed "math/bits.deBruijn32tab" = some 0 := by kernel_rfl
 have ht:=Lib.tabIs_of_head (rest:=[]) (k:=.u8) (zs:=([0,1,28,2,29,14,24,3,30,22,20,15,25,17,4,8,31,27,13,23,21,19,16,7,26,12,18,6,11,5,10,9]:List Int)) (t:=226) (e:=5) (n:=32) hg (by kernel_rfl) (by kernel_rfl) (by kernel_rfl) (by kernel_rfl) (by kernel_rfl) h
 unfold Lib.TabIs World.var? at ht;rw[hg]at ht;simp only[Option.bind_some]at ht;split at ht
 .rename_i cs e fz hc
  obtain rfl:=Option.some.inj ht;obtain rfl:=Option.some.inj hx;exact⟨_,_,hc⟩
 .cases ht
set_option maxRecDepth 100000 in
theorem yjg(os:Os)(args:Array Value):laidMetH zJ Rows.electionTogetherRow.laid ((World.doorLaid zJ 14 os).forCall (fun _ _=>0) ⟨#[],args,[]⟩).memory :=
 laidMetH_of_parts3 (fuel:=8) (laidMet_of_run' 8 (by kernel_rfl) (by kernel_rfl)) (by kernel_rfl) (by kernel_rfl)
set_option maxRecDepth 100000 in
theorem yir(os:Os)(started:os.Started)(H:Type)(enc:TypeId×Value->H) :
 ReturnsInHanded {} zAA os 11 .any (fun w args=>(Rows.electionTogetherSpec.pre enc zJ zX [] false w args/\laidMetH zJ Rows.electionTogetherRow.laid w)/\sizedMet enc zJ zX (OpenSpec.ofChange Rows.electionTogetherSpec) false w args)
  (Rows.electionTogetherSpec.post enc zJ zX false true false false):=by
 refine returnsInHanded_of_change_and (C:=zAA) (X:=fun w _=>laidMetH zJ Rows.electionTogetherRow.laid w) (fun _ _ _ hh h=>h.of_heap hh) own started (by kernel_rfl) zAB
  (ChangeSpec.witness_shaped (enc:=enc) (C:=zAA) (os:=os) (X:=fun w _=>laidMetH zJ Rows.electionTogetherRow.laid w) false (World.doorLaid zJ 14 os) #[.int .i64 0] 8 rfl (World.shaped_of_RefB (by kernel_rfl) (by kernel_rfl)) (by kernel_rfl) (by kernel_rfl) (by kernel_rfl) (yjg os _)) ?_
 intro W base args ds gs before hval0 hW _ _ hL _;have hval:∀(j:Nat) t v,Tryz.f11.params[j]?=some t->args[j]?=some v->Value.okWide zJ W .any base t v:=hval0;have hW':=hW;obtain⟨p,q,hA0,hV,rfl,hfz,hnd⟩:=hW;have hA:DataW.TrodAll enc zJ W 0 (fun _=>true) true Tryz.f11.params.toList args.toList ds p:=hA0;rw[Tryz.params11]at hA hval;obtain⟨v0,vs0,d0,ds0,p0,q0,hargs,rfl,rfl,h0,r0⟩:=trodAll_cons hA;obtain⟨rfl,rfl,rfl⟩:=trodAll_nil r0
 obtain rfl:args = #[v0]:=by cases args;simp_all
 obtain⟨rfl,rfl⟩:=trodVars_none hV;have k0:=h0;have lt0:∀x∈p0,x.block<W.heap.size:=by obtain⟨m,hm⟩:=k0;exact DataW.trod_lt m _ _ _ hm
 obtain⟨m0,hm0⟩:=h0;obtain⟨n0,rfl⟩:=okWide_int zAC (hval 0 3 v0 rfl rfl);obtain⟨x0,hx0,u0,a0,rr0⟩:=Sh.ybri (v:=.int .i64 n0) hm0
 clear hA0 hval0
 have ha:Sh.RVL (Sh.memW W).b.get Sh.om0 [.i .i64 x0] [u0]:=.cons rr0 .nil;have hv:Ev.VRL (Sh.phiW W) [u0] [.int .i64 n0]:=.cons (Sh.ybry a0) .nil;refine(Sh.ybkt (Sh.yta hx0) ⟨_,_,zAB,rfl⟩ Ev.ysg (yjh W hL) ha hv).mono fun e W' ⟨he,bel⟩=>?_;subst he;exact⟨_,rfl,_,_,_,[],_,[],hW',trodAll_mk1 (shut_bool Tryz.underlying4 _),(trodAll_cons_mk (Below.trod laidOut (by kernel_rfl) (of_decide_eq_true (by kernel_rfl)) k0 bel lt0) trodAll_mk0),rfl,bel.frame _,fun h=>by cases h⟩
end
section
def ioN:List Nat:=[104,97,114,110,101,115,115,32,101,52,49,99,97,57,54,99,54,54,56,50,102,54,55,101,57,51,102,51,48,51,101,48,51,98,57,97,56,54,102,55,97,50,53,102,55,52,99,102,98,55,57,53,57,48,57,52,55,52,55,48,48,102,100,56,48,52,56,55,54,48,53,97,32,99,117,116,32,97,116,32,115,101,108,102,115,116,97,98,47,115,101,108,102,115,116,97,98,108,97,119,50,55,46,67,101,110,116,101,114,77,105,100,100,108,101,32,115,101,108,102,115,116,97,98,47,115,101,108,102,115,116,97,98,108,97,119,50,55,46,67,101,110,116,101,114,82,111,117,110,100,115,32,115,101,108,102,115,116,97,98,47,115,101,108,102,115,116,97,98,108,97,119,50,55,46,67,101,110,116,101,114,82,101,97,99,104,101,115,32,115,101,108,102,115,116,97,98,47,115,101,108,102,115,116,97,98,108,97,119,50,55,46,67,101,110,116,101,114,82,101,115,116,115,32,115,101,108,102,115,116,97,98,47,115,101,108,102,115,116,97,98,108,97,119,50,55,46,67,101,110,116,101,114,65,110,111,110,121,109,111,117,115,32,115,101,108,102,115,116,97,98,47,115,101,108,102,115,116,97,98,108,97,119,50,56,46,69,108,101,99,116,105,111,110,82,101,97,99,104,101,115,32,115,101,108,102,115,116,97,98,47,115,101,108,102,115,116,97,98,108,97,119,50,56,46,69,108,101,99,116,105,111,110,82,101,115,116,115,32,115,101,108,102,115,116,97,98,47,115,101,108,102,115,116,97,98,108,97,119,50,56,46,69,108,101,99,116,105,111,110,67,101,110,116,114,101,32,115,101,108,102,115,116,97,98,47,115,101,108,102,115,116,97,98,108,97,119,50,56,46,69,108,101,99,116,105,111,110,84,111,103,101,116,104,101,114,32,115,101,108,102,115,116,97,98,47,115,101,108,102,115,116,97,98,108,97,119,51,50,46,67,111,108,111,117,114,105,110,103,83,104,114,105,110,107,115,32,115,101,108,102,115,116,97,98,47,115,101,108,102,115,116,97,98,108,97,119,51,50,46,67,111,108,111,117,114,105,110,103,82,101,97,99,104,101,115,32,115,101,108,102,115,116,97,98,47,115,101,108,102,115,116,97,98,108,97,119,51,50,46,67,111,108,111,117,114,105,110,103,82,101,115,116,115,32,115,101,108,102,115,116,97,98,47,115,101,108,102,115,116,97,98,108,97,119,51,48,46,77,97,116,99,104,105,110,103,77,97,120,105,109,97,108,32,115,101,108,102,115,116,97,98,47,115,101,108,102,115,116,97,98,108,97,119,51,48,46,77,97,116,99,104,105,110,103,83,116,97,121,115,32,115,101,108,102,115,116,97,98,47,115,101,108,102,115,116,97,98,108,97,119,51,48,46,77,97,116,99,104,105,110,103,84,111,103,101,116,104,101,114,32,115,101,108,102,115,116,97,98,47,115,101,108,102,115,116,97,98,108,97,119,51,48,46,77,97,116,99,104,105,110,103,82,101,97,99,104,101,115,32,115,101,108,102,115,116,97,98,47,115,101,108,102,115,116,97,98,108,97,119,51,48,46,77,97,116,99,104,105,110,103,82,101,115,116,115,32,115,101,108,102,115,116,97,98,47,115,101,108,102,115,116,97,98,108,97,119,50,54,46,76,101,97,100,101,114,65,110,121,119,104,101,114,101]
theorem ydkc:Tryz.prog.initOrder=String.ofList (ioN.map Char.ofNat):=by kernel_rfl
theorem ywa:Tryz.prog.initOrder.toList=ioN.map Char.ofNat:=by rw[ydkc];exact String.toList_ofList
theorem yctm (P : Program) {l c : List Char} {rest : List (List Char)} (h : P.initOrder.toList = l) (hb : behindMainWord (wordsSigns l) = c :: rest) (h1 : (c == "gc".toList || c == "spec".toList) = false) (h2 : (c == "cut".toList) = true) : P.make = some Make.cut := by
 unfold Program.make;rw[h,hb];simp only[h1,h2];simp
theorem ycbz (P : Program) {l c : List Char} {rest : List (List Char)} (h : P.initOrder.toList = l) (hb : behindMainWord (wordsSigns l) = c :: rest) (e : (stripLifts liftWords (c :: rest)).1 = []) (e2 : ((stripLifts liftWords (c :: rest)).2.head? == some "cut".toList) = true)
 (h1:P.bearsReflect=false) (h2:P.laysLater=false) (h3:P.doorFits []=true):P.mayEnter=true:=by
 unfold Program.mayEnter;rw[h,hb];simp only[e,e2,h1,h2,h3];simp
theorem ydfi : behindMainWord (wordsSigns (ioN.map Char.ofNat)) = "cut".toList :: (behindMainWord (wordsSigns (ioN.map Char.ofNat))).tail := by kernel_rfl
theorem ycsy:Tryz.prog.make=some Make.cut:=yctm _ ywa ydfi (by kernel_rfl) (by kernel_rfl)
theorem ybyh:Tryz.prog.mayEnter=true:=ycbz _ ywa ydfi (by kernel_rfl) (by kernel_rfl) (by kernel_rfl) (by kernel_rfl) (by kernel_rfl)
def ioH:List Nat:=[101,52,49,99,97,57,54,99,54,54,56,50,102,54,55,101,57,51,102,51,48,51,101,48,51,98,57,97,56,54,102,55,97,50,53,102,55,52,99,102,98,55,57,53,57,48,57,52,55,52,55,48,48,102,100,56,48,52,56,55,54,48,53,97]
theorem yczl : "e41ca96c6682f67e93f303e03b9a86f7a25f74cfb795909474700fd80487605a".toList = ioH.map Char.ofNat := by
 have h : "e41ca96c6682f67e93f303e03b9a86f7a25f74cfb795909474700fd80487605a" = String.ofList (ioH.map Char.ofNat) := by kernel_rfl
 rw[h];exact String.toList_ofList
theorem ycui (P : Program) {l h s : List Char} {rest : List (List Char)} (hl : P.initOrder.toList = l) (hb : wordsSigns l = h :: s :: rest) (hs : isSumSigns s = true) (hh : (h == "harness".toList) = true) : P.mainIs = some (true, s) := by
 unfold Program.mainIs;rw[hl,hb];simp only[hs,hh];simp
theorem ydkn:wordsSigns (ioN.map Char.ofNat)=([104,97,114,110,101,115,115]:List Nat).map Char.ofNat::ioH.map Char.ofNat::(wordsSigns (ioN.map Char.ofNat)).tail.tail:=by kernel_rfl
theorem ydad : Tryz.prog.mainIs = some (true, "e41ca96c6682f67e93f303e03b9a86f7a25f74cfb795909474700fd80487605a".toList) := by
 rw[yczl];exact ycui _ ywa ydkn (by kernel_rfl) (by kernel_rfl)
theorem ycbs:true=Tryz.prog.looks []:=by kernel_rfl
theorem ycdc:Tryz.prog.liftsFinal=false:=by
 unfold Program.liftsFinal Program.headLifts;rw[ywa]
 kernel_rfl
end
section
open Go.ChangeShapes Go.WideShapes Go.ChangeAt Go.RowKit Go.Joins Go.WideMaps Go.WideElems
set_option linter.unusedVariables false
theorem ylm:(Rows.electionTogetherRow.inPlace==Tryz.prog.inPlace 11)=true:=by kernel_rfl
theorem yll:(Rows.electionTogetherRow.unfollowed==Tryz.prog.unfollowed 11)=true:=by kernel_rfl
theorem yla:(Rows.electionTogetherRow.recurses==Tryz.prog.recurses 11)=true:=by kernel_rfl
theorem ylo:(Rows.electionTogetherRow.named==Tryz.prog.varsNamed 11)=true:=by kernel_rfl
theorem ykx:laidOutB zJ=true:=by kernel_rfl
theorem ykv:mapsRowed zJ=true:=by kernel_rfl
theorem ygo:Tryz.prog.funcNamed Rows.electionTogetherRow.func=some 11:=by kernel_rfl
theorem ylc:Rows.electionTogetherRow.wf (OpenSpec.ofChange Rows.electionTogetherSpec)=true:=by kernel_rfl
theorem yim:joinedFacts zJ 11 zX Rows.electionTogetherSpec Rows.electionTogetherRow=true:=by
 unfold joinedFacts
 repeat' (with_reducible refine Bool.and_eq_true_iff.2 ⟨?_,?_⟩)
 all_goals first|(with_reducible exact ylm)|(with_reducible exact yll)|(with_reducible exact yla)|(with_reducible exact ylo)|(with_reducible exact ykx)|(with_reducible exact ykv)|(with_reducible exact ylc)|(with_reducible exact ybyh)|(rw[ycdc];rfl)|(rw[ycsy];rfl)|kernel_rfl
theorem yjn:Tryz.f11.isInstance zJ Rows.electionTogetherRow.origin Rows.electionTogetherRow.targs:=of_decide_eq_true (by kernel_rfl)
theorem yjk:Tryz.f11.isWrapper zJ Rows.electionTogetherRow.wrapper Rows.electionTogetherRow.mainSum:=by
 unfold Func.isWrapper
 first|(rw[if_pos (by decide +kernel)];kernel_rfl)|(rw[if_neg (by decide +kernel)];exact⟨rfl,rfl⟩)
theorem yji:Rows.ElectionTogetherSaid :=
 OpenClaim.holds_of_wide 11 zX rfl rfl rfl rfl rfl rfl rfl ⟨rfl,rfl,rfl,rfl,rfl⟩ rfl rfl rfl rfl rfl ygo zAB yim yjn yjk
  (fun os started H enc _=>yir os started H enc)
end
end Go.Proofs.YtiejahgklcjhkaaGreatDoor
