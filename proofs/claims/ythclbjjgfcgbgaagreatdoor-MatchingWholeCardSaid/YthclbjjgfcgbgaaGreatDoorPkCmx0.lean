/- Joined. -/
import Derived.Deep.Matrix
import Derived.Lib.SmallJoins
import Derived.Test.YthclbjjgfcgbgaaGreatDoorPkCm20
import Derived.Test.YthclbjjgfcgbgaaGreatDoorTie
import Derived.Test.YthclbjjgfcgbgaaGreatDoorCards
import Derived.LaidMore
set_option linter.unusedSimpArgs false
set_option linter.unusedVariables false
set_option maxRecDepth 8000
open Go.Proofs.Tryz renaming prog->zA,checked->zI,f8->zJ,underlying3->zL,underlying4->zM,func8->zN
open List renaming getElem?_eq_getElem->zB,getD_eq_getElem?_getD->zC,getElem?_map->zG,getElem?_eq_none->zH,map_cons->zO
open Array renaming getElem?_eq_none->zD
open Nat renaming eq_zero_or_pos->zF,sub_zero->zQ
open Classical renaming choose->zK,choose_spec->zS
open Go
namespace Go.Proofs.YthclbjjgfcgbgaaGreatDoor
section
open Go.ChangeShapes Go.WideShapes Go.ChangeAt Go.RowKit
theorem ybvq{α:Type}{p:Nat->α->Prop}:∀(n:Nat),(∀i,i<n->∃x,p i x)->∃xs:List α,xs.length=n/\∀(j:Nat) (x:α),xs[j]?=some x->p j x
 |0,_=>⟨[],rfl,by simp⟩
 | n + 1,h=>by
   obtain⟨xs,h1,h2⟩:=ybvq n fun i hi=>h i (by omega)
   obtain⟨x,hx⟩:=h n (by omega)
   refine⟨xs++[x],by simp[h1],fun j y hy=>?_⟩
   by_cases hj:j<xs.length
   .rw[List.getElem?_append_left hj]at hy;exact h2 j y hy
   .rw[List.getElem?_append_right (by omega)]at hy
    have:j-xs.length=0:=by
     rcases zF (j-xs.length)with q|q
     .exact q
     .rw[zH (by simp;omega)]at hy;cases hy
    rw[this]at hy;simp at hy;subst hy;obtain rfl:j=n:=by omega
    exact hx
section
variable {H:Type}{enc:TypeId×Value->H}{P:Program}{w:World}{base:Nat}{held:Bool}
theorem wf_i64{n:Int}(h:(Lit.int .i64 n).wf=true):I64 n:=by
 simp only[Lit.wf,Bool.and_eq_true,decide_eq_true_eq]at h;have e1:IntKind.i64.min = -9223372036854775808:=rfl;have e2:IntKind.i64.max=9223372036854775807:=rfl;rw[e1,e2]at h;exact h
end
theorem own:ownKnob Tryz.prog.godebug=Option.none:=by kernel_rfl
theorem laidOut:laidOutB zA=true:=by kernel_rfl
section
variable {H:Type}{enc:TypeId×Value->H}{w:World}{base:Nat}{held:Bool}{n:Nat}{v:Value}{x:DataW H×List MemPlace}
end
end
section
namespace Sh
open Go Ev Go.RowKit
noncomputable def ybcf{α:Type}(t:T α):Nat->List (Option α)->T α
 |_,[]=>t
 |i,x::l=>ybcf (T.set (Nat.succ i) t i x) (i+1) l
theorem ynz{α:Type}:∀(l:List (Option α)) (t:T α) (i j:Nat),(ybcf t i l).get j=if i<=j/\j<i+l.length then(l[j-i]?).join else t.get j
 |[],t,i,j=>by rw[if_neg (by simp)];rfl
 | x :: l,t,i,j=>by
   unfold ybcf;rw[ynz l _ _ j]
   by_cases c:i+1<=j/\j<i+1+l.length
   .rw[if_pos c,if_pos (by simp;omega),show j-i=(j-(i+1))+1 by omega]
    rfl
   .rw[if_neg c,T.set_at]
    by_cases q:j=i
    .subst q;rw[if_pos rfl,if_pos (by simp)]
     simp
    .rw[if_neg q,if_neg (by simp;omega)]
def absV(Z:Nat)(v:Value):Option Value:=if simple v then some v else match v with
 |.slice (some ⟨b,o,none⟩) n c=>if n<=c/\c<=9223372036854775807 then(if c=0 then some (.slice (some ⟨Z,0,none⟩) n CU)else if b<=Z then some (.slice (some ⟨b,o,none⟩) n CU)else none)else none
 |.slice (some ⟨_,_,some _⟩) n c=>if n<=c/\c=0 then some (.slice (some ⟨Z,0,none⟩) n CU)else none
 |_=>none
def isU8:Value->Bool
 |.int .u8 _=>true
 |_=>false
noncomputable def absB(Z:Nat)(w:World)(i:Nat):Option ABlk:=match w.heap[i]? with
 |some (.cells c _ _)=>if c.toList.all isU8=true then none else some (.cells (ybcf .leaf 0 (c.toList.map (absV Z))) c.size CU 0)
 |_=>none
def phiW(w:World):Phi:=fun i=>match w.heap[i]? with
 |some (.cells c _ _)=>some ⟨i,0,c.size,0,w.heap[i]?⟩
 |_=>if i<=w.heap.size then some ⟨i,0,0,0,none⟩else none
noncomputable def memW(w:World):Mem:=⟨w.heap.size+1,ybcf .leaf 0 ((List.range w.heap.size).map (absB w.heap.size w)),w.heap.size+1⟩
theorem yky{w:World}{i:Nat}{b:ABlk}:(memW w).b.get i=some b↔absB w.heap.size w i=some b:=by
 show(ybcf .leaf 0 _).get i=some b↔_;rw[ynz]
 by_cases h:i<w.heap.size
 .rw[if_pos (by simpa using h)]
  simp[h]
 .rw[if_neg (by simpa using h),T.get_leaf]
  have:absB w.heap.size w i=none:=by unfold absB;rw[zD (by omega)]
  rw[this]
theorem ybjr(w:World):Wf (memW w):=fun i b h=>by
 rw[yky]at h;show i<w.heap.size+1;unfold absB at h;split at h
 .rename_i hc;have:=(Array.getElem?_eq_some_iff.1 hc).1;omega
 .cases h
theorem ymp{w:World}{v u:Value}(h:absV w.heap.size v=some u):VR (phiW w) u v:=by
 have hZ:∃l,phiW w w.heap.size=some l:=by
  unfold phiW;rw[zD (Nat.le_refl _)];simp
 have hφ:∀b,b<=w.heap.size->∃sz ob,phiW w b=some ⟨b,0,sz,0,ob⟩:=by
  intro b hb;unfold phiW;split
  .exact⟨_,_,rfl⟩
  .rw[if_pos hb];exact⟨_,_,rfl⟩
 unfold absV at h;split at h
 .rename_i hs;cases h;exact .simple hs
 .split at h
  .rename_i b o n c _
   split at h
   .rename_i hc
    split at h
    .rename_i h0
     cases h
     obtain⟨l,hl⟩:=hZ;exact .slice hl hc.1 (fun q=>absurd rfl q) hc.2 (.inr h0)
    .split at h
     .rename_i hbl
      cases h
      obtain⟨sz,ob',hl⟩:=hφ b hbl;exact .slice hl hc.1 (fun q=>absurd rfl q) hc.2 (.inl ⟨by simp,.inl rfl⟩)
     .cases h
   .cases h
  .rename_i b o sp n c _
   split at h
   .rename_i hc
    cases h
    obtain⟨l,hl⟩:=hZ;exact .slice hl hc.1 (fun q=>absurd rfl q) (by omega) (.inr hc.2)
   .cases h
  .cases h
theorem ycjb:∀x,ycks=some x->x.2.all isU8=true:=by
 intro x hx;unfold ycks at hx
 first|(cases hx;done)|(cases hx;rfl)
theorem relW{w:World}(hG:GlW w):Rel (phiW w) (memW w).b.get w:=by
 have hblk:∀i b,(memW w).b.get i=some b->∃l,phiW w i=some l/\l.blk=i/\l.ob=w.heap[i]?/\BR (phiW w) l w b:=by
  intro i b hb;rw[yky]at hb;unfold absB at hb;split at hb
  .rename_i c e fz hc
   split at hb
   .cases hb
   cases hb
   refine⟨⟨i,0,c.size,0,w.heap[i]?⟩,by unfold phiW;rw[hc],rfl,rfl,rfl,by simp,c.toList,e,fz,⟨fun q=>absurd rfl q,fun o ho=>ho⟩,by simpa using hc,by simp,fun j v hj hg=>?_⟩
   rw[ynz]at hg;split at hg
   .simp only[zQ,zG]at hg;cases hcj:c.toList[j]? with
    |none=>rw[hcj]at hg;cases hg
    | some x =>
      rw[hcj]at hg;have hg:absV w.heap.size x=some v:=by simpa using hg
      exact⟨x,by rw[Nat.zero_add];exact hcj,ymp hg⟩
   .rw[T.get_leaf]at hg;cases hg
  .cases hb
 refine⟨⟨fun i b hb=>by obtain⟨l,h1,_,_,h2⟩:=hblk i b hb;exact⟨l,h1,h2⟩,fun i j x y li lj hne hx hy hi hj=>?_⟩,fun x hx=>⟨hG x hx,fun⟨i,b,l,h1,h2,h3⟩=>?_⟩⟩
 rotate_left
 .obtain⟨l',k1,k2,_⟩:=hblk i b h1;rw[h2]at k1;cases k1
  rw[h3]at k2;obtain⟨e,fz,q⟩:=hG x hx;rw[yky]at h1;unfold absB at h1;rw[<-k2,q]at h1;simp only at h1;rw[if_pos (by simpa using ycjb x hx)]at h1
  cases h1
 obtain⟨l,h1,h2,_⟩:=hblk i x hx;obtain⟨l',h3,h4,_⟩:=hblk j y hy;rw[hi]at h1;cases h1
 rw[hj]at h3;cases h3
 rw[h2,h4];exact hne
theorem ydkj{w:World}{i:Nat}{b:ABlk}{l:Ev.Loc}(hb:(memW w).b.get i=some b)(hl:phiW w i=some l):l.blk=i/\∃o,l.ob=some o/\w.heap[i]?=some o:=by
 rw[yky]at hb;unfold absB at hb;split at hb
 .rename_i c e fz hc
  unfold phiW at hl;rw[hc]at hl;cases hl
  exact⟨rfl,_,rfl,hc⟩
 .cases hb
theorem ydpa(w:World)(n:Nat):ygv (phiW w) (memW w).next n:=by
 intro i h1 _;have h1:w.heap.size+1<=i:=h1;unfold phiW;rw[zD (by omega)]
 simp only;rw[if_neg (by omega)]
theorem ycfy {P:Program}{g:FuncId}{args:List SV}{r:SV}{v:Value}{us us':List Value}{w:World}(h:Returns P g args r) (hg:∃fn c,P.funcs[g]?=some fn/\fn.body=some c) (hn:ypr P) (hG:GlW w)
 (ha:RVL (memW w).b.get om0 args us) (hv:VRL (phiW w) us us') (hr:∀F u,RV F om0 r u->u=v) (hat:∀φ v',VR φ v v'->v'=v):Calls P g us'.toArray w fun e w'=>e = .returned v/\Below w.heap.size w w':=by
 obtain⟨u,m',x,h1,h2,h3,rfl,h5⟩:=h (memW w).b.get (memW w) us (ybjr w) (Le.refl _) ha;have hu:=hr _ _ h5;subst hu;have hs:=(h1 (ybjr w)).2 (phiW w) (memW w).b.get w us' (relW hG) (fun i b hb=>hb) hv (ydpa w _);obtain⟨fn,c,k1,k2⟩:=hg;rcases hs with⟨_,hc⟩|⟨v',w',hrun,_⟩
 .refine hc.mono ?_;rintro e w' ⟨v',rfl,φ',M',hgd,hvr⟩;rw[hat _ _ hvr];refine⟨rfl,hgd.wg.os,hgd.wg.tape,hgd.wg.output,hgd.wg.size,fun k hk=>?_⟩
  by_cases hi:Img (phiW w) (memW w).b.get k
  .obtain⟨i,b,l,e1,e2,e3⟩:=hi;obtain⟨k4,o,k5,k6⟩:=ydkj e1 e2;have hik:i=k:=k4.symm.trans e3;subst hik;have hlt:i<(memW w).next:=ybjr w i b e1
   have hM:M' i=some b:=by
    rw[hgd.frame i (fun q=>by omega) (.inr (Nat.lt_of_lt_of_le hlt h2))]
    exact e1
   obtain⟨l',q1,q2⟩:=hgd.rel.blk i b hM;rw[hgd.le i l e2]at q1;cases q1
   have hcells:∃c n,b = .cells c n CU 0:=by
    rw[yky]at e1;unfold absB at e1;split at e1
    .split at e1
     .cases e1
     .cases e1;exact⟨_,_,rfl⟩
    .cases e1
   obtain⟨c',n',rfl⟩:=hcells;obtain⟨_,_,cs,e',fz,h0,_⟩:=q2;rw[k4]at h0;rw[h0.2 o k5,k6]
  .exact hgd.wg.keep k hk hi
 .rw[ybx hn k1 k2]at hrun;cases hrun
end Sh
end
section
namespace Sh
open Go Ev Go.RowKit Go.ChangeShapes Go.WideShapes Go.ChangeAt
def yvv(w:World)(g:SV)(v:Value):Prop:=∃u,absV w.heap.size v=some u/\RV (memW w).b.get om0 g u
def yboo(w:World)(g:List SV)(cs:List Value):Prop:=∃L,cs.map (absV w.heap.size)=L.map some/\RVL (memW w).b.get om0 g L
theorem yboo.nil(w:World):yboo w [] []:=⟨[],rfl,.nil⟩
theorem yvv.cons{w:World}{g:SV}{v:Value}{gs:List SV}{cs:List Value}(h:yvv w g v)(t:yboo w gs cs):yboo w (g::gs) (v::cs):=by
 obtain⟨u,h1,h2⟩:=h;obtain⟨L,h3,h4⟩:=t;exact⟨u::L,by rw[zO,zO,h1,h3],.cons h2 h4⟩
theorem ybks(w:World)(k:IntKind)(n:Int):yvv w (.i k n) (.int k n):=⟨.int k n,rfl,.i⟩
theorem ybmp{w:World}{a:Addr}{v:Value}(h:w.cell? a=some v):a.spot=none/\a.block<w.heap.size/\∃c e fz,w.heap[a.block]?=some (.cells c e fz)/\c[a.off]?=some v:=by
 unfold World.cell? at h;split at h
 .rename_i c e fz hc
  split at h
  .cases h
  .rename_i hs
   refine⟨?_,(Array.getElem?_eq_some_iff.1 hc).1,c,e,fz,hc,h⟩;cases hq:a.spot with
   |none=>rfl
   |some x=>rw[hq]at hs;simp at hs
 .cases h
section
variable {H:Type}{enc:TypeId×Value->H}{P:Program}{w:World}{base:Nat}{held:Bool}
theorem ybry {α:Type}{z:Nat}{f:α->List SV}{p:α->Prop}(d:α) {t e:TypeId}{fuel:Nat}{v:Value}{x:DataW H×List MemPlace}(ht:P.underlying t=some (.slice e)) (hC:P.cellsOf e=z) (h0:0<z)
 (hE:∀(n:Nat) (cs':List Value) (y:DataW H×List MemPlace),DataW.trod enc P w base (fun _=>true) held n e cs'=some y->cs'.length=z->∃x,p x/\yboo w (f x) cs'/\(f x).all one1=true/\(cs'.head?.any isU8)=false)
 (h:DataW.trod enc P w base (fun _=>true) held fuel t [v]=some x):∃xs:List α,(∀x∈xs,p x)/\yvv w (.sl z xs.length (fun k=>f (xs.getD k d))) v/\isU8 v=false:=by
 rcases Go.Deep.open_slice ht h with⟨h1,_⟩|⟨a,len,cap,m,n,D,Pl,hcs,hb,hl,hm,hmm,hx,hi⟩
 .simp at h1;subst h1;exact⟨[],fun x hx=>(by cases hx),⟨.slice none 0 0,rfl,.sl0 (.inl rfl)⟩,rfl⟩
 .simp at hcs;subst hcs;simp only[if_true]at hmm;subst hmm;unfold maxLen at hm;rw[hC]at hi;obtain⟨b,off,spot⟩:=a;rcases zF m with rfl|hcap
  .obtain rfl:len=0:=by omega
   refine⟨[],fun x hx=>(by cases hx),⟨.slice (some ⟨w.heap.size,0,none⟩) 0 CU,?_,.sl0 (.inr ⟨_,_,_,rfl⟩)⟩,rfl⟩
   cases spot<;>rfl
  .have h00:∃v0,w.cell? ⟨b,off,spot⟩=some v0/\isU8 v0=false:=by
    obtain⟨cs',h2,h2'⟩:=hi 0 hcap;obtain⟨_,h3,h4⟩:=World.cells?_some h2;have h5:=h4 0 h0;have h6:cs'[0]?=some (cs'[0]'(by omega)):=zB (by omega)
    rw[h6]at h5
    have e:(((⟨b,off,spot⟩:Addr).add (0*z)).add 0)=⟨b,off,spot⟩:=by
     unfold Addr.add;simp
    rw[e]at h5;obtain⟨_,_,_,_,h7⟩:=hE n cs' _ h2' h3;refine⟨_,h5,?_⟩
    match cs',h7,h3 with
    |c::_,h7,_=>simpa using h7
    |[],_,h3=>exact absurd h3 (by simp;omega)
   obtain⟨v0,hv0,hv8⟩:=h00;obtain⟨hsp,hblk,c,e',fz,hc,hc0⟩:=ybmp hv0
   have hnu:¬c.toList.all isU8=true:=fun q=>by
    have:=List.all_eq_true.1 q v0 (by rw[Array.mem_toList_iff];exact Array.mem_of_getElem? hc0)
    rw[hv8]at this;cases this
   have hsp:spot=none:=hsp;subst hsp;have hblk:b<w.heap.size:=hblk;have hc:w.heap[b]?=some (.cells c e' fz):=hc
   have habs:absV w.heap.size (.slice (some ⟨b,off,none⟩) len m)=some (.slice (some ⟨b,off,none⟩) len CU):=by
    unfold absV;rw[if_neg (by simp[simple])]
    simp only;rw[if_pos ⟨hl,hm⟩,if_neg (by omega),if_pos (by omega)]
   obtain⟨xs,x1,x2⟩:=ybvq (p:=fun i x=>p x/\(f x).all one1=true/\∃L:List Value,L.length=z/\RVL (memW w).b.get om0 (f x) L/\∀j,j<z->∃cv,w.cell? ⟨b,off+i*z+j,none⟩=some cv/\absV w.heap.size cv=L[j]?) len fun i hil=>by
    obtain⟨cs',h2,h3⟩:=hi i (by omega)
    obtain⟨_,h4,h5⟩:=World.cells?_some h2;obtain⟨x,q1,⟨L,q2,q3⟩,q4,_⟩:=hE n cs' _ h3 h4
    have hLz:L.length=z:=by
     have:=congrArg List.length q2
     simpa[h4]using this.symm
    refine⟨x,q1,q4,L,hLz,q3,fun j hj=>?_⟩;have hj':j<cs'.length:=by omega
    refine⟨cs'[j],?_,?_⟩
    .have:=h5 j hj;rw[zB hj']at this;rw[<-this];congr 1;unfold Addr.add;split<;>split<;>simp_all<;>omega
    .have:=congrArg (fun l=>l[j]?) q2;simp only[zG,zB hj']at this;rw[zB (show j<L.length by omega)]at this ⊢
     simpa using this
   refine⟨xs,fun x hx=>?_,⟨_,habs,?_⟩,rfl⟩
   .obtain⟨i,hi',rfl⟩:=List.getElem_of_mem hx;exact(x2 i _ (zB hi')).1
   .rw[x1];rcases zF len with rfl|hlen
    .exact .sl0 (.inr ⟨_,_,_,rfl⟩)
    .have hat:∀k,k<len->∃L:List Value,L.length=z/\RVL (memW w).b.get om0 (f (xs.getD k d)) L/\(f (xs.getD k d)).all one1=true/\∀j,j<z->∃cv,w.cell? ⟨b,off+k*z+j,none⟩=some cv/\absV w.heap.size cv=L[j]?:=fun k hk=>by
      have hk':k<xs.length:=by omega
      obtain⟨_,q2,L,q3,q4,q5⟩:=x2 k _ (zB hk');rw[zC,zB hk'];exact⟨L,q3,q4,q2,q5⟩
     classical
     let L:Nat->List Value:=fun k=>if hk:k<len then zK (hat k hk)else[]
     have hL:∀k (hk:k<len),(L k).length=z/\RVL (memW w).b.get om0 (f (xs.getD k d)) (L k)/\(f (xs.getD k d)).all one1=true/\∀j,j<z->∃cv,w.cell? ⟨b,off+k*z+j,none⟩=some cv/\absV w.heap.size cv=(L k)[j]?:=fun k hk=>by
      have e:L k=zK (hat k hk):=by show(if hk:k<len then _ else _)=_;rw[dif_pos hk]
      rw[e];exact zS (hat k hk)
     have hmem:(memW w).b.get b=some (.cells (ybcf .leaf 0 (c.toList.map (absV w.heap.size))) c.size CU 0):=by
      rw[yky];unfold absB;rw[hc];exact if_neg hnu
     have hget:∀j cv,w.cell? ⟨b,j,none⟩=some cv->j<c.size/\(ybcf .leaf 0 (c.toList.map (absV w.heap.size))).get j=absV w.heap.size cv:=fun j cv hcv=>by
      obtain⟨_,_,c2,e2,fz2,h1,h2⟩:=ybmp hcv;have h1:w.heap[b]?=some (.cells c2 e2 fz2):=h1;rw[hc]at h1;cases h1
      have h2:c[j]?=some cv:=h2;have hj:j<c.size:=(Array.getElem?_eq_some_iff.1 h2).1;refine⟨hj,?_⟩;rw[ynz,if_pos ⟨Nat.zero_le _,by simpa using hj⟩,zQ,zG]
      have:c.toList[j]?=some cv:=by simpa using h2
      rw[this];simp
     refine .sl (L:=L) hmem (.inr rfl) ?_ (fun k hk=>(hL k hk).1) (fun k hk j hj=>?_) (fun k hk=>(hL k hk).2.1) (fun k hk=>(hL k hk).2.2.1)
     .obtain⟨_,_,_,q⟩:=hL (len-1) (by omega)
      obtain⟨cv,h1,_⟩:=q (z-1) (by omega)
      have:=(hget _ _ h1).1
      have e:len*z=(len-1)*z+z:=by
       obtain⟨y,rfl⟩:∃y,len=y+1:=⟨len-1,by omega⟩
       rw[Nat.succ_mul];simp
      omega
     .obtain⟨_,_,_,q⟩:=hL k hk;obtain⟨cv,h1,h2⟩:=q j hj;rw[(hget _ _ h1).2,h2]
theorem ybyx {t e:TypeId}{fuel:Nat}{v:Value}{x:DataW H×List MemPlace}(ht:P.underlying t=some (.slice e)) (he:P.underlying e=some (.int .i64)) (hC:P.cellsOf e=1)
 (h:DataW.trod enc P w base (fun _=>true) held fuel t [v]=some x):∃xs,(∀x∈xs,I64 x)/\yvv w (ybc xs) v/\isU8 v=false:=by
 refine ybry (f:=fun x=>[.i .i64 x]) (p:=I64) 0 ht hC (by decide) (fun n cs' y h1 h2=>?_) h
 obtain⟨k,rfl,_,hw⟩:=DataW.trod_int he h1;exact⟨k,wf_i64 hw,(ybks w .i64 k).cons (yboo.nil w),rfl,rfl⟩
end
section
variable {H:Type}{enc:TypeId×Value->H}{w:World}{base:Nat}{held:Bool}{n:Nat}{v:Value}{x:DataW H×List MemPlace}
theorem yccm(h:DataW.trod enc zA w base (fun _=>true) held n 22 [v]=some x):∃xs,(∀x∈xs,I64 x)/\yvv w (ybc xs) v/\isU8 v=false :=
 ybyx Tryz.underlying22 zL (by kernel_rfl) h
theorem yta(h:DataW.trod enc zA w base (fun _=>true) held n 22 [v]=some x):∃xs,(∀x∈xs,I64 x)/\yvv w (ybc xs) v:=by
 obtain⟨xs,h1,h2,_⟩:=yccm h;exact⟨xs,h1,h2⟩
end
theorem ybsb {P:Program}{g:FuncId}{args:List SV}{x:Bool}{us':List Value}{w:World}(h:Returns P g args (.b x)) (hg:∃fn c,P.funcs[g]?=some fn/\fn.body=some c) (hn:ypr P) (hG:GlW w)
 {us:List Value}(ha:RVL (memW w).b.get om0 args us) (hv:VRL (phiW w) us us'):Calls P g us'.toArray w fun e w'=>e = .returned (.bool x)/\Below w.heap.size w w' :=
 ycfy h hg hn hG ha hv (fun F u hu=>by cases hu;rfl) (fun φ v' hv'=>hv'.eq_simple rfl)
end Sh
end
section
namespace Sh
open Go Ev Go.RowKit Go.ChangeShapes Go.WideShapes Go.ChangeAt Go.Joins
theorem ydxj{α:Type}{cs:Array α}(h:cs.size=6):∃c0 c1 c2 c3 c4 c5,cs = #[c0,c1,c2,c3,c4,c5]:=by
 obtain⟨l⟩:=cs
 match l,h with
 |[c0,c1,c2,c3,c4,c5],_=>exact⟨c0,c1,c2,c3,c4,c5,rfl⟩
section
variable {H:Type}{enc:TypeId×Value->H}{P:Program}{w:World}{base:Nat}{held:Bool}{spare:Nat->Bool}
theorem six{α:Type}{xs:List α}(h:xs.length=6):∃y0 y1 y2 y3 y4 y5,xs=[y0,y1,y2,y3,y4,y5]:=by
 match xs,h with
 |[y0,y1,y2,y3,y4,y5],_=>exact⟨y0,y1,y2,y3,y4,y5,rfl⟩
theorem ycfd {r:Reach}{b0:Nat}{t:TypeId}{f0 f1 f2 f3 f4 f5:Field}{v:Value}{d:DataW H}{p:List MemPlace}(hs:P.underlying t=some (.struct #[f0,f1,f2,f3,f4,f5])) (hone:Go.Deep.oneCellFields P #[f0,f1,f2,f3,f4,f5]=true) (hC:P.cellsOf t=6)
 (hv:Value.okWide P w r b0 t v) (h:DataW.Trod enc P w base spare held t v d p) :
 ∃ (v0 v1 v2 v3 v4 v5:Value) (y0 y1 y2 y3 y4 y5:DataW H×List MemPlace) (n:Nat),v = .agg #[v0,v1,v2,v3,v4,v5] /\
   DataW.trod enc P w base spare held n f0.type [v0]=some y0/\DataW.trod enc P w base spare held n f1.type [v1]=some y1/\DataW.trod enc P w base spare held n f2.type [v2]=some y2 /\
   DataW.trod enc P w base spare held n f3.type [v3]=some y3/\DataW.trod enc P w base spare held n f4.type [v4]=some y4/\DataW.trod enc P w base spare held n f5.type [v5]=some y5:=by
 obtain⟨cs,rfl,hsz⟩:=okWide_struct hs hv;obtain⟨c0,c1,c2,c3,c4,c5,rfl⟩:=ydxj (hsz.trans hC);obtain⟨fuel,hf⟩:=h;obtain⟨xs,n,_,_,_,hlen,hf⟩:=DataW.trod_struct hs hf;obtain⟨y0,y1,y2,y3,y4,y5,rfl⟩:=six hlen;obtain⟨o0,k0⟩:=Go.Deep.hone_of hone 0 f0 rfl;obtain⟨o1,k1⟩:=Go.Deep.hone_of hone 1 f1 rfl;obtain⟨o2,k2⟩:=Go.Deep.hone_of hone 2 f2 rfl;obtain⟨o3,k3⟩:=Go.Deep.hone_of hone 3 f3 rfl;obtain⟨o4,k4⟩:=Go.Deep.hone_of hone 4 f4 rfl
 obtain⟨o5,k5⟩:=Go.Deep.hone_of hone 5 f5 rfl;have h0:=hf 0 f0 rfl;have h1:=hf 1 f1 rfl;have h2:=hf 2 f2 rfl;have h3:=hf 3 f3 rfl;have h4:=hf 4 f4 rfl;have h5:=hf 5 f5 rfl;rw[o0,k0]at h0;rw[o1,k1]at h1;rw[o2,k2]at h2;rw[o3,k3]at h3;rw[o4,k4]at h4;rw[o5,k5]at h5;exact⟨c0,c1,c2,c3,c4,c5,y0,y1,y2,y3,y4,y5,n,rfl,h0,h1,h2,h3,h4,h5⟩
end
section
variable {H:Type}{enc:TypeId×Value->H}{w:World}{base:Nat}{held:Bool}{n:Nat}{v:Value}{x:DataW H×List MemPlace}
theorem ycds(w:World)(b:Bool):yvv w (.b b) (.bool b):=⟨.bool b,rfl,.b⟩
theorem ybwa{l:List Int}(h:∀x∈l,I64 x)(k:Nat):inK .i64 (l.getD k 0):=by
 have:I64 (l.getD k 0):=by
  rcases Nat.lt_or_ge k l.length with q|q
  .rw[zC,zB q];exact h _ (List.getElem_mem q)
  .rw[zC,zH q];exact yhi (by decide)
 exact this
theorem ycbc{v:Value}{x:DataW H×List MemPlace}(h:DataW.trod enc zA w base (fun _=>true) held n 3 [v]=some x):∃k,inK .i64 k/\yvv w (.i .i64 k) v:=by
 obtain⟨k,e,_,hw⟩:=DataW.trod_int zL h;simp at e;subst e;exact⟨k,wf_i64 hw,ybks w .i64 k⟩
theorem yxl{v:Value}{x:DataW H×List MemPlace}(h:DataW.trod enc zA w base (fun _=>true) held n 4 [v]=some x):∃b,yvv w (.b b) v:=by
 obtain⟨b,e,_⟩:=DataW.trod_bool zM h;simp at e;subst e;exact⟨b,ycds w b⟩
theorem ycen{b0:Nat}{d:DataW H}{p:List MemPlace}(hv:Value.okWide zA w .any b0 24 v)(h:DataW.Trod enc zA w base (fun _=>true) held 24 v d p) :
 ∃(x:NetR) (u:Value),x.ok/\RV (memW w).b.get om0 (.ag (netC x)) u/\VR (phiW w) u v:=by
 obtain⟨v0,v1,v2,v3,v4,v5,y0,y1,y2,y3,y4,y5,n,rfl,h0,h1,h2,h3,h4,h5⟩:=ycfd Tryz.underlying24 (by kernel_rfl) (by kernel_rfl) hv h
 obtain⟨k,kI,u0,a0,r0⟩:=ycbc h0;obtain⟨ls,lI,u1,a1,r1⟩:=yta h1;obtain⟨ws,wI,u2,a2,r2⟩:=yta h2;obtain⟨is,iI,u3,a3,r3⟩:=yta h3;obtain⟨ap,u4,a4,r4⟩:=yxl h4;obtain⟨bk,u5,a5,r5⟩:=yxl h5;refine⟨⟨k,ls,ws,is,ap,bk⟩,.agg [u0,u1,u2,u3,u4,u5].toArray,⟨kI,ybwa lI,ybwa wI,ybwa iI⟩,.ag (.cons r0 (.cons r1 (.cons r2 (.cons r3 (.cons r4 (.cons r5 .nil)))))),?_⟩;exact .agg (a:=[u0,u1,u2,u3,u4,u5]) (a':=[v0,v1,v2,v3,v4,v5]) (.cons (ymp a0) (.cons (ymp a1) (.cons (ymp a2) (.cons (ymp a3) (.cons (ymp a4) (.cons (ymp a5) .nil))))))
end
end Sh
end
section
open Go.ChangeShapes Go.WideShapes Go.ChangeAt Go.RowKit Go.Joins Go.WideMaps Go.WideElems
set_option linter.unusedVariables false
set_option maxRecDepth 100000 in
theorem yoi(W:World)(h:laidMetH zA Rows.matchingWholeRow.laid W):Ev.GlW W:=fun x hx=>by
 rw[MakeChecks.laidMetH_plain _ _ _ (by kernel_rfl)]at h
 have hg : Tryz.prog.globalNamed "math/bits.deBruijn32tab" = some 0 := by kernel_rfl
 have ht:=Lib.tabIs_of_head (rest:=[]) (k:=.u8) (zs:=([0,1,28,2,29,14,24,3,30,22,20,15,25,17,4,8,31,27,13,23,21,19,16,7,26,12,18,6,11,5,10,9]:List Int)) (t:=240) (e:=5) (n:=32) hg (by kernel_rfl) (by kernel_rfl) (by kernel_rfl) (by kernel_rfl) (by kernel_rfl) h
 unfold Lib.TabIs World.var? at ht;rw[hg]at ht;simp only[Option.bind_some]at ht;split at ht
 .rename_i cs e fz hc
  obtain rfl:=Option.some.inj ht;obtain rfl:=Option.some.inj hx;exact⟨_,_,hc⟩
 .cases ht
set_option maxRecDepth 100000 in
theorem yoj(os:Os)(args:Array Value):laidMetH zA Rows.matchingWholeRow.laid ((World.doorLaid zA 14 os).forCall (fun _ _=>0) ⟨#[],args,[]⟩).memory :=
 laidMetH_of_parts3 (fuel:=8) (laidMet_of_run' 8 (by kernel_rfl) (by kernel_rfl)) (by kernel_rfl) (by kernel_rfl)
set_option maxRecDepth 100000 in
theorem yln(os:Os)(started:os.Started)(H:Type)(enc:TypeId×Value->H) :
 ReturnsInHanded {} zI os 8 .any (fun w args=>(Rows.matchingWholeSpec.pre enc zA zJ [] false w args/\laidMetH zA Rows.matchingWholeRow.laid w)/\sizedMet enc zA zJ (OpenSpec.ofChange Rows.matchingWholeSpec) false w args)
  (Rows.matchingWholeSpec.post enc zA zJ false true false false):=by
 refine returnsInHanded_of_change_and (C:=zI) (X:=fun w _=>laidMetH zA Rows.matchingWholeRow.laid w) (fun _ _ _ hh h=>h.of_heap hh) own started (by kernel_rfl) zN
  (ChangeSpec.witness_shaped (enc:=enc) (C:=zI) (os:=os) (X:=fun w _=>laidMetH zA Rows.matchingWholeRow.laid w) false (World.doorLaid zA 14 os) #[.agg #[.int .i64 0,.slice .none 0 0,.slice .none 0 0,.slice .none 0 0,.bool false,.bool false]] 8 rfl (World.shaped_of_RefB (by kernel_rfl) (by kernel_rfl)) (by kernel_rfl) (by kernel_rfl) (by kernel_rfl) (yoj os _)) ?_
 intro W base args ds gs before hval0 hW _ _ hL _;have hval:∀(j:Nat) t v,Tryz.f8.params[j]?=some t->args[j]?=some v->Value.okWide zA W .any base t v:=hval0;have hW':=hW;obtain⟨p,q,hA0,hV,rfl,hfz,hnd⟩:=hW;have hA:DataW.TrodAll enc zA W 0 (fun _=>true) true Tryz.f8.params.toList args.toList ds p:=hA0;rw[Tryz.params8]at hA hval;obtain⟨v0,vs0,d0,ds0,p0,q0,hargs,rfl,rfl,h0,r0⟩:=trodAll_cons hA;obtain⟨rfl,rfl,rfl⟩:=trodAll_nil r0
 obtain rfl:args = #[v0]:=by cases args;simp_all
 obtain⟨rfl,rfl⟩:=trodVars_none hV;have k0:=h0;have lt0:∀x∈p0,x.block<W.heap.size:=by obtain⟨m,hm⟩:=k0;exact DataW.trod_lt m _ _ _ hm
 obtain⟨x0,u0,hx0,rr0,a0⟩:=Sh.ycen (hval 0 24 v0 rfl rfl) h0
 clear hA0 hval0
 have ha:Sh.RVL (Sh.memW W).b.get Sh.om0 [.ag (Sh.netC x0)] [u0]:=.cons rr0 .nil;have hv:Ev.VRL (Sh.phiW W) [u0] [v0]:=.cons a0 .nil;refine(Sh.ybsb (Sh.ybfz hx0) ⟨_,_,zN,rfl⟩ Ev.yri (yoi W hL) ha hv).mono fun e W' ⟨he,bel⟩=>?_;subst he;exact⟨_,rfl,_,_,_,[],_,[],hW',trodAll_mk1 (shut_bool zM _),(trodAll_cons_mk (Below.trod laidOut (by kernel_rfl) (of_decide_eq_true (by kernel_rfl)) k0 bel lt0) trodAll_mk0),rfl,bel.frame _,fun h=>by cases h⟩
end
section
def ioN:List Nat:=[104,97,114,110,101,115,115,32,56,99,98,99,57,99,102,99,57,56,55,55,53,52,50,49,56,100,100,56,48,56,50,98,52,54,52,50,102,49,55,56,51,50,48,52,102,98,50,49,53,53,55,52,49,50,49,49,102,101,55,50,102,56,48,99,98,100,101,102,48,51,55,102,32,99,117,116,32,97,116,32,115,101,108,102,115,116,97,98,47,115,101,108,102,115,116,97,98,108,97,119,50,52,46,80,97,116,104,115,87,104,111,108,101,32,115,101,108,102,115,116,97,98,47,115,101,108,102,115,116,97,98,108,97,119,51,50,46,67,111,108,111,117,114,105,110,103,87,104,111,108,101,32,115,101,108,102,115,116,97,98,47,115,101,108,102,115,116,97,98,108,97,119,50,54,46,76,101,97,100,101,114,87,104,111,108,101,32,115,101,108,102,115,116,97,98,47,115,101,108,102,115,116,97,98,108,97,119,50,51,46,66,102,115,87,104,111,108,101,32,115,101,108,102,115,116,97,98,47,115,101,108,102,115,116,97,98,108,97,119,50,55,46,67,101,110,116,101,114,87,104,111,108,101,32,115,101,108,102,115,116,97,98,47,115,101,108,102,115,116,97,98,108,97,119,51,48,46,77,97,116,99,104,105,110,103,87,104,111,108,101,32,115,101,108,102,115,116,97,98,47,115,101,108,102,115,116,97,98,108,97,119,50,56,46,69,108,101,99,116,105,111,110,87,104,111,108,101]
theorem yebc:Tryz.prog.initOrder=String.ofList (ioN.map Char.ofNat):=by kernel_rfl
theorem yze:Tryz.prog.initOrder.toList=ioN.map Char.ofNat:=by rw[yebc];exact String.toList_ofList
theorem ydkc (P : Program) {l c : List Char} {rest : List (List Char)} (h : P.initOrder.toList = l) (hb : behindMainWord (wordsSigns l) = c :: rest) (h1 : (c == "gc".toList || c == "spec".toList) = false) (h2 : (c == "cut".toList) = true) : P.make = some Make.cut := by
 unfold Program.make;rw[h,hb];simp only[h1,h2];simp
theorem ycgt (P : Program) {l c : List Char} {rest : List (List Char)} (h : P.initOrder.toList = l) (hb : behindMainWord (wordsSigns l) = c :: rest) (e : (stripLifts liftWords (c :: rest)).1 = []) (e2 : ((stripLifts liftWords (c :: rest)).2.head? == some "cut".toList) = true)
 (h1:P.bearsReflect=false) (h2:P.laysLater=false) (h3:P.doorFits []=true):P.mayEnter=true:=by
 unfold Program.mayEnter;rw[h,hb];simp only[e,e2,h1,h2,h3];simp
theorem ydyx : behindMainWord (wordsSigns (ioN.map Char.ofNat)) = "cut".toList :: (behindMainWord (wordsSigns (ioN.map Char.ofNat))).tail := by kernel_rfl
theorem ydcw:Tryz.prog.make=some Make.cut:=ydkc _ yze ydyx (by kernel_rfl) (by kernel_rfl)
theorem ycgg:Tryz.prog.mayEnter=true:=ycgt _ yze ydyx (by kernel_rfl) (by kernel_rfl) (by kernel_rfl) (by kernel_rfl) (by kernel_rfl)
def ioH:List Nat:=[56,99,98,99,57,99,102,99,57,56,55,55,53,52,50,49,56,100,100,56,48,56,50,98,52,54,52,50,102,49,55,56,51,50,48,52,102,98,50,49,53,53,55,52,49,50,49,49,102,101,55,50,102,56,48,99,98,100,101,102,48,51,55,102]
theorem ydex : "8cbc9cfc987754218dd8082b4642f1783204fb2155741211fe72f80cbdef037f".toList = ioH.map Char.ofNat := by
 have h : "8cbc9cfc987754218dd8082b4642f1783204fb2155741211fe72f80cbdef037f" = String.ofList (ioH.map Char.ofNat) := by kernel_rfl
 rw[h];exact String.toList_ofList
theorem yden (P : Program) {l h s : List Char} {rest : List (List Char)} (hl : P.initOrder.toList = l) (hb : wordsSigns l = h :: s :: rest) (hs : isSumSigns s = true) (hh : (h == "harness".toList) = true) : P.mainIs = some (true, s) := by
 unfold Program.mainIs;rw[hl,hb];simp only[hs,hh];simp
theorem yebu:wordsSigns (ioN.map Char.ofNat)=([104,97,114,110,101,115,115]:List Nat).map Char.ofNat::ioH.map Char.ofNat::(wordsSigns (ioN.map Char.ofNat)).tail.tail:=by kernel_rfl
theorem ydkk : Tryz.prog.mainIs = some (true, "8cbc9cfc987754218dd8082b4642f1783204fb2155741211fe72f80cbdef037f".toList) := by
 rw[ydex];exact yden _ yze yebu (by kernel_rfl) (by kernel_rfl)
theorem ycix:true=Tryz.prog.looks []:=by kernel_rfl
theorem ycma:Tryz.prog.liftsFinal=false:=by
 unfold Program.liftsFinal Program.headLifts;rw[yze]
 kernel_rfl
end
section
open Go.ChangeShapes Go.WideShapes Go.ChangeAt Go.RowKit Go.Joins Go.WideMaps Go.WideElems
set_option linter.unusedVariables false
theorem yro:(Rows.matchingWholeRow.inPlace==Tryz.prog.inPlace 8)=true:=by kernel_rfl
theorem yru:(Rows.matchingWholeRow.unfollowed==Tryz.prog.unfollowed 8)=true:=by kernel_rfl
theorem yrn:(Rows.matchingWholeRow.recurses==Tryz.prog.recurses 8)=true:=by kernel_rfl
theorem yrt:(Rows.matchingWholeRow.named==Tryz.prog.varsNamed 8)=true:=by kernel_rfl
theorem yrp:laidOutB zA=true:=by kernel_rfl
theorem yrv:mapsRowed zA=true:=by kernel_rfl
theorem ykb:Tryz.prog.funcNamed Rows.matchingWholeRow.func=some 8:=by kernel_rfl
theorem yrq:Rows.matchingWholeRow.wf (OpenSpec.ofChange Rows.matchingWholeSpec)=true:=by kernel_rfl
theorem yls:joinedFacts zA 8 zJ Rows.matchingWholeSpec Rows.matchingWholeRow=true:=by
 unfold joinedFacts
 repeat' (with_reducible refine Bool.and_eq_true_iff.2 ⟨?_,?_⟩)
 all_goals first|(with_reducible exact yro)|(with_reducible exact yru)|(with_reducible exact yrn)|(with_reducible exact yrt)|(with_reducible exact yrp)|(with_reducible exact yrv)|(with_reducible exact yrq)|(with_reducible exact ycgg)|(rw[ycma];rfl)|(rw[ydcw];rfl)|kernel_rfl
theorem ynx:Tryz.f8.isInstance zA Rows.matchingWholeRow.origin Rows.matchingWholeRow.targs:=of_decide_eq_true (by kernel_rfl)
theorem ynl:Tryz.f8.isWrapper zA Rows.matchingWholeRow.wrapper Rows.matchingWholeRow.mainSum:=by
 unfold Func.isWrapper
 first|(rw[if_pos (by decide +kernel)];kernel_rfl)|(rw[if_neg (by decide +kernel)];exact⟨rfl,rfl⟩)
theorem yoo:Rows.MatchingWholeSaid :=
 OpenClaim.holds_of_wide 8 zJ rfl rfl rfl rfl rfl rfl rfl ⟨rfl,rfl,rfl,rfl,rfl⟩ rfl rfl rfl rfl rfl ykb zN yls ynx ynl
  (fun os started H enc _=>yln os started H enc)
end
end Go.Proofs.YthclbjjgfcgbgaaGreatDoor
