/- Joined. -/
import Derived.Deep.Matrix
import Derived.Lib.SmallJoins
import Derived.Test.YtiejahgklcjhkaaGreatDoorPkS18
import Derived.Test.YtiejahgklcjhkaaGreatDoorTie
import Derived.Test.YtiejahgklcjhkaaGreatDoorCards
import Derived.LaidMore
set_option linter.unusedSimpArgs false
set_option linter.unusedVariables false
set_option maxRecDepth 8000
open Nat renaming reduceEqDiff→zA,reduceAdd→zC,pow_lt_pow_right→zH,testBit_two_pow_sub_one→zI,pow_le_pow_right→zJ,le_refl→zO,eq_zero_or_pos→zQ,lt_of_lt_of_le→zS,or_lt_two_pow→zV,reduceLT→zW,reduceLeDiff→zX,zero_le→zY,testBit_two_pow→zAB,not_lt_zero→zAL,two_pow_pos→zAO,testBit_or→zAP,sub_zero→zAR,lt_or_ge→zAS
open Go.Proofs.Tryz renaming prog→zB,f15→zAA,checked→zAD,underlying22→zAE,underlying38→zAF,func15→zAG,underlying3→zAI,underlying4→zAK
open List renaming getElem?_eq_getElem→zD,getD_eq_getElem?_getD→zG,getElem?_eq_none→zN,getElem?_map→zT,foldl_append→zU,length_singleton→zZ,length_append→zAC,getElem_mem→zAJ,range_succ→zAM,map_cons→zAQ,range→zAU
open Int renaming toNat_natCast→zF,natCast_zero→zM
open Array renaming getElem?_eq_none→zK
open Bool renaming and_eq_true→zL,or_eq_true→zAN
open Classical renaming choose→zAH,choose_spec→zAT
open Go
namespace Go.Proofs.YtiejahgklcjhkaaGreatDoor
section
open Go.ChangeShapes Go.WideShapes Go.ChangeAt Go.RowKit
theorem ybud{α:Type}{p:Nat->α->Prop}:∀(n:Nat),(∀i,i<n->∃x,p i x)->∃xs:List α,xs.length=n/\∀(j:Nat) (x:α),xs[j]?=some x->p j x
 |0,_=>⟨[],rfl,by simp⟩
 | n + 1,h=>by
   obtain⟨xs,h1,h2⟩:=ybud n fun i hi=>h i (by omega)
   obtain⟨x,hx⟩:=h n (by omega)
   refine⟨xs++[x],by simp[h1],fun j y hy=>?_⟩
   by_cases hj:j<xs.length
   ·rw[List.getElem?_append_left hj]at hy;exact h2 j y hy
   ·rw[List.getElem?_append_right (by omega)]at hy
    have:j-xs.length=0:=by
     rcases zQ (j-xs.length)with q|q
     ·exact q
     ·rw[zN (by simp;omega)]at hy;cases hy
    rw[this]at hy;simp at hy;subst hy;obtain rfl:j=n:=by omega
    exact hx
section
variable {H:Type}{enc:TypeId×Value->H}{P:Program}{w:World}{base:Nat}{held:Bool}
theorem wf_i64{n:Int}(h:(Lit.int .i64 n).wf=true):I64 n:=by
 simp only[Lit.wf,zL,decide_eq_true_eq]at h;have e1:IntKind.i64.min = -9223372036854775808:=rfl;have e2:IntKind.i64.max=9223372036854775807:=rfl;rw[e1,e2]at h;exact h
end
theorem own:ownKnob Tryz.prog.godebug=Option.none:=by kernel_rfl
theorem laidOut:laidOutB zB=true:=by kernel_rfl
section
variable {H:Type}{enc:TypeId×Value->H}{w:World}{base:Nat}{held:Bool}{n:Nat}{v:Value}{x:DataW H×List MemPlace}
end
end
section
namespace Sh
open Go Ev Go.RowKit
noncomputable def ybdh{α:Type}(t:T α):Nat->List (Option α)->T α
 |_,[]=>t
 |i,x::l=>ybdh (T.set (Nat.succ i) t i x) (i+1) l
theorem ynn{α:Type}:∀(l:List (Option α)) (t:T α) (i j:Nat),(ybdh t i l).get j=if i<=j/\j<i+l.length then(l[j-i]?).join else t.get j
 |[],t,i,j=>by rw[if_neg (by simp)];rfl
 | x :: l,t,i,j=>by
   unfold ybdh;rw[ynn l _ _ j]
   by_cases c:i+1<=j/\j<i+1+l.length
   ·rw[if_pos c,if_pos (by simp;omega),show j-i=(j-(i+1))+1 by omega]
    rfl
   ·rw[if_neg c,T.set_at]
    by_cases q:j=i
    ·subst q;rw[if_pos rfl,if_pos (by simp)]
     simp
    ·rw[if_neg q,if_neg (by simp;omega)]
def absV(Z:Nat)(v:Value):Option Value:=if simple v then some v else match v with
 |.slice (some ⟨b,o,none⟩) n c=>if n<=c/\c<=9223372036854775807 then(if c=0 then some (.slice (some ⟨Z,0,none⟩) n CU)else if b<=Z then some (.slice (some ⟨b,o,none⟩) n CU)else none)else none
 |.slice (some ⟨_,_,some _⟩) n c=>if n<=c/\c=0 then some (.slice (some ⟨Z,0,none⟩) n CU)else none
 |_=>none
def isU8:Value->Bool
 |.int .u8 _=>true
 |_=>false
noncomputable def absB(Z:Nat)(w:World)(i:Nat):Option ABlk:=match w.heap[i]? with
 |some (.cells c _ _)=>if c.toList.all isU8=true then none else some (.cells (ybdh .leaf 0 (c.toList.map (absV Z))) c.size CU 0)
 |_=>none
def phiW(w:World):Phi:=fun i=>match w.heap[i]? with
 |some (.cells c _ _)=>some ⟨i,0,c.size,0,w.heap[i]?⟩
 |_=>if i<=w.heap.size then some ⟨i,0,0,0,none⟩else none
noncomputable def memW(w:World):Mem:=⟨w.heap.size+1,ybdh .leaf 0 ((zAU w.heap.size).map (absB w.heap.size w)),w.heap.size+1⟩
theorem ykn{w:World}{i:Nat}{b:ABlk}:(memW w).b.get i=some b↔absB w.heap.size w i=some b:=by
 show(ybdh .leaf 0 _).get i=some b↔_;rw[ynn]
 by_cases h:i<w.heap.size
 ·rw[if_pos (by simpa using h)]
  simp[h]
 ·rw[if_neg (by simpa using h),T.get_leaf]
  have:absB w.heap.size w i=none:=by unfold absB;rw[zK (by omega)]
  rw[this]
theorem ybie(w:World):Wf (memW w):=fun i b h=>by
 rw[ykn]at h;show i<w.heap.size+1;unfold absB at h;split at h
 ·rename_i hc;have:=(Array.getElem?_eq_some_iff.1 hc).1;omega
 ·cases h
theorem ygr{w:World}{v u:Value}(h:absV w.heap.size v=some u):VR (phiW w) u v:=by
 have hZ:∃l,phiW w w.heap.size=some l:=by
  unfold phiW;rw[zK (zO _)];simp
 have hφ:∀b,b<=w.heap.size->∃sz ob,phiW w b=some ⟨b,0,sz,0,ob⟩:=by
  intro b hb;unfold phiW;split
  ·exact⟨_,_,rfl⟩
  ·rw[if_pos hb];exact⟨_,_,rfl⟩
 unfold absV at h;split at h
 ·rename_i hs;cases h;exact .simple hs
 ·split at h
  ·rename_i b o n c _
   split at h
   ·rename_i hc
    split at h
    ·rename_i h0
     cases h
     obtain⟨l,hl⟩:=hZ;exact .slice hl hc.1 (fun q=>absurd rfl q) hc.2 (.inr h0)
    ·split at h
     ·rename_i hbl
      cases h
      obtain⟨sz,ob',hl⟩:=hφ b hbl;exact .slice hl hc.1 (fun q=>absurd rfl q) hc.2 (.inl ⟨by simp,.inl rfl⟩)
     ·cases h
   ·cases h
  ·rename_i b o sp n c _
   split at h
   ·rename_i hc
    cases h
    obtain⟨l,hl⟩:=hZ;exact .slice hl hc.1 (fun q=>absurd rfl q) (by omega) (.inr hc.2)
   ·cases h
  ·cases h
theorem ycdv:∀x,yccu=some x->x.2.all isU8=true:=by
 intro x hx;unfold yccu at hx
 first|(cases hx;done)|(cases hx;rfl)
theorem relW{w:World}(hG:GlW w):Rel (phiW w) (memW w).b.get w:=by
 have hblk:∀i b,(memW w).b.get i=some b->∃l,phiW w i=some l/\l.blk=i/\l.ob=w.heap[i]?/\BR (phiW w) l w b:=by
  intro i b hb;rw[ykn]at hb;unfold absB at hb;split at hb
  ·rename_i c e fz hc
   split at hb
   ·cases hb
   cases hb
   refine⟨⟨i,0,c.size,0,w.heap[i]?⟩,by unfold phiW;rw[hc],rfl,rfl,rfl,by simp,c.toList,e,fz,⟨fun q=>absurd rfl q,fun o ho=>ho⟩,by simpa using hc,by simp,fun j v hj hg=>?_⟩
   rw[ynn]at hg;split at hg
   ·simp only[zAR,zT]at hg;cases hcj:c.toList[j]? with
    |none=>rw[hcj]at hg;cases hg
    | some x =>
      rw[hcj]at hg;have hg:absV w.heap.size x=some v:=by simpa using hg
      exact⟨x,by rw[Nat.zero_add];exact hcj,ygr hg⟩
   ·rw[T.get_leaf]at hg;cases hg
  ·cases hb
 refine⟨⟨fun i b hb=>by obtain⟨l,h1,_,_,h2⟩:=hblk i b hb;exact⟨l,h1,h2⟩,fun i j x y li lj hne hx hy hi hj=>?_⟩,fun x hx=>⟨hG x hx,fun⟨i,b,l,h1,h2,h3⟩=>?_⟩⟩
 rotate_left
 ·obtain⟨l',k1,k2,_⟩:=hblk i b h1;rw[h2]at k1;cases k1
  rw[h3]at k2;obtain⟨e,fz,q⟩:=hG x hx;rw[ykn]at h1;unfold absB at h1;rw[<-k2,q]at h1;simp only at h1;rw[if_pos (by simpa using ycdv x hx)]at h1
  cases h1
 obtain⟨l,h1,h2,_⟩:=hblk i x hx;obtain⟨l',h3,h4,_⟩:=hblk j y hy;rw[hi]at h1;cases h1
 rw[hj]at h3;cases h3
 rw[h2,h4];exact hne
theorem ydam{w:World}{i:Nat}{b:ABlk}{l:Ev.Loc}(hb:(memW w).b.get i=some b)(hl:phiW w i=some l):l.blk=i/\∃o,l.ob=some o/\w.heap[i]?=some o:=by
 rw[ykn]at hb;unfold absB at hb;split at hb
 ·rename_i c e fz hc
  unfold phiW at hl;rw[hc]at hl;cases hl
  exact⟨rfl,_,rfl,hc⟩
 ·cases hb
theorem ydnm(w:World)(n:Nat):yfx (phiW w) (memW w).next n:=by
 intro i h1 _;have h1:w.heap.size+1<=i:=h1;unfold phiW;rw[zK (by omega)]
 simp only;rw[if_neg (by omega)]
theorem ycdq {P:Program}{g:FuncId}{args:List SV}{r:SV}{v:Value}{us us':List Value}{w:World}(h:Returns P g args r) (hg:∃fn c,P.funcs[g]?=some fn/\fn.body=some c) (hn:yol P) (hG:GlW w)
 (ha:RVL (memW w).b.get om0 args us) (hv:VRL (phiW w) us us') (hr:∀F u,RV F om0 r u->u=v) (hat:∀φ v',VR φ v v'->v'=v):Calls P g us'.toArray w fun e w'=>e = .returned v/\Below w.heap.size w w':=by
 obtain⟨u,m',x,h1,h2,h3,rfl,h5⟩:=h (memW w).b.get (memW w) us (ybie w) (Le.refl _) ha;have hu:=hr _ _ h5;subst hu;have hs:=(h1 (ybie w)).2 (phiW w) (memW w).b.get w us' (relW hG) (fun i b hb=>hb) hv (ydnm w _);obtain⟨fn,c,k1,k2⟩:=hg;rcases hs with⟨_,hc⟩|⟨v',w',hrun,_⟩
 ·refine hc.mono ?_;rintro e w' ⟨v',rfl,φ',M',hgd,hvr⟩;rw[hat _ _ hvr];refine⟨rfl,hgd.wg.os,hgd.wg.tape,hgd.wg.output,hgd.wg.size,fun k hk=>?_⟩
  by_cases hi:Img (phiW w) (memW w).b.get k
  ·obtain⟨i,b,l,e1,e2,e3⟩:=hi;obtain⟨k4,o,k5,k6⟩:=ydam e1 e2;have hik:i=k:=k4.symm.trans e3;subst hik;have hlt:i<(memW w).next:=ybie w i b e1
   have hM:M' i=some b:=by
    rw[hgd.frame i (fun q=>by omega) (.inr (zS hlt h2))]
    exact e1
   obtain⟨l',q1,q2⟩:=hgd.rel.blk i b hM;rw[hgd.le i l e2]at q1;cases q1
   have hcells:∃c n,b = .cells c n CU 0:=by
    rw[ykn]at e1;unfold absB at e1;split at e1
    ·split at e1
     ·cases e1
     ·cases e1;exact⟨_,_,rfl⟩
    ·cases e1
   obtain⟨c',n',rfl⟩:=hcells;obtain⟨_,_,cs,e',fz,h0,_⟩:=q2;rw[k4]at h0;rw[h0.2 o k5,k6]
  ·exact hgd.wg.keep k hk hi
 ·rw[ybz hn k1 k2]at hrun;cases hrun
end Sh
end
section
namespace Sh
open Go Ev Go.RowKit Go.ChangeShapes Go.WideShapes Go.ChangeAt
def yuj(w:World)(g:SV)(v:Value):Prop:=∃u,absV w.heap.size v=some u/\RV (memW w).b.get om0 g u
def ybik(w:World)(g:List SV)(cs:List Value):Prop:=∃L,cs.map (absV w.heap.size)=L.map some/\RVL (memW w).b.get om0 g L
theorem ybik.nil(w:World):ybik w [] []:=⟨[],rfl,.nil⟩
theorem yuj.cons{w:World}{g:SV}{v:Value}{gs:List SV}{cs:List Value}(h:yuj w g v)(t:ybik w gs cs):ybik w (g::gs) (v::cs):=by
 obtain⟨u,h1,h2⟩:=h;obtain⟨L,h3,h4⟩:=t;exact⟨u::L,by rw[zAQ,zAQ,h1,h3],.cons h2 h4⟩
theorem ybag(w:World)(k:IntKind)(n:Int):yuj w (.i k n) (.int k n):=⟨.int k n,rfl,.i⟩
theorem ybjk{w:World}{a:Addr}{v:Value}(h:w.cell? a=some v):a.spot=none/\a.block<w.heap.size/\∃c e fz,w.heap[a.block]?=some (.cells c e fz)/\c[a.off]?=some v:=by
 unfold World.cell? at h;split at h
 ·rename_i c e fz hc
  split at h
  ·cases h
  ·rename_i hs
   refine⟨?_,(Array.getElem?_eq_some_iff.1 hc).1,c,e,fz,hc,h⟩;cases hq:a.spot with
   |none=>rfl
   |some x=>rw[hq]at hs;simp at hs
 ·cases h
section
variable {H:Type}{enc:TypeId×Value->H}{P:Program}{w:World}{base:Nat}{held:Bool}
theorem ywf {α:Type}{z:Nat}{f:α->List SV}{p:α->Prop}(d:α) {t e:TypeId}{fuel:Nat}{v:Value}{x:DataW H×List MemPlace}(ht:P.underlying t=some (.slice e)) (hC:P.cellsOf e=z) (h0:0<z)
 (hE:∀(n:Nat) (cs':List Value) (y:DataW H×List MemPlace),DataW.trod enc P w base (fun _=>true) held n e cs'=some y->cs'.length=z->∃x,p x/\ybik w (f x) cs'/\(f x).all one1=true/\(cs'.head?.any isU8)=false)
 (h:DataW.trod enc P w base (fun _=>true) held fuel t [v]=some x):∃xs:List α,(∀x∈xs,p x)/\yuj w (.sl z xs.length (fun k=>f (xs.getD k d))) v/\isU8 v=false:=by
 rcases Go.Deep.open_slice ht h with⟨h1,_⟩|⟨a,len,cap,m,n,D,Pl,hcs,hb,hl,hm,hmm,hx,hi⟩
 ·simp at h1;subst h1;exact⟨[],fun x hx=>(by cases hx),⟨.slice none 0 0,rfl,.sl0 (.inl rfl)⟩,rfl⟩
 ·simp at hcs;subst hcs;simp only[if_true]at hmm;subst hmm;unfold maxLen at hm;rw[hC]at hi;obtain⟨b,off,spot⟩:=a;rcases zQ m with rfl|hcap
  ·obtain rfl:len=0:=by omega
   refine⟨[],fun x hx=>(by cases hx),⟨.slice (some ⟨w.heap.size,0,none⟩) 0 CU,?_,.sl0 (.inr ⟨_,_,_,rfl⟩)⟩,rfl⟩
   cases spot<;>rfl
  ·have h00:∃v0,w.cell? ⟨b,off,spot⟩=some v0/\isU8 v0=false:=by
    obtain⟨cs',h2,h2'⟩:=hi 0 hcap;obtain⟨_,h3,h4⟩:=World.cells?_some h2;have h5:=h4 0 h0;have h6:cs'[0]?=some (cs'[0]'(by omega)):=zD (by omega)
    rw[h6]at h5
    have e:(((⟨b,off,spot⟩:Addr).add (0*z)).add 0)=⟨b,off,spot⟩:=by
     unfold Addr.add;simp
    rw[e]at h5;obtain⟨_,_,_,_,h7⟩:=hE n cs' _ h2' h3;refine⟨_,h5,?_⟩
    match cs',h7,h3 with
    |c::_,h7,_=>simpa using h7
    |[],_,h3=>exact absurd h3 (by simp;omega)
   obtain⟨v0,hv0,hv8⟩:=h00;obtain⟨hsp,hblk,c,e',fz,hc,hc0⟩:=ybjk hv0
   have hnu:¬c.toList.all isU8=true:=fun q=>by
    have:=List.all_eq_true.1 q v0 (by rw[Array.mem_toList_iff];exact Array.mem_of_getElem? hc0)
    rw[hv8]at this;cases this
   have hsp:spot=none:=hsp;subst hsp;have hblk:b<w.heap.size:=hblk;have hc:w.heap[b]?=some (.cells c e' fz):=hc
   have habs:absV w.heap.size (.slice (some ⟨b,off,none⟩) len m)=some (.slice (some ⟨b,off,none⟩) len CU):=by
    unfold absV;rw[if_neg (by simp[simple])]
    simp only;rw[if_pos ⟨hl,hm⟩,if_neg (by omega),if_pos (by omega)]
   obtain⟨xs,x1,x2⟩:=ybud (p:=fun i x=>p x/\(f x).all one1=true/\∃L:List Value,L.length=z/\RVL (memW w).b.get om0 (f x) L/\∀j,j<z->∃cv,w.cell? ⟨b,off+i*z+j,none⟩=some cv/\absV w.heap.size cv=L[j]?) len fun i hil=>by
    obtain⟨cs',h2,h3⟩:=hi i (by omega)
    obtain⟨_,h4,h5⟩:=World.cells?_some h2;obtain⟨x,q1,⟨L,q2,q3⟩,q4,_⟩:=hE n cs' _ h3 h4
    have hLz:L.length=z:=by
     have:=congrArg List.length q2
     simpa[h4]using this.symm
    refine⟨x,q1,q4,L,hLz,q3,fun j hj=>?_⟩;have hj':j<cs'.length:=by omega
    refine⟨cs'[j],?_,?_⟩
    ·have:=h5 j hj;rw[zD hj']at this;rw[<-this];congr 1;unfold Addr.add;split<;>split<;>simp_all<;>omega
    ·have:=congrArg (fun l=>l[j]?) q2;simp only[zT,zD hj']at this;rw[zD (show j<L.length by omega)]at this ⊢
     simpa using this
   refine⟨xs,fun x hx=>?_,⟨_,habs,?_⟩,rfl⟩
   ·obtain⟨i,hi',rfl⟩:=List.getElem_of_mem hx;exact(x2 i _ (zD hi')).1
   ·rw[x1];rcases zQ len with rfl|hlen
    ·exact .sl0 (.inr ⟨_,_,_,rfl⟩)
    ·have hat:∀k,k<len->∃L:List Value,L.length=z/\RVL (memW w).b.get om0 (f (xs.getD k d)) L/\(f (xs.getD k d)).all one1=true/\∀j,j<z->∃cv,w.cell? ⟨b,off+k*z+j,none⟩=some cv/\absV w.heap.size cv=L[j]?:=fun k hk=>by
      have hk':k<xs.length:=by omega
      obtain⟨_,q2,L,q3,q4,q5⟩:=x2 k _ (zD hk');rw[zG,zD hk'];exact⟨L,q3,q4,q2,q5⟩
     classical
     let L:Nat->List Value:=fun k=>if hk:k<len then zAH (hat k hk)else[]
     have hL:∀k (hk:k<len),(L k).length=z/\RVL (memW w).b.get om0 (f (xs.getD k d)) (L k)/\(f (xs.getD k d)).all one1=true/\∀j,j<z->∃cv,w.cell? ⟨b,off+k*z+j,none⟩=some cv/\absV w.heap.size cv=(L k)[j]?:=fun k hk=>by
      have e:L k=zAH (hat k hk):=by show(if hk:k<len then _ else _)=_;rw[dif_pos hk]
      rw[e];exact zAT (hat k hk)
     have hmem:(memW w).b.get b=some (.cells (ybdh .leaf 0 (c.toList.map (absV w.heap.size))) c.size CU 0):=by
      rw[ykn];unfold absB;rw[hc];exact if_neg hnu
     have hget:∀j cv,w.cell? ⟨b,j,none⟩=some cv->j<c.size/\(ybdh .leaf 0 (c.toList.map (absV w.heap.size))).get j=absV w.heap.size cv:=fun j cv hcv=>by
      obtain⟨_,_,c2,e2,fz2,h1,h2⟩:=ybjk hcv;have h1:w.heap[b]?=some (.cells c2 e2 fz2):=h1;rw[hc]at h1;cases h1
      have h2:c[j]?=some cv:=h2;have hj:j<c.size:=(Array.getElem?_eq_some_iff.1 h2).1;refine⟨hj,?_⟩;rw[ynn,if_pos ⟨zY _,by simpa using hj⟩,zAR,zT]
      have:c.toList[j]?=some cv:=by simpa using h2
      rw[this];simp
     refine .sl (L:=L) hmem (.inr rfl) ?_ (fun k hk=>(hL k hk).1) (fun k hk j hj=>?_) (fun k hk=>(hL k hk).2.1) (fun k hk=>(hL k hk).2.2.1)
     ·obtain⟨_,_,_,q⟩:=hL (len-1) (by omega)
      obtain⟨cv,h1,_⟩:=q (z-1) (by omega)
      have:=(hget _ _ h1).1
      have e:len*z=(len-1)*z+z:=by
       obtain⟨y,rfl⟩:∃y,len=y+1:=⟨len-1,by omega⟩
       rw[Nat.succ_mul];simp
      omega
     ·obtain⟨_,_,_,q⟩:=hL k hk;obtain⟨cv,h1,h2⟩:=q j hj;rw[(hget _ _ h1).2,h2]
theorem ybzl {t e:TypeId}{fuel:Nat}{v:Value}{x:DataW H×List MemPlace}(ht:P.underlying t=some (.slice e)) (he:P.underlying e=some (.int .i64)) (hC:P.cellsOf e=1)
 (h:DataW.trod enc P w base (fun _=>true) held fuel t [v]=some x):∃xs,(∀x∈xs,I64 x)/\yuj w (yu xs) v/\isU8 v=false:=by
 refine ywf (f:=fun x=>[.i .i64 x]) (p:=I64) 0 ht hC (by decide) (fun n cs' y h1 h2=>?_) h
 obtain⟨k,rfl,_,hw⟩:=DataW.trod_int he h1;exact⟨k,wf_i64 hw,(ybag w .i64 k).cons (ybik.nil w),rfl,rfl⟩
end
section
variable {H:Type}{enc:TypeId×Value->H}{w:World}{base:Nat}{held:Bool}{n:Nat}{v:Value}{x:DataW H×List MemPlace}
theorem ybux(h:DataW.trod enc zB w base (fun _=>true) held n 22 [v]=some x):∃xs,(∀x∈xs,I64 x)/\yuj w (yu xs) v/\isU8 v=false :=
 ybzl zAE zAI (by kernel_rfl) h
theorem yjv(h:DataW.trod enc zB w base (fun _=>true) held n 22 [v]=some x):∃xs,(∀x∈xs,I64 x)/\yuj w (yu xs) v:=by
 obtain⟨xs,h1,h2,_⟩:=ybux h;exact⟨xs,h1,h2⟩
end
theorem ywn {P:Program}{g:FuncId}{args:List SV}{x:Bool}{us':List Value}{w:World}(h:Returns P g args (.b x)) (hg:∃fn c,P.funcs[g]?=some fn/\fn.body=some c) (hn:yol P) (hG:GlW w)
 {us:List Value}(ha:RVL (memW w).b.get om0 args us) (hv:VRL (phiW w) us us'):Calls P g us'.toArray w fun e w'=>e = .returned (.bool x)/\Below w.heap.size w w' :=
 ycdq h hg hn hG ha hv (fun F u hu=>by cases hu;rfl) (fun φ v' hv'=>hv'.eq_simple rfl)
end Sh
end
section
namespace Sh
open Go Ev Go.RowKit Go.ChangeShapes Go.WideShapes Go.ChangeAt Go.Joins
theorem ydht{α:Type}{cs:Array α}(h:cs.size=6):∃c0 c1 c2 c3 c4 c5,cs = #[c0,c1,c2,c3,c4,c5]:=by
 obtain⟨l⟩:=cs
 match l,h with
 |[c0,c1,c2,c3,c4,c5],_=>exact⟨c0,c1,c2,c3,c4,c5,rfl⟩
section
variable {H:Type}{enc:TypeId×Value->H}{P:Program}{w:World}{base:Nat}{held:Bool}{spare:Nat->Bool}
theorem six{α:Type}{xs:List α}(h:xs.length=6):∃y0 y1 y2 y3 y4 y5,xs=[y0,y1,y2,y3,y4,y5]:=by
 match xs,h with
 |[y0,y1,y2,y3,y4,y5],_=>exact⟨y0,y1,y2,y3,y4,y5,rfl⟩
theorem ybsj {r:Reach}{b0:Nat}{t:TypeId}{f0 f1 f2 f3 f4 f5:Field}{v:Value}{d:DataW H}{p:List MemPlace}(hs:P.underlying t=some (.struct #[f0,f1,f2,f3,f4,f5])) (hone:Go.Deep.oneCellFields P #[f0,f1,f2,f3,f4,f5]=true) (hC:P.cellsOf t=6)
 (hv:Value.okWide P w r b0 t v) (h:DataW.Trod enc P w base spare held t v d p) :
 ∃ (v0 v1 v2 v3 v4 v5:Value) (y0 y1 y2 y3 y4 y5:DataW H×List MemPlace) (n:Nat),v = .agg #[v0,v1,v2,v3,v4,v5] /\
   DataW.trod enc P w base spare held n f0.type [v0]=some y0/\DataW.trod enc P w base spare held n f1.type [v1]=some y1/\DataW.trod enc P w base spare held n f2.type [v2]=some y2 /\
   DataW.trod enc P w base spare held n f3.type [v3]=some y3/\DataW.trod enc P w base spare held n f4.type [v4]=some y4/\DataW.trod enc P w base spare held n f5.type [v5]=some y5:=by
 obtain⟨cs,rfl,hsz⟩:=okWide_struct hs hv;obtain⟨c0,c1,c2,c3,c4,c5,rfl⟩:=ydht (hsz.trans hC);obtain⟨fuel,hf⟩:=h;obtain⟨xs,n,_,_,_,hlen,hf⟩:=DataW.trod_struct hs hf;obtain⟨y0,y1,y2,y3,y4,y5,rfl⟩:=six hlen;obtain⟨o0,k0⟩:=Go.Deep.hone_of hone 0 f0 rfl;obtain⟨o1,k1⟩:=Go.Deep.hone_of hone 1 f1 rfl;obtain⟨o2,k2⟩:=Go.Deep.hone_of hone 2 f2 rfl;obtain⟨o3,k3⟩:=Go.Deep.hone_of hone 3 f3 rfl;obtain⟨o4,k4⟩:=Go.Deep.hone_of hone 4 f4 rfl
 obtain⟨o5,k5⟩:=Go.Deep.hone_of hone 5 f5 rfl;have h0:=hf 0 f0 rfl;have h1:=hf 1 f1 rfl;have h2:=hf 2 f2 rfl;have h3:=hf 3 f3 rfl;have h4:=hf 4 f4 rfl;have h5:=hf 5 f5 rfl;rw[o0,k0]at h0;rw[o1,k1]at h1;rw[o2,k2]at h2;rw[o3,k3]at h3;rw[o4,k4]at h4;rw[o5,k5]at h5;exact⟨c0,c1,c2,c3,c4,c5,y0,y1,y2,y3,y4,y5,n,rfl,h0,h1,h2,h3,h4,h5⟩
end
section
variable {H:Type}{enc:TypeId×Value->H}{w:World}{base:Nat}{held:Bool}{n:Nat}{v:Value}{x:DataW H×List MemPlace}
theorem ybuo(w:World)(b:Bool):yuj w (.b b) (.bool b):=⟨.bool b,rfl,.b⟩
theorem ybko(h:DataW.trod enc zB w base (fun _=>true) held n 38 [v]=some x):∃xs:List Nat,(∀k,xs.getD k 0<2^32)/\yuj w (usV xs) v:=by
 obtain⟨xs,h1,h2,_⟩:=ywf (f:=fun x:Nat=>[SV.i .u32 (x:Int)]) (p:=fun x=>x<2^32) 0 (z:=1) zAF (by kernel_rfl) (by decide) (fun n cs' y h1 h2=>by
  obtain⟨k,rfl,_,hw⟩:=DataW.trod_int Tryz.underlying40 h1;have hb:=bounds_u32 hw;obtain⟨m,rfl⟩:∃m:Nat,k=m:=⟨k.toNat,by omega⟩
  exact⟨m,by omega,(ybag w .u32 m).cons (ybik.nil w),rfl,rfl⟩) h
 refine⟨xs,fun k=>?_,h2⟩;rcases zAS k xs.length with q|q
 ·rw[zG,zD q];exact h1 _ (zAJ q)
 ·rw[zG,zN q];decide
theorem ybdj{l:List Int}(h:∀x∈l,I64 x)(k:Nat):inK .i64 (l.getD k 0):=by
 have:I64 (l.getD k 0):=by
  rcases zAS k l.length with q|q
  ·rw[zG,zD q];exact h _ (zAJ q)
  ·rw[zG,zN q];exact ygs (by decide)
 exact this
theorem ycae{v:Value}{x:DataW H×List MemPlace}(h:DataW.trod enc zB w base (fun _=>true) held n 3 [v]=some x):∃k,inK .i64 k/\yuj w (.i .i64 k) v:=by
 obtain⟨k,e,_,hw⟩:=DataW.trod_int zAI h;simp at e;subst e;exact⟨k,wf_i64 hw,ybag w .i64 k⟩
theorem yvw{v:Value}{x:DataW H×List MemPlace}(h:DataW.trod enc zB w base (fun _=>true) held n 4 [v]=some x):∃b,yuj w (.b b) v:=by
 obtain⟨b,e,_⟩:=DataW.trod_bool zAK h;simp at e;subst e;exact⟨b,ybuo w b⟩
theorem ybde{b0:Nat}{d:DataW H}{p:List MemPlace}(hv:Value.okWide zB w .any b0 24 v)(h:DataW.Trod enc zB w base (fun _=>true) held 24 v d p) :
 ∃(x:NetR) (u:Value),x.ok/\RV (memW w).b.get om0 (.ag (netC x)) u/\VR (phiW w) u v:=by
 obtain⟨v0,v1,v2,v3,v4,v5,y0,y1,y2,y3,y4,y5,n,rfl,h0,h1,h2,h3,h4,h5⟩:=ybsj Tryz.underlying24 (by kernel_rfl) (by kernel_rfl) hv h
 obtain⟨k,kI,u0,a0,r0⟩:=ycae h0;obtain⟨ls,lI,u1,a1,r1⟩:=yjv h1;obtain⟨ws,wI,u2,a2,r2⟩:=yjv h2;obtain⟨is,iI,u3,a3,r3⟩:=yjv h3;obtain⟨ap,u4,a4,r4⟩:=yvw h4;obtain⟨bk,u5,a5,r5⟩:=yvw h5;refine⟨⟨k,ls,ws,is,ap,bk⟩,.agg [u0,u1,u2,u3,u4,u5].toArray,⟨kI,ybdj lI,ybdj wI,ybdj iI⟩,.ag (.cons r0 (.cons r1 (.cons r2 (.cons r3 (.cons r4 (.cons r5 .nil)))))),?_⟩;exact .agg (a:=[u0,u1,u2,u3,u4,u5]) (a':=[v0,v1,v2,v3,v4,v5]) (.cons (ygr a0) (.cons (ygr a1) (.cons (ygr a2) (.cons (ygr a3) (.cons (ygr a4) (.cons (ygr a5) .nil))))))
end
end Sh
end
section
def yqj(g:Gr)(c:Conf)(v:Nat):Bool:=decide ((v:Int)<mtT g c v)&&(mtT g c (mtT g c v).toNat==(v:Int))
def ywm(g:Gr)(c:Conf)(s v:Nat):Nat:=if yqj g c v=true then s|||(2^v|||2^(mtT g c v).toNat)else s
def yjn(g:Gr)(c:Conf)(k:Nat):Nat:=(zAU k).foldl (ywm g c) 0
section
variable {g:Gr}{c:Conf}{u v k i:Nat}
theorem yfl(hg:yw g)(h:MtC g c)(hv:v<g.ids.length):yqj g c v=true↔∃u,toP g c v=some u/\toP g c u=some v/\v<u:=by
 have hpl:=hg.2.2.1;unfold yqj;rw[zL,decide_eq_true_iff,beq_iff_eq];constructor
 ·rintro⟨h1,h2⟩;cases e:toP g c v with
  |none=>have:=(ypk hg h hv).2 e;omega
  | some u =>
    have ev:=(yew hg h hv).2 e;have hu:=(hg.adj_lt (yka hg h e)).2;rw[ev,zF]at h2;exact⟨u,rfl,(yew hg h (by omega)).1 h2,by omega⟩
 ·rintro⟨u,h1,h2,h3⟩;have ev:=(yew hg h hv).2 h1;have hu:=(hg.adj_lt (yka hg h h1)).2;rw[ev,zF];exact⟨by omega,(yew hg h (by omega)).2 h2⟩
theorem yoc:∀k,(yjn g c k).testBit i=true↔∃v,v<k/\yqj g c v=true/\(i=v\/i=(mtT g c v).toNat)
 |0=>⟨fun h=>by simp[yjn]at h,fun⟨_,h,_⟩=>absurd h (zAL _)⟩
 | k + 1 => by
   have e:yjn g c (k+1)=ywm g c (yjn g c k) k:=by unfold yjn;rw[zAM,zU];rfl
   rw[e];unfold ywm
   by_cases q:yqj g c k=true
   ·rw[if_pos q,zAP,zAN,yoc k,ymg,zAB,decide_eq_true_iff];constructor
    ·rintro(⟨v,a,b,d⟩|d|d)
     ·exact⟨v,by omega,b,d⟩
     ·exact⟨k,by omega,q,.inl d.symm⟩
     ·exact⟨k,by omega,q,.inr d⟩
    ·rintro⟨v,a,b,d⟩
     by_cases r:v=k
     ·subst r;rcases d with d|d
      ·exact .inr (.inl d.symm)
      ·exact .inr (.inr d)
     ·exact .inl ⟨v,by omega,b,d⟩
   ·rw[if_neg q,yoc k];constructor
    ·rintro⟨v,a,b,d⟩;exact⟨v,by omega,b,d⟩
    ·rintro⟨v,a,b,d⟩;exact⟨v,by have:v≠k:=fun e=>q (e▸b);omega,b,d⟩
theorem yccp(hg:yw g)(h:MtC g c)(hv:v<g.ids.length)(hp:yqj g c v=true):(yjn g c v).testBit v=false/\(yjn g c v).testBit (mtT g c v).toNat=false:=by
 have hpl:=hg.2.2.1;obtain⟨u,e1,e2,hu⟩:=(yfl hg h hv).1 hp;have ev:=(yew hg h hv).2 e1;rw[ev,zF]
 have pr:∀i,(yjn g c v).testBit i=true->∃a b,a<v/\toP g c a=some b/\toP g c b=some a/\a<b/\(i=a\/i=b):=fun i hi=>by
  obtain⟨a,ha,hb,hd⟩:=(yoc v).1 hi;obtain⟨b,b1,b2,b3⟩:=(yfl hg h (v:=a) (by omega)).1 hb
  rw[(yew hg h (v:=a) (by omega)).2 b1,zF]at hd
  exact⟨a,b,ha,b1,b2,b3,hd⟩
 constructor
 ·refine Bool.eq_false_iff.2 fun hi=>?_;obtain⟨a,b,a1,a2,a3,a4,d|d⟩:=pr v hi
  ·omega
  ·subst d;rw[e1]at a3;have:=Option.some.inj a3;omega
 ·refine Bool.eq_false_iff.2 fun hi=>?_;obtain⟨a,b,a1,a2,a3,a4,d|d⟩:=pr u hi
  ·omega
  ·subst d;rw[e2]at a3;have:=Option.some.inj a3;omega
theorem ybor(hg:yw g)(h:MtC g c)(hr:yyl g c)(hu:adj g v u):(yjn g c g.ids.length).testBit v=true\/(yjn g c g.ids.length).testBit u=true:=by
 have hpl:=hg.2.2.1;obtain⟨hv,hul⟩:=hg.adj_lt hu
 have paired:∀x,x<g.ids.length->toP g c x≠none->(yjn g c g.ids.length).testBit x=true:=fun x hx hne=>by
  cases e:toP g c x with
  |none=>exact absurd e hne
  | some y =>
    have had:=yka hg h e;have hy:=(hg.adj_lt had).2;have back:=hr.1 x y e;have hxy:x≠y:=fun q=>by subst q;exact ycgi hg _ had
    refine(yoc _).2 ?_;rcases Nat.lt_or_gt_of_ne hxy with q|q
    ·exact⟨x,hx,(yfl hg h hx).2 ⟨y,e,back,q⟩,.inl rfl⟩
    ·refine⟨y,by omega,(yfl hg h (by omega)).2 ⟨x,back,e,q⟩,.inr ?_⟩
     rw[(yew hg h (v:=y) (by omega)).2 back,zF]
 by_cases q:toP g c v=none
 ·exact .inr (paired u (by omega) (hr.2 v u hu q))
 ·exact .inl (paired v (by omega) q)
end
end
section
theorem Sys.run_next(S:Sys)(res:Nat->Nat->Nat):∀(ws:List Nat) (c:Conf) (k:Cnt) (i:Nat) (p q:Conf×Cnt),((c,k)::S.run res ws c k)[i]?=some p->((c,k)::S.run res ws c k)[i+1]?=some q ->
 S.en p.1≠0/\∃w,q.1=S.mv p.1 (res (S.en p.1) w)
 | [],c,k,i,p,q,_,h2=>by
   have h2:(S.run res [] c k)[i]?=some q:=h2;unfold Sys.run at h2;simp at h2
 | w :: ws,c,k,i,p,q,h1,h2=>by
   by_cases h0:S.en c=0
   ·have h2:(S.run res (w::ws) c k)[i]?=some q:=h2;unfold Sys.run at h2;rw[if_pos h0]at h2;simp at h2
   ·have e:S.run res (w::ws) c k=(S.mv c (res (S.en c) w),addP k (res (S.en c) w) (S.en (S.mv c (res (S.en c) w))))::S.run res ws (S.mv c (res (S.en c) w)) (addP k (res (S.en c) w) (S.en (S.mv c (res (S.en c) w)))):=by
     conv=>lhs;unfold Sys.run
     exact if_neg h0
    rw[e]at h1 h2;cases i with
    | zero =>
      have h1:some (c,k)=some p:=h1;have h2:some (S.mv c (res (S.en c) w),_)=some q:=h2;cases h1
      cases h2
      exact⟨h0,w,rfl⟩
    |succ i=>exact Sys.run_next S res ws _ _ i p q h1 h2
theorem Sh.RunD.next{S:Sys}{res:Nat->Nat->Nat}{ws:List Nat}{c:Conf}{n:Nat}{Cs:List Conf}{Ks:List Cnt}(h:Sh.RunD S res ws c n Cs Ks){k:Nat}(hk:k+1<n) :
 S.en (Cs.getD k [])≠0/\∃w,Cs.getD (k+1) []=S.mv (Cs.getD k []) (res (S.en (Cs.getD k [])) w) :=
 Sys.run_next S res ws c _ k _ _ (h.at_ (show k<n by omega)).2 (h.at_ hk).2
section
variable {nm np na nb nw:ByteArray}{g:Gr}{c:Conf}{v s:Nat}
theorem yzk(hg:yw g)(h:MtC g c)(hv:v<g.ids.length):mtPB g c v=yqj g c v:=by
 have hpl:=hg.2.2.1;have e:=ysn hg h hv;unfold mtPB yqj;rw[e]
 by_cases q:(v:Int)<mtT g c v
 ·have hi:=ybri hg h hv;rw[e]at hi;rw[ysn hg h (show(mtT g c v).toNat<g.ids.length by omega)]
 ·have q1:decide (mtT g c v>(v:Int))=false:=decide_eq_false q;have q2:decide ((v:Int)<mtT g c v)=false:=decide_eq_false q;rw[q1];rfl
theorem ybcr(hg:yw g)(hV:yga (ybt nm np na nb nw) g c=true)(hs:subB s (ybp (ybt nm np na nb nw) g c))(hv:v<g.ids.length)(hp:mtPB g c v=true) :
 mtPB g (yex (ybt nm np na nb nw) g c s) v=true/\mtW g (yex (ybt nm np na nb nw) g c s) v=mtW g c v:=by
 have h:=yin hV;have h':=yin (Sh.ykm hg ydax (yta hg) hV s);have hpl:=hg.2.2.1;rw[yzk hg h hv]at hp;obtain⟨u,h1,h2,h3⟩:=(yfl hg h hv).1 hp;have a1:=ybjz hg h hs h1 h2;have a2:=ybjz hg h hs h2 h1;refine⟨?_,?_⟩
 ·rw[yzk hg h' hv];exact(yfl hg h' hv).2 ⟨u,a1,a2,h3⟩
 ·rw[ysn hg h hv,ysn hg h' hv,(yew hg h hv).2 h1,(yew hg h' hv).2 a1]
theorem yso{k:Nat}{x:Int×Int}:x∈ybv g c k↔∃v,v<k/\mtPB g c v=true/\x=(((v:Nat):Int),mtW g c v):=by
 unfold ybv;rw[List.mem_map];constructor
 ·rintro⟨v,hv,rfl⟩;obtain⟨h1,h2⟩:=List.mem_filter.1 hv;exact⟨v,List.mem_range.1 h1,h2,rfl⟩
 ·rintro⟨v,h1,h2,rfl⟩;exact⟨v,List.mem_filter.2 ⟨List.mem_range.2 h1,h2⟩,rfl⟩
theorem yyb(hg:yw g)(hV:yga (ybt nm np na nb nw) g c=true)(hs:subB s (ybp (ybt nm np na nb nw) g c)):∀x∈yfo g c,x∈yfo g (yex (ybt nm np na nb nw) g c s):=by
 have hV':=Sh.ykm hg ydax (yta hg) hV s;have h:=yin hV;have h':=yin hV';unfold yfo;rw[if_pos (ybpz hg hV),if_pos (ybpz hg hV'),h.len,h'.len];intro x hx;obtain⟨v,h1,h2,rfl⟩:=yso.1 hx;obtain⟨a1,a2⟩:=ybcr hg hV hs h1 h2;exact yso.2 ⟨v,h1,a1,by rw[a2]⟩
end
end
section
def ybyk(s:Nat)(x:Int×Int):Nat:=s|||(2^x.1.toNat|||2^x.2.toNat)
def yfw(l:List (Int×Int))(i:Nat):Nat:=(l.take i).foldl ybyk 0
theorem ypw{l:List (Int×Int)}{i:Nat}(hi:i<l.length):yfw l (i+1)=ybyk (yfw l i) (l.getD i (0,0)):=by
 unfold yfw;rw[List.take_succ_eq_append_getElem hi,zU,Sh.getD_at hi];rfl
theorem ywq(g:Gr)(c:Conf)(k:Nat):yjn g c (k+1)=ywm g c (yjn g c k) k:=by
 unfold yjn;rw[zAM,zU];rfl
theorem ysz{g:Gr}{c:Conf}(hg:yw g)(h:MtC g c):∀k,k<=g.ids.length->(yfw (ybv g c k) (ybv g c k).length=yjn g c k /\
 ∀i,i<(ybv g c k).length->∃v,v<k/\mtPB g c v=true/\(ybv g c k).getD i (0,0)=(((v:Nat):Int),mtW g c v)/\yfw (ybv g c k) i=yjn g c v)
 |0,_=>⟨rfl,fun i hi=>absurd hi (zAL i)⟩
 | k + 1,hk=>by
   obtain⟨h1,h2⟩:=ysz hg h k (by omega)
   rw[yqh];have e:=yzk hg h (show k<g.ids.length by omega)
   have ew:=ysn hg h (show k<g.ids.length by omega)
   cases hb:mtPB g c k with
   | false =>
     rw[if_neg (by decide)]
     refine⟨?_,fun i hi=>?_⟩
     ·rw[h1,ywq];unfold ywm;rw[<-e,hb,if_neg (by decide)]
     ·obtain⟨v,a1,a2,a3,a4⟩:=h2 i hi;exact⟨v,by omega,a2,a3,a4⟩
   | true =>
     rw[if_pos rfl];obtain⟨L,hL⟩:∃L,ybv g c k=L:=⟨_,rfl⟩;rw[hL]at h1 h2 ⊢
     have hp:∀i,i<=L.length->yfw (L++[(((k:Nat):Int),mtW g c k)]) i=yfw L i:=fun i hi=>by
      unfold yfw;rw[List.take_append_of_le_length hi]
     have hx:(L++[(((k:Nat):Int),mtW g c k)]).getD L.length (0,0)=(((k:Nat):Int),mtW g c k):=by
      rw[Sh.ymv,if_neg (Nat.lt_irrefl _),if_pos rfl]
     refine⟨?_,fun i hi=>?_⟩
     ·rw[zAC,zZ,ypw (by simp),hp _ (zO _),h1,hx,ywq]
      unfold ywm ybyk;rw[<-e,hb,if_pos rfl,<-ew,zF]
     ·rw[zAC,zZ]at hi
      by_cases q:i<L.length
      ·obtain⟨v,a1,a2,a3,a4⟩:=h2 i q;exact⟨v,by omega,a2,by rw[Sh.ymv,if_pos q];exact a3,by rw[hp i (by omega)];exact a4⟩
      ·obtain rfl:i=L.length:=by omega
       exact⟨k,by omega,hb,hx,by rw[hp _ (zO _)];exact h1⟩
theorem ybvo{g:Gr}{c:Conf}(hg:yw g)(h:MtC g c){v:Nat}(hv:v<g.ids.length)(hp:mtPB g c v=true):∃u:Nat,mtW g c v=u/\v<u/\u<g.ports.length/\adj g v u/\(yjn g c v).testBit v=false/\(yjn g c v).testBit u=false:=by
 have hp':=hp;rw[yzk hg h hv]at hp';obtain⟨u,h1,h2,h3⟩:=(yfl hg h hv).1 hp';have ev:=(yew hg h hv).2 h1;obtain⟨a1,a2⟩:=yccp hg h hv hp';rw[ev,zF]at a2;have had:=yka hg h h1;exact⟨u,by rw[ysn hg h hv];exact ev,h3,(hg.adj_lt had).2,had,a1,a2⟩
theorem ydnb{g:Gr}(hg:yw g){s i:Nat}(h:(nbP g s).testBit i=true):i<g.ports.length/\∃u,adj g i u/\s.testBit u=true:=by
 unfold nbP at h;rw[ygw,zL,decide_eq_true_iff]at h;unfold nbF at h;obtain⟨l,hl,hb⟩:=List.any_eq_true.1 h.2;exact⟨h.1,_,(ycg hg h.1 hl).2.2.1,hb⟩
theorem yddo(i:Nat):(2^i-1)|||2^i=2^(i+1)-1:=by
 refine Nat.eq_of_testBit_eq fun j=>?_;rw[zAP,zI,zAB,zI];rw[Bool.eq_iff_iff,zAN,decide_eq_true_iff,decide_eq_true_iff,decide_eq_true_iff];omega
namespace Sh
open Ev Go.RowKit
theorem ybdi{n:Nat}(hn:n<=24):Returns zB 63 [.i .i64 n] (.i .u32 (2^n-1:Nat)):=by
 refine Returns.of (ydnl _ _ ?_)
 have hlt:∀i,i<=n->2^i-1<2^32:=fun i hi=>by
  have:2^i<=2^24:=zJ (by omega) (by omega)
  omega
 obtain⟨A,hA⟩:∃A:Nat->Nat,(fun i=>2^i-1)=A:=⟨_,rfl⟩;have hA':∀i,2^i-1=A i:=fun i=>by rw[<-hA]
 have hor:=yddo;have h0:A 0=0:=by rw[<-hA']
 simp only[hA']at hlt hor;rw[hA'];simp only[c63,ydgj,ydja,ydmo,go_sem];refine ybj (σ:=Nat) (fun i=>⟨[(4,.i .i64 i),(3,.i .u32 (A i)),(0,.i .i64 n)],[]⟩) (fun i=>i<=n) (fun i=>n-i) 0 (zY _) ?_ ?_
 ·refine yh [] [] [] ?_;simp only[h0,allQ,live,yc,zM,go_sem,zA,↓reduceIte,reduceCtorEq]
 intro i hi;have t2:decide ((i:Int)<32)=true:=decide_eq_true (by omega)
 by_cases hlt2:i<n
 ·have t1:decide ((i:Int)<(n:Int))=true:=decide_eq_true (by omega)
  have sh:=yhf (v:=i) (by omega)
  have ov:=u32_or (a:=A i) (b:=2^i) (hlt i hi) (zH (by omega) (by omega))
  rw[hor]at ov;simp only[IntKind.bits,zF]at sh ov;simp only[ycys,ydmz,ydjo,t1,t2,ykp (show i<2^32 by omega),sh,ov,clash,go_sem,zA,zC,↓reduceIte,reduceCtorEq]
  repeat (first|refine⟨(⟨by omega,by omega⟩:_/\_),?_⟩|refine⟨(by omega:_<_),?_⟩)
  refine⟨ikw (by omega) (by omega),?_⟩
  refine yj (i+1) (by omega) (by omega) ?_
  refine yh [] [] [] ?_;simp only[go_sem,allQ,live,yc,yba,go_sem,zA,↓reduceIte,reduceCtorEq];omega
 ·obtain rfl:i=n:=by omega
  have t1:decide ((i:Int)<(i:Int))=false:=decide_eq_false (by omega)
  simp only[ycys,ydgm,t1,clash,go_sem,zA,zC,↓reduceIte,reduceCtorEq];exact Sim.refl _
theorem ybpn{g:Gr}(hg:yw g){a b:Nat}(h:adj g a b):∃p:Nat,Returns zB 62 [grV g,.i .i64 a,.i .i64 b] (.i .i64 p):=by
 obtain⟨ha,hb⟩:=hg.adj_lt h;have h24:=hg.2.1;have hdeg:=hg.deg_lt (v:=a);obtain⟨l,hl,e⟩:=yfk.1 h;have hex:∃x∈g.ports.getD a [],(fun l:Int×Int=>l.1==(b:Int)) x=true:=⟨l,hl,beq_iff_eq.2 e⟩;have hp1:=List.findIdx_lt_length.2 hex;have hp2:=List.findIdx_getElem (w:=hp1);have hp3:=fun j (hj:j<(g.ports.getD a []).findIdx fun l=>l.1==(b:Int))=>List.not_of_lt_findIdx hj;obtain⟨L,hL⟩:∃L,g.ports.getD a []=L:=⟨_,rfl⟩
 simp only[hL]at hp1 hp2 hp3 hdeg;obtain⟨p,hp⟩:∃p,(L.findIdx fun l=>l.1==(b:Int))=p:=⟨_,rfl⟩;simp only[hp]at hp1 hp2 hp3;have f2:(L.getD p (0,0)).1=(b:Int):=by rw[getD_at hp1];exact beq_iff_eq.1 hp2
 have f3:∀j,j<p->(L.getD j (0,0)).1≠(b:Int):=fun j hj=>by
  have:=hp3 j hj;rw[getD_at (show j<L.length by omega)]
  simpa using this
 refine⟨p,?_⟩;refine Returns.of (ydkb _ _ ?_);obtain⟨n,hn⟩:∃n,g.ports.length=n:=⟨_,rfl⟩;obtain⟨d,hd⟩:∃d,L.length=d:=⟨_,rfl⟩;rw[hn]at ha h24;rw[hd]at hp1 hdeg;simp only[c62,ydnh,ydhl,grV,clash,go_sem,zC,zW,↓reduceIte];refine ybj (σ:=Nat) (fun i=>⟨[(7,.i .i64 i),(1,.i .i64 a),(2,.i .i64 b),(3,.pt (3,0) 0 0)],[(3,.one (some ⟨27,true,2,1,fun _=>[yu g.ids,ybb g.ports]⟩))]⟩) (fun i=>i<=p) (fun i=>d-i) 0 (zY _) ?_ ?_
 ·refine yh [] [] [] ?_;simp only[go_sem,allQ,live,yc,zM,go_sem,zA,↓reduceIte,reduceCtorEq]
 intro i hi;have t1:decide ((i:Int)<(d:Int))=true:=decide_eq_true (by omega)
 by_cases q:i=p
 ·subst q;have t2:((L.getD i (0,0)).1==(b:Int))=true:=beq_iff_eq.2 f2;simp only[ydcf,ydfl,ydlo,ybb,ybc,hn,hL,hd,t1,t2,clash,go_sem,zA,zC,zX,↓reduceIte,reduceCtorEq]
  repeat (refine⟨by omega,?_⟩)
  exact Sim.refl _
 ·have t2:((L.getD i (0,0)).1==(b:Int))=false:=beq_eq_false_iff_ne.2 (f3 i (by omega))
  simp only[ydcf,ydfl,ydkt,ybb,ybc,hn,hL,hd,t1,t2,clash,go_sem,zA,zC,zX,↓reduceIte,reduceCtorEq]
  repeat (first|refine⟨(⟨by omega,by omega⟩:_/\_),?_⟩|refine⟨(by omega:_<_),?_⟩)
  refine⟨ikw (by omega) (by omega),?_⟩
  refine yj (i+1) (by omega) (by omega) ?_
  refine yh [] [] [] ?_;simp only[go_sem,allQ,live,yc,yba,go_sem,zA,↓reduceIte,reduceCtorEq];omega
theorem ybgh{g:Gr}(hg:yw g){s:Nat}(hs:s<2^g.ports.length):Returns zB 66 [grV g,.i .u32 s] (.b (((nbP g s&&&s:Nat):Int)==0)):=by
 refine Returns.of (ydjs _ _ ?_);have h24:=hg.2.1;have hV:=ywd (ybmn hg);rw[(yfn g).2 hg]at hV;have h2n:2^g.ports.length<=2^24:=zJ (by omega) (by omega)
 have hNb:=ybup hg (s:=s) (by omega)
 have hnl:=zS (ydka hg s) (show 2^24<=2^32 by omega)
 have hA:=ybdi (n:=g.ports.length) h24;have a0:=u32_andNot (a:=s) (b:=2^g.ports.length-1) (by omega) (by omega)
 have hd:difB s (2^g.ports.length-1)=0:=by
  rw[ycb];intro i;rw[yhj,zI]
  by_cases q:i<g.ports.length
  ·rw[decide_eq_true q];simp
  ·rw[Nat.testBit_lt_two_pow (zS hs (zJ (by omega) (by omega)))];rfl
 rw[hd]at a0;have an:=u32_and (a:=nbP g s) (b:=s) hnl (by omega)
 simp only[IntKind.bits,zM]at a0 an;simp only[grV]at hV hNb;simp only[c66,ydmd,ydgk,grV,clash,go_sem,zA,zC,zW,↓reduceIte];refine hV.use ?_;simp only[ybf,ybb,clash,go_sem,zA,zC,↓reduceIte,reduceCtorEq];refine hA.use ?_;simp only[ybf,a0,Int.reduceBNe,ydiq,clash,go_sem,zA,zC,↓reduceIte,reduceCtorEq];simp only[ybb]at hNb;refine hNb.use ?_;simp only[an,go_sem,↓reduceIte];exact Sim.refl _
end Sh
end
section
namespace Sh
open Ev Go.RowKit
set_option maxHeartbeats 8000000 in
theorem yvn{x:NetR}(hx:x.ok){raw:List Int}(hr:∀k,inK .i64 (raw.getD k 0)){l:List Nat}(hb:∀k,l.getD k 0<2^32):Returns zB 15 [.ag (netC x),yu raw,usV l] (.b true):=by
 refine Returns.of (ydjv _ _ ?_);have hC:=ybxq hx (most:=8) (by omega)
 simp only[netC]at hC;simp only[c15,ydns,ydif,netC,clash,go_sem,zA,zC,zW,↓reduceIte];refine hC.found (V:=grV) (fun r g h=>h.2.2) fun r g h=>?_;obtain⟨hg,hn8,-⟩:=h;have hI:=ybmn hg;have hCh:Checked (Lies MqB Mqv) (Lies MqC Mqr) MqP g:=⟨hg,ybia,yta hg,ybkt⟩;have hTx:=ybaq;have hVs:=yxs;have hK:=yty;have hCf:=yvt hg ybia hCh.hf hr;have hpl:=hg.2.2.1;have h24:=hg.2.1;simp only[grV]at hCf;simp(maxSteps:=5000000) only [ybf,ydmb,grV,clash,go_sem,zA,zC,zW,↓reduceIte,reduceCtorEq]
 refine hTx.use ?_;simp(maxSteps:=5000000) only [go_sem];refine hVs.use ?_;simp(maxSteps:=5000000) only [go_sem,↓reduceIte];refine⟨by decide,hCf.found (V:=ybk) (fun r c h=>h.2) fun r c h=>?_⟩
 obtain⟨hcv,-⟩:=h;simp(maxSteps:=5000000) only [go_sem];refine⟨by decide,(ywt l hb 100 (by omega)).found (V:=usV) (fun r ws h=>h.2.2) fun r ws h=>?_⟩
 obtain⟨hwl,hw,-⟩:=h;have hRun:=ybvl yxh hCh (kind:=2) (by omega) (ycai hg) hcv hw (by omega)
 obtain⟨n,Cs,Ks,hD⟩:=runD (yca MqP g) (resG g) ws c;have hlen:=hD.le;have hpos:=hD.pos;obtain⟨C,hCe⟩:∃C,Cs.getD (n-1) []=C:=⟨_,rfl⟩;have hCv:yga MqP g C=true:=by rw[<-hCe];exact(ybvw hg (ypd hg) hcv _ (hD.at_ (show n-1<n by omega)).1).valid
 have hCc:=yin hCv;have hcf:=ybpz hg hCv;have hP:=ywy hI (ybaf (yjc hg ybia hCv));have hLg:=yboo hI (ybaf (yjc hg ybia hCv));have hLr:=yzf hcf;have ePs:yfo g C=ybv g C g.ids.length:=by unfold yfo;rw[if_pos hcf,hCc.len]
 obtain⟨hS1,hS2⟩:=ysz hg hCc g.ids.length (zO _);have hPl:=ylp g C g.ids.length;rw[ePs]at hP;have hat:=fun v hv hp=>ybvo hg hCc (v:=v) hv hp;have hmax:=fun hr v u hu=>ybor hg hCc hr (v:=v) (u:=u) hu;obtain⟨L,hL⟩:∃L,ybv g C g.ids.length=L:=⟨_,rfl⟩;rw[hL]at hP hS1 hS2 hPl;have hsu:=fun i=>ypw (l:=L) (i:=i);have h0:yfw L 0=0:=rfl
 have hlt24:∀i,i<=L.length->yfw L i<2^g.ports.length:=fun i=>by
  induction i with
  |zero=>intro _;rw[h0];exact zAO _
  | succ i ih =>
    intro hi;rw[hsu i (by omega)]
    obtain⟨v,a1,a2,a3,_⟩:=hS2 i (by omega)
    obtain⟨u,b1,b2,b3,_⟩:=hat v a1 a2;rw[a3,b1];unfold ybyk;simp only[zF];exact zV (ih (by omega)) (zV (zH (by omega) (by omega)) (zH (by omega) b3))
 obtain⟨S,hS⟩:∃S:Nat->Nat,(fun i=>yfw L i)=S:=⟨_,rfl⟩;have hS':∀i,yfw L i=S i:=fun i=>by rw[<-hS]
 simp only[hS']at hsu h0 hlt24 hS1 hS2;obtain⟨m,hm⟩:∃m,L.length=m:=⟨_,rfl⟩;rw[hm]at hPl hlt24 hS1 hS2;simp only[hm]at hsu;obtain⟨nn,hnn⟩:∃k,g.ports.length=k:=⟨_,rfl⟩;have h2n:2^nn<=2^24:=zJ (by omega) (by omega)
 rw[hnn]at hlt24;have hAll:=ybdi (n:=nn) (by omega)
 have hF:difB (2^nn-1) (S m)<2^nn:=yyn (by have:=zAO nn;omega)
 have aF:=u32_andNot (a:=2^nn-1) (b:=S m) (by omega) (by have:=hlt24 m (zO _);omega)
 have hIn:=ybgh hg (s:=difB (2^nn-1) (S m)) (by rw[hnn];exact hF)
 have hfree:yyl g C->nbP g (difB (2^nn-1) (S m))&&&difB (2^nn-1) (S m)=0:=fun hR=>by
  rw[ycb];intro i;rw[Nat.testBit_and];cases q:(nbP g (difB (2^nn-1) (S m))).testBit i with
  |false=>rfl
  | true =>
    cases r:(difB (2^nn-1) (S m)).testBit i with
    |false=>rfl
    | true =>
      obtain⟨_,u,hu,hub⟩:=ydnb hg q;rw[yhj,zL,Bool.not_eq_true']at r hub;rcases hmax hR i u hu with e|e
      ·rw[<-hS1,r.2]at e;cases e
      ·rw[<-hS1,hub.2]at e;cases e
 obtain⟨F,hFe⟩:∃F,difB (2^nn-1) (S m)=F:=⟨_,rfl⟩;rw[hFe]at hF aF hIn hfree;simp only[IntKind.bits]at aF;rw[hD.cs,hD.ks]at hRun;simp only[grV,yek,yhr,hD.lC,hD.lK]at hRun;simp only[grV]at hP hLg hIn;have e1:((n:Int)-1).toNat=n-1:=by omega
 simp(maxSteps:=5000000) only [go_sem,↓reduceIte];refine⟨by decide,hRun.use ?_⟩
 simp(maxSteps:=5000000) only [ybf,ydgq,ydkl,ydhb,ydne,e1,hCe,clash,go_sem,zA,zC,↓reduceIte,reduceCtorEq];refine⟨by decide,ikw (by omega) (by omega),⟨by omega,by omega⟩,hP.use ?_⟩
 simp(maxSteps:=5000000) only [ydnd,ybc,hm,go_sem];refine ybj (σ:=Nat) (fun i=>⟨[(14,.i .i64 i),(13,.sl 2 m fun j=>[.i .i64 (L.getD j (0,0)).1,.i .i64 (L.getD j (0,0)).2]),(12,.i .u32 (S i)),(11,ybk C),(7,.pt (7,0) 0 0)],[(7,.one (some ⟨27,true,2,1,fun _=>[yu g.ids,ybb g.ports]⟩))]⟩) (fun i=>i<=m) (fun i=>m-i) 0 (zY _) ?_ ?_
 ·refine yh [] [] [] ?_;simp only[h0,allQ,live,yc,zM,go_sem,zA,↓reduceIte,reduceCtorEq]
 intro i hi
 by_cases hlt:i<m
 ·have t1:decide ((i:Int)<(m:Int))=true:=decide_eq_true (by omega)
  obtain⟨v,a1,a2,a3,a4⟩:=hS2 i hlt;obtain⟨u,b1,b2,b3,b4,b5,b6⟩:=hat v a1 a2;rw[b1]at a3;have hs:=hsu i hlt;rw[a3]at hs;have hi24:=hlt24 i hi;obtain⟨s,hse⟩:∃s,S i=s:=⟨_,rfl⟩;rw[hse]at a4 hs hi24;rw[<-a4]at b5 b6;have f1:(L.getD i (0,0)).1=(v:Int):=by rw[a3]
  have f2:(L.getD i (0,0)).2=(u:Int):=by rw[a3]
  obtain⟨p,hPt⟩:=ybpn hg b4;have hB1:=ybtg (s:=s) (v:=v) (by omega) (by omega)
  have hB2:=ybtg (s:=s) (v:=u) (by omega) (by omega)
  rw[b5]at hB1;rw[b6]at hB2;rw[hnn]at b3;have c1:decide ((v:Int)<0)=false:=decide_eq_false (by omega)
  have c2:decide ((u:Int)>=(nn:Int))=false:=decide_eq_false (by omega)
  have c3:decide ((v:Int)>=(u:Int))=false:=decide_eq_false (by omega)
  have c4:decide ((p:Int)<0)=false:=decide_eq_false (by omega)
  have sh1:=yhf (v:=v) (by omega)
  have sh2:=yhf (v:=u) (by omega)
  have p1:2^v<2^24:=zH (by omega) (by omega)
  have p2:2^u<2^24:=zH (by omega) (by omega)
  have o1:=u32_or (a:=2^v) (b:=2^u) (by omega) (by omega)
  have p3:2^v|||2^u<2^24:=zV p1 p2;have o2:=u32_or (a:=s) (b:=2^v|||2^u) (by omega) (by omega)
  have hs':S (i+1)=s|||(2^v|||2^u):=by rw[hs];unfold ybyk;simp only[zF]
  rw[<-hs']at o2;simp only[IntKind.bits,zF]at sh1 sh2 o1 o2;simp only[grV]at hPt;simp(maxSteps:=5000000) only [ycyh,ycrt,ycjz,hse,f1,f2,t1,ybb,hnn,c1,c2,c3,clash,go_sem,Int.reduceToNat,zA,zC,zX,Nat.reduceMul,↓reduceIte,reduceCtorEq]
  repeat (refine⟨by omega,?_⟩)
  simp only[ybb,hnn]at hPt;refine hPt.use ?_;simp(maxSteps:=5000000) only [ybf,c4,clash,go_sem,zA,zC,↓reduceIte,reduceCtorEq];refine hB1.use ?_;simp(maxSteps:=5000000) only [ybf,clash,go_sem,zA,zC,↓reduceIte,reduceCtorEq];refine hB2.use ?_;simp(maxSteps:=5000000) only [ycsc,yclf,ykp (show v<2^32 by omega),ykp (show u<2^32 by omega),sh1,sh2,o1,o2,clash,go_sem,zA,zC,↓reduceIte,reduceCtorEq]
  repeat (first|refine⟨(⟨by omega,by omega⟩:_/\_),?_⟩|refine⟨(by omega:_<_),?_⟩)
  refine⟨ikw (by omega) (by omega),?_⟩
  refine yj (i+1) (by omega) (by omega) ?_
  refine yh [] [] [] ?_;simp only[go_sem,allQ,live,yc,yba,go_sem,zA,↓reduceIte,reduceCtorEq];omega
 ·obtain rfl:i=m:=by omega
  have t1:decide ((i:Int)<(i:Int))=false:=decide_eq_false (by omega)
  simp(maxSteps:=5000000) only [ycyh,ycta,t1,ybb,hnn,clash,go_sem,zA,zC,↓reduceIte,reduceCtorEq];refine hAll.use ?_;simp(maxSteps:=5000000) only [ybf,ycsd,aF,clash,go_sem,zA,zC,↓reduceIte,reduceCtorEq];refine hK.use ?_;simp(maxSteps:=5000000) only [ybf,clash,go_sem,zA,zC,↓reduceIte,reduceCtorEq];simp only[ybb,hnn]at hLg hIn;refine hLg.use ?_;cases hlg:yhi g C with
  | false =>
    simp(maxSteps:=5000000) only [clash,go_sem,zA,zC,↓reduceIte,reduceCtorEq];exact Sim.refl _
  | true =>
    have z:=hfree (hLr.1 hlg);rw[z]at hIn;simp(maxSteps:=5000000) only [ybf,clash,go_sem,zA,zC,↓reduceIte,reduceCtorEq];refine hIn.use ?_;simp(maxSteps:=5000000) only [go_sem];exact Sim.refl _
end Sh
end
section
open Go.ChangeShapes Go.WideShapes Go.ChangeAt Go.RowKit Go.Joins Go.WideMaps Go.WideElems
set_option linter.unusedVariables false
set_option maxRecDepth 100000 in
theorem ykv(W:World)(h:laidMetH zB Rows.matchingMaximalRow.laid W):Ev.GlW W:=fun x hx=>by
 rw[MakeChecks.laidMetH_plain _ _ _ (by kernel_rfl)]at h
 have hg : Tryz.prog.globalNamed "math/bits.deBruijn32tab" = some 0 := by kernel_rfl
 have ht:=Lib.tabIs_of_head (rest:=[]) (k:=.u8) (zs:=([0,1,28,2,29,14,24,3,30,22,20,15,25,17,4,8,31,27,13,23,21,19,16,7,26,12,18,6,11,5,10,9]:List Int)) (t:=226) (e:=5) (n:=32) hg (by kernel_rfl) (by kernel_rfl) (by kernel_rfl) (by kernel_rfl) (by kernel_rfl) h
 unfold Lib.TabIs World.var? at ht;rw[hg]at ht;simp only[Option.bind_some]at ht;split at ht
 ·rename_i cs e fz hc
  obtain rfl:=Option.some.inj ht;obtain rfl:=Option.some.inj hx;exact⟨_,_,hc⟩
 ·cases ht
set_option maxRecDepth 100000 in
theorem yky(os:Os)(args:Array Value):laidMetH zB Rows.matchingMaximalRow.laid ((World.doorLaid zB 14 os).forCall (fun _ _=>0) ⟨#[],args,[]⟩).memory :=
 laidMetH_of_parts3 (fuel:=8) (laidMet_of_run' 8 (by kernel_rfl) (by kernel_rfl)) (by kernel_rfl) (by kernel_rfl)
set_option maxRecDepth 100000 in
theorem yjj(os:Os)(started:os.Started)(H:Type)(enc:TypeId×Value->H) :
 ReturnsInHanded {} zAD os 15 .any (fun w args=>(Rows.matchingMaximalSpec.pre enc zB zAA [] false w args/\laidMetH zB Rows.matchingMaximalRow.laid w)/\sizedMet enc zB zAA (OpenSpec.ofChange Rows.matchingMaximalSpec) false w args)
  (Rows.matchingMaximalSpec.post enc zB zAA false true false false):=by
 refine returnsInHanded_of_change_and (C:=zAD) (X:=fun w _=>laidMetH zB Rows.matchingMaximalRow.laid w) (fun _ _ _ hh h=>h.of_heap hh) own started (by kernel_rfl) zAG
  (ChangeSpec.witness_shaped (enc:=enc) (C:=zAD) (os:=os) (X:=fun w _=>laidMetH zB Rows.matchingMaximalRow.laid w) false (World.doorLaid zB 14 os) #[.agg #[.int .i64 0,.slice .none 0 0,.slice .none 0 0,.slice .none 0 0,.bool false,.bool false],.slice .none 0 0,.slice .none 0 0] 8 rfl (World.shaped_of_RefB (by kernel_rfl) (by kernel_rfl)) (by kernel_rfl) (by kernel_rfl) (by kernel_rfl) (yky os _)) ?_
 intro W base args ds gs before hval0 hW _ _ hL _;have hval:∀(j:Nat) t v,Tryz.f15.params[j]?=some t->args[j]?=some v->Value.okWide zB W .any base t v:=hval0;have hW':=hW;obtain⟨p,q,hA0,hV,rfl,hfz,hnd⟩:=hW;have hA:DataW.TrodAll enc zB W 0 (fun _=>true) true Tryz.f15.params.toList args.toList ds p:=hA0;rw[Tryz.params15]at hA hval;obtain⟨v0,vs0,d0,ds0,p0,q0,hargs,rfl,rfl,h0,r0⟩:=trodAll_cons hA;obtain⟨v1,vs1,d1,ds1,p1,q1,rfl,rfl,rfl,h1,r1⟩:=trodAll_cons r0
 obtain⟨v2,vs2,d2,ds2,p2,q2,rfl,rfl,rfl,h2,r2⟩:=trodAll_cons r1;obtain⟨rfl,rfl,rfl⟩:=trodAll_nil r2;obtain rfl:args = #[v0,v1,v2]:=by cases args;simp_all
 obtain⟨rfl,rfl⟩:=trodVars_none hV;have k0:=h0;have k1:=h1;have k2:=h2;have lt0:∀x∈p0,x.block<W.heap.size:=by obtain⟨m,hm⟩:=k0;exact DataW.trod_lt m _ _ _ hm
 have lt1:∀x∈p1,x.block<W.heap.size:=by obtain⟨m,hm⟩:=k1;exact DataW.trod_lt m _ _ _ hm
 have lt2:∀x∈p2,x.block<W.heap.size:=by obtain⟨m,hm⟩:=k2;exact DataW.trod_lt m _ _ _ hm
 obtain⟨x0,u0,hx0,rr0,a0⟩:=Sh.ybde (hval 0 24 v0 rfl rfl) h0;obtain⟨m1,hm1⟩:=h1;obtain⟨A1,len1,cap1,rfl⟩:=okWide_slice zAE (hval 1 22 v1 rfl rfl);obtain⟨x1,hx1,u1,a1,rr1⟩:=Sh.yjv (v:=.slice A1 len1 cap1) hm1;obtain⟨m2,hm2⟩:=h2;obtain⟨A2,len2,cap2,rfl⟩:=okWide_slice zAF (hval 2 38 v2 rfl rfl);obtain⟨x2,hx2,u2,a2,rr2⟩:=Sh.ybko (v:=.slice A2 len2 cap2) hm2
 clear hA0 hval0
 have ha:Sh.RVL (Sh.memW W).b.get Sh.om0 [.ag (Sh.netC x0),Sh.yu x1,Sh.usV x2] [u0,u1,u2]:=.cons rr0 (.cons rr1 (.cons rr2 .nil));have hv:Ev.VRL (Sh.phiW W) [u0,u1,u2] [v0,.slice A1 len1 cap1,.slice A2 len2 cap2]:=.cons a0 (.cons (Sh.ygr a1) (.cons (Sh.ygr a2) .nil));refine(Sh.ywn (Sh.yvn hx0 (Sh.ybdj hx1) hx2) ⟨_,_,zAG,rfl⟩ Ev.yoh (ykv W hL) ha hv).mono fun e W' ⟨he,bel⟩=>?_;subst he;exact⟨_,rfl,_,_,_,[],_,[],hW',trodAll_mk1 (shut_bool zAK _),(trodAll_cons_mk (Below.trod laidOut (by kernel_rfl) (of_decide_eq_true (by kernel_rfl)) k0 bel lt0) (trodAll_cons_mk (Below.trod laidOut (by kernel_rfl) (of_decide_eq_true (by kernel_rfl)) k1 bel lt1) (trodAll_cons_mk (Below.trod laidOut (by kernel_rfl) (of_decide_eq_true (by kernel_rfl)) k2 bel lt2) trodAll_mk0))),rfl,bel.frame _,fun h=>by cases h⟩
end
section
def ioN:List Nat:=[104,97,114,110,101,115,115,32,101,52,49,99,97,57,54,99,54,54,56,50,102,54,55,101,57,51,102,51,48,51,101,48,51,98,57,97,56,54,102,55,97,50,53,102,55,52,99,102,98,55,57,53,57,48,57,52,55,52,55,48,48,102,100,56,48,52,56,55,54,48,53,97,32,99,117,116,32,97,116,32,115,101,108,102,115,116,97,98,47,115,101,108,102,115,116,97,98,108,97,119,50,55,46,67,101,110,116,101,114,77,105,100,100,108,101,32,115,101,108,102,115,116,97,98,47,115,101,108,102,115,116,97,98,108,97,119,50,55,46,67,101,110,116,101,114,82,111,117,110,100,115,32,115,101,108,102,115,116,97,98,47,115,101,108,102,115,116,97,98,108,97,119,50,55,46,67,101,110,116,101,114,82,101,97,99,104,101,115,32,115,101,108,102,115,116,97,98,47,115,101,108,102,115,116,97,98,108,97,119,50,55,46,67,101,110,116,101,114,82,101,115,116,115,32,115,101,108,102,115,116,97,98,47,115,101,108,102,115,116,97,98,108,97,119,50,55,46,67,101,110,116,101,114,65,110,111,110,121,109,111,117,115,32,115,101,108,102,115,116,97,98,47,115,101,108,102,115,116,97,98,108,97,119,50,56,46,69,108,101,99,116,105,111,110,82,101,97,99,104,101,115,32,115,101,108,102,115,116,97,98,47,115,101,108,102,115,116,97,98,108,97,119,50,56,46,69,108,101,99,116,105,111,110,82,101,115,116,115,32,115,101,108,102,115,116,97,98,47,115,101,108,102,115,116,97,98,108,97,119,50,56,46,69,108,101,99,116,105,111,110,67,101,110,116,114,101,32,115,101,108,102,115,116,97,98,47,115,101,108,102,115,116,97,98,108,97,119,50,56,46,69,108,101,99,116,105,111,110,84,111,103,101,116,104,101,114,32,115,101,108,102,115,116,97,98,47,115,101,108,102,115,116,97,98,108,97,119,51,50,46,67,111,108,111,117,114,105,110,103,83,104,114,105,110,107,115,32,115,101,108,102,115,116,97,98,47,115,101,108,102,115,116,97,98,108,97,119,51,50,46,67,111,108,111,117,114,105,110,103,82,101,97,99,104,101,115,32,115,101,108,102,115,116,97,98,47,115,101,108,102,115,116,97,98,108,97,119,51,50,46,67,111,108,111,117,114,105,110,103,82,101,115,116,115,32,115,101,108,102,115,116,97,98,47,115,101,108,102,115,116,97,98,108,97,119,51,48,46,77,97,116,99,104,105,110,103,77,97,120,105,109,97,108,32,115,101,108,102,115,116,97,98,47,115,101,108,102,115,116,97,98,108,97,119,51,48,46,77,97,116,99,104,105,110,103,83,116,97,121,115,32,115,101,108,102,115,116,97,98,47,115,101,108,102,115,116,97,98,108,97,119,51,48,46,77,97,116,99,104,105,110,103,84,111,103,101,116,104,101,114,32,115,101,108,102,115,116,97,98,47,115,101,108,102,115,116,97,98,108,97,119,51,48,46,77,97,116,99,104,105,110,103,82,101,97,99,104,101,115,32,115,101,108,102,115,116,97,98,47,115,101,108,102,115,116,97,98,108,97,119,51,48,46,77,97,116,99,104,105,110,103,82,101,115,116,115,32,115,101,108,102,115,116,97,98,47,115,101,108,102,115,116,97,98,108,97,119,50,54,46,76,101,97,100,101,114,65,110,121,119,104,101,114,101]
theorem ydqu:Tryz.prog.initOrder=String.ofList (ioN.map Char.ofNat):=by kernel_rfl
theorem yzr:Tryz.prog.initOrder.toList=ioN.map Char.ofNat:=by rw[ydqu];exact String.toList_ofList
theorem ydel (P : Program) {l c : List Char} {rest : List (List Char)} (h : P.initOrder.toList = l) (hb : behindMainWord (wordsSigns l) = c :: rest) (h1 : (c == "gc".toList || c == "spec".toList) = false) (h2 : (c == "cut".toList) = true) : P.make = some Make.cut := by
 unfold Program.make;rw[h,hb];simp only[h1,h2];simp
theorem ycdr (P : Program) {l c : List Char} {rest : List (List Char)} (h : P.initOrder.toList = l) (hb : behindMainWord (wordsSigns l) = c :: rest) (e : (stripLifts liftWords (c :: rest)).1 = []) (e2 : ((stripLifts liftWords (c :: rest)).2.head? == some "cut".toList) = true)
 (h1:P.bearsReflect=false) (h2:P.laysLater=false) (h3:P.doorFits []=true):P.mayEnter=true:=by
 unfold Program.mayEnter;rw[h,hb];simp only[e,e2,h1,h2,h3];simp
theorem ydjw : behindMainWord (wordsSigns (ioN.map Char.ofNat)) = "cut".toList :: (behindMainWord (wordsSigns (ioN.map Char.ofNat))).tail := by kernel_rfl
theorem ybyy:Tryz.prog.make=some Make.cut:=ydel _ yzr ydjw (by kernel_rfl) (by kernel_rfl)
theorem yble:Tryz.prog.mayEnter=true:=ycdr _ yzr ydjw (by kernel_rfl) (by kernel_rfl) (by kernel_rfl) (by kernel_rfl) (by kernel_rfl)
def ioH:List Nat:=[101,52,49,99,97,57,54,99,54,54,56,50,102,54,55,101,57,51,102,51,48,51,101,48,51,98,57,97,56,54,102,55,97,50,53,102,55,52,99,102,98,55,57,53,57,48,57,52,55,52,55,48,48,102,100,56,48,52,56,55,54,48,53,97]
theorem ycyp : "e41ca96c6682f67e93f303e03b9a86f7a25f74cfb795909474700fd80487605a".toList = ioH.map Char.ofNat := by
 have h : "e41ca96c6682f67e93f303e03b9a86f7a25f74cfb795909474700fd80487605a" = String.ofList (ioH.map Char.ofNat) := by kernel_rfl
 rw[h];exact String.toList_ofList
theorem ydac (P : Program) {l h s : List Char} {rest : List (List Char)} (hl : P.initOrder.toList = l) (hb : wordsSigns l = h :: s :: rest) (hs : isSumSigns s = true) (hh : (h == "harness".toList) = true) : P.mainIs = some (true, s) := by
 unfold Program.mainIs;rw[hl,hb];simp only[hs,hh];simp
theorem ydqm:wordsSigns (ioN.map Char.ofNat)=([104,97,114,110,101,115,115]:List Nat).map Char.ofNat::ioH.map Char.ofNat::(wordsSigns (ioN.map Char.ofNat)).tail.tail:=by kernel_rfl
theorem ybxi : Tryz.prog.mainIs = some (true, "e41ca96c6682f67e93f303e03b9a86f7a25f74cfb795909474700fd80487605a".toList) := by
 rw[ycyp];exact ydac _ yzr ydqm (by kernel_rfl) (by kernel_rfl)
theorem yblq:true=Tryz.prog.looks []:=by kernel_rfl
theorem ybls:Tryz.prog.liftsFinal=false:=by
 unfold Program.liftsFinal Program.headLifts;rw[yzr]
 kernel_rfl
end
section
open Go.ChangeShapes Go.WideShapes Go.ChangeAt Go.RowKit Go.Joins Go.WideMaps Go.WideElems
set_option linter.unusedVariables false
theorem ynp:(Rows.matchingMaximalRow.inPlace==Tryz.prog.inPlace 15)=true:=by kernel_rfl
theorem yma:(Rows.matchingMaximalRow.unfollowed==Tryz.prog.unfollowed 15)=true:=by kernel_rfl
theorem ymq:(Rows.matchingMaximalRow.recurses==Tryz.prog.recurses 15)=true:=by kernel_rfl
theorem yne:(Rows.matchingMaximalRow.named==Tryz.prog.varsNamed 15)=true:=by kernel_rfl
theorem yni:laidOutB zB=true:=by kernel_rfl
theorem yog:mapsRowed zB=true:=by kernel_rfl
theorem yhk:Tryz.prog.funcNamed Rows.matchingMaximalRow.func=some 15:=by kernel_rfl
theorem yoa:Rows.matchingMaximalRow.wf (OpenSpec.ofChange Rows.matchingMaximalSpec)=true:=by kernel_rfl
theorem yjm:joinedFacts zB 15 zAA Rows.matchingMaximalSpec Rows.matchingMaximalRow=true:=by
 unfold joinedFacts
 repeat' (with_reducible refine Bool.and_eq_true_iff.2 ⟨?_,?_⟩)
 all_goals first|(with_reducible exact ynp)|(with_reducible exact yma)|(with_reducible exact ymq)|(with_reducible exact yne)|(with_reducible exact yni)|(with_reducible exact yog)|(with_reducible exact yoa)|(with_reducible exact yble)|(rw[ybls];rfl)|(rw[ybyy];rfl)|kernel_rfl
theorem ykx:Tryz.f15.isInstance zB Rows.matchingMaximalRow.origin Rows.matchingMaximalRow.targs:=of_decide_eq_true (by kernel_rfl)
theorem ykw:Tryz.f15.isWrapper zB Rows.matchingMaximalRow.wrapper Rows.matchingMaximalRow.mainSum:=by
 unfold Func.isWrapper
 first|(rw[if_pos (by decide +kernel)];kernel_rfl)|(rw[if_neg (by decide +kernel)];exact⟨rfl,rfl⟩)
theorem ykt:Rows.MatchingMaximalSaid :=
 OpenClaim.holds_of_wide 15 zAA rfl rfl rfl rfl rfl rfl rfl ⟨rfl,rfl,rfl,rfl,rfl⟩ rfl rfl rfl rfl rfl yhk zAG yjm ykx ykw
  (fun os started H enc _=>yjj os started H enc)
end
end Go.Proofs.YtiejahgklcjhkaaGreatDoor
