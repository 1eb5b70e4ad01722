/- Joined. -/
import Derived.Deep.Matrix
import Derived.Lib.SmallJoins
import Derived.Test.YtiejahgklcjhkaaGreatDoorPkS18
import Derived.Test.YtiejahgklcjhkaaGreatDoorTie
import Derived.Test.YtiejahgklcjhkaaGreatDoorCards
import Derived.LaidMore
set_option linter.unusedSimpArgs false
set_option linter.unusedVariables false
set_option maxRecDepth 8000
open Nat renaming reduceEqDiff→zA,reduceAdd→zD,zero_le→zJ,eq_zero_or_pos→zK,sub_zero→zAC,lt_or_ge→zAD,reduceLT→zAE
open Go.Proofs.Tryz renaming prog→zB,f16→zO,checked→zQ,underlying22→zS,underlying38→zT,func16→zU,underlying3→zX,underlying4→zY
open List renaming getElem?_eq_getElem→zC,getD_eq_getElem?_getD→zF,getElem?_eq_none→zI,getElem?_map→zL,getElem_mem→zM,map_cons→zAA,range→zAG
open Int renaming toNat_natCast→zG,natCast_zero→zN
open Array renaming getElem?_eq_none→zH
open Bool renaming and_eq_true→zV,and_false→zZ,and_true→zAB
open Classical renaming choose→zW,choose_spec→zAF
open Go
namespace Go.Proofs.YtiejahgklcjhkaaGreatDoor
section
open Go.ChangeShapes Go.WideShapes Go.ChangeAt Go.RowKit
theorem ybud{α:Type}{p:Nat->α->Prop}:∀(n:Nat),(∀i,i<n->∃x,p i x)->∃xs:List α,xs.length=n/\∀(j:Nat) (x:α),xs[j]?=some x->p j x
 |0,_=>⟨[],rfl,by simp⟩
 | n + 1,h=>by
   obtain⟨xs,h1,h2⟩:=ybud n fun i hi=>h i (by omega)
   obtain⟨x,hx⟩:=h n (by omega)
   refine⟨xs++[x],by simp[h1],fun j y hy=>?_⟩
   by_cases hj:j<xs.length
   ·rw[List.getElem?_append_left hj]at hy;exact h2 j y hy
   ·rw[List.getElem?_append_right (by omega)]at hy
    have:j-xs.length=0:=by
     rcases zK (j-xs.length)with q|q
     ·exact q
     ·rw[zI (by simp;omega)]at hy;cases hy
    rw[this]at hy;simp at hy;subst hy;obtain rfl:j=n:=by omega
    exact hx
section
variable {H:Type}{enc:TypeId×Value->H}{P:Program}{w:World}{base:Nat}{held:Bool}
theorem wf_i64{n:Int}(h:(Lit.int .i64 n).wf=true):I64 n:=by
 simp only[Lit.wf,zV,decide_eq_true_eq]at h;have e1:IntKind.i64.min = -9223372036854775808:=rfl;have e2:IntKind.i64.max=9223372036854775807:=rfl;rw[e1,e2]at h;exact h
end
theorem own:ownKnob Tryz.prog.godebug=Option.none:=by kernel_rfl
theorem laidOut:laidOutB zB=true:=by kernel_rfl
section
variable {H:Type}{enc:TypeId×Value->H}{w:World}{base:Nat}{held:Bool}{n:Nat}{v:Value}{x:DataW H×List MemPlace}
end
end
section
namespace Sh
open Go Ev Go.RowKit
noncomputable def ybdh{α:Type}(t:T α):Nat->List (Option α)->T α
 |_,[]=>t
 |i,x::l=>ybdh (T.set (Nat.succ i) t i x) (i+1) l
theorem ynn{α:Type}:∀(l:List (Option α)) (t:T α) (i j:Nat),(ybdh t i l).get j=if i<=j/\j<i+l.length then(l[j-i]?).join else t.get j
 |[],t,i,j=>by rw[if_neg (by simp)];rfl
 | x :: l,t,i,j=>by
   unfold ybdh;rw[ynn l _ _ j]
   by_cases c:i+1<=j/\j<i+1+l.length
   ·rw[if_pos c,if_pos (by simp;omega),show j-i=(j-(i+1))+1 by omega]
    rfl
   ·rw[if_neg c,T.set_at]
    by_cases q:j=i
    ·subst q;rw[if_pos rfl,if_pos (by simp)]
     simp
    ·rw[if_neg q,if_neg (by simp;omega)]
def absV(Z:Nat)(v:Value):Option Value:=if simple v then some v else match v with
 |.slice (some ⟨b,o,none⟩) n c=>if n<=c/\c<=9223372036854775807 then(if c=0 then some (.slice (some ⟨Z,0,none⟩) n CU)else if b<=Z then some (.slice (some ⟨b,o,none⟩) n CU)else none)else none
 |.slice (some ⟨_,_,some _⟩) n c=>if n<=c/\c=0 then some (.slice (some ⟨Z,0,none⟩) n CU)else none
 |_=>none
def isU8:Value->Bool
 |.int .u8 _=>true
 |_=>false
noncomputable def absB(Z:Nat)(w:World)(i:Nat):Option ABlk:=match w.heap[i]? with
 |some (.cells c _ _)=>if c.toList.all isU8=true then none else some (.cells (ybdh .leaf 0 (c.toList.map (absV Z))) c.size CU 0)
 |_=>none
def phiW(w:World):Phi:=fun i=>match w.heap[i]? with
 |some (.cells c _ _)=>some ⟨i,0,c.size,0,w.heap[i]?⟩
 |_=>if i<=w.heap.size then some ⟨i,0,0,0,none⟩else none
noncomputable def memW(w:World):Mem:=⟨w.heap.size+1,ybdh .leaf 0 ((zAG w.heap.size).map (absB w.heap.size w)),w.heap.size+1⟩
theorem ykn{w:World}{i:Nat}{b:ABlk}:(memW w).b.get i=some b↔absB w.heap.size w i=some b:=by
 show(ybdh .leaf 0 _).get i=some b↔_;rw[ynn]
 by_cases h:i<w.heap.size
 ·rw[if_pos (by simpa using h)]
  simp[h]
 ·rw[if_neg (by simpa using h),T.get_leaf]
  have:absB w.heap.size w i=none:=by unfold absB;rw[zH (by omega)]
  rw[this]
theorem ybie(w:World):Wf (memW w):=fun i b h=>by
 rw[ykn]at h;show i<w.heap.size+1;unfold absB at h;split at h
 ·rename_i hc;have:=(Array.getElem?_eq_some_iff.1 hc).1;omega
 ·cases h
theorem ygr{w:World}{v u:Value}(h:absV w.heap.size v=some u):VR (phiW w) u v:=by
 have hZ:∃l,phiW w w.heap.size=some l:=by
  unfold phiW;rw[zH (Nat.le_refl _)];simp
 have hφ:∀b,b<=w.heap.size->∃sz ob,phiW w b=some ⟨b,0,sz,0,ob⟩:=by
  intro b hb;unfold phiW;split
  ·exact⟨_,_,rfl⟩
  ·rw[if_pos hb];exact⟨_,_,rfl⟩
 unfold absV at h;split at h
 ·rename_i hs;cases h;exact .simple hs
 ·split at h
  ·rename_i b o n c _
   split at h
   ·rename_i hc
    split at h
    ·rename_i h0
     cases h
     obtain⟨l,hl⟩:=hZ;exact .slice hl hc.1 (fun q=>absurd rfl q) hc.2 (.inr h0)
    ·split at h
     ·rename_i hbl
      cases h
      obtain⟨sz,ob',hl⟩:=hφ b hbl;exact .slice hl hc.1 (fun q=>absurd rfl q) hc.2 (.inl ⟨by simp,.inl rfl⟩)
     ·cases h
   ·cases h
  ·rename_i b o sp n c _
   split at h
   ·rename_i hc
    cases h
    obtain⟨l,hl⟩:=hZ;exact .slice hl hc.1 (fun q=>absurd rfl q) (by omega) (.inr hc.2)
   ·cases h
  ·cases h
theorem ycdv:∀x,yccu=some x->x.2.all isU8=true:=by
 intro x hx;unfold yccu at hx
 first|(cases hx;done)|(cases hx;rfl)
theorem relW{w:World}(hG:GlW w):Rel (phiW w) (memW w).b.get w:=by
 have hblk:∀i b,(memW w).b.get i=some b->∃l,phiW w i=some l/\l.blk=i/\l.ob=w.heap[i]?/\BR (phiW w) l w b:=by
  intro i b hb;rw[ykn]at hb;unfold absB at hb;split at hb
  ·rename_i c e fz hc
   split at hb
   ·cases hb
   cases hb
   refine⟨⟨i,0,c.size,0,w.heap[i]?⟩,by unfold phiW;rw[hc],rfl,rfl,rfl,by simp,c.toList,e,fz,⟨fun q=>absurd rfl q,fun o ho=>ho⟩,by simpa using hc,by simp,fun j v hj hg=>?_⟩
   rw[ynn]at hg;split at hg
   ·simp only[zAC,zL]at hg;cases hcj:c.toList[j]? with
    |none=>rw[hcj]at hg;cases hg
    | some x =>
      rw[hcj]at hg;have hg:absV w.heap.size x=some v:=by simpa using hg
      exact⟨x,by rw[Nat.zero_add];exact hcj,ygr hg⟩
   ·rw[T.get_leaf]at hg;cases hg
  ·cases hb
 refine⟨⟨fun i b hb=>by obtain⟨l,h1,_,_,h2⟩:=hblk i b hb;exact⟨l,h1,h2⟩,fun i j x y li lj hne hx hy hi hj=>?_⟩,fun x hx=>⟨hG x hx,fun⟨i,b,l,h1,h2,h3⟩=>?_⟩⟩
 rotate_left
 ·obtain⟨l',k1,k2,_⟩:=hblk i b h1;rw[h2]at k1;cases k1
  rw[h3]at k2;obtain⟨e,fz,q⟩:=hG x hx;rw[ykn]at h1;unfold absB at h1;rw[<-k2,q]at h1;simp only at h1;rw[if_pos (by simpa using ycdv x hx)]at h1
  cases h1
 obtain⟨l,h1,h2,_⟩:=hblk i x hx;obtain⟨l',h3,h4,_⟩:=hblk j y hy;rw[hi]at h1;cases h1
 rw[hj]at h3;cases h3
 rw[h2,h4];exact hne
theorem ydam{w:World}{i:Nat}{b:ABlk}{l:Ev.Loc}(hb:(memW w).b.get i=some b)(hl:phiW w i=some l):l.blk=i/\∃o,l.ob=some o/\w.heap[i]?=some o:=by
 rw[ykn]at hb;unfold absB at hb;split at hb
 ·rename_i c e fz hc
  unfold phiW at hl;rw[hc]at hl;cases hl
  exact⟨rfl,_,rfl,hc⟩
 ·cases hb
theorem ydnm(w:World)(n:Nat):yfx (phiW w) (memW w).next n:=by
 intro i h1 _;have h1:w.heap.size+1<=i:=h1;unfold phiW;rw[zH (by omega)]
 simp only;rw[if_neg (by omega)]
theorem ycdq {P:Program}{g:FuncId}{args:List SV}{r:SV}{v:Value}{us us':List Value}{w:World}(h:Returns P g args r) (hg:∃fn c,P.funcs[g]?=some fn/\fn.body=some c) (hn:yol P) (hG:GlW w)
 (ha:RVL (memW w).b.get om0 args us) (hv:VRL (phiW w) us us') (hr:∀F u,RV F om0 r u->u=v) (hat:∀φ v',VR φ v v'->v'=v):Calls P g us'.toArray w fun e w'=>e = .returned v/\Below w.heap.size w w':=by
 obtain⟨u,m',x,h1,h2,h3,rfl,h5⟩:=h (memW w).b.get (memW w) us (ybie w) (Le.refl _) ha;have hu:=hr _ _ h5;subst hu;have hs:=(h1 (ybie w)).2 (phiW w) (memW w).b.get w us' (relW hG) (fun i b hb=>hb) hv (ydnm w _);obtain⟨fn,c,k1,k2⟩:=hg;rcases hs with⟨_,hc⟩|⟨v',w',hrun,_⟩
 ·refine hc.mono ?_;rintro e w' ⟨v',rfl,φ',M',hgd,hvr⟩;rw[hat _ _ hvr];refine⟨rfl,hgd.wg.os,hgd.wg.tape,hgd.wg.output,hgd.wg.size,fun k hk=>?_⟩
  by_cases hi:Img (phiW w) (memW w).b.get k
  ·obtain⟨i,b,l,e1,e2,e3⟩:=hi;obtain⟨k4,o,k5,k6⟩:=ydam e1 e2;have hik:i=k:=k4.symm.trans e3;subst hik;have hlt:i<(memW w).next:=ybie w i b e1
   have hM:M' i=some b:=by
    rw[hgd.frame i (fun q=>by omega) (.inr (Nat.lt_of_lt_of_le hlt h2))]
    exact e1
   obtain⟨l',q1,q2⟩:=hgd.rel.blk i b hM;rw[hgd.le i l e2]at q1;cases q1
   have hcells:∃c n,b = .cells c n CU 0:=by
    rw[ykn]at e1;unfold absB at e1;split at e1
    ·split at e1
     ·cases e1
     ·cases e1;exact⟨_,_,rfl⟩
    ·cases e1
   obtain⟨c',n',rfl⟩:=hcells;obtain⟨_,_,cs,e',fz,h0,_⟩:=q2;rw[k4]at h0;rw[h0.2 o k5,k6]
  ·exact hgd.wg.keep k hk hi
 ·rw[ybz hn k1 k2]at hrun;cases hrun
end Sh
end
section
namespace Sh
open Go Ev Go.RowKit Go.ChangeShapes Go.WideShapes Go.ChangeAt
def yuj(w:World)(g:SV)(v:Value):Prop:=∃u,absV w.heap.size v=some u/\RV (memW w).b.get om0 g u
def ybik(w:World)(g:List SV)(cs:List Value):Prop:=∃L,cs.map (absV w.heap.size)=L.map some/\RVL (memW w).b.get om0 g L
theorem ybik.nil(w:World):ybik w [] []:=⟨[],rfl,.nil⟩
theorem yuj.cons{w:World}{g:SV}{v:Value}{gs:List SV}{cs:List Value}(h:yuj w g v)(t:ybik w gs cs):ybik w (g::gs) (v::cs):=by
 obtain⟨u,h1,h2⟩:=h;obtain⟨L,h3,h4⟩:=t;exact⟨u::L,by rw[zAA,zAA,h1,h3],.cons h2 h4⟩
theorem ybag(w:World)(k:IntKind)(n:Int):yuj w (.i k n) (.int k n):=⟨.int k n,rfl,.i⟩
theorem ybjk{w:World}{a:Addr}{v:Value}(h:w.cell? a=some v):a.spot=none/\a.block<w.heap.size/\∃c e fz,w.heap[a.block]?=some (.cells c e fz)/\c[a.off]?=some v:=by
 unfold World.cell? at h;split at h
 ·rename_i c e fz hc
  split at h
  ·cases h
  ·rename_i hs
   refine⟨?_,(Array.getElem?_eq_some_iff.1 hc).1,c,e,fz,hc,h⟩;cases hq:a.spot with
   |none=>rfl
   |some x=>rw[hq]at hs;simp at hs
 ·cases h
section
variable {H:Type}{enc:TypeId×Value->H}{P:Program}{w:World}{base:Nat}{held:Bool}
theorem ywf {α:Type}{z:Nat}{f:α->List SV}{p:α->Prop}(d:α) {t e:TypeId}{fuel:Nat}{v:Value}{x:DataW H×List MemPlace}(ht:P.underlying t=some (.slice e)) (hC:P.cellsOf e=z) (h0:0<z)
 (hE:∀(n:Nat) (cs':List Value) (y:DataW H×List MemPlace),DataW.trod enc P w base (fun _=>true) held n e cs'=some y->cs'.length=z->∃x,p x/\ybik w (f x) cs'/\(f x).all one1=true/\(cs'.head?.any isU8)=false)
 (h:DataW.trod enc P w base (fun _=>true) held fuel t [v]=some x):∃xs:List α,(∀x∈xs,p x)/\yuj w (.sl z xs.length (fun k=>f (xs.getD k d))) v/\isU8 v=false:=by
 rcases Go.Deep.open_slice ht h with⟨h1,_⟩|⟨a,len,cap,m,n,D,Pl,hcs,hb,hl,hm,hmm,hx,hi⟩
 ·simp at h1;subst h1;exact⟨[],fun x hx=>(by cases hx),⟨.slice none 0 0,rfl,.sl0 (.inl rfl)⟩,rfl⟩
 ·simp at hcs;subst hcs;simp only[if_true]at hmm;subst hmm;unfold maxLen at hm;rw[hC]at hi;obtain⟨b,off,spot⟩:=a;rcases zK m with rfl|hcap
  ·obtain rfl:len=0:=by omega
   refine⟨[],fun x hx=>(by cases hx),⟨.slice (some ⟨w.heap.size,0,none⟩) 0 CU,?_,.sl0 (.inr ⟨_,_,_,rfl⟩)⟩,rfl⟩
   cases spot<;>rfl
  ·have h00:∃v0,w.cell? ⟨b,off,spot⟩=some v0/\isU8 v0=false:=by
    obtain⟨cs',h2,h2'⟩:=hi 0 hcap;obtain⟨_,h3,h4⟩:=World.cells?_some h2;have h5:=h4 0 h0;have h6:cs'[0]?=some (cs'[0]'(by omega)):=zC (by omega)
    rw[h6]at h5
    have e:(((⟨b,off,spot⟩:Addr).add (0*z)).add 0)=⟨b,off,spot⟩:=by
     unfold Addr.add;simp
    rw[e]at h5;obtain⟨_,_,_,_,h7⟩:=hE n cs' _ h2' h3;refine⟨_,h5,?_⟩
    match cs',h7,h3 with
    |c::_,h7,_=>simpa using h7
    |[],_,h3=>exact absurd h3 (by simp;omega)
   obtain⟨v0,hv0,hv8⟩:=h00;obtain⟨hsp,hblk,c,e',fz,hc,hc0⟩:=ybjk hv0
   have hnu:¬c.toList.all isU8=true:=fun q=>by
    have:=List.all_eq_true.1 q v0 (by rw[Array.mem_toList_iff];exact Array.mem_of_getElem? hc0)
    rw[hv8]at this;cases this
   have hsp:spot=none:=hsp;subst hsp;have hblk:b<w.heap.size:=hblk;have hc:w.heap[b]?=some (.cells c e' fz):=hc
   have habs:absV w.heap.size (.slice (some ⟨b,off,none⟩) len m)=some (.slice (some ⟨b,off,none⟩) len CU):=by
    unfold absV;rw[if_neg (by simp[simple])]
    simp only;rw[if_pos ⟨hl,hm⟩,if_neg (by omega),if_pos (by omega)]
   obtain⟨xs,x1,x2⟩:=ybud (p:=fun i x=>p x/\(f x).all one1=true/\∃L:List Value,L.length=z/\RVL (memW w).b.get om0 (f x) L/\∀j,j<z->∃cv,w.cell? ⟨b,off+i*z+j,none⟩=some cv/\absV w.heap.size cv=L[j]?) len fun i hil=>by
    obtain⟨cs',h2,h3⟩:=hi i (by omega)
    obtain⟨_,h4,h5⟩:=World.cells?_some h2;obtain⟨x,q1,⟨L,q2,q3⟩,q4,_⟩:=hE n cs' _ h3 h4
    have hLz:L.length=z:=by
     have:=congrArg List.length q2
     simpa[h4]using this.symm
    refine⟨x,q1,q4,L,hLz,q3,fun j hj=>?_⟩;have hj':j<cs'.length:=by omega
    refine⟨cs'[j],?_,?_⟩
    ·have:=h5 j hj;rw[zC hj']at this;rw[<-this];congr 1;unfold Addr.add;split<;>split<;>simp_all<;>omega
    ·have:=congrArg (fun l=>l[j]?) q2;simp only[zL,zC hj']at this;rw[zC (show j<L.length by omega)]at this ⊢
     simpa using this
   refine⟨xs,fun x hx=>?_,⟨_,habs,?_⟩,rfl⟩
   ·obtain⟨i,hi',rfl⟩:=List.getElem_of_mem hx;exact(x2 i _ (zC hi')).1
   ·rw[x1];rcases zK len with rfl|hlen
    ·exact .sl0 (.inr ⟨_,_,_,rfl⟩)
    ·have hat:∀k,k<len->∃L:List Value,L.length=z/\RVL (memW w).b.get om0 (f (xs.getD k d)) L/\(f (xs.getD k d)).all one1=true/\∀j,j<z->∃cv,w.cell? ⟨b,off+k*z+j,none⟩=some cv/\absV w.heap.size cv=L[j]?:=fun k hk=>by
      have hk':k<xs.length:=by omega
      obtain⟨_,q2,L,q3,q4,q5⟩:=x2 k _ (zC hk');rw[zF,zC hk'];exact⟨L,q3,q4,q2,q5⟩
     classical
     let L:Nat->List Value:=fun k=>if hk:k<len then zW (hat k hk)else[]
     have hL:∀k (hk:k<len),(L k).length=z/\RVL (memW w).b.get om0 (f (xs.getD k d)) (L k)/\(f (xs.getD k d)).all one1=true/\∀j,j<z->∃cv,w.cell? ⟨b,off+k*z+j,none⟩=some cv/\absV w.heap.size cv=(L k)[j]?:=fun k hk=>by
      have e:L k=zW (hat k hk):=by show(if hk:k<len then _ else _)=_;rw[dif_pos hk]
      rw[e];exact zAF (hat k hk)
     have hmem:(memW w).b.get b=some (.cells (ybdh .leaf 0 (c.toList.map (absV w.heap.size))) c.size CU 0):=by
      rw[ykn];unfold absB;rw[hc];exact if_neg hnu
     have hget:∀j cv,w.cell? ⟨b,j,none⟩=some cv->j<c.size/\(ybdh .leaf 0 (c.toList.map (absV w.heap.size))).get j=absV w.heap.size cv:=fun j cv hcv=>by
      obtain⟨_,_,c2,e2,fz2,h1,h2⟩:=ybjk hcv;have h1:w.heap[b]?=some (.cells c2 e2 fz2):=h1;rw[hc]at h1;cases h1
      have h2:c[j]?=some cv:=h2;have hj:j<c.size:=(Array.getElem?_eq_some_iff.1 h2).1;refine⟨hj,?_⟩;rw[ynn,if_pos ⟨zJ _,by simpa using hj⟩,zAC,zL]
      have:c.toList[j]?=some cv:=by simpa using h2
      rw[this];simp
     refine .sl (L:=L) hmem (.inr rfl) ?_ (fun k hk=>(hL k hk).1) (fun k hk j hj=>?_) (fun k hk=>(hL k hk).2.1) (fun k hk=>(hL k hk).2.2.1)
     ·obtain⟨_,_,_,q⟩:=hL (len-1) (by omega)
      obtain⟨cv,h1,_⟩:=q (z-1) (by omega)
      have:=(hget _ _ h1).1
      have e:len*z=(len-1)*z+z:=by
       obtain⟨y,rfl⟩:∃y,len=y+1:=⟨len-1,by omega⟩
       rw[Nat.succ_mul];simp
      omega
     ·obtain⟨_,_,_,q⟩:=hL k hk;obtain⟨cv,h1,h2⟩:=q j hj;rw[(hget _ _ h1).2,h2]
theorem ybzl {t e:TypeId}{fuel:Nat}{v:Value}{x:DataW H×List MemPlace}(ht:P.underlying t=some (.slice e)) (he:P.underlying e=some (.int .i64)) (hC:P.cellsOf e=1)
 (h:DataW.trod enc P w base (fun _=>true) held fuel t [v]=some x):∃xs,(∀x∈xs,I64 x)/\yuj w (yu xs) v/\isU8 v=false:=by
 refine ywf (f:=fun x=>[.i .i64 x]) (p:=I64) 0 ht hC (by decide) (fun n cs' y h1 h2=>?_) h
 obtain⟨k,rfl,_,hw⟩:=DataW.trod_int he h1;exact⟨k,wf_i64 hw,(ybag w .i64 k).cons (ybik.nil w),rfl,rfl⟩
end
section
variable {H:Type}{enc:TypeId×Value->H}{w:World}{base:Nat}{held:Bool}{n:Nat}{v:Value}{x:DataW H×List MemPlace}
theorem ybux(h:DataW.trod enc zB w base (fun _=>true) held n 22 [v]=some x):∃xs,(∀x∈xs,I64 x)/\yuj w (yu xs) v/\isU8 v=false :=
 ybzl zS zX (by kernel_rfl) h
theorem yjv(h:DataW.trod enc zB w base (fun _=>true) held n 22 [v]=some x):∃xs,(∀x∈xs,I64 x)/\yuj w (yu xs) v:=by
 obtain⟨xs,h1,h2,_⟩:=ybux h;exact⟨xs,h1,h2⟩
end
theorem ywn {P:Program}{g:FuncId}{args:List SV}{x:Bool}{us':List Value}{w:World}(h:Returns P g args (.b x)) (hg:∃fn c,P.funcs[g]?=some fn/\fn.body=some c) (hn:yol P) (hG:GlW w)
 {us:List Value}(ha:RVL (memW w).b.get om0 args us) (hv:VRL (phiW w) us us'):Calls P g us'.toArray w fun e w'=>e = .returned (.bool x)/\Below w.heap.size w w' :=
 ycdq h hg hn hG ha hv (fun F u hu=>by cases hu;rfl) (fun φ v' hv'=>hv'.eq_simple rfl)
end Sh
end
section
namespace Sh
open Go Ev Go.RowKit Go.ChangeShapes Go.WideShapes Go.ChangeAt Go.Joins
theorem ydht{α:Type}{cs:Array α}(h:cs.size=6):∃c0 c1 c2 c3 c4 c5,cs = #[c0,c1,c2,c3,c4,c5]:=by
 obtain⟨l⟩:=cs
 match l,h with
 |[c0,c1,c2,c3,c4,c5],_=>exact⟨c0,c1,c2,c3,c4,c5,rfl⟩
section
variable {H:Type}{enc:TypeId×Value->H}{P:Program}{w:World}{base:Nat}{held:Bool}{spare:Nat->Bool}
theorem six{α:Type}{xs:List α}(h:xs.length=6):∃y0 y1 y2 y3 y4 y5,xs=[y0,y1,y2,y3,y4,y5]:=by
 match xs,h with
 |[y0,y1,y2,y3,y4,y5],_=>exact⟨y0,y1,y2,y3,y4,y5,rfl⟩
theorem ybsj {r:Reach}{b0:Nat}{t:TypeId}{f0 f1 f2 f3 f4 f5:Field}{v:Value}{d:DataW H}{p:List MemPlace}(hs:P.underlying t=some (.struct #[f0,f1,f2,f3,f4,f5])) (hone:Go.Deep.oneCellFields P #[f0,f1,f2,f3,f4,f5]=true) (hC:P.cellsOf t=6)
 (hv:Value.okWide P w r b0 t v) (h:DataW.Trod enc P w base spare held t v d p) :
 ∃ (v0 v1 v2 v3 v4 v5:Value) (y0 y1 y2 y3 y4 y5:DataW H×List MemPlace) (n:Nat),v = .agg #[v0,v1,v2,v3,v4,v5] /\
   DataW.trod enc P w base spare held n f0.type [v0]=some y0/\DataW.trod enc P w base spare held n f1.type [v1]=some y1/\DataW.trod enc P w base spare held n f2.type [v2]=some y2 /\
   DataW.trod enc P w base spare held n f3.type [v3]=some y3/\DataW.trod enc P w base spare held n f4.type [v4]=some y4/\DataW.trod enc P w base spare held n f5.type [v5]=some y5:=by
 obtain⟨cs,rfl,hsz⟩:=okWide_struct hs hv;obtain⟨c0,c1,c2,c3,c4,c5,rfl⟩:=ydht (hsz.trans hC);obtain⟨fuel,hf⟩:=h;obtain⟨xs,n,_,_,_,hlen,hf⟩:=DataW.trod_struct hs hf;obtain⟨y0,y1,y2,y3,y4,y5,rfl⟩:=six hlen;obtain⟨o0,k0⟩:=Go.Deep.hone_of hone 0 f0 rfl;obtain⟨o1,k1⟩:=Go.Deep.hone_of hone 1 f1 rfl;obtain⟨o2,k2⟩:=Go.Deep.hone_of hone 2 f2 rfl;obtain⟨o3,k3⟩:=Go.Deep.hone_of hone 3 f3 rfl;obtain⟨o4,k4⟩:=Go.Deep.hone_of hone 4 f4 rfl
 obtain⟨o5,k5⟩:=Go.Deep.hone_of hone 5 f5 rfl;have h0:=hf 0 f0 rfl;have h1:=hf 1 f1 rfl;have h2:=hf 2 f2 rfl;have h3:=hf 3 f3 rfl;have h4:=hf 4 f4 rfl;have h5:=hf 5 f5 rfl;rw[o0,k0]at h0;rw[o1,k1]at h1;rw[o2,k2]at h2;rw[o3,k3]at h3;rw[o4,k4]at h4;rw[o5,k5]at h5;exact⟨c0,c1,c2,c3,c4,c5,y0,y1,y2,y3,y4,y5,n,rfl,h0,h1,h2,h3,h4,h5⟩
end
section
variable {H:Type}{enc:TypeId×Value->H}{w:World}{base:Nat}{held:Bool}{n:Nat}{v:Value}{x:DataW H×List MemPlace}
theorem ybuo(w:World)(b:Bool):yuj w (.b b) (.bool b):=⟨.bool b,rfl,.b⟩
theorem ybko(h:DataW.trod enc zB w base (fun _=>true) held n 38 [v]=some x):∃xs:List Nat,(∀k,xs.getD k 0<2^32)/\yuj w (usV xs) v:=by
 obtain⟨xs,h1,h2,_⟩:=ywf (f:=fun x:Nat=>[SV.i .u32 (x:Int)]) (p:=fun x=>x<2^32) 0 (z:=1) zT (by kernel_rfl) (by decide) (fun n cs' y h1 h2=>by
  obtain⟨k,rfl,_,hw⟩:=DataW.trod_int Tryz.underlying40 h1;have hb:=bounds_u32 hw;obtain⟨m,rfl⟩:∃m:Nat,k=m:=⟨k.toNat,by omega⟩
  exact⟨m,by omega,(ybag w .u32 m).cons (ybik.nil w),rfl,rfl⟩) h
 refine⟨xs,fun k=>?_,h2⟩;rcases zAD k xs.length with q|q
 ·rw[zF,zC q];exact h1 _ (zM q)
 ·rw[zF,zI q];decide
theorem ybdj{l:List Int}(h:∀x∈l,I64 x)(k:Nat):inK .i64 (l.getD k 0):=by
 have:I64 (l.getD k 0):=by
  rcases zAD k l.length with q|q
  ·rw[zF,zC q];exact h _ (zM q)
  ·rw[zF,zI q];exact ygs (by decide)
 exact this
theorem ycae{v:Value}{x:DataW H×List MemPlace}(h:DataW.trod enc zB w base (fun _=>true) held n 3 [v]=some x):∃k,inK .i64 k/\yuj w (.i .i64 k) v:=by
 obtain⟨k,e,_,hw⟩:=DataW.trod_int zX h;simp at e;subst e;exact⟨k,wf_i64 hw,ybag w .i64 k⟩
theorem yvw{v:Value}{x:DataW H×List MemPlace}(h:DataW.trod enc zB w base (fun _=>true) held n 4 [v]=some x):∃b,yuj w (.b b) v:=by
 obtain⟨b,e,_⟩:=DataW.trod_bool zY h;simp at e;subst e;exact⟨b,ybuo w b⟩
theorem ybde{b0:Nat}{d:DataW H}{p:List MemPlace}(hv:Value.okWide zB w .any b0 24 v)(h:DataW.Trod enc zB w base (fun _=>true) held 24 v d p) :
 ∃(x:NetR) (u:Value),x.ok/\RV (memW w).b.get om0 (.ag (netC x)) u/\VR (phiW w) u v:=by
 obtain⟨v0,v1,v2,v3,v4,v5,y0,y1,y2,y3,y4,y5,n,rfl,h0,h1,h2,h3,h4,h5⟩:=ybsj Tryz.underlying24 (by kernel_rfl) (by kernel_rfl) hv h
 obtain⟨k,kI,u0,a0,r0⟩:=ycae h0;obtain⟨ls,lI,u1,a1,r1⟩:=yjv h1;obtain⟨ws,wI,u2,a2,r2⟩:=yjv h2;obtain⟨is,iI,u3,a3,r3⟩:=yjv h3;obtain⟨ap,u4,a4,r4⟩:=yvw h4;obtain⟨bk,u5,a5,r5⟩:=yvw h5;refine⟨⟨k,ls,ws,is,ap,bk⟩,.agg [u0,u1,u2,u3,u4,u5].toArray,⟨kI,ybdj lI,ybdj wI,ybdj iI⟩,.ag (.cons r0 (.cons r1 (.cons r2 (.cons r3 (.cons r4 (.cons r5 .nil)))))),?_⟩;exact .agg (a:=[u0,u1,u2,u3,u4,u5]) (a':=[v0,v1,v2,v3,v4,v5]) (.cons (ygr a0) (.cons (ygr a1) (.cons (ygr a2) (.cons (ygr a3) (.cons (ygr a4) (.cons (ygr a5) .nil))))))
end
end Sh
end
section
def yqj(g:Gr)(c:Conf)(v:Nat):Bool:=decide ((v:Int)<mtT g c v)&&(mtT g c (mtT g c v).toNat==(v:Int))
def ywm(g:Gr)(c:Conf)(s v:Nat):Nat:=if yqj g c v=true then s|||(2^v|||2^(mtT g c v).toNat)else s
def yjn(g:Gr)(c:Conf)(k:Nat):Nat:=(zAG k).foldl (ywm g c) 0
section
variable {g:Gr}{c:Conf}{u v k i:Nat}
theorem yfl(hg:yw g)(h:MtC g c)(hv:v<g.ids.length):yqj g c v=true↔∃u,toP g c v=some u/\toP g c u=some v/\v<u:=by
 have hpl:=hg.2.2.1;unfold yqj;rw[zV,decide_eq_true_iff,beq_iff_eq];constructor
 ·rintro⟨h1,h2⟩;cases e:toP g c v with
  |none=>have:=(ypk hg h hv).2 e;omega
  | some u =>
    have ev:=(yew hg h hv).2 e;have hu:=(hg.adj_lt (yka hg h e)).2;rw[ev,zG]at h2;exact⟨u,rfl,(yew hg h (by omega)).1 h2,by omega⟩
 ·rintro⟨u,h1,h2,h3⟩;have ev:=(yew hg h hv).2 h1;have hu:=(hg.adj_lt (yka hg h h1)).2;rw[ev,zG];exact⟨by omega,(yew hg h (by omega)).2 h2⟩
theorem yoc:∀k,(yjn g c k).testBit i=true↔∃v,v<k/\yqj g c v=true/\(i=v\/i=(mtT g c v).toNat)
 |0=>⟨fun h=>by simp[yjn]at h,fun⟨_,h,_⟩=>absurd h (Nat.not_lt_zero _)⟩
 | k + 1 => by
   have e:yjn g c (k+1)=ywm g c (yjn g c k) k:=by unfold yjn;rw[List.range_succ,List.foldl_append];rfl
   rw[e];unfold ywm
   by_cases q:yqj g c k=true
   ·rw[if_pos q,Nat.testBit_or,Bool.or_eq_true,yoc k,ymg,Nat.testBit_two_pow,decide_eq_true_iff];constructor
    ·rintro(⟨v,a,b,d⟩|d|d)
     ·exact⟨v,by omega,b,d⟩
     ·exact⟨k,by omega,q,.inl d.symm⟩
     ·exact⟨k,by omega,q,.inr d⟩
    ·rintro⟨v,a,b,d⟩
     by_cases r:v=k
     ·subst r;rcases d with d|d
      ·exact .inr (.inl d.symm)
      ·exact .inr (.inr d)
     ·exact .inl ⟨v,by omega,b,d⟩
   ·rw[if_neg q,yoc k];constructor
    ·rintro⟨v,a,b,d⟩;exact⟨v,by omega,b,d⟩
    ·rintro⟨v,a,b,d⟩;exact⟨v,by have:v≠k:=fun e=>q (e▸b);omega,b,d⟩
theorem yccp(hg:yw g)(h:MtC g c)(hv:v<g.ids.length)(hp:yqj g c v=true):(yjn g c v).testBit v=false/\(yjn g c v).testBit (mtT g c v).toNat=false:=by
 have hpl:=hg.2.2.1;obtain⟨u,e1,e2,hu⟩:=(yfl hg h hv).1 hp;have ev:=(yew hg h hv).2 e1;rw[ev,zG]
 have pr:∀i,(yjn g c v).testBit i=true->∃a b,a<v/\toP g c a=some b/\toP g c b=some a/\a<b/\(i=a\/i=b):=fun i hi=>by
  obtain⟨a,ha,hb,hd⟩:=(yoc v).1 hi;obtain⟨b,b1,b2,b3⟩:=(yfl hg h (v:=a) (by omega)).1 hb
  rw[(yew hg h (v:=a) (by omega)).2 b1,zG]at hd
  exact⟨a,b,ha,b1,b2,b3,hd⟩
 constructor
 ·refine Bool.eq_false_iff.2 fun hi=>?_;obtain⟨a,b,a1,a2,a3,a4,d|d⟩:=pr v hi
  ·omega
  ·subst d;rw[e1]at a3;have:=Option.some.inj a3;omega
 ·refine Bool.eq_false_iff.2 fun hi=>?_;obtain⟨a,b,a1,a2,a3,a4,d|d⟩:=pr u hi
  ·omega
  ·subst d;rw[e2]at a3;have:=Option.some.inj a3;omega
theorem ybor(hg:yw g)(h:MtC g c)(hr:yyl g c)(hu:adj g v u):(yjn g c g.ids.length).testBit v=true\/(yjn g c g.ids.length).testBit u=true:=by
 have hpl:=hg.2.2.1;obtain⟨hv,hul⟩:=hg.adj_lt hu
 have paired:∀x,x<g.ids.length->toP g c x≠none->(yjn g c g.ids.length).testBit x=true:=fun x hx hne=>by
  cases e:toP g c x with
  |none=>exact absurd e hne
  | some y =>
    have had:=yka hg h e;have hy:=(hg.adj_lt had).2;have back:=hr.1 x y e;have hxy:x≠y:=fun q=>by subst q;exact ycgi hg _ had
    refine(yoc _).2 ?_;rcases Nat.lt_or_gt_of_ne hxy with q|q
    ·exact⟨x,hx,(yfl hg h hx).2 ⟨y,e,back,q⟩,.inl rfl⟩
    ·refine⟨y,by omega,(yfl hg h (by omega)).2 ⟨x,back,e,q⟩,.inr ?_⟩
     rw[(yew hg h (v:=y) (by omega)).2 back,zG]
 by_cases q:toP g c v=none
 ·exact .inr (paired u (by omega) (hr.2 v u hu q))
 ·exact .inl (paired v (by omega) q)
end
end
section
theorem Sys.run_next(S:Sys)(res:Nat->Nat->Nat):∀(ws:List Nat) (c:Conf) (k:Cnt) (i:Nat) (p q:Conf×Cnt),((c,k)::S.run res ws c k)[i]?=some p->((c,k)::S.run res ws c k)[i+1]?=some q ->
 S.en p.1≠0/\∃w,q.1=S.mv p.1 (res (S.en p.1) w)
 | [],c,k,i,p,q,_,h2=>by
   have h2:(S.run res [] c k)[i]?=some q:=h2;unfold Sys.run at h2;simp at h2
 | w :: ws,c,k,i,p,q,h1,h2=>by
   by_cases h0:S.en c=0
   ·have h2:(S.run res (w::ws) c k)[i]?=some q:=h2;unfold Sys.run at h2;rw[if_pos h0]at h2;simp at h2
   ·have e:S.run res (w::ws) c k=(S.mv c (res (S.en c) w),addP k (res (S.en c) w) (S.en (S.mv c (res (S.en c) w))))::S.run res ws (S.mv c (res (S.en c) w)) (addP k (res (S.en c) w) (S.en (S.mv c (res (S.en c) w)))):=by
     conv=>lhs;unfold Sys.run
     exact if_neg h0
    rw[e]at h1 h2;cases i with
    | zero =>
      have h1:some (c,k)=some p:=h1;have h2:some (S.mv c (res (S.en c) w),_)=some q:=h2;cases h1
      cases h2
      exact⟨h0,w,rfl⟩
    |succ i=>exact Sys.run_next S res ws _ _ i p q h1 h2
theorem Sh.RunD.next{S:Sys}{res:Nat->Nat->Nat}{ws:List Nat}{c:Conf}{n:Nat}{Cs:List Conf}{Ks:List Cnt}(h:Sh.RunD S res ws c n Cs Ks){k:Nat}(hk:k+1<n) :
 S.en (Cs.getD k [])≠0/\∃w,Cs.getD (k+1) []=S.mv (Cs.getD k []) (res (S.en (Cs.getD k [])) w) :=
 Sys.run_next S res ws c _ k _ _ (h.at_ (show k<n by omega)).2 (h.at_ hk).2
section
variable {nm np na nb nw:ByteArray}{g:Gr}{c:Conf}{v s:Nat}
theorem yzk(hg:yw g)(h:MtC g c)(hv:v<g.ids.length):mtPB g c v=yqj g c v:=by
 have hpl:=hg.2.2.1;have e:=ysn hg h hv;unfold mtPB yqj;rw[e]
 by_cases q:(v:Int)<mtT g c v
 ·have hi:=ybri hg h hv;rw[e]at hi;rw[ysn hg h (show(mtT g c v).toNat<g.ids.length by omega)]
 ·have q1:decide (mtT g c v>(v:Int))=false:=decide_eq_false q;have q2:decide ((v:Int)<mtT g c v)=false:=decide_eq_false q;rw[q1];rfl
theorem ybcr(hg:yw g)(hV:yga (ybt nm np na nb nw) g c=true)(hs:subB s (ybp (ybt nm np na nb nw) g c))(hv:v<g.ids.length)(hp:mtPB g c v=true) :
 mtPB g (yex (ybt nm np na nb nw) g c s) v=true/\mtW g (yex (ybt nm np na nb nw) g c s) v=mtW g c v:=by
 have h:=yin hV;have h':=yin (Sh.ykm hg ydax (yta hg) hV s);have hpl:=hg.2.2.1;rw[yzk hg h hv]at hp;obtain⟨u,h1,h2,h3⟩:=(yfl hg h hv).1 hp;have a1:=ybjz hg h hs h1 h2;have a2:=ybjz hg h hs h2 h1;refine⟨?_,?_⟩
 ·rw[yzk hg h' hv];exact(yfl hg h' hv).2 ⟨u,a1,a2,h3⟩
 ·rw[ysn hg h hv,ysn hg h' hv,(yew hg h hv).2 h1,(yew hg h' hv).2 a1]
theorem yso{k:Nat}{x:Int×Int}:x∈ybv g c k↔∃v,v<k/\mtPB g c v=true/\x=(((v:Nat):Int),mtW g c v):=by
 unfold ybv;rw[List.mem_map];constructor
 ·rintro⟨v,hv,rfl⟩;obtain⟨h1,h2⟩:=List.mem_filter.1 hv;exact⟨v,List.mem_range.1 h1,h2,rfl⟩
 ·rintro⟨v,h1,h2,rfl⟩;exact⟨v,List.mem_filter.2 ⟨List.mem_range.2 h1,h2⟩,rfl⟩
theorem yyb(hg:yw g)(hV:yga (ybt nm np na nb nw) g c=true)(hs:subB s (ybp (ybt nm np na nb nw) g c)):∀x∈yfo g c,x∈yfo g (yex (ybt nm np na nb nw) g c s):=by
 have hV':=Sh.ykm hg ydax (yta hg) hV s;have h:=yin hV;have h':=yin hV';unfold yfo;rw[if_pos (ybpz hg hV),if_pos (ybpz hg hV'),h.len,h'.len];intro x hx;obtain⟨v,h1,h2,rfl⟩:=yso.1 hx;obtain⟨a1,a2⟩:=ybcr hg hV hs h1 h2;exact yso.2 ⟨v,h1,a1,by rw[a2]⟩
end
end
section
namespace Sh
open Ev Go.RowKit
def yqs(l:List (Int×Int))(x:Int×Int)(j:Nat):Bool:=(l.take j).any fun y=>(x.1==y.1)&&(x.2==y.2)
theorem ybhz{l:List (Int×Int)}{x:Int×Int}{j:Nat}(hj:j<l.length):yqs l x (j+1)=(yqs l x j||((x.1==(l.getD j (0,0)).1)&&(x.2==(l.getD j (0,0)).2))):=by
 unfold yqs;rw[List.take_succ_eq_append_getElem hj,List.any_append,getD_at hj];simp
theorem ybnd{l:List (Int×Int)}{x:Int×Int}(h:x∈l):yqs l x l.length=true:=by
 unfold yqs;rw[List.take_length,List.any_eq_true];exact⟨x,h,by simp⟩
set_option maxHeartbeats 8000000 in
theorem ybcm{x:NetR}(hx:x.ok){raw:List Int}(hr:∀k,inK .i64 (raw.getD k 0)){l:List Nat}(hb:∀k,l.getD k 0<2^32):Returns zB 16 [.ag (netC x),yu raw,usV l] (.b true):=by
 refine Returns.of (ydml _ _ ?_);have hC:=ybxq hx (most:=8) (by omega)
 simp only[netC]at hC;simp only[c16,ydkh,ydlf,netC,clash,go_sem,zA,zD,zAE,↓reduceIte];refine hC.found (V:=grV) (fun r g h=>h.2.2) fun r g h=>?_;obtain⟨hg,hn8,-⟩:=h;have hI:=ybmn hg;have hCh:Checked (Lies MqB Mqv) (Lies MqC Mqr) MqP g:=⟨hg,ybia,yta hg,ybkt⟩;have hTx:=ybaq;have hVs:=yxs;have hCf:=yvt hg ybia hCh.hf hr;have hpl:=hg.2.2.1;have h24:=hg.2.1;simp only[grV]at hCf;simp(maxSteps:=5000000) only [ybf,ydjp,grV,clash,go_sem,zA,zD,zAE,↓reduceIte,reduceCtorEq]
 refine hTx.use ?_;simp(maxSteps:=5000000) only [go_sem];refine hVs.use ?_;simp(maxSteps:=5000000) only [go_sem,↓reduceIte];refine⟨by decide,hCf.found (V:=ybk) (fun r c h=>h.2) fun r c h=>?_⟩
 obtain⟨hcv,-⟩:=h;simp(maxSteps:=5000000) only [go_sem];refine⟨by decide,(ywt l hb 60 (by omega)).found (V:=usV) (fun r ws h=>h.2.2) fun r ws h=>?_⟩
 obtain⟨hwl,hw,-⟩:=h;have hRun:=ybvl yxh hCh (kind:=2) (by omega) (ycai hg) hcv hw (by omega)
 obtain⟨n,Cs,Ks,hD⟩:=runD (yca MqP g) (resG g) ws c;have hlen:=hD.le;have hpos:=hD.pos;have hCv:∀k,k<n->yga MqP g (Cs.getD k [])=true:=fun k hk=>(ybvw hg (ypd hg) hcv _ (hD.at_ hk).1).valid
 have hst:∀k,k+1<n->∀y∈yfo g (Cs.getD k []),y∈yfo g (Cs.getD (k+1) []):=fun k hk y hy=>by
  obtain⟨h0,w,e⟩:=hD.next hk
  rw[e];exact yyb hg (hCv k (by omega)) (ypd hg _ w h0).2.1 y hy
 have hPr:=fun k hk=>ywy hI (ybaf (yjc hg ybia (hCv k hk)))
 have hPl:∀k,k<n->(yfo g (Cs.getD k [])).length<=24:=fun k hk=>by
  unfold yfo;split
  ·have:=ylp g (Cs.getD k []) (Cs.getD k []).length;have:=(yin (hCv k hk)).len;omega
  ·exact zJ _
 obtain⟨PP,hPP⟩:∃PP:Nat->List (Int×Int),(fun k=>yfo g (Cs.getD k []))=PP:=⟨_,rfl⟩;have hPP':∀k,yfo g (Cs.getD k [])=PP k:=fun k=>by rw[<-hPP]
 simp only[hPP']at hst hPr hPl;rw[hD.cs,hD.ks]at hRun;simp only[grV,yek,yhr,hD.lC,hD.lK]at hRun;simp only[grV]at hPr;simp(maxSteps:=5000000) only [go_sem,↓reduceIte];refine⟨by decide,hRun.use ?_⟩
 simp(maxSteps:=5000000) only [ydis,go_sem,zA,↓reduceIte];refine⟨by decide,?_⟩
 refine ybj (σ:=Nat) (fun i=>⟨[(11,.i .i64 i),(8,.sl 1 n fun i=>[ybk (Cs.getD i [])]),(10,.b true),(7,.pt (7,0) 0 0)],[(7,.one (some ⟨27,true,2,1,fun _=>[yu g.ids,ybb g.ports]⟩))]⟩) (fun i=>i<=n) (fun i=>n-i) 0 (zJ _) ?_ ?_
 ·refine yh [] [] [] ?_;simp only[go_sem,allQ,live,yc,zN,go_sem,zA,↓reduceIte,reduceCtorEq]
 intro i hi
 by_cases hlt:i+1<n
 ·have t1 : decide ((i:Int)+1<(n:Int))=true:=decide_eq_true (by omega)
  have ei:((i:Int)+1).toNat=i+1:=by omega
  have hA:=hPr i (by omega)
  have hB:=hPr (i+1) (by omega)
  have hAl:=hPl i (by omega)
  have hBl:=hPl (i+1) (by omega)
  have hin:=hst i hlt;obtain⟨A,hAe⟩:∃A,PP i=A:=⟨_,rfl⟩;obtain⟨B,hBe⟩:∃B,PP (i+1)=B:=⟨_,rfl⟩;rw[hAe]at hA hAl hin;rw[hBe]at hB hBl hin;obtain⟨na,hna⟩:∃m,A.length=m:=⟨_,rfl⟩;obtain⟨nb,hnb⟩:∃m,B.length=m:=⟨_,rfl⟩;rw[hna]at hAl;rw[hnb]at hBl;simp(maxSteps:=5000000) only [ydfg,ydgr,t1,clash,go_sem,zA,zD,↓reduceIte,reduceCtorEq]
  repeat (refine⟨by omega,?_⟩)
  refine⟨ikw (by omega) (by omega),?_⟩
  repeat (refine⟨by omega,?_⟩)
  refine hA.use ?_;simp(maxSteps:=5000000) only [ybf,ei,clash,go_sem,zA,zD,↓reduceIte,reduceCtorEq]
  repeat (first|refine⟨(by omega:(_:Prop)),?_⟩|refine⟨(by decide:(_:Prop)),?_⟩|refine⟨ikw (by omega) (by omega),?_⟩)
  refine hB.use ?_;simp(maxSteps:=5000000) only [ydlr,ybc,hna,hnb,go_sem]
  repeat (first|refine⟨(by omega:(_:Prop)),?_⟩|refine⟨(by decide:(_:Prop)),?_⟩|refine⟨ikw (by omega) (by omega),?_⟩)
  refine ybj (σ:=Nat) (fun k=>⟨[(14,.i .i64 k),(12,.sl 2 na fun j=>[.i .i64 (A.getD j (0,0)).1,.i .i64 (A.getD j (0,0)).2]),(13,.sl 2 nb fun j=>[.i .i64 (B.getD j (0,0)).1,.i .i64 (B.getD j (0,0)).2]),(11,.i .i64 i),(8,.sl 1 n fun i=>[ybk (Cs.getD i [])]),(10,.b true),(7,.pt (7,0) 0 0)],[(7,.one (some ⟨27,true,2,1,fun _=>[yu g.ids,ybb g.ports]⟩))]⟩) (fun k=>k<=na) (fun k=>na-k) 0 (zJ _) ?_ ?_
  ·refine yh [] [] [] ?_;simp only[go_sem,allQ,live,yc,zN,go_sem,zA,↓reduceIte,reduceCtorEq]
  intro k hk
  by_cases hlk:k<na
  ·have t2:decide ((k:Int)<(na:Int))=true:=decide_eq_true (by omega)
   have hmem:A.getD k (0,0)∈A:=by rw[getD_at (show k<A.length by omega)];exact zM _
   have hfin:=ybnd (hin _ hmem);obtain⟨X,hX⟩:∃X,A.getD k (0,0)=X:=⟨_,rfl⟩;rw[hX,hnb]at hfin;have hsu:=fun j (hj:j<nb)=>ybhz (l:=B) (x:=X) (j:=j) (by omega)
   have h0:yqs B X 0=false:=rfl;obtain⟨F,hF⟩:∃F:Nat->Bool,(fun j=>yqs B X j)=F:=⟨_,rfl⟩;have hF':∀j,yqs B X j=F j:=fun j=>by rw[<-hF]
   simp only[hF']at hsu h0 hfin;simp only[yddc,yctu,ycuf,t2,clash,go_sem,zA,zD,↓reduceIte,reduceCtorEq];refine ybj (σ:=Nat) (fun j=>⟨[(16,.i .i64 j),(15,.b (F j)),(14,.i .i64 k),(12,.sl 2 na fun j=>[.i .i64 (A.getD j (0,0)).1,.i .i64 (A.getD j (0,0)).2]),(13,.sl 2 nb fun j=>[.i .i64 (B.getD j (0,0)).1,.i .i64 (B.getD j (0,0)).2]),(11,.i .i64 i),(8,.sl 1 n fun i=>[ybk (Cs.getD i [])]),(10,.b true),(7,.pt (7,0) 0 0)],[(7,.one (some ⟨27,true,2,1,fun _=>[yu g.ids,ybb g.ports]⟩))]⟩) (fun j=>j<=nb) (fun j=>nb-j) 0 (zJ _) ?_ ?_
   ·refine yh [] [] [] ?_;simp only[h0,allQ,live,yc,zN,go_sem,zA,↓reduceIte,reduceCtorEq]
   intro j hj
   by_cases hlj:j<nb
   ·have t3:decide ((j:Int)<(nb:Int))=true:=decide_eq_true (by omega)
    have hs:=hsu j hlj;obtain⟨Y,hY⟩:∃Y,B.getD j (0,0)=Y:=⟨_,rfl⟩;rw[hY]at hs;cases hFj:F j with
    | true =>
      rw[hFj,Bool.true_or]at hs;simp(maxSteps:=5000000) only [yblk,ybuj,ybsf,t3,clash,go_sem,zA,zD,↓reduceIte,reduceCtorEq]
      repeat (first|refine⟨(⟨by omega,by omega⟩:_/\_),?_⟩|refine⟨(by omega:_<_),?_⟩)
      refine⟨ikw (by omega) (by omega),?_⟩
      refine yj (j+1) (by omega) (by omega) ?_
      refine yh [] [] [] ?_;simp only[hs,allQ,live,yc,yba,go_sem,zA,↓reduceIte,reduceCtorEq];omega
    | false =>
      rw[hFj,Bool.false_or]at hs;have fin:∀(p q:Bool),(X.1==Y.1)=p->(X.2==Y.2)=q->F (j+1)=(p&&q):=fun p q e1 e2=>by rw[hs,e1,e2]
      cases z1:(X.1==Y.1)<;>cases z2:(X.2==Y.2)
      all_goals
       have hs:=fin _ _ z1 z2;simp only[zAB,zZ,Bool.and_self]at hs;simp(maxSteps:=5000000) only [yblk,ybuj,ybsf,t3,hX,hY,zAB,zZ,clash,go_sem,zA,zD,↓reduceIte,reduceCtorEq]
       repeat (first|refine⟨(⟨by omega,by omega⟩:_/\_),?_⟩|refine⟨(by omega:_<_),?_⟩)
       refine⟨ikw (by omega) (by omega),?_⟩
       refine yj (j+1) (by omega) (by omega) ?_
       refine yh [] [] [] ?_;simp only[hs,allQ,live,yc,yba,ykz,go_sem,zA,↓reduceIte,reduceCtorEq];exact⟨by omega,by rw[show decide (X.1=Y.1)=(X.1==Y.1)from rfl,show decide (X.2=Y.2)=(X.2==Y.2)from rfl,z1,z2];rfl⟩
   ·obtain rfl:j=nb:=by omega
    have t3:decide ((j:Int)<(j:Int))=false:=decide_eq_false (by omega)
    simp only[yblk,ycut,ydil,t3,hfin,clash,go_sem,zA,zD,↓reduceIte,reduceCtorEq]
    repeat (first|refine⟨(⟨by omega,by omega⟩:_/\_),?_⟩|refine⟨(by omega:_<_),?_⟩)
    refine⟨ikw (by omega) (by omega),?_⟩
    refine yj (k+1) (by omega) (by omega) ?_
    refine yh [] [] [] ?_;simp only[go_sem,allQ,live,yc,yba,go_sem,zA,↓reduceIte,reduceCtorEq];omega
  ·obtain rfl:k=na:=by omega
   have t2:decide ((k:Int)<(k:Int))=false:=decide_eq_false (by omega)
   simp only[yddc,ydof,t2,clash,go_sem,zA,zD,↓reduceIte,reduceCtorEq]
   repeat (first|refine⟨(⟨by omega,by omega⟩:_/\_),?_⟩|refine⟨(by omega:_<_),?_⟩)
   refine⟨ikw (by omega) (by omega),?_⟩
   refine yj (i+1) (by omega) (by omega) ?_
   refine yh [] [] [] ?_;simp only[go_sem,allQ,live,yc,yba,go_sem,zA,↓reduceIte,reduceCtorEq];omega
 ·have t1:decide ((i:Int)+1<(n:Int))=false:=decide_eq_false (by omega)
  have hK:=yty;simp only[ydfg,ycjp,t1,clash,go_sem,zA,zD,↓reduceIte,reduceCtorEq];refine⟨ikw (by omega) (by omega),?_⟩
  refine hK.use ?_;simp only[ybf,clash,go_sem,zA,zD,↓reduceIte,reduceCtorEq];exact Sim.refl _
end Sh
end
section
open Go.ChangeShapes Go.WideShapes Go.ChangeAt Go.RowKit Go.Joins Go.WideMaps Go.WideElems
set_option linter.unusedVariables false
set_option maxRecDepth 100000 in
theorem ynf(W:World)(h:laidMetH zB Rows.matchingStaysRow.laid W):Ev.GlW W:=fun x hx=>by
 rw[MakeChecks.laidMetH_plain _ _ _ (by kernel_rfl)]at h
 have hg : Tryz.prog.globalNamed "math/bits.deBruijn32tab" = some 0 := by kernel_rfl
 have ht:=Lib.tabIs_of_head (rest:=[]) (k:=.u8) (zs:=([0,1,28,2,29,14,24,3,30,22,20,15,25,17,4,8,31,27,13,23,21,19,16,7,26,12,18,6,11,5,10,9]:List Int)) (t:=226) (e:=5) (n:=32) hg (by kernel_rfl) (by kernel_rfl) (by kernel_rfl) (by kernel_rfl) (by kernel_rfl) h
 unfold Lib.TabIs World.var? at ht;rw[hg]at ht;simp only[Option.bind_some]at ht;split at ht
 ·rename_i cs e fz hc
  obtain rfl:=Option.some.inj ht;obtain rfl:=Option.some.inj hx;exact⟨_,_,hc⟩
 ·cases ht
set_option maxRecDepth 100000 in
theorem ynv(os:Os)(args:Array Value):laidMetH zB Rows.matchingStaysRow.laid ((World.doorLaid zB 14 os).forCall (fun _ _=>0) ⟨#[],args,[]⟩).memory :=
 laidMetH_of_parts3 (fuel:=8) (laidMet_of_run' 8 (by kernel_rfl) (by kernel_rfl)) (by kernel_rfl) (by kernel_rfl)
set_option maxRecDepth 100000 in
theorem ylb(os:Os)(started:os.Started)(H:Type)(enc:TypeId×Value->H) :
 ReturnsInHanded {} zQ os 16 .any (fun w args=>(Rows.matchingStaysSpec.pre enc zB zO [] false w args/\laidMetH zB Rows.matchingStaysRow.laid w)/\sizedMet enc zB zO (OpenSpec.ofChange Rows.matchingStaysSpec) false w args)
  (Rows.matchingStaysSpec.post enc zB zO false true false false):=by
 refine returnsInHanded_of_change_and (C:=zQ) (X:=fun w _=>laidMetH zB Rows.matchingStaysRow.laid w) (fun _ _ _ hh h=>h.of_heap hh) own started (by kernel_rfl) zU
  (ChangeSpec.witness_shaped (enc:=enc) (C:=zQ) (os:=os) (X:=fun w _=>laidMetH zB Rows.matchingStaysRow.laid w) false (World.doorLaid zB 14 os) #[.agg #[.int .i64 0,.slice .none 0 0,.slice .none 0 0,.slice .none 0 0,.bool false,.bool false],.slice .none 0 0,.slice .none 0 0] 8 rfl (World.shaped_of_RefB (by kernel_rfl) (by kernel_rfl)) (by kernel_rfl) (by kernel_rfl) (by kernel_rfl) (ynv os _)) ?_
 intro W base args ds gs before hval0 hW _ _ hL _;have hval:∀(j:Nat) t v,Tryz.f16.params[j]?=some t->args[j]?=some v->Value.okWide zB W .any base t v:=hval0;have hW':=hW;obtain⟨p,q,hA0,hV,rfl,hfz,hnd⟩:=hW;have hA:DataW.TrodAll enc zB W 0 (fun _=>true) true Tryz.f16.params.toList args.toList ds p:=hA0;rw[Tryz.params16]at hA hval;obtain⟨v0,vs0,d0,ds0,p0,q0,hargs,rfl,rfl,h0,r0⟩:=trodAll_cons hA;obtain⟨v1,vs1,d1,ds1,p1,q1,rfl,rfl,rfl,h1,r1⟩:=trodAll_cons r0
 obtain⟨v2,vs2,d2,ds2,p2,q2,rfl,rfl,rfl,h2,r2⟩:=trodAll_cons r1;obtain⟨rfl,rfl,rfl⟩:=trodAll_nil r2;obtain rfl:args = #[v0,v1,v2]:=by cases args;simp_all
 obtain⟨rfl,rfl⟩:=trodVars_none hV;have k0:=h0;have k1:=h1;have k2:=h2;have lt0:∀x∈p0,x.block<W.heap.size:=by obtain⟨m,hm⟩:=k0;exact DataW.trod_lt m _ _ _ hm
 have lt1:∀x∈p1,x.block<W.heap.size:=by obtain⟨m,hm⟩:=k1;exact DataW.trod_lt m _ _ _ hm
 have lt2:∀x∈p2,x.block<W.heap.size:=by obtain⟨m,hm⟩:=k2;exact DataW.trod_lt m _ _ _ hm
 obtain⟨x0,u0,hx0,rr0,a0⟩:=Sh.ybde (hval 0 24 v0 rfl rfl) h0;obtain⟨m1,hm1⟩:=h1;obtain⟨A1,len1,cap1,rfl⟩:=okWide_slice zS (hval 1 22 v1 rfl rfl);obtain⟨x1,hx1,u1,a1,rr1⟩:=Sh.yjv (v:=.slice A1 len1 cap1) hm1;obtain⟨m2,hm2⟩:=h2;obtain⟨A2,len2,cap2,rfl⟩:=okWide_slice zT (hval 2 38 v2 rfl rfl);obtain⟨x2,hx2,u2,a2,rr2⟩:=Sh.ybko (v:=.slice A2 len2 cap2) hm2
 clear hA0 hval0
 have ha:Sh.RVL (Sh.memW W).b.get Sh.om0 [.ag (Sh.netC x0),Sh.yu x1,Sh.usV x2] [u0,u1,u2]:=.cons rr0 (.cons rr1 (.cons rr2 .nil));have hv:Ev.VRL (Sh.phiW W) [u0,u1,u2] [v0,.slice A1 len1 cap1,.slice A2 len2 cap2]:=.cons a0 (.cons (Sh.ygr a1) (.cons (Sh.ygr a2) .nil));refine(Sh.ywn (Sh.ybcm hx0 (Sh.ybdj hx1) hx2) ⟨_,_,zU,rfl⟩ Ev.yoh (ynf W hL) ha hv).mono fun e W' ⟨he,bel⟩=>?_;subst he;exact⟨_,rfl,_,_,_,[],_,[],hW',trodAll_mk1 (shut_bool zY _),(trodAll_cons_mk (Below.trod laidOut (by kernel_rfl) (of_decide_eq_true (by kernel_rfl)) k0 bel lt0) (trodAll_cons_mk (Below.trod laidOut (by kernel_rfl) (of_decide_eq_true (by kernel_rfl)) k1 bel lt1) (trodAll_cons_mk (Below.trod laidOut (by kernel_rfl) (of_decide_eq_true (by kernel_rfl)) k2 bel lt2) trodAll_mk0))),rfl,bel.frame _,fun h=>by cases h⟩
end
section
def ioN:List Nat:=[104,97,114,110,101,115,115,32,101,52,49,99,97,57,54,99,54,54,56,50,102,54,55,101,57,51,102,51,48,51,101,48,51,98,57,97,56,54,102,55,97,50,53,102,55,52,99,102,98,55,57,53,57,48,57,52,55,52,55,48,48,102,100,56,48,52,56,55,54,48,53,97,32,99,117,116,32,97,116,32,115,101,108,102,115,116,97,98,47,115,101,108,102,115,116,97,98,108,97,119,50,55,46,67,101,110,116,101,114,77,105,100,100,108,101,32,115,101,108,102,115,116,97,98,47,115,101,108,102,115,116,97,98,108,97,119,50,55,46,67,101,110,116,101,114,82,111,117,110,100,115,32,115,101,108,102,115,116,97,98,47,115,101,108,102,115,116,97,98,108,97,119,50,55,46,67,101,110,116,101,114,82,101,97,99,104,101,115,32,115,101,108,102,115,116,97,98,47,115,101,108,102,115,116,97,98,108,97,119,50,55,46,67,101,110,116,101,114,82,101,115,116,115,32,115,101,108,102,115,116,97,98,47,115,101,108,102,115,116,97,98,108,97,119,50,55,46,67,101,110,116,101,114,65,110,111,110,121,109,111,117,115,32,115,101,108,102,115,116,97,98,47,115,101,108,102,115,116,97,98,108,97,119,50,56,46,69,108,101,99,116,105,111,110,82,101,97,99,104,101,115,32,115,101,108,102,115,116,97,98,47,115,101,108,102,115,116,97,98,108,97,119,50,56,46,69,108,101,99,116,105,111,110,82,101,115,116,115,32,115,101,108,102,115,116,97,98,47,115,101,108,102,115,116,97,98,108,97,119,50,56,46,69,108,101,99,116,105,111,110,67,101,110,116,114,101,32,115,101,108,102,115,116,97,98,47,115,101,108,102,115,116,97,98,108,97,119,50,56,46,69,108,101,99,116,105,111,110,84,111,103,101,116,104,101,114,32,115,101,108,102,115,116,97,98,47,115,101,108,102,115,116,97,98,108,97,119,51,50,46,67,111,108,111,117,114,105,110,103,83,104,114,105,110,107,115,32,115,101,108,102,115,116,97,98,47,115,101,108,102,115,116,97,98,108,97,119,51,50,46,67,111,108,111,117,114,105,110,103,82,101,97,99,104,101,115,32,115,101,108,102,115,116,97,98,47,115,101,108,102,115,116,97,98,108,97,119,51,50,46,67,111,108,111,117,114,105,110,103,82,101,115,116,115,32,115,101,108,102,115,116,97,98,47,115,101,108,102,115,116,97,98,108,97,119,51,48,46,77,97,116,99,104,105,110,103,77,97,120,105,109,97,108,32,115,101,108,102,115,116,97,98,47,115,101,108,102,115,116,97,98,108,97,119,51,48,46,77,97,116,99,104,105,110,103,83,116,97,121,115,32,115,101,108,102,115,116,97,98,47,115,101,108,102,115,116,97,98,108,97,119,51,48,46,77,97,116,99,104,105,110,103,84,111,103,101,116,104,101,114,32,115,101,108,102,115,116,97,98,47,115,101,108,102,115,116,97,98,108,97,119,51,48,46,77,97,116,99,104,105,110,103,82,101,97,99,104,101,115,32,115,101,108,102,115,116,97,98,47,115,101,108,102,115,116,97,98,108,97,119,51,48,46,77,97,116,99,104,105,110,103,82,101,115,116,115,32,115,101,108,102,115,116,97,98,47,115,101,108,102,115,116,97,98,108,97,119,50,54,46,76,101,97,100,101,114,65,110,121,119,104,101,114,101]
theorem ydqu:Tryz.prog.initOrder=String.ofList (ioN.map Char.ofNat):=by kernel_rfl
theorem yzr:Tryz.prog.initOrder.toList=ioN.map Char.ofNat:=by rw[ydqu];exact String.toList_ofList
theorem ydel (P : Program) {l c : List Char} {rest : List (List Char)} (h : P.initOrder.toList = l) (hb : behindMainWord (wordsSigns l) = c :: rest) (h1 : (c == "gc".toList || c == "spec".toList) = false) (h2 : (c == "cut".toList) = true) : P.make = some Make.cut := by
 unfold Program.make;rw[h,hb];simp only[h1,h2];simp
theorem ycdr (P : Program) {l c : List Char} {rest : List (List Char)} (h : P.initOrder.toList = l) (hb : behindMainWord (wordsSigns l) = c :: rest) (e : (stripLifts liftWords (c :: rest)).1 = []) (e2 : ((stripLifts liftWords (c :: rest)).2.head? == some "cut".toList) = true)
 (h1:P.bearsReflect=false) (h2:P.laysLater=false) (h3:P.doorFits []=true):P.mayEnter=true:=by
 unfold Program.mayEnter;rw[h,hb];simp only[e,e2,h1,h2,h3];simp
theorem ydjw : behindMainWord (wordsSigns (ioN.map Char.ofNat)) = "cut".toList :: (behindMainWord (wordsSigns (ioN.map Char.ofNat))).tail := by kernel_rfl
theorem ybyy:Tryz.prog.make=some Make.cut:=ydel _ yzr ydjw (by kernel_rfl) (by kernel_rfl)
theorem yble:Tryz.prog.mayEnter=true:=ycdr _ yzr ydjw (by kernel_rfl) (by kernel_rfl) (by kernel_rfl) (by kernel_rfl) (by kernel_rfl)
def ioH:List Nat:=[101,52,49,99,97,57,54,99,54,54,56,50,102,54,55,101,57,51,102,51,48,51,101,48,51,98,57,97,56,54,102,55,97,50,53,102,55,52,99,102,98,55,57,53,57,48,57,52,55,52,55,48,48,102,100,56,48,52,56,55,54,48,53,97]
theorem ycyp : "e41ca96c6682f67e93f303e03b9a86f7a25f74cfb795909474700fd80487605a".toList = ioH.map Char.ofNat := by
 have h : "e41ca96c6682f67e93f303e03b9a86f7a25f74cfb795909474700fd80487605a" = String.ofList (ioH.map Char.ofNat) := by kernel_rfl
 rw[h];exact String.toList_ofList
theorem ydac (P : Program) {l h s : List Char} {rest : List (List Char)} (hl : P.initOrder.toList = l) (hb : wordsSigns l = h :: s :: rest) (hs : isSumSigns s = true) (hh : (h == "harness".toList) = true) : P.mainIs = some (true, s) := by
 unfold Program.mainIs;rw[hl,hb];simp only[hs,hh];simp
theorem ydqm:wordsSigns (ioN.map Char.ofNat)=([104,97,114,110,101,115,115]:List Nat).map Char.ofNat::ioH.map Char.ofNat::(wordsSigns (ioN.map Char.ofNat)).tail.tail:=by kernel_rfl
theorem ybxi : Tryz.prog.mainIs = some (true, "e41ca96c6682f67e93f303e03b9a86f7a25f74cfb795909474700fd80487605a".toList) := by
 rw[ycyp];exact ydac _ yzr ydqm (by kernel_rfl) (by kernel_rfl)
theorem yblq:true=Tryz.prog.looks []:=by kernel_rfl
theorem ybls:Tryz.prog.liftsFinal=false:=by
 unfold Program.liftsFinal Program.headLifts;rw[yzr]
 kernel_rfl
end
section
open Go.ChangeShapes Go.WideShapes Go.ChangeAt Go.RowKit Go.Joins Go.WideMaps Go.WideElems
set_option linter.unusedVariables false
theorem yrf:(Rows.matchingStaysRow.inPlace==Tryz.prog.inPlace 16)=true:=by kernel_rfl
theorem yrj:(Rows.matchingStaysRow.unfollowed==Tryz.prog.unfollowed 16)=true:=by kernel_rfl
theorem yrl:(Rows.matchingStaysRow.recurses==Tryz.prog.recurses 16)=true:=by kernel_rfl
theorem yri:(Rows.matchingStaysRow.named==Tryz.prog.varsNamed 16)=true:=by kernel_rfl
theorem yrg:laidOutB zB=true:=by kernel_rfl
theorem yrm:mapsRowed zB=true:=by kernel_rfl
theorem yjg:Tryz.prog.funcNamed Rows.matchingStaysRow.func=some 16:=by kernel_rfl
theorem yrk:Rows.matchingStaysRow.wf (OpenSpec.ofChange Rows.matchingStaysSpec)=true:=by kernel_rfl
theorem yla:joinedFacts zB 16 zO Rows.matchingStaysSpec Rows.matchingStaysRow=true:=by
 unfold joinedFacts
 repeat' (with_reducible refine Bool.and_eq_true_iff.2 ⟨?_,?_⟩)
 all_goals first|(with_reducible exact yrf)|(with_reducible exact yrj)|(with_reducible exact yrl)|(with_reducible exact yri)|(with_reducible exact yrg)|(with_reducible exact yrm)|(with_reducible exact yrk)|(with_reducible exact yble)|(rw[ybls];rfl)|(rw[ybyy];rfl)|kernel_rfl
theorem ymx:Tryz.f16.isInstance zB Rows.matchingStaysRow.origin Rows.matchingStaysRow.targs:=of_decide_eq_true (by kernel_rfl)
theorem yof:Tryz.f16.isWrapper zB Rows.matchingStaysRow.wrapper Rows.matchingStaysRow.mainSum:=by
 unfold Func.isWrapper
 first|(rw[if_pos (by decide +kernel)];kernel_rfl)|(rw[if_neg (by decide +kernel)];exact⟨rfl,rfl⟩)
theorem ymm:Rows.MatchingStaysSaid :=
 OpenClaim.holds_of_wide 16 zO rfl rfl rfl rfl rfl rfl rfl ⟨rfl,rfl,rfl,rfl,rfl⟩ rfl rfl rfl rfl rfl yjg zU yla ymx yof
  (fun os started H enc _=>ylb os started H enc)
end
end Go.Proofs.YtiejahgklcjhkaaGreatDoor
