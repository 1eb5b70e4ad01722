/- Joined. -/
import Derived.Deep.Matrix
import Derived.Lib.SmallJoins
import Derived.Test.YthclbjjgfcgbgaaGreatDoorPkCp10
import Derived.Test.YthclbjjgfcgbgaaGreatDoorTie
import Derived.Test.YthclbjjgfcgbgaaGreatDoorCards
import Derived.LaidMore
set_option linter.unusedSimpArgs false
set_option linter.unusedVariables false
set_option maxRecDepth 8000
open Go.Proofs.Tryz renaming prog->zA,checked->zI,f3->zJ,underlying3->zL,underlying4->zM,func3->zN
open List renaming getElem?_eq_getElem->zB,getD_eq_getElem?_getD->zC,getElem?_map->zG,getElem?_eq_none->zH,map_cons->zO
open Array renaming getElem?_eq_none->zD
open Nat renaming eq_zero_or_pos->zF,sub_zero->zQ
open Classical renaming choose->zK,choose_spec->zS
open Go
namespace Go.Proofs.YthclbjjgfcgbgaaGreatDoor
section
open Go.ChangeShapes Go.WideShapes Go.ChangeAt Go.RowKit
theorem ybxi{b:Type}{p:Nat->b->Prop}:∀(n:Nat),(∀i,i<n->∃x,p i x)->∃xs:List b,xs.length=n/\∀(j:Nat) (x:b),xs[j]?=some x->p j x
 |0,_=>⟨[],rfl,by simp⟩
 | n + 1,h=>by
   obtain⟨xs,c,d⟩:=ybxi n fun i g=>h i (by omega)
   obtain⟨x,f⟩:=h n (by omega)
   refine⟨xs++[x],by simp[c],fun j y a=>?_⟩
   by_cases e:j<xs.length
   .rw[List.getElem?_append_left e]at a;exact d j y a
   .rw[List.getElem?_append_right (by omega)]at a
    have:j-xs.length=0:=by
     rcases zF (j-xs.length)with q|q
     .exact q
     .rw[zH (by simp;omega)]at a;cases a
    rw[this]at a;simp at a;subst a;obtain rfl:j=n:=by omega
    exact f
section
variable {H:Type}{enc:TypeId×Value->H}{P:Program}{w:World}{base:Nat}{held:Bool}
theorem wf_i64{n:Int}(h:(Lit.int .i64 n).wf=true):I64 n:=by
 simp only[Lit.wf,Bool.and_eq_true,decide_eq_true_eq]at h;have a:IntKind.i64.min = -9223372036854775808:=rfl;have b:IntKind.i64.max=9223372036854775807:=rfl;rw[a,b]at h;exact h
end
theorem own:ownKnob Tryz.prog.godebug=Option.none:=by kernel_rfl
theorem laidOut:laidOutB zA=true:=by kernel_rfl
section
variable {H:Type}{enc:TypeId×Value->H}{w:World}{base:Nat}{held:Bool}{n:Nat}{v:Value}{x:DataW H×List MemPlace}
end
end
section
namespace Sh
open Go Ev Go.RowKit
noncomputable def ybfg{a:Type}(t:T a):Nat->List (Option a)->T a
 |_,[]=>t
 |i,x::l=>ybfg (T.set (Nat.succ i) t i x) (i+1) l
theorem yri{a:Type}:∀(l:List (Option a)) (t:T a) (i j:Nat),(ybfg t i l).get j=if i<=j/\j<i+l.length then(l[j-i]?).join else t.get j
 |[],t,i,j=>by rw[if_neg (by simp)];rfl
 | x :: l,t,i,j=>by
   unfold ybfg;rw[yri l _ _ j]
   by_cases c:i+1<=j/\j<i+1+l.length
   .rw[if_pos c,if_pos (by simp;omega),show j-i=(j-(i+1))+1 by omega]
    rfl
   .rw[if_neg c,T.set_at]
    by_cases q:j=i
    .subst q;rw[if_pos rfl,if_pos (by simp)]
     simp
    .rw[if_neg q,if_neg (by simp;omega)]
def absV(Z:Nat)(v:Value):Option Value:=if simple v then some v else match v with
 |.slice (some ⟨b,o,none⟩) n c=>if n<=c/\c<=9223372036854775807 then(if c=0 then some (.slice (some ⟨Z,0,none⟩) n CU)else if b<=Z then some (.slice (some ⟨b,o,none⟩) n CU)else none)else none
 |.slice (some ⟨_,_,some _⟩) n c=>if n<=c/\c=0 then some (.slice (some ⟨Z,0,none⟩) n CU)else none
 |_=>none
def isU8:Value->Bool
 |.int .u8 _=>true
 |_=>false
noncomputable def absB(Z:Nat)(w:World)(i:Nat):Option ABlk:=match w.heap[i]? with
 |some (.cells c _ _)=>if c.toList.all isU8=true then none else some (.cells (ybfg .leaf 0 (c.toList.map (absV Z))) c.size CU 0)
 |_=>none
def phiW(w:World):Phi:=fun i=>match w.heap[i]? with
 |some (.cells c _ _)=>some ⟨i,0,c.size,0,w.heap[i]?⟩
 |_=>if i<=w.heap.size then some ⟨i,0,0,0,none⟩else none
noncomputable def memW(w:World):Mem:=⟨w.heap.size+1,ybfg .leaf 0 ((List.range w.heap.size).map (absB w.heap.size w)),w.heap.size+1⟩
theorem ynp{w:World}{i:Nat}{b:ABlk}:(memW w).b.get i=some b↔absB w.heap.size w i=some b:=by
 show(ybfg .leaf 0 _).get i=some b↔_;rw[yri]
 by_cases h:i<w.heap.size
 .rw[if_pos (by simpa using h)]
  simp[h]
 .rw[if_neg (by simpa using h),T.get_leaf]
  have:absB w.heap.size w i=none:=by unfold absB;rw[zD (by omega)]
  rw[this]
theorem ybks(w:World):Wf (memW w):=fun i b h=>by
 rw[ynp]at h;show i<w.heap.size+1;unfold absB at h;split at h
 .rename_i a;have:=(Array.getElem?_eq_some_iff.1 a).1;omega
 .cases h
theorem ypn{w:World}{v u:Value}(h:absV w.heap.size v=some u):VR (phiW w) u v:=by
 have g:∃l,phiW w w.heap.size=some l:=by
  unfold phiW;rw[zD (Nat.le_refl _)];simp
 have f:∀b,b<=w.heap.size->∃i ob,phiW w b=some ⟨b,0,i,0,ob⟩:=by
  intro b k;unfold phiW;split
  .exact⟨_,_,rfl⟩
  .rw[if_pos k];exact⟨_,_,rfl⟩
 unfold absV at h;split at h
 .rename_i m;cases h;exact .simple m
 .split at h
  .rename_i b o n c _
   split at h
   .rename_i a
    split at h
    .rename_i j
     cases h
     obtain⟨l,d⟩:=g;exact .slice d a.1 (fun q=>absurd rfl q) a.2 (.inr j)
    .split at h
     .rename_i e
      cases h
      obtain⟨i,p,d⟩:=f b e;exact .slice d a.1 (fun q=>absurd rfl q) a.2 (.inl ⟨by simp,.inl rfl⟩)
     .cases h
   .cases h
  .rename_i b o r n c _
   split at h
   .rename_i a
    cases h
    obtain⟨l,d⟩:=g;exact .slice d a.1 (fun q=>absurd rfl q) (by omega) (.inr a.2)
   .cases h
  .cases h
theorem yclf:∀x,ycpr=some x->x.2.all isU8=true:=by
 intro x a;unfold ycpr at a
 first|(cases a;done)|(cases a;rfl)
theorem relW{w:World}(s:GlW w):Rel (phiW w) (memW w).b.get w:=by
 have a:∀i b,(memW w).b.get i=some b->∃l,phiW w i=some l/\l.blk=i/\l.ob=w.heap[i]?/\BR (phiW w) l w b:=by
  intro i b g;rw[ynp]at g;unfold absB at g;split at g
  .rename_i c e r t
   split at g
   .cases g
   cases g
   refine⟨⟨i,0,c.size,0,w.heap[i]?⟩,by unfold phiW;rw[t],rfl,rfl,rfl,by simp,c.toList,e,r,⟨fun q=>absurd rfl q,fun o D=>D⟩,by simpa using t,by simp,fun j v u f=>?_⟩
   rw[yri]at f;split at f
   .simp only[zQ,zG]at f;cases h:c.toList[j]? with
    |none=>rw[h]at f;cases f
    | some x =>
      rw[h]at f;have f:absV w.heap.size x=some v:=by simpa using f
      exact⟨x,by rw[Nat.zero_add];exact h,ypn f⟩
   .rw[T.get_leaf]at f;cases f
  .cases g
 refine⟨⟨fun i b g=>by obtain⟨l,d,_,_,k⟩:=a i b g;exact⟨l,d,k⟩,fun i j x y G H p m E C u=>?_⟩,fun x m=>⟨s x m,fun⟨i,b,l,d,k,n⟩=>?_⟩⟩
 rotate_left
 .obtain⟨F,z,A,_⟩:=a i b d;rw[k]at z;cases z
  rw[n]at A;obtain⟨e,r,q⟩:=s x m;rw[ynp]at d;unfold absB at d;rw[<-A,q]at d;simp only at d;rw[if_pos (by simpa using yclf x m)]at d
  cases d
 obtain⟨l,d,k,_⟩:=a i x m;obtain⟨F,n,B,_⟩:=a j y E;rw[C]at d;cases d
 rw[u]at n;cases n
 rw[k,B];exact p
theorem ydgq{w:World}{i:Nat}{b:ABlk}{l:Ev.Loc}(a:(memW w).b.get i=some b)(d:phiW w i=some l):l.blk=i/\∃o,l.ob=some o/\w.heap[i]?=some o:=by
 rw[ynp]at a;unfold absB at a;split at a
 .rename_i c e g f
  unfold phiW at d;rw[f]at d;cases d
  exact⟨rfl,_,rfl,f⟩
 .cases a
theorem ydww(w:World)(n:Nat):yhh (phiW w) (memW w).next n:=by
 intro i a _;have a:w.heap.size+1<=i:=a;unfold phiW;rw[zD (by omega)]
 simp only;rw[if_neg (by omega)]
theorem ycot {P:Program}{g:FuncId}{args:List SV}{r:SV}{v:Value}{us m:List Value}{w:World}(h:Returns P g args r) (R:∃fn c,P.funcs[g]?=some fn/\fn.body=some c) (S:yte P) (L:GlW w)
 (N:RVL (memW w).b.get om0 args us) (W:VRL (phiW w) us m) (T:∀F u,RV F om0 r u->u=v) (p:∀φ v',VR φ v v'->v'=v):Calls P g m.toArray w fun e z=>e = .returned v/\Below w.heap.size w z:=by
 obtain⟨u,m',x,I,J,h3,rfl,K⟩:=h (memW w).b.get (memW w) us (ybks w) (Le.refl _) N;have V:=T _ _ K;subst V;have U:=(I (ybks w)).2 (phiW w) (memW w).b.get w m (relW L) (fun i b O=>O) W (ydww w _);obtain⟨fn,c,X,Y⟩:=R;rcases U with⟨_,Q⟩|⟨v',z,j,_⟩
 .refine Q.mono ?_;rintro e z ⟨v',rfl,a0,G,a,y⟩;rw[p _ _ y];refine⟨rfl,a.wg.os,a.wg.tape,a.wg.output,a.wg.size,fun k hk=>?_⟩
  by_cases C:Img (phiW w) (memW w).b.get k
  .obtain⟨i,b,l,d,A,H⟩:=C;obtain⟨D,o,Z,k6⟩:=ydgq d A;have s:i=k:=D.symm.trans H;subst s;have t:i<(memW w).next:=ybks w i b d
   have M:G i=some b:=by
    rw[a.frame i (fun q=>by omega) (.inr (Nat.lt_of_lt_of_le t J))]
    exact d
   obtain⟨l',E,q2⟩:=a.rel.blk i b M;rw[a.le i l A]at E;cases E
   have f:∃c n,b = .cells c n CU 0:=by
    rw[ynp]at d;unfold absB at d;split at d
    .split at d
     .cases d
     .cases d;exact⟨_,_,rfl⟩
    .cases d
   obtain⟨c',n',rfl⟩:=f;obtain⟨_,_,cs,e',fz,B,_⟩:=q2;rw[D]at B;rw[B.2 o Z,k6]
  .exact a.wg.keep k hk C
 .rw[ybw S X Y]at j;cases j
end Sh
end
section
namespace Sh
open Go Ev Go.RowKit Go.ChangeShapes Go.WideShapes Go.ChangeAt
def yyz(w:World)(g:SV)(v:Value):Prop:=∃u,absV w.heap.size v=some u/\RV (memW w).b.get om0 g u
def ybwg(w:World)(g:List SV)(a:List Value):Prop:=∃L,a.map (absV w.heap.size)=L.map some/\RVL (memW w).b.get om0 g L
theorem ybwg.nil(w:World):ybwg w [] []:=⟨[],rfl,.nil⟩
theorem yyz.cons{w:World}{g:SV}{v:Value}{b:List SV}{a:List Value}(h:yyz w g v)(t:ybwg w b a):ybwg w (g::b) (v::a):=by
 obtain⟨u,c,d⟩:=h;obtain⟨L,e,f⟩:=t;exact⟨u::L,by rw[zO,zO,c,e],.cons d f⟩
theorem ybri(w:World)(k:IntKind)(n:Int):yyz w (.i k n) (.int k n):=⟨.int k n,rfl,.i⟩
theorem ybou{w:World}{a:Addr}{v:Value}(h:w.cell? a=some v):a.spot=none/\a.block<w.heap.size/\∃c e b,w.heap[a.block]?=some (.cells c e b)/\c[a.off]?=some v:=by
 unfold World.cell? at h;split at h
 .rename_i c e b d
  split at h
  .cases h
  .rename_i f
   refine⟨?_,(Array.getElem?_eq_some_iff.1 d).1,c,e,b,d,h⟩;cases g:a.spot with
   |none=>rfl
   |some x=>rw[g]at f;simp at f
 .cases h
section
variable {H:Type}{enc:TypeId×Value->H}{P:Program}{w:World}{base:Nat}{held:Bool}
theorem ybtg {Y:Type}{z:Nat}{f:Y->List SV}{p:Y->Prop}(d:Y) {t e:TypeId}{fuel:Nat}{v:Value}{x:DataW H×List MemPlace}(ht:P.underlying t=some (.slice e)) (hC:P.cellsOf e=z) (h0:0<z)
 (hE:∀(n:Nat) (g:List Value) (y:DataW H×List MemPlace),DataW.trod enc P w base (fun _=>true) held n e g=some y->g.length=z->∃x,p x/\ybwg w (f x) g/\(f x).all one1=true/\(g.head?.any isU8)=false)
 (h:DataW.trod enc P w base (fun _=>true) held fuel t [v]=some x):∃xs:List Y,(∀x∈xs,p x)/\yyz w (.sl z xs.length (fun k=>f (xs.getD k d))) v/\isU8 v=false:=by
 rcases Go.Deep.open_slice ht h with⟨u,_⟩|⟨a,len,b0,m,n,D,Pl,Q,hb,hl,hm,U,J,hi⟩
 .simp at u;subst u;exact⟨[],fun x J=>(by cases J),⟨.slice none 0 0,rfl,.sl0 (.inl rfl)⟩,rfl⟩
 .simp at Q;subst Q;simp only[if_true]at U;subst U;unfold maxLen at hm;rw[hC]at hi;obtain⟨b,o,r⟩:=a;rcases zF m with rfl|O
  .obtain rfl:len=0:=by omega
   refine⟨[],fun x J=>(by cases J),⟨.slice (some ⟨w.heap.size,0,none⟩) 0 CU,?_,.sl0 (.inr ⟨_,_,_,rfl⟩)⟩,rfl⟩
   cases r<;>rfl
  .have a0:∃v0,w.cell? ⟨b,o,r⟩=some v0/\isU8 v0=false:=by
    obtain⟨g,A,a1⟩:=hi 0 O;obtain⟨_,G,V⟩:=World.cells?_some A;have K:=V 0 h0;have h6:g[0]?=some (g[0]'(by omega)):=zB (by omega)
    rw[h6]at K
    have e:(((⟨b,o,r⟩:Addr).add (0*z)).add 0)=⟨b,o,r⟩:=by
     unfold Addr.add;simp
    rw[e]at K;obtain⟨_,_,_,_,h7⟩:=hE n g _ a1 G;refine⟨_,K,?_⟩
    match g,h7,G with
    |c::_,h7,_=>simpa using h7
    |[],_,G=>exact absurd G (by simp;omega)
   obtain⟨v0,a7,a8⟩:=a0;obtain⟨F,B,c,e',fz,W,a3⟩:=ybou a7
   have a6:¬c.toList.all isU8=true:=fun q=>by
    have:=List.all_eq_true.1 q v0 (by rw[Array.mem_toList_iff];exact Array.mem_of_getElem? a3)
    rw[a8]at this;cases this
   have F:r=none:=F;subst F;have B:b<w.heap.size:=B;have W:w.heap[b]?=some (.cells c e' fz):=W
   have N:absV w.heap.size (.slice (some ⟨b,o,none⟩) len m)=some (.slice (some ⟨b,o,none⟩) len CU):=by
    unfold absV;rw[if_neg (by simp[simple])]
    simp only;rw[if_pos ⟨hl,hm⟩,if_neg (by omega),if_pos (by omega)]
   obtain⟨xs,x1,x2⟩:=ybxi (p:=fun i x=>p x/\(f x).all one1=true/\∃L:List Value,L.length=z/\RVL (memW w).b.get om0 (f x) L/\∀j,j<z->∃s,w.cell? ⟨b,o+i*z+j,none⟩=some s/\absV w.heap.size s=L[j]?) len fun i b1=>by
    obtain⟨g,A,G⟩:=hi i (by omega)
    obtain⟨_,V,K⟩:=World.cells?_some A;obtain⟨x,q1,⟨L,X,q3⟩,q4,_⟩:=hE n g _ G V
    have a2:L.length=z:=by
     have:=congrArg List.length X
     simpa[V]using this.symm
    refine⟨x,q1,q4,L,a2,q3,fun j I=>?_⟩;have R:j<g.length:=by omega
    refine⟨g[j],?_,?_⟩
    .have:=K j I;rw[zB R]at this;rw[<-this];congr 1;unfold Addr.add;split<;>split<;>simp_all<;>omega
    .have:=congrArg (fun l=>l[j]?) X;simp only[zG,zB R]at this;rw[zB (show j<L.length by omega)]at this ⊢
     simpa using this
   refine⟨xs,fun x J=>?_,⟨_,N,?_⟩,rfl⟩
   .obtain⟨i,a5,rfl⟩:=List.getElem_of_mem J;exact(x2 i _ (zB a5)).1
   .rw[x1];rcases zF len with rfl|a9
    .exact .sl0 (.inr ⟨_,_,_,rfl⟩)
    .have E:∀k,k<len->∃L:List Value,L.length=z/\RVL (memW w).b.get om0 (f (xs.getD k d)) L/\(f (xs.getD k d)).all one1=true/\∀j,j<z->∃s,w.cell? ⟨b,o+k*z+j,none⟩=some s/\absV w.heap.size s=L[j]?:=fun k hk=>by
      have S:k<xs.length:=by omega
      obtain⟨_,X,L,q3,q4,q5⟩:=x2 k _ (zB S);rw[zC,zB S];exact⟨L,q3,q4,X,q5⟩
     classical
     let L:Nat->List Value:=fun k=>if hk:k<len then zK (E k hk)else[]
     have M:∀k (hk:k<len),(L k).length=z/\RVL (memW w).b.get om0 (f (xs.getD k d)) (L k)/\(f (xs.getD k d)).all one1=true/\∀j,j<z->∃s,w.cell? ⟨b,o+k*z+j,none⟩=some s/\absV w.heap.size s=(L k)[j]?:=fun k hk=>by
      have e:L k=zK (E k hk):=by show(if hk:k<len then _ else _)=_;rw[dif_pos hk]
      rw[e];exact zS (E k hk)
     have T:(memW w).b.get b=some (.cells (ybfg .leaf 0 (c.toList.map (absV w.heap.size))) c.size CU 0):=by
      rw[ynp];unfold absB;rw[W];exact if_neg a6
     have C:∀j s,w.cell? ⟨b,j,none⟩=some s->j<c.size/\(ybfg .leaf 0 (c.toList.map (absV w.heap.size))).get j=absV w.heap.size s:=fun j s a4=>by
      obtain⟨_,_,c2,e2,Z,u,A⟩:=ybou a4;have u:w.heap[b]?=some (.cells c2 e2 Z):=u;rw[W]at u;cases u
      have A:c[j]?=some s:=A;have I:j<c.size:=(Array.getElem?_eq_some_iff.1 A).1;refine⟨I,?_⟩;rw[yri,if_pos ⟨Nat.zero_le _,by simpa using I⟩,zQ,zG]
      have:c.toList[j]?=some s:=by simpa using A
      rw[this];simp
     refine .sl (L:=L) T (.inr rfl) ?_ (fun k hk=>(M k hk).1) (fun k hk j I=>?_) (fun k hk=>(M k hk).2.1) (fun k hk=>(M k hk).2.2.1)
     .obtain⟨_,_,_,q⟩:=M (len-1) (by omega)
      obtain⟨s,u,_⟩:=q (z-1) (by omega)
      have:=(C _ _ u).1
      have e:len*z=(len-1)*z+z:=by
       obtain⟨y,rfl⟩:∃y,len=y+1:=⟨len-1,by omega⟩
       rw[Nat.succ_mul];simp
      omega
     .obtain⟨_,_,_,q⟩:=M k hk;obtain⟨s,u,A⟩:=q j I;rw[(C _ _ u).2,A]
theorem ybyv {t e:TypeId}{fuel:Nat}{v:Value}{x:DataW H×List MemPlace}(g:P.underlying t=some (.slice e)) (d:P.underlying e=some (.int .i64)) (c:P.cellsOf e=1)
 (h:DataW.trod enc P w base (fun _=>true) held fuel t [v]=some x):∃xs,(∀x∈xs,I64 x)/\yyz w (yba xs) v/\isU8 v=false:=by
 refine ybtg (f:=fun x=>[.i .i64 x]) (p:=I64) 0 g c (by decide) (fun n a y b l=>?_) h
 obtain⟨k,rfl,_,j⟩:=DataW.trod_int d b;exact⟨k,wf_i64 j,(ybri w .i64 k).cons (ybwg.nil w),rfl,rfl⟩
end
section
variable {H:Type}{enc:TypeId×Value->H}{w:World}{base:Nat}{held:Bool}{n:Nat}{v:Value}{x:DataW H×List MemPlace}
theorem ybyb(h:DataW.trod enc zA w base (fun _=>true) held n 22 [v]=some x):∃xs,(∀x∈xs,I64 x)/\yyz w (yba xs) v/\isU8 v=false :=
 ybyv Tryz.underlying22 zL (by kernel_rfl) h
theorem ywn(h:DataW.trod enc zA w base (fun _=>true) held n 22 [v]=some x):∃xs,(∀x∈xs,I64 x)/\yyz w (yba xs) v:=by
 obtain⟨xs,a,b,_⟩:=ybyb h;exact⟨xs,a,b⟩
end
theorem ybuj {P:Program}{g:FuncId}{args:List SV}{x:Bool}{a:List Value}{w:World}(h:Returns P g args (.b x)) (j:∃fn c,P.funcs[g]?=some fn/\fn.body=some c) (k:yte P) (f:GlW w)
 {us:List Value}(i:RVL (memW w).b.get om0 args us) (m:VRL (phiW w) us a):Calls P g a.toArray w fun e o=>e = .returned (.bool x)/\Below w.heap.size w o :=
 ycot h j k f i m (fun F u l=>by cases l;rfl) (fun q p d=>d.eq_simple rfl)
end Sh
end
section
namespace Sh
open Go Ev Go.RowKit Go.ChangeShapes Go.WideShapes Go.ChangeAt Go.Joins
theorem ydon{c:Type}{b:Array c}(h:b.size=6):∃a c1 c2 c3 c4 c5,b = #[a,c1,c2,c3,c4,c5]:=by
 obtain⟨l⟩:=b
 match l,h with
 |[a,c1,c2,c3,c4,c5],_=>exact⟨a,c1,c2,c3,c4,c5,rfl⟩
section
variable {H:Type}{enc:TypeId×Value->H}{P:Program}{w:World}{base:Nat}{held:Bool}{spare:Nat->Bool}
theorem six{g:Type}{xs:List g}(h:xs.length=6):∃a b c d e f,xs=[a,b,c,d,e,f]:=by
 match xs,h with
 |[a,b,c,d,e,f],_=>exact⟨a,b,c,d,e,f,rfl⟩
theorem ycbv {r:Reach}{D:Nat}{t:TypeId}{f0 f1 f2 f3 f4 f5:Field}{v:Value}{d:DataW H}{p:List MemPlace}(A:P.underlying t=some (.struct #[f0,f1,f2,f3,f4,f5])) (a:Go.Deep.oneCellFields P #[f0,f1,f2,f3,f4,f5]=true) (F:P.cellsOf t=6)
 (G:Value.okWide P w r D t v) (h:DataW.Trod enc P w base spare held t v d p) :
 ∃ (v0 v1 v2 v3 B C:Value) (f g i j k l:DataW H×List MemPlace) (n:Nat),v = .agg #[v0,v1,v2,v3,B,C] /\
   DataW.trod enc P w base spare held n f0.type [v0]=some f/\DataW.trod enc P w base spare held n f1.type [v1]=some g/\DataW.trod enc P w base spare held n f2.type [v2]=some i /\
   DataW.trod enc P w base spare held n f3.type [v3]=some j/\DataW.trod enc P w base spare held n f4.type [B]=some k/\DataW.trod enc P w base spare held n f5.type [C]=some l:=by
 obtain⟨T,rfl,e⟩:=okWide_struct A G;obtain⟨E,c1,c2,c3,c4,c5,rfl⟩:=ydon (e.trans F);obtain⟨m,b⟩:=h;obtain⟨U,n,_,_,_,c,b⟩:=DataW.trod_struct A b;obtain⟨f,g,i,j,k,l,rfl⟩:=six c;obtain⟨o0,I⟩:=Go.Deep.hone_of a 0 f0 rfl;obtain⟨O,J⟩:=Go.Deep.hone_of a 1 f1 rfl;obtain⟨Q,K⟩:=Go.Deep.hone_of a 2 f2 rfl;obtain⟨o3,L⟩:=Go.Deep.hone_of a 3 f3 rfl;obtain⟨R,M⟩:=Go.Deep.hone_of a 4 f4 rfl;obtain⟨S,N⟩:=Go.Deep.hone_of a 5 f5 rfl
 have o:=b 0 f0 rfl;have q:=b 1 f1 rfl;have s:=b 2 f2 rfl;have u:=b 3 f3 rfl;have y:=b 4 f4 rfl;have z:=b 5 f5 rfl;rw[o0,I]at o;rw[O,J]at q;rw[Q,K]at s;rw[o3,L]at u;rw[R,M]at y;rw[S,N]at z;exact⟨E,c1,c2,c3,c4,c5,f,g,i,j,k,l,n,rfl,o,q,s,u,y,z⟩
end
section
variable {H:Type}{enc:TypeId×Value->H}{w:World}{base:Nat}{held:Bool}{n:Nat}{v:Value}{x:DataW H×List MemPlace}
theorem ycaf(w:World)(b:Bool):yyz w (.b b) (.bool b):=⟨.bool b,rfl,.b⟩
theorem ycck{l:List Int}(h:∀x∈l,I64 x)(k:Nat):inK .i64 (l.getD k 0):=by
 have:I64 (l.getD k 0):=by
  rcases Nat.lt_or_ge k l.length with q|q
  .rw[zC,zB q];exact h _ (List.getElem_mem q)
  .rw[zC,zH q];exact ygx (by decide)
 exact this
theorem ycce{v:Value}{x:DataW H×List MemPlace}(h:DataW.trod enc zA w base (fun _=>true) held n 3 [v]=some x):∃k,inK .i64 k/\yyz w (.i .i64 k) v:=by
 obtain⟨k,e,_,a⟩:=DataW.trod_int zL h;simp at e;subst e;exact⟨k,wf_i64 a,ybri w .i64 k⟩
theorem ybaj{v:Value}{x:DataW H×List MemPlace}(h:DataW.trod enc zA w base (fun _=>true) held n 4 [v]=some x):∃b,yyz w (.b b) v:=by
 obtain⟨b,e,_⟩:=DataW.trod_bool zM h;simp at e;subst e;exact⟨b,ycaf w b⟩
theorem ycbs{y:Nat}{d:DataW H}{p:List MemPlace}(G:Value.okWide zA w .any y 24 v)(h:DataW.Trod enc zA w base (fun _=>true) held 24 v d p) :
 ∃(x:NetR) (u:Value),x.ok/\RV (memW w).b.get om0 (.ag (netC x)) u/\VR (phiW w) u v:=by
 obtain⟨v0,v1,v2,v3,U,V,Y,Z,y2,y3,y4,y5,n,rfl,A,B,C,D,E,F⟩:=ycbv Tryz.underlying24 (by kernel_rfl) (by kernel_rfl) G h
 obtain⟨k,K,c,l,N⟩:=ycce A;obtain⟨M,L,e,m,O⟩:=ywn B;obtain⟨X,W,f,o,Q⟩:=ywn C;obtain⟨J,I,g,q,R⟩:=ywn D;obtain⟨t,i,r,S⟩:=ybaj E;obtain⟨z,j,s,T⟩:=ybaj F;refine⟨⟨k,M,X,J,t,z⟩,.agg [c,e,f,g,i,j].toArray,⟨K,ycck L,ycck W,ycck I⟩,.ag (.cons N (.cons O (.cons Q (.cons R (.cons S (.cons T .nil)))))),?_⟩;exact .agg (a:=[c,e,f,g,i,j]) (a':=[v0,v1,v2,v3,U,V]) (.cons (ypn l) (.cons (ypn m) (.cons (ypn o) (.cons (ypn q) (.cons (ypn r) (.cons (ypn s) .nil))))))
end
end Sh
end
section
open Go.ChangeShapes Go.WideShapes Go.ChangeAt Go.RowKit Go.Joins Go.WideMaps Go.WideElems
set_option linter.unusedVariables false
set_option maxRecDepth 100000 in
theorem yyc(W:World)(h:laidMetH zA Rows.pathsWholeRow.laid W):Ev.GlW W:=fun x d=>by
 rw[MakeChecks.laidMetH_plain _ _ _ (by kernel_rfl)]at h
 have b : Tryz.prog.globalNamed "math/bits.deBruijn32tab" = some 0 := by kernel_rfl
 have a:=Lib.tabIs_of_head (rest:=[]) (k:=.u8) (zs:=([0,1,28,2,29,14,24,3,30,22,20,15,25,17,4,8,31,27,13,23,21,19,16,7,26,12,18,6,11,5,10,9]:List Int)) (t:=240) (e:=5) (n:=32) b (by kernel_rfl) (by kernel_rfl) (by kernel_rfl) (by kernel_rfl) (by kernel_rfl) h
 unfold Lib.TabIs World.var? at a;rw[b]at a;simp only[Option.bind_some]at a;split at a
 .rename_i f e g c
  obtain rfl:=Option.some.inj a;obtain rfl:=Option.some.inj d;exact⟨_,_,c⟩
 .cases a
set_option maxRecDepth 100000 in
theorem yxl(os:Os)(args:Array Value):laidMetH zA Rows.pathsWholeRow.laid ((World.doorLaid zA 14 os).forCall (fun _ _=>0) ⟨#[],args,[]⟩).memory :=
 laidMetH_of_parts3 (fuel:=8) (laidMet_of_run' 8 (by kernel_rfl) (by kernel_rfl)) (by kernel_rfl) (by kernel_rfl)
set_option maxRecDepth 100000 in
theorem ysi(os:Os)(c:os.Started)(H:Type)(enc:TypeId×Value->H) :
 ReturnsInHanded {} zI os 3 .any (fun w args=>(Rows.pathsWholeSpec.pre enc zA zJ [] false w args/\laidMetH zA Rows.pathsWholeRow.laid w)/\sizedMet enc zA zJ (OpenSpec.ofChange Rows.pathsWholeSpec) false w args)
  (Rows.pathsWholeSpec.post enc zA zJ false true false false):=by
 refine returnsInHanded_of_change_and (C:=zI) (X:=fun w _=>laidMetH zA Rows.pathsWholeRow.laid w) (fun _ _ _ M h=>h.of_heap M) own c (by kernel_rfl) zN
  (ChangeSpec.witness_shaped (enc:=enc) (C:=zI) (os:=os) (X:=fun w _=>laidMetH zA Rows.pathsWholeRow.laid w) false (World.doorLaid zA 14 os) #[.agg #[.int .i64 0,.slice .none 0 0,.slice .none 0 0,.slice .none 0 0,.bool false,.bool false]] 8 rfl (World.shaped_of_RefB (by kernel_rfl) (by kernel_rfl)) (by kernel_rfl) (by kernel_rfl) (by kernel_rfl) (yxl os _)) ?_
 intro W f args E V k a z _ _ G _;have d:∀(j:Nat) t v,Tryz.f3.params[j]?=some t->args[j]?=some v->Value.okWide zA W .any f t v:=a;have l:=z;obtain⟨p,q,i,I,rfl,L,O⟩:=z;have y:DataW.TrodAll enc zA W 0 (fun _=>true) true Tryz.f3.params.toList args.toList E p:=i;rw[Tryz.params3]at y d;obtain⟨v0,S,d0,F,Q,Y,n,rfl,rfl,u,R⟩:=trodAll_cons y;obtain⟨rfl,rfl,rfl⟩:=trodAll_nil R;obtain rfl:args = #[v0]:=by cases args;simp_all
 obtain⟨rfl,rfl⟩:=trodVars_none I;have A:=u;have r:∀x∈Q,x.block<W.heap.size:=by obtain⟨m,N⟩:=A;exact DataW.trod_lt m _ _ _ N
 obtain⟨T,B,o,s,D⟩:=Sh.ycbs (d 0 24 v0 rfl rfl) u
 clear i a
 have J:Sh.RVL (Sh.memW W).b.get Sh.om0 [.ag (Sh.netC T)] [B]:=.cons s .nil;have P:Ev.VRL (Sh.phiW W) [B] [v0]:=.cons D .nil;refine(Sh.ybuj (Sh.ybiu o) ⟨_,_,zN,rfl⟩ Ev.ytd (yyc W G) J P).mono fun e U ⟨K,g⟩=>?_;subst K;exact⟨_,rfl,_,_,_,[],_,[],l,trodAll_mk1 (shut_bool zM _),(trodAll_cons_mk (Below.trod laidOut (by kernel_rfl) (of_decide_eq_true (by kernel_rfl)) A g r) trodAll_mk0),rfl,g.frame _,fun h=>by cases h⟩
end
section
def ioN:List Nat:=[104,97,114,110,101,115,115,32,56,99,98,99,57,99,102,99,57,56,55,55,53,52,50,49,56,100,100,56,48,56,50,98,52,54,52,50,102,49,55,56,51,50,48,52,102,98,50,49,53,53,55,52,49,50,49,49,102,101,55,50,102,56,48,99,98,100,101,102,48,51,55,102,32,99,117,116,32,97,116,32,115,101,108,102,115,116,97,98,47,115,101,108,102,115,116,97,98,108,97,119,50,52,46,80,97,116,104,115,87,104,111,108,101,32,115,101,108,102,115,116,97,98,47,115,101,108,102,115,116,97,98,108,97,119,51,50,46,67,111,108,111,117,114,105,110,103,87,104,111,108,101,32,115,101,108,102,115,116,97,98,47,115,101,108,102,115,116,97,98,108,97,119,50,54,46,76,101,97,100,101,114,87,104,111,108,101,32,115,101,108,102,115,116,97,98,47,115,101,108,102,115,116,97,98,108,97,119,50,51,46,66,102,115,87,104,111,108,101,32,115,101,108,102,115,116,97,98,47,115,101,108,102,115,116,97,98,108,97,119,50,55,46,67,101,110,116,101,114,87,104,111,108,101,32,115,101,108,102,115,116,97,98,47,115,101,108,102,115,116,97,98,108,97,119,51,48,46,77,97,116,99,104,105,110,103,87,104,111,108,101,32,115,101,108,102,115,116,97,98,47,115,101,108,102,115,116,97,98,108,97,119,50,56,46,69,108,101,99,116,105,111,110,87,104,111,108,101]
theorem yeeu:Tryz.prog.initOrder=String.ofList (ioN.map Char.ofNat):=by kernel_rfl
theorem ybfd:Tryz.prog.initOrder.toList=ioN.map Char.ofNat:=by rw[yeeu];exact String.toList_ofList
theorem ydmw (P : Program) {l c : List Char} {rest : List (List Char)} (h : P.initOrder.toList = l) (d : behindMainWord (wordsSigns l) = c :: rest) (a : (c == "gc".toList || c == "spec".toList) = false) (b : (c == "cut".toList) = true) : P.make = some Make.cut := by
 unfold Program.make;rw[h,d];simp only[a,b];simp
theorem ycod (P : Program) {l c : List Char} {rest : List (List Char)} (h : P.initOrder.toList = l) (g : behindMainWord (wordsSigns l) = c :: rest) (e : (stripLifts liftWords (c :: rest)).1 = []) (a : ((stripLifts liftWords (c :: rest)).2.head? == some "cut".toList) = true)
 (b:P.bearsReflect=false) (d:P.laysLater=false) (f:P.doorFits []=true):P.mayEnter=true:=by
 unfold Program.mayEnter;rw[h,g];simp only[e,a,b,d,f];simp
theorem ydtc : behindMainWord (wordsSigns (ioN.map Char.ofNat)) = "cut".toList :: (behindMainWord (wordsSigns (ioN.map Char.ofNat))).tail := by kernel_rfl
theorem ydib:Tryz.prog.make=some Make.cut:=ydmw _ ybfd ydtc (by kernel_rfl) (by kernel_rfl)
theorem ycqo:Tryz.prog.mayEnter=true:=ycod _ ybfd ydtc (by kernel_rfl) (by kernel_rfl) (by kernel_rfl) (by kernel_rfl) (by kernel_rfl)
def ioH:List Nat:=[56,99,98,99,57,99,102,99,57,56,55,55,53,52,50,49,56,100,100,56,48,56,50,98,52,54,52,50,102,49,55,56,51,50,48,52,102,98,50,49,53,53,55,52,49,50,49,49,102,101,55,50,102,56,48,99,98,100,101,102,48,51,55,102]
theorem ydgz : "8cbc9cfc987754218dd8082b4642f1783204fb2155741211fe72f80cbdef037f".toList = ioH.map Char.ofNat := by
 have h : "8cbc9cfc987754218dd8082b4642f1783204fb2155741211fe72f80cbdef037f" = String.ofList (ioH.map Char.ofNat) := by kernel_rfl
 rw[h];exact String.toList_ofList
theorem ydig (P : Program) {l h s : List Char} {rest : List (List Char)} (c : P.initOrder.toList = l) (a : wordsSigns l = h :: s :: rest) (d : isSumSigns s = true) (b : (h == "harness".toList) = true) : P.mainIs = some (true, s) := by
 unfold Program.mainIs;rw[c,a];simp only[d,b];simp
theorem yedz:wordsSigns (ioN.map Char.ofNat)=([104,97,114,110,101,115,115]:List Nat).map Char.ofNat::ioH.map Char.ofNat::(wordsSigns (ioN.map Char.ofNat)).tail.tail:=by kernel_rfl
theorem ydhd : Tryz.prog.mainIs = some (true, "8cbc9cfc987754218dd8082b4642f1783204fb2155741211fe72f80cbdef037f".toList) := by
 rw[ydgz];exact ydig _ ybfd yedz (by kernel_rfl) (by kernel_rfl)
theorem ycnz:true=Tryz.prog.looks []:=by kernel_rfl
theorem yclr:Tryz.prog.liftsFinal=false:=by
 unfold Program.liftsFinal Program.headLifts;rw[ybfd]
 kernel_rfl
end
section
open Go.ChangeShapes Go.WideShapes Go.ChangeAt Go.RowKit Go.Joins Go.WideMaps Go.WideElems
set_option linter.unusedVariables false
theorem ybdv:(Rows.pathsWholeRow.inPlace==Tryz.prog.inPlace 3)=true:=by kernel_rfl
theorem ybdn:(Rows.pathsWholeRow.unfollowed==Tryz.prog.unfollowed 3)=true:=by kernel_rfl
theorem ybfb:(Rows.pathsWholeRow.recurses==Tryz.prog.recurses 3)=true:=by kernel_rfl
theorem ybdw:(Rows.pathsWholeRow.named==Tryz.prog.varsNamed 3)=true:=by kernel_rfl
theorem ybek:laidOutB zA=true:=by kernel_rfl
theorem ybcx:mapsRowed zA=true:=by kernel_rfl
theorem ypy:Tryz.prog.funcNamed Rows.pathsWholeRow.func=some 3:=by kernel_rfl
theorem ybeq:Rows.pathsWholeRow.wf (OpenSpec.ofChange Rows.pathsWholeSpec)=true:=by kernel_rfl
theorem yrw:joinedFacts zA 3 zJ Rows.pathsWholeSpec Rows.pathsWholeRow=true:=by
 unfold joinedFacts
 repeat' (with_reducible refine Bool.and_eq_true_iff.2 ⟨?_,?_⟩)
 all_goals first|(with_reducible exact ybdv)|(with_reducible exact ybdn)|(with_reducible exact ybfb)|(with_reducible exact ybdw)|(with_reducible exact ybek)|(with_reducible exact ybcx)|(with_reducible exact ybeq)|(with_reducible exact ycqo)|(rw[yclr];rfl)|(rw[ydib];rfl)|kernel_rfl
theorem yvz:Tryz.f3.isInstance zA Rows.pathsWholeRow.origin Rows.pathsWholeRow.targs:=of_decide_eq_true (by kernel_rfl)
theorem yyf:Tryz.f3.isWrapper zA Rows.pathsWholeRow.wrapper Rows.pathsWholeRow.mainSum:=by
 unfold Func.isWrapper
 first|(rw[if_pos (by decide +kernel)];kernel_rfl)|(rw[if_neg (by decide +kernel)];exact⟨rfl,rfl⟩)
theorem yvv:Rows.PathsWholeSaid :=
 OpenClaim.holds_of_wide 3 zJ rfl rfl rfl rfl rfl rfl rfl ⟨rfl,rfl,rfl,rfl,rfl⟩ rfl rfl rfl rfl rfl ypy zN yrw yvz yyf
  (fun os a H enc _=>ysi os a H enc)
end
end Go.Proofs.YthclbjjgfcgbgaaGreatDoor
