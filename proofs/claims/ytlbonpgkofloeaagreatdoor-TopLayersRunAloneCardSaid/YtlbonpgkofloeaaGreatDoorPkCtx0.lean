/- Joined. -/
import Derived.Deep.Matrix
import Derived.Lib.SmallJoins
import Derived.Test.YtlbonpgkofloeaaGreatDoorPkCt19
import Derived.Test.YtlbonpgkofloeaaGreatDoorTie
import Derived.Test.YtlbonpgkofloeaaGreatDoorCards
import Derived.LaidMore
set_option linter.unusedSimpArgs false
set_option linter.unusedVariables false
set_option maxRecDepth 8000
open Go.Proofs.Tryz renaming prog->zA,underlying3->zI,checked->zJ,f3->zK,underlying22->zL,underlying25->zM,underlying4->zQ,func3->zS
open List renaming getElem?_eq_getElem->zB,getD_eq_getElem?_getD->zC,getElem?_eq_none->zF,getElem?_map->zH,getElem_mem->zO,map_cons->zT
open Array renaming getElem?_eq_none->zD
open Nat renaming eq_zero_or_pos->zG,sub_zero->zU,lt_or_ge->zV
open Classical renaming choose->zN,choose_spec->zW
open Go
namespace Go.Proofs.YtlbonpgkofloeaaGreatDoor
section
open Go.ChangeShapes Go.WideShapes Go.ChangeAt Go.RowKit
theorem ycgj{b:Type}{p:Nat->b->Prop}:∀(n:Nat),(∀i,i<n->∃x,p i x)->∃xs:List b,xs.length=n/\∀(j:Nat) (x:b),xs[j]?=some x->p j x
 |0,_=>⟨[],rfl,by simp⟩
 | n + 1,h=>by
   obtain⟨xs,c,d⟩:=ycgj n fun i g=>h i (by omega)
   obtain⟨x,f⟩:=h n (by omega)
   refine⟨xs++[x],by simp[c],fun j y a=>?_⟩
   by_cases e:j<xs.length
   .rw[List.getElem?_append_left e]at a;exact d j y a
   .rw[List.getElem?_append_right (by omega)]at a
    have:j-xs.length=0:=by
     rcases zG (j-xs.length)with q|q
     .exact q
     .rw[zF (by simp;omega)]at a;cases a
    rw[this]at a;simp at a;subst a;obtain rfl:j=n:=by omega
    exact f
section
variable {H:Type}{enc:TypeId×Value->H}{P:Program}{w:World}{base:Nat}{held:Bool}
theorem wf_i64{n:Int}(h:(Lit.int .i64 n).wf=true):I64 n:=by
 simp only[Lit.wf,Bool.and_eq_true,decide_eq_true_eq]at h;have a:IntKind.i64.min = -9223372036854775808:=rfl;have b:IntKind.i64.max=9223372036854775807:=rfl;rw[a,b]at h;exact h
end
theorem own:ownKnob Tryz.prog.godebug=Option.none:=by kernel_rfl
theorem laidOut:laidOutB zA=true:=by kernel_rfl
section
variable {H:Type}{enc:TypeId×Value->H}{w:World}{base:Nat}{held:Bool}{n:Nat}{v:Value}{x:DataW H×List MemPlace}
end
end
section
namespace Sh
open Go Ev Go.RowKit
noncomputable def ybjq{a:Type}(t:T a):Nat->List (Option a)->T a
 |_,[]=>t
 |i,x::l=>ybjq (T.set (Nat.succ i) t i x) (i+1) l
theorem ypt{a:Type}:∀(l:List (Option a)) (t:T a) (i j:Nat),(ybjq t i l).get j=if i<=j/\j<i+l.length then(l[j-i]?).join else t.get j
 |[],t,i,j=>by rw[if_neg (by simp)];rfl
 | x :: l,t,i,j=>by
   unfold ybjq;rw[ypt l _ _ j]
   by_cases c:i+1<=j/\j<i+1+l.length
   .rw[if_pos c,if_pos (by simp;omega),show j-i=(j-(i+1))+1 by omega]
    rfl
   .rw[if_neg c,T.set_at]
    by_cases q:j=i
    .subst q;rw[if_pos rfl,if_pos (by simp)]
     simp
    .rw[if_neg q,if_neg (by simp;omega)]
def absV(Z:Nat)(v:Value):Option Value:=if simple v then some v else match v with
 |.slice (some ⟨b,o,none⟩) n c=>if n<=c/\c<=9223372036854775807 then(if c=0 then some (.slice (some ⟨Z,0,none⟩) n CU)else if b<=Z then some (.slice (some ⟨b,o,none⟩) n CU)else none)else none
 |.slice (some ⟨_,_,some _⟩) n c=>if n<=c/\c=0 then some (.slice (some ⟨Z,0,none⟩) n CU)else none
 |_=>none
def isU8:Value->Bool
 |.int .u8 _=>true
 |_=>false
noncomputable def absB(Z:Nat)(w:World)(i:Nat):Option ABlk:=match w.heap[i]? with
 |some (.cells c _ _)=>if c.toList.all isU8=true then none else some (.cells (ybjq .leaf 0 (c.toList.map (absV Z))) c.size CU 0)
 |_=>none
def phiW(w:World):Phi:=fun i=>match w.heap[i]? with
 |some (.cells c _ _)=>some ⟨i,0,c.size,0,w.heap[i]?⟩
 |_=>if i<=w.heap.size then some ⟨i,0,0,0,none⟩else none
noncomputable def memW(w:World):Mem:=⟨w.heap.size+1,ybjq .leaf 0 ((List.range w.heap.size).map (absB w.heap.size w)),w.heap.size+1⟩
theorem ynj{w:World}{i:Nat}{b:ABlk}:(memW w).b.get i=some b↔absB w.heap.size w i=some b:=by
 show(ybjq .leaf 0 _).get i=some b↔_;rw[ypt]
 by_cases h:i<w.heap.size
 .rw[if_pos (by simpa using h)]
  simp[h]
 .rw[if_neg (by simpa using h),T.get_leaf]
  have:absB w.heap.size w i=none:=by unfold absB;rw[zD (by omega)]
  rw[this]
theorem ybmf(w:World):Wf (memW w):=fun i b h=>by
 rw[ynj]at h;show i<w.heap.size+1;unfold absB at h;split at h
 .rename_i a;have:=(Array.getElem?_eq_some_iff.1 a).1;omega
 .cases h
theorem yji{w:World}{v u:Value}(h:absV w.heap.size v=some u):VR (phiW w) u v:=by
 have g:∃l,phiW w w.heap.size=some l:=by
  unfold phiW;rw[zD (Nat.le_refl _)];simp
 have f:∀b,b<=w.heap.size->∃i ob,phiW w b=some ⟨b,0,i,0,ob⟩:=by
  intro b k;unfold phiW;split
  .exact⟨_,_,rfl⟩
  .rw[if_pos k];exact⟨_,_,rfl⟩
 unfold absV at h;split at h
 .rename_i m;cases h;exact .simple m
 .split at h
  .rename_i b o n c _
   split at h
   .rename_i a
    split at h
    .rename_i j
     cases h
     obtain⟨l,d⟩:=g;exact .slice d a.1 (fun q=>absurd rfl q) a.2 (.inr j)
    .split at h
     .rename_i e
      cases h
      obtain⟨i,p,d⟩:=f b e;exact .slice d a.1 (fun q=>absurd rfl q) a.2 (.inl ⟨by simp,.inl rfl⟩)
     .cases h
   .cases h
  .rename_i b o r n c _
   split at h
   .rename_i a
    cases h
    obtain⟨l,d⟩:=g;exact .slice d a.1 (fun q=>absurd rfl q) (by omega) (.inr a.2)
   .cases h
  .cases h
theorem ycrn:∀x,yckr=some x->x.2.all isU8=true:=by
 intro x a;unfold yckr at a
 first|(cases a;done)|(cases a;rfl)
theorem relW{w:World}(s:GlW w):Rel (phiW w) (memW w).b.get w:=by
 have a:∀i b,(memW w).b.get i=some b->∃l,phiW w i=some l/\l.blk=i/\l.ob=w.heap[i]?/\BR (phiW w) l w b:=by
  intro i b g;rw[ynj]at g;unfold absB at g;split at g
  .rename_i c e r t
   split at g
   .cases g
   cases g
   refine⟨⟨i,0,c.size,0,w.heap[i]?⟩,by unfold phiW;rw[t],rfl,rfl,rfl,by simp,c.toList,e,r,⟨fun q=>absurd rfl q,fun o D=>D⟩,by simpa using t,by simp,fun j v u f=>?_⟩
   rw[ypt]at f;split at f
   .simp only[zU,zH]at f;cases h:c.toList[j]? with
    |none=>rw[h]at f;cases f
    | some x =>
      rw[h]at f;have f:absV w.heap.size x=some v:=by simpa using f
      exact⟨x,by rw[Nat.zero_add];exact h,yji f⟩
   .rw[T.get_leaf]at f;cases f
  .cases g
 refine⟨⟨fun i b g=>by obtain⟨l,d,_,_,k⟩:=a i b g;exact⟨l,d,k⟩,fun i j x y G H p m E C u=>?_⟩,fun x m=>⟨s x m,fun⟨i,b,l,d,k,n⟩=>?_⟩⟩
 rotate_left
 .obtain⟨F,z,A,_⟩:=a i b d;rw[k]at z;cases z
  rw[n]at A;obtain⟨e,r,q⟩:=s x m;rw[ynj]at d;unfold absB at d;rw[<-A,q]at d;simp only at d;rw[if_pos (by simpa using ycrn x m)]at d
  cases d
 obtain⟨l,d,k,_⟩:=a i x m;obtain⟨F,n,B,_⟩:=a j y E;rw[C]at d;cases d
 rw[u]at n;cases n
 rw[k,B];exact p
theorem ycxz{w:World}{i:Nat}{b:ABlk}{l:Ev.Loc}(a:(memW w).b.get i=some b)(d:phiW w i=some l):l.blk=i/\∃o,l.ob=some o/\w.heap[i]?=some o:=by
 rw[ynj]at a;unfold absB at a;split at a
 .rename_i c e g f
  unfold phiW at d;rw[f]at d;cases d
  exact⟨rfl,_,rfl,f⟩
 .cases a
theorem ydho(w:World)(n:Nat):yhm (phiW w) (memW w).next n:=by
 intro i a _;have a:w.heap.size+1<=i:=a;unfold phiW;rw[zD (by omega)]
 simp only;rw[if_neg (by omega)]
theorem ycqx {P:Program}{g:FuncId}{args:List SV}{r:SV}{v:Value}{us m:List Value}{w:World}(h:Returns P g args r) (R:∃fn c,P.funcs[g]?=some fn/\fn.body=some c) (S:yxq P) (L:GlW w)
 (N:RVL (memW w).b.get om0 args us) (W:VRL (phiW w) us m) (T:∀F u,RV F om0 r u->u=v) (p:∀φ v',VR φ v v'->v'=v):Calls P g m.toArray w fun e z=>e = .returned v/\Below w.heap.size w z:=by
 obtain⟨u,m',x,I,J,h3,rfl,K⟩:=h (memW w).b.get (memW w) us (ybmf w) (Le.refl _) N;have V:=T _ _ K;subst V;have U:=(I (ybmf w)).2 (phiW w) (memW w).b.get w m (relW L) (fun i b O=>O) W (ydho w _);obtain⟨fn,c,X,Y⟩:=R;rcases U with⟨_,Q⟩|⟨v',z,j,_⟩
 .refine Q.mono ?_;rintro e z ⟨v',rfl,a0,G,a,y⟩;rw[p _ _ y];refine⟨rfl,a.wg.os,a.wg.tape,a.wg.output,a.wg.size,fun k hk=>?_⟩
  by_cases C:Img (phiW w) (memW w).b.get k
  .obtain⟨i,b,l,d,A,H⟩:=C;obtain⟨D,o,Z,k6⟩:=ycxz d A;have s:i=k:=D.symm.trans H;subst s;have t:i<(memW w).next:=ybmf w i b d
   have M:G i=some b:=by
    rw[a.frame i (fun q=>by omega) (.inr (Nat.lt_of_lt_of_le t J))]
    exact d
   obtain⟨l',E,q2⟩:=a.rel.blk i b M;rw[a.le i l A]at E;cases E
   have f:∃c n,b = .cells c n CU 0:=by
    rw[ynj]at d;unfold absB at d;split at d
    .split at d
     .cases d
     .cases d;exact⟨_,_,rfl⟩
    .cases d
   obtain⟨c',n',rfl⟩:=f;obtain⟨_,_,cs,e',fz,B,_⟩:=q2;rw[D]at B;rw[B.2 o Z,k6]
  .exact a.wg.keep k hk C
 .rw[ydn S X Y]at j;cases j
end Sh
end
section
namespace Sh
open Go Ev Go.RowKit Go.ChangeShapes Go.WideShapes Go.ChangeAt
def yww(w:World)(g:SV)(v:Value):Prop:=∃u,absV w.heap.size v=some u/\RV (memW w).b.get om0 g u
def yblh(w:World)(g:List SV)(a:List Value):Prop:=∃L,a.map (absV w.heap.size)=L.map some/\RVL (memW w).b.get om0 g L
theorem yblh.nil(w:World):yblh w [] []:=⟨[],rfl,.nil⟩
theorem yww.cons{w:World}{g:SV}{v:Value}{b:List SV}{a:List Value}(h:yww w g v)(t:yblh w b a):yblh w (g::b) (v::a):=by
 obtain⟨u,c,d⟩:=h;obtain⟨L,e,f⟩:=t;exact⟨u::L,by rw[zT,zT,c,e],.cons d f⟩
theorem ybcv(w:World)(k:IntKind)(n:Int):yww w (.i k n) (.int k n):=⟨.int k n,rfl,.i⟩
theorem ybpd{w:World}{a:Addr}{v:Value}(h:w.cell? a=some v):a.spot=none/\a.block<w.heap.size/\∃c e b,w.heap[a.block]?=some (.cells c e b)/\c[a.off]?=some v:=by
 unfold World.cell? at h;split at h
 .rename_i c e b d
  split at h
  .cases h
  .rename_i f
   refine⟨?_,(Array.getElem?_eq_some_iff.1 d).1,c,e,b,d,h⟩;cases g:a.spot with
   |none=>rfl
   |some x=>rw[g]at f;simp at f
 .cases h
section
variable {H:Type}{enc:TypeId×Value->H}{P:Program}{w:World}{base:Nat}{held:Bool}
theorem ybbd {Y:Type}{z:Nat}{f:Y->List SV}{p:Y->Prop}(d:Y) {t e:TypeId}{fuel:Nat}{v:Value}{x:DataW H×List MemPlace}(ht:P.underlying t=some (.slice e)) (hC:P.cellsOf e=z) (h0:0<z)
 (hE:∀(n:Nat) (g:List Value) (y:DataW H×List MemPlace),DataW.trod enc P w base (fun _=>true) held n e g=some y->g.length=z->∃x,p x/\yblh w (f x) g/\(f x).all one1=true/\(g.head?.any isU8)=false)
 (h:DataW.trod enc P w base (fun _=>true) held fuel t [v]=some x):∃xs:List Y,(∀x∈xs,p x)/\yww w (.sl z xs.length (fun k=>f (xs.getD k d))) v/\isU8 v=false:=by
 rcases Go.Deep.open_slice ht h with⟨u,_⟩|⟨a,len,b0,m,n,D,Pl,Q,hb,hl,hm,U,J,hi⟩
 .simp at u;subst u;exact⟨[],fun x J=>(by cases J),⟨.slice none 0 0,rfl,.sl0 (.inl rfl)⟩,rfl⟩
 .simp at Q;subst Q;simp only[if_true]at U;subst U;unfold maxLen at hm;rw[hC]at hi;obtain⟨b,o,r⟩:=a;rcases zG m with rfl|O
  .obtain rfl:len=0:=by omega
   refine⟨[],fun x J=>(by cases J),⟨.slice (some ⟨w.heap.size,0,none⟩) 0 CU,?_,.sl0 (.inr ⟨_,_,_,rfl⟩)⟩,rfl⟩
   cases r<;>rfl
  .have a0:∃v0,w.cell? ⟨b,o,r⟩=some v0/\isU8 v0=false:=by
    obtain⟨g,A,a1⟩:=hi 0 O;obtain⟨_,G,V⟩:=World.cells?_some A;have K:=V 0 h0;have h6:g[0]?=some (g[0]'(by omega)):=zB (by omega)
    rw[h6]at K
    have e:(((⟨b,o,r⟩:Addr).add (0*z)).add 0)=⟨b,o,r⟩:=by
     unfold Addr.add;simp
    rw[e]at K;obtain⟨_,_,_,_,h7⟩:=hE n g _ a1 G;refine⟨_,K,?_⟩
    match g,h7,G with
    |c::_,h7,_=>simpa using h7
    |[],_,G=>exact absurd G (by simp;omega)
   obtain⟨v0,a7,a8⟩:=a0;obtain⟨F,B,c,e',fz,W,a3⟩:=ybpd a7
   have a6:¬c.toList.all isU8=true:=fun q=>by
    have:=List.all_eq_true.1 q v0 (by rw[Array.mem_toList_iff];exact Array.mem_of_getElem? a3)
    rw[a8]at this;cases this
   have F:r=none:=F;subst F;have B:b<w.heap.size:=B;have W:w.heap[b]?=some (.cells c e' fz):=W
   have N:absV w.heap.size (.slice (some ⟨b,o,none⟩) len m)=some (.slice (some ⟨b,o,none⟩) len CU):=by
    unfold absV;rw[if_neg (by simp[simple])]
    simp only;rw[if_pos ⟨hl,hm⟩,if_neg (by omega),if_pos (by omega)]
   obtain⟨xs,x1,x2⟩:=ycgj (p:=fun i x=>p x/\(f x).all one1=true/\∃L:List Value,L.length=z/\RVL (memW w).b.get om0 (f x) L/\∀j,j<z->∃s,w.cell? ⟨b,o+i*z+j,none⟩=some s/\absV w.heap.size s=L[j]?) len fun i b1=>by
    obtain⟨g,A,G⟩:=hi i (by omega)
    obtain⟨_,V,K⟩:=World.cells?_some A;obtain⟨x,q1,⟨L,X,q3⟩,q4,_⟩:=hE n g _ G V
    have a2:L.length=z:=by
     have:=congrArg List.length X
     simpa[V]using this.symm
    refine⟨x,q1,q4,L,a2,q3,fun j I=>?_⟩;have R:j<g.length:=by omega
    refine⟨g[j],?_,?_⟩
    .have:=K j I;rw[zB R]at this;rw[<-this];congr 1;unfold Addr.add;split<;>split<;>simp_all<;>omega
    .have:=congrArg (fun l=>l[j]?) X;simp only[zH,zB R]at this;rw[zB (show j<L.length by omega)]at this ⊢
     simpa using this
   refine⟨xs,fun x J=>?_,⟨_,N,?_⟩,rfl⟩
   .obtain⟨i,a5,rfl⟩:=List.getElem_of_mem J;exact(x2 i _ (zB a5)).1
   .rw[x1];rcases zG len with rfl|a9
    .exact .sl0 (.inr ⟨_,_,_,rfl⟩)
    .have E:∀k,k<len->∃L:List Value,L.length=z/\RVL (memW w).b.get om0 (f (xs.getD k d)) L/\(f (xs.getD k d)).all one1=true/\∀j,j<z->∃s,w.cell? ⟨b,o+k*z+j,none⟩=some s/\absV w.heap.size s=L[j]?:=fun k hk=>by
      have S:k<xs.length:=by omega
      obtain⟨_,X,L,q3,q4,q5⟩:=x2 k _ (zB S);rw[zC,zB S];exact⟨L,q3,q4,X,q5⟩
     classical
     let L:Nat->List Value:=fun k=>if hk:k<len then zN (E k hk)else[]
     have M:∀k (hk:k<len),(L k).length=z/\RVL (memW w).b.get om0 (f (xs.getD k d)) (L k)/\(f (xs.getD k d)).all one1=true/\∀j,j<z->∃s,w.cell? ⟨b,o+k*z+j,none⟩=some s/\absV w.heap.size s=(L k)[j]?:=fun k hk=>by
      have e:L k=zN (E k hk):=by show(if hk:k<len then _ else _)=_;rw[dif_pos hk]
      rw[e];exact zW (E k hk)
     have T:(memW w).b.get b=some (.cells (ybjq .leaf 0 (c.toList.map (absV w.heap.size))) c.size CU 0):=by
      rw[ynj];unfold absB;rw[W];exact if_neg a6
     have C:∀j s,w.cell? ⟨b,j,none⟩=some s->j<c.size/\(ybjq .leaf 0 (c.toList.map (absV w.heap.size))).get j=absV w.heap.size s:=fun j s a4=>by
      obtain⟨_,_,c2,e2,Z,u,A⟩:=ybpd a4;have u:w.heap[b]?=some (.cells c2 e2 Z):=u;rw[W]at u;cases u
      have A:c[j]?=some s:=A;have I:j<c.size:=(Array.getElem?_eq_some_iff.1 A).1;refine⟨I,?_⟩;rw[ypt,if_pos ⟨Nat.zero_le _,by simpa using I⟩,zU,zH]
      have:c.toList[j]?=some s:=by simpa using A
      rw[this];simp
     refine .sl (L:=L) T (.inr rfl) ?_ (fun k hk=>(M k hk).1) (fun k hk j I=>?_) (fun k hk=>(M k hk).2.1) (fun k hk=>(M k hk).2.2.1)
     .obtain⟨_,_,_,q⟩:=M (len-1) (by omega)
      obtain⟨s,u,_⟩:=q (z-1) (by omega)
      have:=(C _ _ u).1
      have e:len*z=(len-1)*z+z:=by
       obtain⟨y,rfl⟩:∃y,len=y+1:=⟨len-1,by omega⟩
       rw[Nat.succ_mul];simp
      omega
     .obtain⟨_,_,_,q⟩:=M k hk;obtain⟨s,u,A⟩:=q j I;rw[(C _ _ u).2,A]
theorem ycau {t e:TypeId}{fuel:Nat}{v:Value}{x:DataW H×List MemPlace}(g:P.underlying t=some (.slice e)) (d:P.underlying e=some (.int .i64)) (c:P.cellsOf e=1)
 (h:DataW.trod enc P w base (fun _=>true) held fuel t [v]=some x):∃xs,(∀x∈xs,I64 x)/\yww w (yj xs) v/\isU8 v=false:=by
 refine ybbd (f:=fun x=>[.i .i64 x]) (p:=I64) 0 g c (by decide) (fun n a y b l=>?_) h
 obtain⟨k,rfl,_,j⟩:=DataW.trod_int d b;exact⟨k,wf_i64 j,(ybcv w .i64 k).cons (yblh.nil w),rfl,rfl⟩
end
section
variable {H:Type}{enc:TypeId×Value->H}{w:World}{base:Nat}{held:Bool}{n:Nat}{v:Value}{x:DataW H×List MemPlace}
theorem ychg(h:DataW.trod enc zA w base (fun _=>true) held n 22 [v]=some x):∃xs,(∀x∈xs,I64 x)/\yww w (yj xs) v/\isU8 v=false :=
 ycau zL zI (by kernel_rfl) h
theorem ypu(h:DataW.trod enc zA w base (fun _=>true) held n 22 [v]=some x):∃xs,(∀x∈xs,I64 x)/\yww w (yj xs) v:=by
 obtain⟨xs,a,b,_⟩:=ychg h;exact⟨xs,a,b⟩
end
theorem ybri {P:Program}{g:FuncId}{args:List SV}{x:Bool}{a:List Value}{w:World}(h:Returns P g args (.b x)) (j:∃fn c,P.funcs[g]?=some fn/\fn.body=some c) (k:yxq P) (f:GlW w)
 {us:List Value}(i:RVL (memW w).b.get om0 args us) (m:VRL (phiW w) us a):Calls P g a.toArray w fun e o=>e = .returned (.bool x)/\Below w.heap.size w o :=
 ycqx h j k f i m (fun F u l=>by cases l;rfl) (fun q p d=>d.eq_simple rfl)
end Sh
end
section
namespace Sh
open Go Ev Go.RowKit Go.ChangeShapes Go.WideShapes Go.ChangeAt Go.Joins
theorem ydep{c:Type}{b:Array c}(h:b.size=6):∃a c1 c2 c3 c4 c5,b = #[a,c1,c2,c3,c4,c5]:=by
 obtain⟨l⟩:=b
 match l,h with
 |[a,c1,c2,c3,c4,c5],_=>exact⟨a,c1,c2,c3,c4,c5,rfl⟩
section
variable {H:Type}{enc:TypeId×Value->H}{P:Program}{w:World}{base:Nat}{held:Bool}{spare:Nat->Bool}
theorem six{g:Type}{xs:List g}(h:xs.length=6):∃a b c d e f,xs=[a,b,c,d,e,f]:=by
 match xs,h with
 |[a,b,c,d,e,f],_=>exact⟨a,b,c,d,e,f,rfl⟩
theorem ybwv {r:Reach}{F:Nat}{t:TypeId}{f0 f1 f2 f3 f4 f5:Field}{v:Value}{d:DataW H}{p:List MemPlace}(A:P.underlying t=some (.struct #[f0,f1,f2,f3,f4,f5])) (a:Go.Deep.oneCellFields P #[f0,f1,f2,f3,f4,f5]=true) (I:P.cellsOf t=6)
 (J:Value.okWide P w r F t v) (h:DataW.Trod enc P w base spare held t v d p) :
 ∃ (v0 v1 B C D E:Value) (f g i j k l:DataW H×List MemPlace) (n:Nat),v = .agg #[v0,v1,B,C,D,E] /\
   DataW.trod enc P w base spare held n f0.type [v0]=some f/\DataW.trod enc P w base spare held n f1.type [v1]=some g/\DataW.trod enc P w base spare held n f2.type [B]=some i /\
   DataW.trod enc P w base spare held n f3.type [C]=some j/\DataW.trod enc P w base spare held n f4.type [D]=some k/\DataW.trod enc P w base spare held n f5.type [E]=some l:=by
 obtain⟨V,rfl,e⟩:=okWide_struct A J;obtain⟨G,c1,c2,c3,c4,c5,rfl⟩:=ydep (e.trans I);obtain⟨m,b⟩:=h;obtain⟨W,n,_,_,_,c,b⟩:=DataW.trod_struct A b;obtain⟨f,g,i,j,k,l,rfl⟩:=six c;obtain⟨o0,K⟩:=Go.Deep.hone_of a 0 f0 rfl;obtain⟨R,L⟩:=Go.Deep.hone_of a 1 f1 rfl;obtain⟨S,M⟩:=Go.Deep.hone_of a 2 f2 rfl;obtain⟨o3,N⟩:=Go.Deep.hone_of a 3 f3 rfl;obtain⟨T,O⟩:=Go.Deep.hone_of a 4 f4 rfl;obtain⟨U,Q⟩:=Go.Deep.hone_of a 5 f5 rfl
 have o:=b 0 f0 rfl;have q:=b 1 f1 rfl;have s:=b 2 f2 rfl;have u:=b 3 f3 rfl;have y:=b 4 f4 rfl;have z:=b 5 f5 rfl;rw[o0,K]at o;rw[R,L]at q;rw[S,M]at s;rw[o3,N]at u;rw[T,O]at y;rw[U,Q]at z;exact⟨G,c1,c2,c3,c4,c5,f,g,i,j,k,l,n,rfl,o,q,s,u,y,z⟩
end
section
variable {H:Type}{enc:TypeId×Value->H}{w:World}{base:Nat}{held:Bool}{n:Nat}{v:Value}{x:DataW H×List MemPlace}
theorem ycga(w:World)(b:Bool):yww w (.b b) (.bool b):=⟨.bool b,rfl,.b⟩
theorem ycon(h:DataW.trod enc zA w base (fun _=>true) held n 25 [v]=some x):∃xs:List Nat,(∀k,xs.getD k 0<2^32)/\yww w (usV xs) v:=by
 obtain⟨xs,a,b,_⟩:=ybbd (f:=fun x:Nat=>[SV.i .u32 (x:Int)]) (p:=fun x=>x<2^32) 0 (z:=1) zM (by kernel_rfl) (by decide) (fun n c y a b=>by
  obtain⟨k,rfl,_,d⟩:=DataW.trod_int Tryz.underlying27 a;have e:=bounds_u32 d;obtain⟨m,rfl⟩:∃m:Nat,k=m:=⟨k.toNat,by omega⟩
  exact⟨m,by omega,(ybcv w .u32 m).cons (yblh.nil w),rfl,rfl⟩) h
 refine⟨xs,fun k=>?_,b⟩;rcases zV k xs.length with q|q
 .rw[zC,zB q];exact a _ (zO q)
 .rw[zC,zF q];decide
theorem ybra{l:List Int}(h:∀x∈l,I64 x)(k:Nat):inK .i64 (l.getD k 0):=by
 have:I64 (l.getD k 0):=by
  rcases zV k l.length with q|q
  .rw[zC,zB q];exact h _ (zO q)
  .rw[zC,zF q];exact yhd (by decide)
 exact this
theorem ybet{v:Value}{x:DataW H×List MemPlace}(h:DataW.trod enc zA w base (fun _=>true) held n 3 [v]=some x):∃k,inK .i64 k/\yww w (.i .i64 k) v:=by
 obtain⟨k,e,_,a⟩:=DataW.trod_int zI h;simp at e;subst e;exact⟨k,wf_i64 a,ybcv w .i64 k⟩
theorem ybak{v:Value}{x:DataW H×List MemPlace}(h:DataW.trod enc zA w base (fun _=>true) held n 4 [v]=some x):∃b,yww w (.b b) v:=by
 obtain⟨b,e,_⟩:=DataW.trod_bool zQ h;simp at e;subst e;exact⟨b,ycga w b⟩
theorem ycdw{y:Nat}{d:DataW H}{p:List MemPlace}(G:Value.okWide zA w .any y 24 v)(h:DataW.Trod enc zA w base (fun _=>true) held 24 v d p) :
 ∃(x:NetR) (u:Value),x.ok/\RV (memW w).b.get om0 (.ag (netC x)) u/\VR (phiW w) u v:=by
 obtain⟨v0,v1,U,V,W,X,y0,y1,y2,y3,y4,y5,n,rfl,A,B,C,D,E,F⟩:=ybwv Tryz.underlying24 (by kernel_rfl) (by kernel_rfl) G h
 obtain⟨k,K,c,l,N⟩:=ybet A;obtain⟨M,L,e,m,O⟩:=ypu B;obtain⟨Z,Y,f,o,Q⟩:=ypu C;obtain⟨J,I,g,q,R⟩:=ypu D;obtain⟨t,i,r,S⟩:=ybak E;obtain⟨z,j,s,T⟩:=ybak F;refine⟨⟨k,M,Z,J,t,z⟩,.agg [c,e,f,g,i,j].toArray,⟨K,ybra L,ybra Y,ybra I⟩,.ag (.cons N (.cons O (.cons Q (.cons R (.cons S (.cons T .nil)))))),?_⟩;exact .agg (a:=[c,e,f,g,i,j]) (a':=[v0,v1,U,V,W,X]) (.cons (yji l) (.cons (yji m) (.cons (yji o) (.cons (yji q) (.cons (yji r) (.cons (yji s) .nil))))))
end
end Sh
end
section
open Go.ChangeShapes Go.WideShapes Go.ChangeAt Go.RowKit Go.Joins Go.WideMaps Go.WideElems
set_option linter.unusedVariables false
set_option maxRecDepth 100000 in
theorem ylp(W:World)(h:laidMetH zA Rows.topLayersRunAloneRow.laid W):Ev.GlW W:=fun x d=>by
 rw[MakeChecks.laidMetH_plain _ _ _ (by kernel_rfl)]at h
 have b : Tryz.prog.globalNamed "math/bits.deBruijn32tab" = some 0 := by kernel_rfl
 have a:=Lib.tabIs_of_head (rest:=[]) (k:=.u8) (zs:=([0,1,28,2,29,14,24,3,30,22,20,15,25,17,4,8,31,27,13,23,21,19,16,7,26,12,18,6,11,5,10,9]:List Int)) (t:=238) (e:=5) (n:=32) b (by kernel_rfl) (by kernel_rfl) (by kernel_rfl) (by kernel_rfl) (by kernel_rfl) h
 unfold Lib.TabIs World.var? at a;rw[b]at a;simp only[Option.bind_some]at a;split at a
 .rename_i f e g c
  obtain rfl:=Option.some.inj a;obtain rfl:=Option.some.inj d;exact⟨_,_,c⟩
 .cases a
set_option maxRecDepth 100000 in
theorem yll(os:Os)(args:Array Value):laidMetH zA Rows.topLayersRunAloneRow.laid ((World.doorLaid zA 14 os).forCall (fun _ _=>0) ⟨#[],args,[]⟩).memory :=
 laidMetH_of_parts3 (fuel:=8) (laidMet_of_run' 8 (by kernel_rfl) (by kernel_rfl)) (by kernel_rfl) (by kernel_rfl)
set_option maxRecDepth 100000 in
theorem yjp(os:Os)(f:os.Started)(H:Type)(enc:TypeId×Value->H) :
 ReturnsInHanded {} zJ os 3 .any (fun w args=>(Rows.topLayersRunAloneSpec.pre enc zA zK [] false w args/\laidMetH zA Rows.topLayersRunAloneRow.laid w)/\sizedMet enc zA zK (OpenSpec.ofChange Rows.topLayersRunAloneSpec) false w args)
  (Rows.topLayersRunAloneSpec.post enc zA zK false true false false):=by
 refine returnsInHanded_of_change_and (C:=zJ) (X:=fun w _=>laidMetH zA Rows.topLayersRunAloneRow.laid w) (fun _ _ _ hh h=>h.of_heap hh) own f (by kernel_rfl) zS
  (ChangeSpec.witness_shaped (enc:=enc) (C:=zJ) (os:=os) (X:=fun w _=>laidMetH zA Rows.topLayersRunAloneRow.laid w) false (World.doorLaid zA 14 os) #[.int .i64 0,.agg #[.int .i64 0,.slice .none 0 0,.slice .none 0 0,.slice .none 0 0,.bool false,.bool false],.slice .none 0 0,.slice .none 0 0] 8 rfl (World.shaped_of_RefB (by kernel_rfl) (by kernel_rfl)) (by kernel_rfl) (by kernel_rfl) (by kernel_rfl) (yll os _)) ?_
 intro W r args ds gs u d hW _ _ hL _;have a:∀(j:Nat) t v,Tryz.f3.params[j]?=some t->args[j]?=some v->Value.okWide zA W .any r t v:=d;have y:=hW;obtain⟨p,q,s,hV,rfl,a8,a9⟩:=hW;have Z:DataW.TrodAll enc zA W 0 (fun _=>true) true Tryz.f3.params.toList args.toList ds p:=s;rw[Tryz.params3]at Z a;obtain⟨v0,b0,d0,a4,p0,q0,z,rfl,rfl,T,r0⟩:=trodAll_cons Z;obtain⟨v1,b1,d1,a5,p1,q1,rfl,rfl,rfl,U,r1⟩:=trodAll_cons r0
 obtain⟨v2,b2,d2,a6,p2,q2,rfl,rfl,rfl,V,r2⟩:=trodAll_cons r1;obtain⟨v3,b3,d3,a7,p3,q3,rfl,rfl,rfl,Y,r3⟩:=trodAll_cons r2;obtain⟨rfl,rfl,rfl⟩:=trodAll_nil r3;obtain rfl:args = #[v0,v1,v2,v3]:=by cases args;simp_all
 obtain⟨rfl,rfl⟩:=trodVars_none hV;have k0:=T;have k1:=U;have k2:=V;have k3:=Y;have J:∀x∈p0,x.block<W.heap.size:=by obtain⟨m,o⟩:=k0;exact DataW.trod_lt m _ _ _ o
 have K:∀x∈p1,x.block<W.heap.size:=by obtain⟨m,o⟩:=k1;exact DataW.trod_lt m _ _ _ o
 have L:∀x∈p2,x.block<W.heap.size:=by obtain⟨m,o⟩:=k2;exact DataW.trod_lt m _ _ _ o
 have M:∀x∈p3,x.block<W.heap.size:=by obtain⟨m,o⟩:=k3;exact DataW.trod_lt m _ _ _ o
 obtain⟨m0,A⟩:=T;obtain⟨n0,rfl⟩:=okWide_int zI (a 0 3 v0 rfl rfl);obtain⟨x0,E,u0,a0,N⟩:=Sh.ybet (v:=.int .i64 n0) A;obtain⟨x1,u1,F,O,a1⟩:=Sh.ycdw (a 1 24 v1 rfl rfl) U;obtain⟨m2,B⟩:=V;obtain⟨R,l,g,rfl⟩:=okWide_slice zL (a 2 22 v2 rfl rfl);obtain⟨x2,G,u2,a2,P⟩:=Sh.ypu (v:=.slice R l g) B;obtain⟨m3,D⟩:=Y;obtain⟨S,n,k,rfl⟩:=okWide_slice zM (a 3 25 v3 rfl rfl);obtain⟨x3,I,u3,a3,Q⟩:=Sh.ycon (v:=.slice S n k) D
 clear s d
 have ha:Sh.RVL (Sh.memW W).b.get Sh.om0 [.i .i64 x0,.ag (Sh.netC x1),Sh.yj x2,Sh.usV x3] [u0,u1,u2,u3]:=.cons N (.cons O (.cons P (.cons Q .nil)));have hv:Ev.VRL (Sh.phiW W) [u0,u1,u2,u3] [.int .i64 n0,v1,.slice R l g,.slice S n k]:=.cons (Sh.yji a0) (.cons a1 (.cons (Sh.yji a2) (.cons (Sh.yji a3) .nil)));refine(Sh.ybri (Sh.ybbz E F (Sh.ybra G) I) ⟨_,_,zS,rfl⟩ Ev.ybcu (ylp W hL) ha hv).mono fun e W' ⟨he,c⟩=>?_
 subst he;exact⟨_,rfl,_,_,_,[],_,[],y,trodAll_mk1 (shut_bool zQ _),(trodAll_cons_mk (Below.trod laidOut (by kernel_rfl) (of_decide_eq_true (by kernel_rfl)) k0 c J) (trodAll_cons_mk (Below.trod laidOut (by kernel_rfl) (of_decide_eq_true (by kernel_rfl)) k1 c K) (trodAll_cons_mk (Below.trod laidOut (by kernel_rfl) (of_decide_eq_true (by kernel_rfl)) k2 c L) (trodAll_cons_mk (Below.trod laidOut (by kernel_rfl) (of_decide_eq_true (by kernel_rfl)) k3 c M) trodAll_mk0)))),rfl,c.frame _,fun h=>by cases h⟩
end
section
def ioN:List Nat:=[104,97,114,110,101,115,115,32,101,97,54,50,99,49,55,99,99,100,54,102,49,49,57,102,48,49,52,53,53,51,57,100,99,98,56,99,56,53,52,99,56,52,102,98,102,99,102,51,50,98,48,101,53,50,101,100,102,53,102,99,54,102,56,55,97,50,56,97,49,98,97,56,32,99,117,116,32,97,116,32,115,101,108,102,115,116,97,98,47,115,101,108,102,115,116,97,98,116,111,112,46,84,111,112,76,97,121,101,114,115,82,117,110,65,108,111,110,101]
theorem ydon:Tryz.prog.initOrder=String.ofList (ioN.map Char.ofNat):=by kernel_rfl
theorem ybds:Tryz.prog.initOrder.toList=ioN.map Char.ofNat:=by rw[ydon];exact String.toList_ofList
theorem ydal (P : Program) {l c : List Char} {rest : List (List Char)} (h : P.initOrder.toList = l) (d : behindMainWord (wordsSigns l) = c :: rest) (a : (c == "gc".toList || c == "spec".toList) = false) (b : (c == "cut".toList) = true) : P.make = some Make.cut := by
 unfold Program.make;rw[h,d];simp only[a,b];simp
theorem ycmn (P : Program) {l c : List Char} {rest : List (List Char)} (h : P.initOrder.toList = l) (g : behindMainWord (wordsSigns l) = c :: rest) (e : (stripLifts liftWords (c :: rest)).1 = []) (a : ((stripLifts liftWords (c :: rest)).2.head? == some "cut".toList) = true)
 (b:P.bearsReflect=false) (d:P.laysLater=false) (f:P.doorFits []=true):P.mayEnter=true:=by
 unfold Program.mayEnter;rw[h,g];simp only[e,a,b,d,f];simp
theorem ydbn : behindMainWord (wordsSigns (ioN.map Char.ofNat)) = "cut".toList :: (behindMainWord (wordsSigns (ioN.map Char.ofNat))).tail := by kernel_rfl
theorem ycye:Tryz.prog.make=some Make.cut:=ydal _ ybds ydbn (by kernel_rfl) (by kernel_rfl)
theorem ycjy:Tryz.prog.mayEnter=true:=ycmn _ ybds ydbn (by kernel_rfl) (by kernel_rfl) (by kernel_rfl) (by kernel_rfl) (by kernel_rfl)
def ioH:List Nat:=[101,97,54,50,99,49,55,99,99,100,54,102,49,49,57,102,48,49,52,53,53,51,57,100,99,98,56,99,56,53,52,99,56,52,102,98,102,99,102,51,50,98,48,101,53,50,101,100,102,53,102,99,54,102,56,55,97,50,56,97,49,98,97,56]
theorem ycus : "ea62c17ccd6f119f0145539dcb8c854c84fbfcf32b0e52edf5fc6f87a28a1ba8".toList = ioH.map Char.ofNat := by
 have h : "ea62c17ccd6f119f0145539dcb8c854c84fbfcf32b0e52edf5fc6f87a28a1ba8" = String.ofList (ioH.map Char.ofNat) := by kernel_rfl
 rw[h];exact String.toList_ofList
theorem ycxh (P : Program) {l h s : List Char} {rest : List (List Char)} (c : P.initOrder.toList = l) (a : wordsSigns l = h :: s :: rest) (d : isSumSigns s = true) (b : (h == "harness".toList) = true) : P.mainIs = some (true, s) := by
 unfold Program.mainIs;rw[c,a];simp only[d,b];simp
theorem ydoc:wordsSigns (ioN.map Char.ofNat)=([104,97,114,110,101,115,115]:List Nat).map Char.ofNat::ioH.map Char.ofNat::(wordsSigns (ioN.map Char.ofNat)).tail.tail:=by kernel_rfl
theorem ycyl : Tryz.prog.mainIs = some (true, "ea62c17ccd6f119f0145539dcb8c854c84fbfcf32b0e52edf5fc6f87a28a1ba8".toList) := by
 rw[ycus];exact ycxh _ ybds ydoc (by kernel_rfl) (by kernel_rfl)
theorem ycsg:true=Tryz.prog.looks []:=by kernel_rfl
theorem ycqg:Tryz.prog.liftsFinal=false:=by
 unfold Program.liftsFinal Program.headLifts;rw[ybds]
 kernel_rfl
end
section
open Go.ChangeShapes Go.WideShapes Go.ChangeAt Go.RowKit Go.Joins Go.WideMaps Go.WideElems
set_option linter.unusedVariables false
theorem ynt:(Rows.topLayersRunAloneRow.inPlace==Tryz.prog.inPlace 3)=true:=by kernel_rfl
theorem ynl:(Rows.topLayersRunAloneRow.unfollowed==Tryz.prog.unfollowed 3)=true:=by kernel_rfl
theorem ynu:(Rows.topLayersRunAloneRow.recurses==Tryz.prog.recurses 3)=true:=by kernel_rfl
theorem yns:(Rows.topLayersRunAloneRow.named==Tryz.prog.varsNamed 3)=true:=by kernel_rfl
theorem ynm:laidOutB zA=true:=by kernel_rfl
theorem ynn:mapsRowed zA=true:=by kernel_rfl
theorem yhp:Tryz.prog.funcNamed Rows.topLayersRunAloneRow.func=some 3:=by kernel_rfl
theorem ynv:Rows.topLayersRunAloneRow.wf (OpenSpec.ofChange Rows.topLayersRunAloneSpec)=true:=by kernel_rfl
theorem ykg:joinedFacts zA 3 zK Rows.topLayersRunAloneSpec Rows.topLayersRunAloneRow=true:=by
 unfold joinedFacts
 repeat' (with_reducible refine Bool.and_eq_true_iff.2 ⟨?_,?_⟩)
 all_goals first|(with_reducible exact ynt)|(with_reducible exact ynl)|(with_reducible exact ynu)|(with_reducible exact yns)|(with_reducible exact ynm)|(with_reducible exact ynn)|(with_reducible exact ynv)|(with_reducible exact ycjy)|(rw[ycqg];rfl)|(rw[ycye];rfl)|kernel_rfl
theorem ylr:Tryz.f3.isInstance zA Rows.topLayersRunAloneRow.origin Rows.topLayersRunAloneRow.targs:=of_decide_eq_true (by kernel_rfl)
theorem ylq:Tryz.f3.isWrapper zA Rows.topLayersRunAloneRow.wrapper Rows.topLayersRunAloneRow.mainSum:=by
 unfold Func.isWrapper
 first|(rw[if_pos (by decide +kernel)];kernel_rfl)|(rw[if_neg (by decide +kernel)];exact⟨rfl,rfl⟩)
theorem ylm:Rows.TopLayersRunAloneSaid :=
 OpenClaim.holds_of_wide 3 zK rfl rfl rfl rfl rfl rfl rfl ⟨rfl,rfl,rfl,rfl,rfl⟩ rfl rfl rfl rfl rfl yhp zS ykg ylr ylq
  (fun os a H enc _=>yjp os a H enc)
end
end Go.Proofs.YtlbonpgkofloeaaGreatDoor
