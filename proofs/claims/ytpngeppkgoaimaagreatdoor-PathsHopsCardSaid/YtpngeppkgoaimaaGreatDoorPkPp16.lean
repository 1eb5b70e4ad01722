/- Lemmas, joined: SiE SiF SiG Pa Pb Pc Pd Run ScLd LdB LdC LdG RowA ShW RowB RowC RvG. -/
import Derived.Test.YtpngeppkgoaimaaGreatDoorPkPp15
import Derived.Test.YtpngeppkgoaimaaGreatDoorPkPp14
import Derived.Test.YtpngeppkgoaimaaGreatDoorPkPp11
import Derived.Test.YtpngeppkgoaimaaGreatDoorPkPp13
import Derived.Test.YtpngeppkgoaimaaGreatDoorPkPp8
import Derived.ProofKit
import Derived.OpenShut
import Derived.ShutString
import Derived.ChangeOld
import Derived.Deep.Matrix
import Derived.Lib.SmallJoins
import Derived.Test.YtpngeppkgoaimaaGreatDoorPkPp7
import Derived.Test.YtpngeppkgoaimaaGreatDoorPkPp10
set_option linter.unusedSimpArgs false
set_option linter.unusedVariables false
namespace Go.Proofs.YtpngeppkgoaimaaGreatDoor
open Go
def ygn(back:Bool)(g:Gr)(a b:Nat)(w:Int):Gr:=if a=b\/yjy (g.ports.getD a []) b=true then g else ybt back g a b w
namespace Sh
open Ev Go.RowKit
set_option maxRecDepth 8000
def rowO(l:List (Int × Int)):OB:=⟨43,false,2,l.length,fun k=>[.i .i64 (l.getD k (0,0)).1,.i .i64 (l.getD k (0,0)).2]⟩
def ycf(ports:List (List (Int × Int))):Own:=[(211,.one (some ⟨41,false,1,ports.length,fun v=>[.os (212,v) 0 (ports.getD v []).length true]⟩)),
 (212,.many fun v=>if v<ports.length then some (rowO (ports.getD v []))else none)]
def ygj(g:Gr):SV:=.ag [yj g.ids,.os (211,0) 0 g.ports.length true]
theorem yci{i n:Nat}{x b:OB}(h:(if i<n then some x else none)=some b):i<n/\b=x:=by
 split at h
 ·cases h;exact⟨by assumption,rfl⟩
 ·cases h
theorem ybn(back:Bool)(L:List (Int × Int))(x:Int × Int):(addL back L x).length=L.length+1:=by
 unfold addL;cases back<;>simp
theorem ybag(L:List (Int × Int))(x:Int × Int){k:Nat}(hk:k<L.length+1):(if k<L.length then[SV.i .i64 (L.getD k (0,0)).1,SV.i .i64 (L.getD k (0,0)).2]else List.take 2 (List.drop ((k - L.length) * 2) [SV.i .i64 x.1,SV.i .i64 x.2])) = [SV.i .i64 ((addL false L x).getD k (0,0)).1,SV.i .i64 ((addL false L x).getD k (0,0)).2]:=by
 show _ = [SV.i .i64 ((L ++ [x]).getD k (0,0)).1,SV.i .i64 ((L ++ [x]).getD k (0,0)).2];rw[yri]
 by_cases h:k<L.length
 ·rw[if_pos h,if_pos h]
 ·obtain rfl:k=L.length:=by omega
  rw[if_neg h,if_neg h,if_pos rfl,Nat.sub_self];rfl
theorem yky(L:List (Int × Int))(x:Int × Int)(k:Nat):(if k<1 then List.take 2 (List.drop (k * 2) [SV.i .i64 x.1,SV.i .i64 x.2])else[SV.i .i64 (L.getD (k - 1) (0,0)).1,SV.i .i64 (L.getD (k - 1) (0,0)).2]) = [SV.i .i64 ((addL true L x).getD k (0,0)).1,SV.i .i64 ((addL true L x).getD k (0,0)).2]:=by
 show _ = [SV.i .i64 ((x :: L).getD k (0,0)).1,SV.i .i64 ((x :: L).getD k (0,0)).2];cases k with
 | zero=>rfl
 | succ k=>rw[if_neg (by omega)];rfl
theorem cells_one(L:List (Int × Int))(h:L.length=0)(x:Int × Int){k:Nat}(hk:k<1):List.take 2 (List.drop (k * 2) [SV.i .i64 x.1,SV.i .i64 x.2]) = [SV.i .i64 ((addL true L x).getD k (0,0)).1,SV.i .i64 ((addL true L x).getD k (0,0)).2]:=by
 obtain rfl:k=0:=by omega
 rfl
theorem yhd {n:Nat} {o:Own} {P':List (List (Int × Int))} (hl:P'.length=n) (A:Nat->Nm) {R:Nat->List SV} (h11:lookO o (211,0)=some ⟨41,false,1,n,R⟩) (hR:∀ v,v<n->R v = [.os (A v) 0 (P'.getD v []).length true])
  (hA:∀ v,v<n -> ∃ q,lookO o (A v)=some ⟨43,false,2,(P'.getD v []).length,q⟩ /\ ∀ k,k<(P'.getD v []).length->q k = [.i .i64 ((P'.getD v []).getD k (0,0)).1,.i .i64 ((P'.getD v []).getD k (0,0)).2])
  (hi:∀ u v,u<n->v<n->A u=A v->u=v) (h0:∀ v,v<n->A v ≠ (211,0)) :
  ∃ r o',Weak [(211,0)] ⟨[(0,.tp [])],o⟩ ⟨[(0,r)],o'⟩/\(cln (live o') 5 r=true/\allQ (fun p=>famCln (live o') p.2) o'/\allQ (fun β=>live o' β=true) [(211,0)])/\r = .tp []/\o'=ycf P':=by
 subst hl
 have hsome:∀ i,(if i<P'.length then some (rowO (P'.getD i []))else none).isSome=true->i<P'.length:=fun i h=>by
  by_cases q:i<P'.length
  ·exact q
  ·rw[if_neg q]at h;cases h
 have hlive:∀ i,i<P'.length->live (ycf P') (212,i)=true:=fun i hi=>by
  show(if i<P'.length then some (rowO (P'.getD i []))else none).isSome=true
  rw[if_pos hi];rfl
 refine⟨.tp [],ycf P',ybdt [(212,A)] [] [] trivial ⟨.inr ⟨.inr fun e=>⟨rfl,rfl⟩,.inr fun j hj e=>?_,trivial⟩,.inr ⟨.inr fun i hi' e=>?_,.inr fun i hi' j hj e=>⟨rfl,?_⟩,trivial⟩,trivial⟩ ⟨?_,trivial⟩ ⟨?_,fun i b hb=>?_,trivial⟩ ⟨⟨rfl,rfl,rfl⟩,trivial⟩,⟨rfl,⟨?_,?_,trivial⟩,rfl,trivial⟩,rfl,rfl⟩
 ·exact absurd e.symm (h0 j (hsome j hj))
 ·exact absurd e (h0 i (hsome i hi'))
 ·exact hi i j (hsome i hi') (hsome j hj) e
 ·exact⟨_,rfl,.inl ⟨trivial,Sim.refl _,rfl⟩⟩
 ·refine⟨_,h11,⟨rfl,rfl,rfl,rfl,rfl⟩,fun i hi'=>?_⟩;have hi':i<P'.length:=hi';show telL _ _ _ _ _ (R i) _;rw[hR i hi'];refine⟨.inl ⟨by simp only[go_sem],Sim.refl _,?_⟩,rfl,trivial⟩
  show(live (ycf P') (212,i) && !(List.elem 212 []))=true;rw[hlive i hi'];rfl
 ·obtain⟨hi',rfl⟩:=yci hb;obtain⟨q,q1,q2⟩:=hA i hi';refine⟨_,q1,⟨rfl,rfl,rfl,rfl,rfl⟩,fun k hk=>?_⟩;show telL _ _ _ _ _ (q k) _;rw[q2 k hk];exact⟨.inl ⟨trivial,Sim.refl _,rfl⟩,rfl,.inl ⟨trivial,Sim.refl _,rfl⟩,rfl,trivial⟩
 ·intro k hk;have:live (ycf P') (212,k)=true:=hlive k hk;simp only[ycf,List.all_cons,List.all_nil,Bool.and_true]at this ⊢;exact this
 ·intro i b hb k hk;obtain⟨hi',rfl⟩:=yci hb;rfl
section
variable {x:NetR} {g:Gr} {a b:Nat} {w:Int}
theorem ybum(ha:a<g.ports.length)(hb:b<g.ports.length)(hn:g.ports.length<=24)(hd:∀ v,(g.ports.getD v []).length<=1000) :
  Cm Tryz.prog 87 [(211,0)] (ycf g.ports) [.ag (netC x),ygj g,.i .i64 a,.i .i64 b,.i .i64 w] fun r o=>r = .tp []/\o=ycf (ygn x.back g a b w).ports:=by
 refine ycrd [(211,0)] [] _ _ _ ?_;obtain⟨O2,hO2⟩:∃ O,ycf (ygn x.back g a b w).ports=O:=⟨_,rfl⟩;rw[hO2]
 by_cases hab:a=b
 ·subst hab;have hP:ygn x.back g a a w=g:=if_pos (.inl rfl);rw[hP]at hO2;simp only[c87,ycwg,yctb,netC,ygj,ycf,yfj,go_sem,Nat.reduceEqDiff,Nat.reduceAdd,Nat.reduceLT,↓reduceIte,reduceCtorEq];subst hO2;exact yhd rfl (fun v=>(212,v)) rfl (fun v hv=>rfl) (fun v hv=>⟨_,if_pos hv,fun k hk=>rfl⟩) (fun u v _ _ e=>congrArg Prod.snd e) (fun v _ e=>by cases e)
 ·have hne:((a:Int) == (b:Int))=false:=by rw[beq_eq_false_iff_ne];omega
  have hL:=ybid (ids:=g.ids) (ports:=g.ports) (b:=b) ha (by have:=hd a;omega)
  simp only[c87,ycwg,yctb,netC,ygj,ycf,hne,clash,go_sem,Nat.reduceEqDiff,Nat.reduceAdd,Nat.reduceLT,↓reduceIte,reduceCtorEq];refine .inl ⟨fun q hq=>by rw[if_pos hq];exact⟨Nat.le_refl _,fun k hk=>by simp only[rowO,go_sem]⟩,hL.useS ?_ ?_⟩
  ·refine⟨yny ⟨Sim.refl _,?_,trivial⟩,Sim.refl _,Sim.refl _,trivial⟩;refine yhl fun q hq=>?_;rw[if_pos hq];simp only[rowO,yba,go_sem];exact⟨Sim.refl _,trivial⟩
  cases hlk:yjy (g.ports.getD a []) b with
  | true =>
   have hP:ygn x.back g a b w=g:=if_pos (.inr hlk);rw[hP]at hO2;simp only[thenO,clash,yfj,go_sem,Nat.reduceEqDiff,Nat.reduceAdd,↓reduceIte];subst hO2;exact yhd rfl (fun v=>(212,v)) rfl (fun v hv=>rfl) (fun v hv=>⟨_,if_pos hv,fun k hk=>rfl⟩) (fun u v _ _ e=>congrArg Prod.snd e) (fun v _ e=>by cases e)
  | false =>
   have hP:ygn x.back g a b w=ybt x.back g a b w:=if_neg (fun q=>by rcases q with q | q;exact hab q;rw[hlk]at q;cases q)
   rw[hP]at hO2;subst hO2;have hba:¬ b=a:=fun e=>hab e.symm;have hlen:(ybt x.back g a b w).ports.length=g.ports.length:=by simp[ybt]
   have hat:=ydc x.back g w ha hb;obtain⟨G',hG'⟩:∃ G,(ybt x.back g a b w).ports=G:=⟨_,rfl⟩;rw[hG']at hlen ⊢;have hat:∀ v,G'.getD v []=if v=b then addL x.back (g.ports.getD b []) (a,w)else if v=a then addL x.back (g.ports.getD a []) (b,w)else g.ports.getD v []:=fun v=>by rw[<- hG'];exact hat v
   clear hG' hP
   obtain⟨x1,x2,x3,x4,x5,back⟩:=x;have hda:=hd a;have hdb:=hd b;cases back with
   | false =>
    simp only[thenO,clash,ybjt,ybjb,yddi,rowO,if_pos ha,if_pos hb,hab,hba,yfj,and_false,go_sem,Nat.reduceEqDiff,Nat.reduceAdd,Nat.reduceLeDiff,Nat.reduceLT,↓reduceIte,reduceCtorEq];refine⟨⟨by omega,by omega⟩,by omega,⟨by omega,by omega⟩,by decide,⟨by omega,by omega⟩,by omega,⟨by omega,by omega⟩,by decide,⟨by omega,by omega⟩,by omega,by decide,⟨by omega,by omega⟩,by omega,by decide,?_⟩
    refine yhd hlen (fun v=>if v=b then(74,0)else if v=a then(66,0)else(212,v)) rfl (fun v hv=>?_) (fun v hv=>?_) (fun u v _ _ e=>?_) (fun v _ e=>?_)
    ·rw[hat v]
     by_cases q:v=b
     ·simp only[if_pos q,ybn]
     ·by_cases q2:v=a
      ·simp only[if_neg q,if_pos q2,ybn]
      ·simp only[if_neg q,if_neg q2]
    ·rw[hat v]
     by_cases q:v=b
     ·simp only[if_pos q,ybn];exact⟨_,rfl,fun k hk=>ybag _ (_,_) hk⟩
     ·by_cases q2:v=a
      ·simp only[if_neg q,if_pos q2,ybn];exact⟨_,rfl,fun k hk=>ybag _ (_,_) hk⟩
      ·simp only[if_neg q,if_neg q2];refine⟨fun k=>[.i .i64 ((g.ports.getD v []).getD k (0,0)).1,.i .i64 ((g.ports.getD v []).getD k (0,0)).2],?_,fun k hk=>rfl⟩;show(if v=b then none else if v=a then none else if v<g.ports.length then some _ else none)=some _
       rw[if_neg q,if_neg q2,if_pos hv]
    ·by_cases q:u=b<;>by_cases q2:u=a<;>by_cases q3:v=b<;>by_cases q4:v=a<;>simp[q,q2,q3,q4,hab]at e ⊢<;>omega
    ·by_cases q:v=b<;>by_cases q2:v=a<;>simp[q,q2,hab]at e
   | true =>
    by_cases hza:(g.ports.getD a []).length=0
    ·by_cases hzb:(g.ports.getD b []).length=0
     ·simp only[thenO,clash,ybjt,ybjb,ybqc,ybra,rowO,if_pos ha,if_pos hb,hba,yfj,and_false,hza,hzb,go_sem,Nat.reduceEqDiff,Nat.reduceAdd,Nat.reduceLeDiff,Nat.reduceLT,Nat.reduceMul,↓reduceIte,reduceCtorEq]
      repeat' apply And.intro
      all_goals first | omega | decide | skip
      refine yhd hlen (fun v=>if v=b then(45,0)else if v=a then(33,0)else(212,v)) rfl (fun v hv=>?_) (fun v hv=>?_) (fun u v _ _ e=>?_) (fun v _ e=>?_)
      ·rw[hat v]
       by_cases q:v=b
       ·simp only[if_pos q,ybn,hzb,Nat.zero_add]
       ·by_cases q2:v=a
        ·simp only[if_neg q,if_pos q2,ybn,hza,Nat.zero_add]
        ·simp only[if_neg q,if_neg q2]
      ·rw[hat v]
       by_cases q:v=b
       ·simp only[if_pos q,ybn,hzb,Nat.zero_add];exact⟨_,rfl,fun k hk=>cells_one _ hzb (_,_) hk⟩
       ·by_cases q2:v=a
        ·simp only[if_neg q,if_pos q2,ybn,hza,Nat.zero_add];exact⟨_,rfl,fun k hk=>cells_one _ hza (_,_) hk⟩
        ·simp only[if_neg q,if_neg q2];refine⟨fun k=>[.i .i64 ((g.ports.getD v []).getD k (0,0)).1,.i .i64 ((g.ports.getD v []).getD k (0,0)).2],?_,fun k hk=>rfl⟩;show(if v<g.ports.length then some _ else none)=some _
         rw[if_pos hv]
      ·by_cases q:u=b<;>by_cases q2:u=a<;>by_cases q3:v=b<;>by_cases q4:v=a<;>simp[q,q2,q3,q4,hab]at e ⊢<;>omega
      ·by_cases q:v=b<;>by_cases q2:v=a<;>simp[q,q2,hab]at e
     ·simp only[thenO,clash,ybjt,ybjb,ybqc,ybra,rowO,if_pos ha,if_pos hb,hba,yfj,and_false,hza,hzb,go_sem,Nat.reduceEqDiff,Nat.reduceAdd,Nat.reduceLeDiff,Nat.reduceLT,Nat.reduceMul,↓reduceIte,reduceCtorEq]
      repeat' apply And.intro
      all_goals first | omega | decide | skip
      refine yhd hlen (fun v=>if v=b then(51,0)else if v=a then(33,0)else(212,v)) rfl (fun v hv=>?_) (fun v hv=>?_) (fun u v _ _ e=>?_) (fun v _ e=>?_)
      ·rw[hat v]
       by_cases q:v=b
       ·simp only[if_pos q,ybn,Nat.add_comm]
       ·by_cases q2:v=a
        ·simp only[if_neg q,if_pos q2,ybn,hza,Nat.zero_add,Nat.add_comm]
        ·simp only[if_neg q,if_neg q2]
      ·rw[hat v]
       by_cases q:v=b
       ·simp only[if_pos q,ybn];exact⟨_,congrArg some (congrArg (fun n=>OB.mk _ _ _ n _) (Nat.add_comm _ _)),fun k hk=>yky _ (_,_) k⟩
       ·by_cases q2:v=a
        ·simp only[if_neg q,if_pos q2,ybn,hza,Nat.zero_add];exact⟨_,rfl,fun k hk=>cells_one _ hza (_,_) hk⟩
        ·simp only[if_neg q,if_neg q2];refine⟨fun k=>[.i .i64 ((g.ports.getD v []).getD k (0,0)).1,.i .i64 ((g.ports.getD v []).getD k (0,0)).2],?_,fun k hk=>rfl⟩;show(if v<g.ports.length then some _ else none)=some _
         rw[if_pos hv]
      ·by_cases q:u=b<;>by_cases q2:u=a<;>by_cases q3:v=b<;>by_cases q4:v=a<;>simp[q,q2,q3,q4,hab]at e ⊢<;>omega
      ·by_cases q:v=b<;>by_cases q2:v=a<;>simp[q,q2,hab]at e
    ·by_cases hzb:(g.ports.getD b []).length=0
     ·simp only[thenO,clash,ybjt,ybjb,ybqc,ybra,rowO,if_pos ha,if_pos hb,hba,yfj,and_false,hza,hzb,go_sem,Nat.reduceEqDiff,Nat.reduceAdd,Nat.reduceLeDiff,Nat.reduceLT,Nat.reduceMul,↓reduceIte,reduceCtorEq]
      repeat' apply And.intro
      all_goals first | omega | decide | skip
      refine yhd hlen (fun v=>if v=b then(45,0)else if v=a then(39,0)else(212,v)) rfl (fun v hv=>?_) (fun v hv=>?_) (fun u v _ _ e=>?_) (fun v _ e=>?_)
      ·rw[hat v]
       by_cases q:v=b
       ·simp only[if_pos q,ybn,hzb,Nat.zero_add,Nat.add_comm]
       ·by_cases q2:v=a
        ·simp only[if_neg q,if_pos q2,ybn,Nat.add_comm]
        ·simp only[if_neg q,if_neg q2]
      ·rw[hat v]
       by_cases q:v=b
       ·simp only[if_pos q,ybn,hzb,Nat.zero_add];exact⟨_,rfl,fun k hk=>cells_one _ hzb (_,_) hk⟩
       ·by_cases q2:v=a
        ·simp only[if_neg q,if_pos q2,ybn];exact⟨_,congrArg some (congrArg (fun n=>OB.mk _ _ _ n _) (Nat.add_comm _ _)),fun k hk=>yky _ (_,_) k⟩
        ·simp only[if_neg q,if_neg q2];refine⟨fun k=>[.i .i64 ((g.ports.getD v []).getD k (0,0)).1,.i .i64 ((g.ports.getD v []).getD k (0,0)).2],?_,fun k hk=>rfl⟩;show(if v<g.ports.length then some _ else none)=some _
         rw[if_pos hv]
      ·by_cases q:u=b<;>by_cases q2:u=a<;>by_cases q3:v=b<;>by_cases q4:v=a<;>simp[q,q2,q3,q4,hab]at e ⊢<;>omega
      ·by_cases q:v=b<;>by_cases q2:v=a<;>simp[q,q2,hab]at e
     ·simp only[thenO,clash,ybjt,ybjb,ybqc,ybra,rowO,if_pos ha,if_pos hb,hba,yfj,and_false,hza,hzb,go_sem,Nat.reduceEqDiff,Nat.reduceAdd,Nat.reduceLeDiff,Nat.reduceLT,↓reduceIte,reduceCtorEq]
      repeat' apply And.intro
      all_goals first | omega | decide | skip
      refine yhd hlen (fun v=>if v=b then(51,0)else if v=a then(39,0)else(212,v)) rfl (fun v hv=>?_) (fun v hv=>?_) (fun u v _ _ e=>?_) (fun v _ e=>?_)
      ·rw[hat v]
       by_cases q:v=b
       ·simp only[if_pos q,ybn,Nat.add_comm]
       ·by_cases q2:v=a
        ·simp only[if_neg q,if_pos q2,ybn,Nat.add_comm]
        ·simp only[if_neg q,if_neg q2]
      ·rw[hat v]
       by_cases q:v=b
       ·simp only[if_pos q,ybn];exact⟨_,congrArg some (congrArg (fun n=>OB.mk _ _ _ n _) (Nat.add_comm _ _)),fun k hk=>yky _ (_,_) k⟩
       ·by_cases q2:v=a
        ·simp only[if_neg q,if_pos q2,ybn];exact⟨_,congrArg some (congrArg (fun n=>OB.mk _ _ _ n _) (Nat.add_comm _ _)),fun k hk=>yky _ (_,_) k⟩
        ·simp only[if_neg q,if_neg q2];refine⟨fun k=>[.i .i64 ((g.ports.getD v []).getD k (0,0)).1,.i .i64 ((g.ports.getD v []).getD k (0,0)).2],?_,fun k hk=>rfl⟩;show(if v<g.ports.length then some _ else none)=some _
         rw[if_pos hv]
      ·by_cases q:u=b<;>by_cases q2:u=a<;>by_cases q3:v=b<;>by_cases q4:v=a<;>simp[q,q2,q3,q4,hab]at e ⊢<;>omega
      ·by_cases q:v=b<;>by_cases q2:v=a<;>simp[q,q2,hab]at e
end
end Sh
end Go.Proofs.YtpngeppkgoaimaaGreatDoor

namespace Go.Proofs.YtpngeppkgoaimaaGreatDoor
open Go
theorem ysv{back:Bool}{g:Gr}{a b:Nat}{w:Int}(hg:yx g)(ha:a<g.ports.length)(hb:b<g.ports.length)(hw:1<=w/\w<=15):yx (ygn back g a b w)/\(ygn back g a b w).ids=g.ids/\(ygn back g a b w).ports.length=g.ports.length:=by
 unfold ygn
 by_cases h:a=b\/yjy (g.ports.getD a []) b=true
 ·rw[if_pos h];exact⟨hg,rfl,rfl⟩
 ·rw[if_neg h];refine⟨yxl hg ha hb (fun e=>h (.inl e)) hw fun l hl e=>h (.inr (List.any_eq_true.2 ⟨l,hl,decide_eq_true e⟩)),rfl,by simp[ybt]⟩
theorem yzc{back:Bool}{g:Gr}{a b:Nat}{w:Int}(ha:a<g.ports.length)(hb:b<g.ports.length){m:Nat}(h:Tre g m):Tre (ygn back g a b w) m:=by
 unfold ygn;split
 ·exact h
 ·exact h.add ha hb
theorem yblf{back:Bool}{g:Gr}{a b:Nat}{w:Int}(ha:a<g.ports.length)(hb:b<g.ports.length)(hab:a ≠ b):adj (ygn back g a b w) a b:=by
 unfold ygn;split
 ·rename_i h
  rcases h with h | h
  ·exact absurd h hab
  ·obtain⟨l,hl,e⟩:=List.any_eq_true.1 h;exact ykd.2 ⟨l,hl,of_decide_eq_true e⟩
 ·exact yben ha hb hab
theorem ybdf:∀ (l:List Nat) (i x:Nat) (h:i<l.length),(l.set i x).sum+l[i]=l.sum+x
 | a :: l,0,x,_=>by simp;omega
 | a :: l,i+1,x,h=>by
  have:=ybdf l i x (by simpa using h)
  simp only[List.set_cons_succ,List.sum_cons,List.getElem_cons_succ];omega
theorem ybhr{back:Bool}{g:Gr}{a b:Nat}{w:Int}(ha:a<g.ports.length)(hb:b<g.ports.length)(hab:a ≠ b):yti (ybt back g a b w)=yti g+2:=by
 unfold yti ybt;simp only[List.map_set,Sh.ybn];have h1:=ybdf (g.ports.map List.length) a ((g.ports.getD a []).length+1) (by simpa using ha)
 have h2:=ybdf ((g.ports.map List.length).set a ((g.ports.getD a []).length+1)) b ((g.ports.getD b []).length+1) (by simpa using hb)
 rw[List.getElem_set_ne hab,List.getElem_map,<- Sh.getD_at hb (d:=[])]at h2;rw[List.getElem_map,<- Sh.getD_at ha (d:=[])]at h1;omega
def WtF(x:NetR)(g:Gr):Prop:=∀ v l,l ∈ g.ports.getD v [] -> ∃ i,l.2=1+ycb (atP x.weights i) 15
theorem ybgp{x:NetR}{back:Bool}{g:Gr}{a b:Nat}{w:Int}(ha:a<g.ports.length)(hb:b<g.ports.length)(hw:∃ i,w=1+ycb (atP x.weights i) 15)(h:WtF x g):WtF x (ygn back g a b w):=by
 unfold ygn;split
 ·exact h
 ·intro v l hl;rw[ydc back g w ha hb]at hl;split at hl
  ·rcases ydt.1 hl with rfl | hl
   ·exact hw
   ·exact h _ _ hl
  ·split at hl
   ·rcases ydt.1 hl with rfl | hl
    ·exact hw
    ·exact h _ _ hl
   ·exact h _ _ hl
structure TreeTo(x:NetR)(v:Nat)(g:Gr):Prop where
 tre:Tre g v
 wt:WtF x g
 none_:∀ u,v<=u->g.ports.getD u [] = []
 count:yti g+2=2 * v
theorem yna(ids:List Int)(v:Nat):(bare ids).ports.getD v [] = []:=by
 unfold bare;rw[List.getD_eq_getElem?_getD,List.getElem?_replicate];split<;>rfl
theorem TreeTo.zero(x:NetR)(ids:List Int):TreeTo x 1 (bare ids):=by
 refine⟨fun v h0 h1=>by omega,fun v l hl=>?_,fun u _=>yna ids u,?_⟩
 ·rw[yna]at hl;exact absurd hl List.not_mem_nil
 ·have:yti (bare ids)=0:=by
   unfold yti bare;simp
  omega
theorem TreeTo.succ{x:NetR}{v:Nat}{g:Gr}(hg:yx g)(h:TreeTo x v g)(hv:v<g.ports.length)(h1:1<=v){a:Nat}(ha:a<v){w:Int}(hw:∃ i,w=1+ycb (atP x.weights i) 15):TreeTo x (v+1) (ygn x.back g a v w):=by
 have hadj:=yblf (back:=x.back) (g:=g) (a:=a) (b:=v) (w:=w) (by omega) (by omega) (by omega)
 have hno:¬ (a=v\/yjy (g.ports.getD a []) v=true):=by
  rintro(e | e)
  ·omega
  ·obtain⟨l,hl,e⟩:=List.any_eq_true.1 e;have e:=of_decide_eq_true e;have:adj g v a:=hg.adj_symm (ykd.2 ⟨l,hl,e⟩);obtain⟨l',hl',_⟩:=ykd.1 this;rw[h.none_ v (Nat.le_refl _)]at hl';exact absurd hl' List.not_mem_nil
 have e:ygn x.back g a v w=ybt x.back g a v w:=by unfold ygn;rw[if_neg hno]
 refine⟨fun u h0 hu=>?_,ybgp (by omega) hv hw h.wt,fun u hu=>?_,?_⟩
 ·by_cases q:u=v
  ·subst q;exact⟨a,ha,hadj⟩
  ·exact yzc (by omega) hv h.tre u h0 (by omega)
 ·rw[e,ydc x.back g w (by omega) hv,if_neg (by omega),if_neg (by omega)]
  exact h.none_ u (by omega)
 ·rw[e,ybhr (by omega) hv (by omega)]
  have:=h.count;omega
namespace Sh
open Ev Go.RowKit
set_option maxRecDepth 8000
theorem ywk{n:Nat}{P:List (List (Int × Int))}{f:SV->SV}(hf:∀ k z,f (.i k z) = .i k z){i:Nat}(hi:i<n):(match (if i<n then some (rowO (P.getD i []))else none)with | some b=>some (⟨b.e,b.bx,b.z,b.n,fun k=>(b.g k).map f⟩:OB) | none=>none)=some (rowO (P.getD i [])):=by
 rw[if_pos hi];simp[rowO,hf]
theorem ycpx{x:NetR}(hx:x.ok){most:Nat}(hm:1<=most/\most<=24) :
  Cm Tryz.prog 48 [] [] [.ag (netC x),.i .i64 most] fun r o=>∃ g,yx g/\TreeTo x g.ports.length g/\g.ports.length<=most/\r=ygj g/\o=ycf g.ports:=by
 refine ycsn [] [88,87] _ _ _ ?_;have hN:=ybyb hx hm;obtain⟨hx1,hx2,hx3,hx4⟩:=hx;simp only[netC]at hN;simp only[c48,ycxt,ydae,netC,go_sem,Nat.reduceEqDiff,Nat.reduceAdd,Nat.reduceLT,↓reduceIte,reduceCtorEq];refine callM_of hN [(17,117)] 0 [2,4] [2,4] ?_ ?_
 ·simp only[okN,famCln,yeo,keepF,keepO,allQ,live,yc,go_sem,Nat.reduceEqDiff,Nat.reduceAdd,Nat.reduceBEq,↓reduceIte,reduceCtorEq]
 rintro r o' ⟨ids,h1,h2,h3,rfl,rfl⟩;obtain⟨n,hn⟩:∃ n,ids.length=n:=⟨_,rfl⟩;rw[hn]at h1;simp only[hn,thenM,ykf,nuF,nu,difN,keepF,keepO,Fam.ren,OB.ren,dim,ycsi,yqi,yiq,go_sem,Nat.reduceEqDiff,Nat.reduceAdd,Nat.reduceLT,Nat.reduceBEq,↓reduceIte];simp only[ydgb,go_sem]
 refine ybc (σ:=Nat × Gr) (fun q=>⟨[(6,.i .i64 q.1),(5,.pt (5,0) 0 0),(2,.pt (2,0) 0 0),(4,.pt (4,0) 0 0)],
   (5,.one (some ⟨28,true,2,1,fun _=>[yj q.2.ids,.os (211,0) 0 n true]⟩)) :: (2,.one (some ⟨24,true,6,1,fun _=>netC x⟩)) :: (4,.one (some ⟨28,true,2,1,fun _=>[.a (.slice none 0 0),.a (.slice none 0 0)]⟩)) :: ycf q.2.ports⟩)
  (fun q=>yx q.2/\q.2.ports.length=n/\TreeTo x q.1 q.2/\1<=q.1/\q.1<=n) (fun q=>n - q.1) (1,bare ids) ⟨ybnt (by omega) (by omega) h2 h3,by simp[bare,hn],TreeTo.zero x ids,by omega,by omega⟩ ?_ ?_
 ·refine yg [(211,fun i=>(117,i))] [212] [] ?_;have b1:(bare ids).ids=ids:=rfl;have b2:(bare ids).ports.length=n:=by simp[bare,hn]
  have b3:∀ v,(bare ids).ports.getD v [] = []:=yna ids;simp only[netC,ycf,rowO,b1,b2,b3,List.length_nil,allQ,live,yc,yw,go_sem,Nat.reduceEqDiff,Nat.reduceBEq,↓reduceIte,reduceCtorEq];refine⟨rfl,fun i hi=>⟨(212,i),rfl,rfl,by simp[hi]⟩,fun i b hb=>?_⟩
  obtain⟨_,rfl⟩:=yci hb;exact⟨rfl,rfl⟩
 ·rintro⟨v,g⟩ ⟨hg,hgn,htr,hv1,hvn⟩;have hg:yx g:=hg;have hgn:g.ports.length=n:=hgn;have htr:TreeTo x v g:=htr;have hv1:1<=v:=hv1;have hvn:v<=n:=hvn
  by_cases hlt:v<n
  ·have ht:decide ((v:Int)<(n:Int))=true:=decide_eq_true (by omega)
   have hv2:(v:Int) - 1=((v - 1:Nat):Int):=by omega
   have hA1:=at_ret x.links (v - 1);have hA2:=at_ret x.weights (v - 1);have hi1:=ycn (v:=atP x.links (v - 1)) (m:=(v:Int)) (by omega)
   have hi2:=ycn (v:=atP x.weights (v - 1)) (m:=15) (by omega)
   have hW1:=ycp (atP x.links (v - 1)) v (by omega) (hx2 _)
   have hW2:=ycp (atP x.weights (v - 1)) 15 (by omega) (hx3 _)
   obtain⟨a,ha⟩:∃ a:Nat,ycb (atP x.links (v - 1)) v=a:=Int.eq_ofNat_of_zero_le hi1.1;obtain⟨w,hw⟩:∃ w:Int,ycb (atP x.weights (v - 1)) 15=w:=⟨_,rfl⟩;rw[ha]at hW1 hi1;rw[hw]at hW2 hi2;have hL:=ybum (x:=x) (g:=g) (a:=a) (b:=v) (w:=1+w) (by omega) (by omega) (by omega) (fun u=>by have:=hg.deg_lt (v:=u);omega)
   simp only[ycui,yczc,ycxh,netC,ycf,ht,hv2,clash,go_sem,Nat.reduceEqDiff,Nat.reduceAdd,Nat.reduceLeDiff,Nat.reduceBEq,↓reduceIte,reduceCtorEq];refine⟨ikw (by omega) (by omega),hA1.use ?_⟩
   simp only[thenO,clash,go_sem,Nat.reduceEqDiff,Nat.reduceAdd,Nat.reduceLeDiff,Nat.reduceBEq,↓reduceIte,reduceCtorEq];refine hW1.use ?_;simp only[hv2,go_sem];refine⟨ikw (by omega) (by omega),hA2.use ?_⟩
   simp only[go_sem,↓reduceIte];refine hW2.use ?_;simp only[go_sem,Nat.reduceEqDiff,Nat.reduceBEq,↓reduceIte];refine⟨ikw (by omega) (by omega),callM_of hL [(211,211),(212,212)] 0 [2,4,5,6] [2,4,5] ?_ ?_⟩
   ·simp only[netC,ygj,ycf,hgn,to1,okN,famCln,yeo,keepF,keepO,allQ,live,yc,go_sem,Nat.reduceEqDiff,Nat.reduceAdd,Nat.reduceBEq,↓reduceIte,reduceCtorEq];refine⟨⟨fun i _ j _ e=>e,fun i hi=>by rw[if_pos hi],fun i b hb=>?_⟩,by decide⟩
    obtain⟨hi,rfl⟩:=yci hb;exact⟨_,if_pos hi,⟨rfl,rfl,rfl,rfl⟩,fun k hk=>by simp only[rowO,live,yc,go_sem,reduceCtorEq]⟩
   ·rintro r o' ⟨rfl,rfl⟩;simp only[ycf,thenM,ykf,nuF,nu,difN,keepF,keepO,Fam.ren,OB.ren,dim,yqz,yiq,go_sem,Nat.reduceEqDiff,Nat.reduceAdd,Nat.reduceBEq,↓reduceIte,reduceCtorEq];obtain⟨gg1,gg2,gg3⟩:=ysv (back:=x.back) (a:=a) (b:=v) (w:=1+w) hg (by omega) (by omega) (by omega)
    have gg4:=htr.succ hg (by omega) hv1 (a:=a) (by omega) (w:=1+w) ⟨v - 1,by rw[hw]⟩
    obtain⟨G,hG⟩:∃ G,ygn x.back g a v (1+w)=G:=⟨_,rfl⟩;rw[hG]at gg1 gg2 gg3 gg4 ⊢;rw[hgn]at gg3;refine⟨ikw (by omega) (by omega),yh (v+1,G) ⟨gg1,gg3,gg4,by omega,by omega⟩ (by show n - (v+1)<n - v;omega) ?_⟩
    ·refine yg [] [] [] ?_;simp only[gg3,gg2,allQ,live,yc,yw,go_sem,Nat.reduceEqDiff,↓reduceIte,reduceCtorEq];refine⟨fun i _ j _ e=>e,by omega,fun i hi=>by rw[if_pos hi],fun i b hb=>?_⟩
     obtain⟨hi,rfl⟩:=yci hb;refine⟨_,ywk (f:=ren (nu [(211,211),(212,212)] 0) 5) (fun _ _=>rfl) hi,⟨rfl,rfl,rfl,rfl⟩,fun k hk=>?_⟩;simp only[rowO,live,yc,go_sem,reduceCtorEq]
  ·obtain rfl:v=n:=by omega
   have ht:decide ((v:Int)<(v:Int))=false:=decide_eq_false (by omega)
   simp only[ycui,ydcx,netC,ycf,ht,clash,splice,yfj,go_sem,Nat.reduceEqDiff,Nat.reduceAdd,↓reduceIte,reduceCtorEq];refine⟨ygj g,ycf g.ports,?_,?_,g,hg,by rw[hgn];exact htr,by omega,rfl,rfl⟩
   ·refine yg [] [] [] ?_;simp only[ycf,ygj,hgn,allQ,live,yc,go_sem,Nat.reduceEqDiff,↓reduceIte,reduceCtorEq];refine⟨fun i _ j _ e=>e,fun i hi=>by rw[if_pos hi],fun i b hb=>?_⟩
    obtain⟨hi,rfl⟩:=yci hb;exact⟨_,if_pos hi,⟨rfl,rfl,rfl,rfl⟩,fun k hk=>by simp only[rowO,live,yc,go_sem,reduceCtorEq]⟩
   ·simp only[ycf,ygj,famCln,yeo,allQ,live,go_sem,Nat.reduceEqDiff,↓reduceIte];refine⟨fun i hi=>by rw[if_pos hi],fun i b hb k hk=>?_⟩
    obtain⟨hi,rfl⟩:=yci hb;simp only[rowO,go_sem]
end Sh
end Go.Proofs.YtpngeppkgoaimaaGreatDoor

namespace Go.Proofs.YtpngeppkgoaimaaGreatDoor
open Go
namespace Sh
open Ev Go.RowKit
set_option maxRecDepth 8000
theorem ycrv{x:NetR}(hx:x.ok){g:Gr}(hg:yx g){Q:Gr->Prop}(ht:Q g)(hQ:∀ G a b w,yx G->G.ports.length=g.ports.length->a<G.ports.length->b<G.ports.length->(∃ i,w=1+ycb (atP x.weights i) 15)->Q G->Q (ygn x.back G a b w)) :
  Cm Tryz.prog 47 [] (ycf g.ports) [.ag (netC x),ygj g] fun r o=>∃ g',yx g'/\Q g'/\g'.ports.length=g.ports.length/\r=ygj g'/\o=ycf g'.ports:=by
 refine ycpn [] [87] _ _ _ ?_;obtain⟨hx1,hx2,hx3,hx4⟩:=hx;have h1:=hg.1;have h24:=hg.2.1;obtain⟨n,hn⟩:∃ n,g.ports.length=n:=⟨_,rfl⟩;rw[hn]at h1 h24 hQ;obtain⟨L,hL⟩:∃ L,x.links.length=L:=⟨_,rfl⟩;simp only[c47,ycyo,ydgl,ydfl,netC,ygj,ycf,hn,clash,go_sem,Nat.reduceEqDiff,Nat.reduceAdd,Nat.reduceLT,↓reduceIte,reduceCtorEq]
 refine ybc (σ:=Nat × Gr) (fun q=>⟨[(6,.i .i64 q.1),(5,.i .i64 n),(3,.pt (3,0) 0 0),(2,.pt (2,0) 0 0),(4,.pt (4,0) 0 0)],
   (3,.one (some ⟨28,true,2,1,fun _=>[yj q.2.ids,.os (211,0) 0 n true]⟩)) :: (2,.one (some ⟨24,true,6,1,fun _=>netC x⟩)) :: (4,.one (some ⟨28,true,2,1,fun _=>[.a (.slice none 0 0),.a (.slice none 0 0)]⟩)) :: ycf q.2.ports⟩)
  (fun q=>yx q.2/\q.2.ports.length=n/\Q q.2/\q.1<=61) (fun q=>62 - q.1) (n,g) ⟨hg,hn,ht,by show n<=61;omega⟩ ?_ ?_
 ·refine yg [] [] [] ?_;simp only[netC,ycf,hn,allQ,live,yc,go_sem,Nat.reduceEqDiff,↓reduceIte,reduceCtorEq];refine⟨fun i _ j _ e=>e,fun i hi=>by rw[if_pos hi],fun i b hb=>?_⟩
  obtain⟨hi,rfl⟩:=yci hb;exact⟨_,if_pos hi,⟨rfl,rfl,rfl,rfl⟩,fun k hk=>by simp only[rowO,live,yc,go_sem,reduceCtorEq]⟩
 ·rintro⟨i,G⟩ ⟨gg,ggn,gtr,hi61⟩;have gg:yx G:=gg;have ggn:G.ports.length=n:=ggn;have gtr:Q G:=gtr;have hi61:i<=61:=hi61;have hi1:(i:Int)+1=((i+1:Nat):Int):=by omega
  by_cases hlt:i+1<L
  ·by_cases h60:i<60
   ·have ht1:decide (((i+1:Nat):Int)<(L:Int))=true:=decide_eq_true (by omega)
    have ht2:decide ((i:Int)<60)=true:=decide_eq_true (by omega)
    have hA2:=at_ret x.weights i;have hi2:=ycn (v:=atP x.weights i) (m:=15) (by omega)
    have hw1:=ycn (v:=x.links.getD i 0) (m:=(n:Int)) (by omega)
    have hw2:=ycn (v:=x.links.getD (i+1) 0) (m:=(n:Int)) (by omega)
    have hW1:=ycp (x.links.getD i 0) n (by omega) (hx2 i)
    have hW2:=ycp (x.links.getD (i+1) 0) n (by omega) (hx2 (i+1))
    have hW3:=ycp (atP x.weights i) 15 (by omega) (hx3 _)
    obtain⟨a,ha⟩:∃ a:Nat,ycb (x.links.getD i 0) n=a:=Int.eq_ofNat_of_zero_le hw1.1;obtain⟨b,hb⟩:∃ b:Nat,ycb (x.links.getD (i+1) 0) n=b:=Int.eq_ofNat_of_zero_le hw2.1;obtain⟨w,hw⟩:∃ w:Int,ycb (atP x.weights i) 15=w:=⟨_,rfl⟩;rw[ha]at hW1 hw1;rw[hb]at hW2 hw2;rw[hw]at hW3 hi2;have hK:=ybum (x:=x) (g:=G) (a:=a) (b:=b) (w:=1+w) (by omega) (by omega) (by omega) (fun u=>by have:=gg.deg_lt (v:=u);omega)
    simp only[ycaf,yddr,ydfs,netC,ycf,yj,hL,hi1,ht1,ht2,clash,go_sem,Nat.reduceEqDiff,Nat.reduceAdd,Nat.reduceLeDiff,Nat.reduceBEq,↓reduceIte,reduceCtorEq];refine⟨ikw (by omega) (by omega),⟨by omega,by omega⟩,hW1.use ?_⟩
    simp only[thenO,clash,hi1,go_sem,Nat.reduceEqDiff,Nat.reduceAdd,Nat.reduceLeDiff,Nat.reduceBEq,↓reduceIte,reduceCtorEq];refine⟨ikw (by omega) (by omega),⟨by omega,by omega⟩,hW2.use ?_⟩
    simp only[go_sem];simp only[yj]at hA2;refine hA2.use ?_;simp only[go_sem,↓reduceIte];refine hW3.use ?_;simp only[go_sem,Nat.reduceEqDiff,↓reduceIte];refine⟨ikw (by omega) (by omega),callM_of hK [(211,211),(212,212)] 0 [2,3,4,5,6] [2,3,4] ?_ ?_⟩
    ·simp only[netC,ygj,ycf,ggn,yj,hL,to1,okN,famCln,yeo,keepF,keepO,allQ,live,yc,go_sem,Nat.reduceEqDiff,Nat.reduceAdd,Nat.reduceBEq,↓reduceIte,reduceCtorEq];refine⟨⟨fun i _ j _ e=>e,fun i hi=>by rw[if_pos hi],fun i b hb=>?_⟩,by decide⟩
     obtain⟨hi,rfl⟩:=yci hb;exact⟨_,if_pos hi,⟨rfl,rfl,rfl,rfl⟩,fun k hk=>by simp only[rowO,live,yc,go_sem,reduceCtorEq]⟩
    ·rintro r o' ⟨rfl,rfl⟩;simp only[ycf,thenM,ykf,nuF,nu,difN,keepF,keepO,Fam.ren,OB.ren,dim,yqz,yiq,go_sem,Nat.reduceEqDiff,Nat.reduceAdd,Nat.reduceBEq,↓reduceIte,reduceCtorEq];obtain⟨gg1,gg2,gg3⟩:=ysv (back:=x.back) (a:=a) (b:=b) (w:=1+w) gg (by omega) (by omega) (by omega)
     have gg4:=hQ G a b (1+w) gg ggn (by omega) (by omega) ⟨i,by rw[hw]⟩ gtr
     obtain⟨H,hH⟩:∃ H,ygn x.back G a b (1+w)=H:=⟨_,rfl⟩;rw[hH]at gg1 gg2 gg3 gg4 ⊢;rw[ggn]at gg3;refine⟨ikw (by omega) (by omega),yh (i+2,H) ⟨gg1,gg3,gg4,by show i+2<=61;omega⟩ (by show 62 - (i+2)<62 - i;omega) ?_⟩
     refine yg [] [] [] ?_;simp only[gg3,gg2,allQ,live,yc,yw,go_sem,Nat.reduceEqDiff,↓reduceIte,reduceCtorEq];refine⟨fun i _ j _ e=>e,by omega,fun i hi=>by rw[if_pos hi],fun i b hb=>?_⟩
     obtain⟨hi,rfl⟩:=yci hb;refine⟨_,ywk (f:=ren (nu [(211,211),(212,212)] 0) 5) (fun _ _=>rfl) hi,⟨rfl,rfl,rfl,rfl⟩,fun k hk=>?_⟩;simp only[rowO,live,yc,go_sem,reduceCtorEq]
   ·have ht1:decide (((i+1:Nat):Int)<(L:Int))=true:=decide_eq_true (by omega)
    have ht2:decide ((i:Int)<60)=false:=decide_eq_false (by omega)
    simp only[ycaf,ycsu,netC,ycf,yj,hL,hi1,ht1,ht2,clash,splice,yfj,go_sem,Nat.reduceEqDiff,Nat.reduceAdd,Nat.reduceLeDiff,↓reduceIte,reduceCtorEq];refine⟨ikw (by omega) (by omega),?_⟩
    refine⟨ygj G,ycf G.ports,?_,?_,G,gg,gtr,ggn,rfl,rfl⟩
    ·refine yg [] [] [] ?_;simp only[ycf,ygj,ggn,yj,allQ,live,yc,go_sem,Nat.reduceEqDiff,↓reduceIte,reduceCtorEq];refine⟨fun i _ j _ e=>e,fun i hi=>by rw[if_pos hi],fun i b hb=>?_⟩
     obtain⟨hi,rfl⟩:=yci hb;exact⟨_,if_pos hi,⟨rfl,rfl,rfl,rfl⟩,fun k hk=>by simp only[rowO,live,yc,go_sem,reduceCtorEq]⟩
    ·simp only[ycf,ygj,famCln,yeo,allQ,live,go_sem,Nat.reduceEqDiff,↓reduceIte];refine⟨fun i hi=>by rw[if_pos hi],fun i b hb k hk=>?_⟩
     obtain⟨hi,rfl⟩:=yci hb;simp only[rowO,go_sem]
  ·have ht1:decide (((i+1:Nat):Int)<(L:Int))=false:=decide_eq_false (by omega)
   simp only[ycaf,ycsu,netC,ycf,yj,hL,hi1,ht1,clash,splice,yfj,go_sem,Nat.reduceEqDiff,Nat.reduceAdd,Nat.reduceLeDiff,↓reduceIte,reduceCtorEq];refine⟨ikw (by omega) (by omega),?_⟩
   refine⟨ygj G,ycf G.ports,?_,?_,G,gg,gtr,ggn,rfl,rfl⟩
   ·refine yg [] [] [] ?_;simp only[ycf,ygj,ggn,yj,allQ,live,yc,go_sem,Nat.reduceEqDiff,↓reduceIte,reduceCtorEq];refine⟨fun i _ j _ e=>e,fun i hi=>by rw[if_pos hi],fun i b hb=>?_⟩
    obtain⟨hi,rfl⟩:=yci hb;exact⟨_,if_pos hi,⟨rfl,rfl,rfl,rfl⟩,fun k hk=>by simp only[rowO,live,yc,go_sem,reduceCtorEq]⟩
   ·simp only[ycf,ygj,famCln,yeo,allQ,live,go_sem,Nat.reduceEqDiff,↓reduceIte];refine⟨fun i hi=>by rw[if_pos hi],fun i b hb k hk=>?_⟩
    obtain⟨hi,rfl⟩:=yci hb;simp only[rowO,go_sem]
theorem yjn{x:NetR}(hx:x.ok){most:Nat}(hm:1<=most/\most<=24) :
  Ct Tryz.prog 15 [.ag (netC x),.i .i64 most] fun r=>∃ g,yx g/\yey g=true/\(g.ports.length<=most/\WtF x g)/\Sim r (grV g):=by
 refine ycrp [48,47] _ _ ?_;have hT:=ycpx hx hm;simp only[netC]at hT;simp only[c15,ydbj,ycyp,netC,clash,go_sem,Nat.reduceEqDiff,Nat.reduceAdd,Nat.reduceLT,↓reduceIte,reduceCtorEq];refine callM_of hT [(211,211),(212,212)] 0 [2,4,5] [2,4] ?_ ?_
 ·simp only[okN,famCln,yeo,keepF,keepO,allQ,live,yc,go_sem,Nat.reduceEqDiff,Nat.reduceAdd,Nat.reduceBEq,↓reduceIte,reduceCtorEq]
 rintro r o' ⟨g,hg,ht,hn,rfl,rfl⟩;have hM:=ycrv (Q:=fun G=>Tre G g.ports.length/\WtF x G) hx hg ⟨ht.tre,ht.wt⟩ (fun G a b w gG gl ga gb gw gQ=>⟨yzc ga gb gQ.1,ybgp ga gb gw gQ.2⟩);simp only[netC]at hM;simp only[ycf,ygj,thenM,ykf,nuF,nu,difN,keepF,keepO,Fam.ren,OB.ren,dim,yqi,yiq,go_sem,Nat.reduceEqDiff,Nat.reduceAdd,Nat.reduceBEq,↓reduceIte];refine callM_of hM [(211,211),(212,212)] 0 [4] [4] ?_ ?_
 ·simp only[ygj,ycf,to1,okN,famCln,yeo,keepF,keepO,allQ,live,yc,go_sem,Nat.reduceEqDiff,Nat.reduceAdd,Nat.reduceBEq,↓reduceIte,reduceCtorEq];refine⟨⟨fun i _ j _ e=>e,fun i hi=>by rw[if_pos hi],fun i b hb=>?_⟩,by decide⟩
  obtain⟨hi,rfl⟩:=yci hb;refine⟨_,ywk (f:=ren (nu [(211,211),(212,212)] 0) 5) (fun _ _=>rfl) hi,⟨rfl,rfl,rfl,rfl⟩,fun k hk=>?_⟩;simp only[rowO,live,yc,go_sem,reduceCtorEq]
 rintro r o' ⟨G,gg,⟨gt,gw⟩,gn,rfl,rfl⟩;simp only[ycf,ygj,clash,splice,thenM,ykf,nuF,nu,difN,keepF,keepO,Fam.ren,OB.ren,dim,yqi,yiq,go_sem,Nat.reduceEqDiff,Nat.reduceAdd,Nat.reduceBEq,↓reduceIte];refine⟨by decide,fun q hq=>?_,G,gg,Tre.conn gg (by rw[gn];exact gt),⟨by omega,gw⟩,?_⟩
 ·simp only[if_pos hq];exact⟨Nat.le_refl _,fun k hk=>by simp only[rowO,go_sem]⟩
 ·refine yny ⟨Sim.refl _,?_,trivial⟩;refine yhl fun q hq=>?_;simp only[if_pos hq];simp only[rowO,yba,ygl,go_sem];exact⟨Sim.refl _,trivial⟩
theorem yhi{x:NetR}(hx:x.ok){most:Nat}(hm:1<=most/\most<=24) :
  Ct Tryz.prog 15 [.ag (netC x),.i .i64 most] fun r=>∃ g,yx g/\yey g=true/\g.ports.length<=most/\Sim r (grV g) :=
 (yjn hx hm).mono fun _ ⟨g,h1,h2,h3,h4⟩=>⟨g,h1,h2,h3.1,h4⟩
end Sh
end Go.Proofs.YtpngeppkgoaimaaGreatDoor

namespace Go.Proofs.YtpngeppkgoaimaaGreatDoor
structure Tgt(S:Sys)(V:Conf->Prop)(T:Conf->Nat->List Int):Prop where
 valid:∀ c s,V c->s ≠ 0->subB s (S.en c)->V (S.mv c s)
 stay:∀ c s v,V c->v<S.n->s.testBit v=false->(S.mv c s).getD v []=c.getD v []
 move:∀ c s v,V c->v<S.n->s.testBit v=true->subB s (S.en c)->(S.mv c s).getD v []=T c v
 en:∀ c v,V c->v<S.n->((S.en c).testBit v=false ↔ c.getD v []=T c v)
theorem Tgt.rounds{S:Sys}{V:Conf->Prop}{T:Conf->Nat->List Int}(h:Tgt S V T){P:Nat->Nat->List Int->Prop}(hT:∀ c v r,V c->v<S.n->(∀ u,u<S.n->P r u (c.getD u []))->P (r+1) v (T c v))(hl:∀ r v s,P (r+1) v s->P r v s):ByRounds S V P where
 valid:=h.valid
 stay:=h.stay
 move:=fun c s v r hv hn hb hs hall=>by rw[h.move c s v hv hn hb hs];exact hT c v r hv hn hall
 rest:=fun c v r hv hn hb hall=>by rw[(h.en c v hv hn).1 hb];exact hT c v r hv hn hall
 less:=hl
theorem Tgt.silent{S:Sys}{V:Conf->Prop}{T:Conf->Nat->List Int}(h:Tgt S V T){P:Nat->Nat->List Int->Prop}(hT:∀ c v r,V c->v<S.n->(∀ u,u<S.n->P r u (c.getD u []))->P (r+1) v (T c v)){c:Conf}(hv:V c)(h0:∀ v,v<S.n->P 0 v (c.getD v []))(he:S.en c=0):∀ r v,v<S.n->P r v (c.getD v [])
 | 0,v,hn=>h0 v hn
 | r+1,v,hn=>by
  rw[(h.en c v hv hn).1 (by rw[he];simp)]
  exact hT c v r hv hn (Tgt.silent h hT hv h0 he r)
theorem Tgt.en_zero{S:Sys}{V:Conf->Prop}{T:Conf->Nat->List Int}(h:Tgt S V T){c:Conf}(hv:V c)(hlt:S.en c<2 ^ S.n)(ht:∀ v,v<S.n->c.getD v []=T c v):S.en c=0:=by
 rw[ycl];intro i
 by_cases hi:i<S.n
 ·exact(h.en c i hv hi).2 (ht i hi)
 ·exact Nat.testBit_lt_two_pow (Nat.lt_of_lt_of_le hlt (Nat.pow_le_pow_right (by omega) (by omega)))
theorem Sys.run_last{S:Sys}{res:Nat->Nat->Nat}:∀ (ws:List Nat) (c:Conf) (k:Cnt) (i:Nat),i+1<(S.run res ws c k).length -> ∀ p,(S.run res ws c k)[i]? = some p->S.en p.1 ≠ 0
 | [],c,k,i,h,p,hp=>by simp[Sys.run]at h
 | w :: ws,c,k,i,h,p,hp=>by
  unfold Sys.run at h hp;split at h
  ·simp at h
  ·rename_i h0
   rw[if_neg h0]at hp;cases i with
   | zero =>
    simp only[List.getElem?_cons_zero]at hp;cases hp
    simp only[List.length_cons]at h;cases ws with
    | nil=>simp[Sys.run]at h
    | cons w' ws =>
     unfold Sys.run at h;split at h
     ·simp at h
     ·assumption
   | succ i=>exact Sys.run_last ws _ _ i (by simpa using h) p (by simpa using hp)
theorem Sys.runs_last{S:Sys}{res:Nat->Nat->Nat}{ws:List Nat}{c:Conf}{i:Nat}(h:i+1<(S.runs res ws c).length){p:Conf × Cnt}(hp:(S.runs res ws c)[i]? = some p):S.en p.1 ≠ 0:=by
 unfold Sys.runs at h hp;cases i with
 | zero =>
  simp only[List.getElem?_cons_zero]at hp;cases hp
  cases ws with
  | nil=>simp[Sys.run]at h
  | cons w ws =>
   unfold Sys.run at h;split at h
   ·simp at h
   ·assumption
 | succ i=>exact Sys.run_last ws _ _ i (by simpa using h) p (by simpa using hp)
end Go.Proofs.YtpngeppkgoaimaaGreatDoor

namespace Go.Proofs.YtpngeppkgoaimaaGreatDoor
abbrev eNum(k:Int):Ex:=.leaf 1 k
abbrev ycvq:Ex:=.leaf 4 0
abbrev eVar(k:Int):Ex:=.leaf 5 k
abbrev eN:Ex:=.leaf 6 0
abbrev ybrg:Ex:=.leaf 10 0
abbrev eQ(k:Int):Ex:=.leaf 12 k

def yceh:Ex:=.bin 41 ybrg (.bin 42 (.bin 36 (eVar 0) (eNum 0)) (.bin 36 (eVar 1) ycvq))
theorem yid(l:List Int):∀ a:Int,l.foldl min a<=a/\(∀ x ∈ l,l.foldl min a<=x) /\ ∀ b:Int,b<=a->(∀ x ∈ l,b<=x)->b<=l.foldl min a:=by
 induction l with
 | nil=>intro a;exact⟨Int.le_refl _,fun x hx=>(List.not_mem_nil hx).elim,fun b hb _=>hb⟩
 | cons y l ih =>
  intro a;obtain⟨h1,h2,h3⟩:=ih (min a y);refine⟨by simp only[List.foldl_cons];omega,fun x hx=>?_,fun b hb hx=>?_⟩
  ·rcases List.mem_cons.1 hx with rfl | hx
   ·simp only[List.foldl_cons];omega
   ·exact h2 x hx
  ·have:=hx y List.mem_cons_self;exact h3 b (by omega) fun x hx'=>hx x (List.mem_cons_of_mem _ hx')
theorem ybps{l:List Int}{x:Int}(h:x ∈ l):yig l<=x:=(yid l 1073741824).2.1 x h
theorem ypx{l:List Int}{b:Int}(hb:b<=1073741824)(h:∀ x ∈ l,b<=x):b<=yig l:=(yid l 1073741824).2.2 b hb h
theorem ybae{α:Type}(g:Gr)(v:Nat)(f:Int × Int->α)(h:Nat->α)(e:∀ q,q<(g.ports.getD v []).length->h q=f ((g.ports.getD v []).getD q (0,0))):(List.range (g.ports.getD v []).length).map h=(g.ports.getD v []).map f:=by
 refine List.ext_getElem (by simp) fun i h1 h2=>?_
 have hi:i<(g.ports.getD v []).length:=by simpa using h1
 rw[List.getElem_map,List.getElem_range,List.getElem_map,e i hi];congr 1;rw[List.getD_eq_getElem?_getD,List.getElem?_eq_getElem hi];rfl
theorem yvk(f:Int × Int->Bool)(ls:List (Int × Int)):ydp (ls.map fun l=>ybv (f l))=ygb f ls:=by
 unfold ydp ygb
 have:((fun x:Int=>x != 0) ∘ fun l=>ybv (f l))=f:=by
  funext l
  show(ybv (f l) != 0)=f l;unfold ybv;cases f l<;>rfl
 rw[List.findIdx?_map,this]
 all_goals (cases List.findIdx? f ls<;>rfl)

def endP(c:Conf)(k:Nat)(l:Int × Int):Int:=(c.getD l.1.toNat []).getD k 0
theorem yzi(b:Bool):(ybv b != 0)=b:=by cases b<;>rfl
theorem ycgq{s:List Int}(h:s.length=2)(x y:Int):s = [x,y] ↔ s.getD 0 0=x/\s.getD 1 0=y:=by
 match s,h with
 | [a,b],_=>simp
section
variable {nm nd np nt nl:ByteArray} {g:Gr} {c:Conf} {v:Nat}
theorem bT3{x:ByteArray}:ybg g v ⟨x,3,0,0,0,0⟩=(-1,((g.ports.getD v []).length:Int) - 1):=by
 show(if (3:Int)=1 then _ else if (3:Int)=2 then _ else if (3:Int)=3 then _ else _)=_
 rw[if_neg (by decide),if_neg (by decide),if_pos rfl]
end
end Go.Proofs.YtpngeppkgoaimaaGreatDoor

namespace Go.Proofs.YtpngeppkgoaimaaGreatDoor
section
variable {g:Gr} {a v:Nat}
theorem yfo(hg:yx g)(hc:yey g=true)(ha:a<g.ports.length)(hv:v<g.ports.length):∃ k:Nat,(yeg g a).getD v 0=k/\Walk g a k v/\(∀ j,j<k -> ¬ Walk g a j v)/\k<g.ports.length:=by
 have h0:0<g.ports.length:=by omega
 have hall:(yeg g a).all (fun x=>decide (0<=x))=true:=ybyz hg h0 ha ((Bool.and_eq_true _ _ ▸ hc).2);have hl:=yii hg ha;have hvl:v<(yeg g a).length:=by rw[hl];exact hv
 have e:(yeg g a).getD v 0=(yeg g a)[v]:=by simp[List.getD,hvl]
 have hpos:0<=(yeg g a)[v]:=by simpa using List.all_eq_true.1 hall _ (List.getElem_mem hvl)
 rcases(ygh hg ha).2 v _ (List.getElem?_eq_getElem hvl)with⟨h,_⟩ | ⟨k,h1,h2,h3⟩
 ·omega
 ·exact⟨k,by rw[e,h1],h2,h3,yuq hg ha h2 h3⟩
theorem yctd{k:Nat}(hg:yx g)(hc:yey g=true)(ha:a<g.ports.length)(hv:v<g.ports.length)(h1:Walk g a k v)(h2:∀ j,j<k -> ¬ Walk g a j v):(yeg g a).getD v 0=k:=by
 obtain⟨j,e,h3,h4,_⟩:=yfo hg hc ha hv;rcases Nat.lt_trichotomy j k with h | h | h
 ·exact absurd h3 (h2 j h)
 ·rw[e,h]
 ·exact absurd h1 (h4 k h)
theorem ybrm(hg:yx g)(hc:yey g=true)(ha:a<g.ports.length):(yeg g a).getD a 0=0:=yctd hg hc ha ha (k:=0) rfl fun j hj=>by omega
theorem ybdq(hg:yx g)(hc:yey g=true)(ha:a<g.ports.length)(hv:v<g.ports.length):0<=(yeg g a).getD v 0/\(yeg g a).getD v 0<g.ports.length:=by
 obtain⟨k,e,_,_,h⟩:=yfo hg hc ha hv;omega
theorem ybga(hg:yx g)(hc:yey g=true)(ha:a<g.ports.length){u:Nat}(h:adj g u v):(yeg g a).getD v 0<=(yeg g a).getD u 0+1:=by
 obtain⟨hu,hv⟩:=hg.adj_lt h;obtain⟨k,e,h1,_,_⟩:=yfo hg hc ha hu;obtain⟨j,e',_,h3,_⟩:=yfo hg hc ha hv;rw[e,e'];rcases Nat.lt_or_ge (k+1) j with q | q
 ·exact absurd ⟨u,h1,h⟩ (h3 (k+1) q)
 ·omega
theorem ybnj(hg:yx g)(hc:yey g=true)(ha:a<g.ports.length)(hv:v<g.ports.length)(hne:v ≠ a):∃ u,adj g v u/\(yeg g a).getD u 0=(yeg g a).getD v 0 - 1:=by
 obtain⟨k,e,h1,h2,_⟩:=yfo hg hc ha hv;cases k with
 | zero=>exact absurd h1 hne
 | succ k =>
  obtain⟨u,h3,h4⟩:=h1;refine⟨u,hg.adj_symm h4,?_⟩;have h5:=ybga hg hc ha h4;obtain⟨hu,_⟩:=hg.adj_lt h4;obtain⟨j,e',_,h6,_⟩:=yfo hg hc ha hu;rw[e,e']at h5;rcases Nat.lt_or_ge k j with q | q
  ·exact absurd h3 (h6 k q)
  ·rw[e,e'];omega
theorem ybz{l:Int × Int}(hg:yx g)(hv:v<g.ports.length)(hl:l ∈ g.ports.getD v []):0<=l.1/\l.1.toNat<g.ports.length/\adj g v l.1.toNat/\1<=l.2/\l.2<=15:=by
 have e:g.ports[v]? = some (g.ports.getD v []):=by simp[List.getD,hv]
 have h:=hg.link e hl;exact⟨h.1,by omega,⟨_,e,l,hl,by omega⟩,h.2.2.2.1,h.2.2.2.2⟩
theorem ybtg{u:Nat}(h:adj g v u):∃ l ∈ g.ports.getD v [],l.1.toNat=u:=by
 obtain⟨l,hl,e⟩:=ykd.1 h;exact⟨l,hl,by rw[e];simp⟩
theorem ybaa{f h:Int × Int->Bool}{ls:List (Int × Int)}(e:∀ l ∈ ls,f l=h l):ygb f ls=ygb h ls:=by
 have:ls.findIdx? f=ls.findIdx? h:=by
  induction ls with
  | nil=>rfl
  | cons x l ih =>
   rw[List.findIdx?_cons,List.findIdx?_cons,e x List.mem_cons_self,ih fun y hy=>e y (List.mem_cons_of_mem _ hy)]
 unfold ygb;rw[this]
end
section
variable {nm nd np nt nl:ByteArray} {g:Gr}
end
end Go.Proofs.YtpngeppkgoaimaaGreatDoor

namespace Go.Proofs.YtpngeppkgoaimaaGreatDoor
namespace Sh
section
variable {nm nd np nt nl:ByteArray} {g:Gr}
end
end Sh
end Go.Proofs.YtpngeppkgoaimaaGreatDoor

namespace Go.Proofs.YtpngeppkgoaimaaGreatDoor
open Go
namespace Sh
open Ev Go.RowKit
set_option maxRecDepth 8000
theorem ybwt(l:List Nat):one1 (usV l)=true:=rfl
theorem ybtp{n:Nat}(l:List Nat):owned (n+1) (usV l)=false:=rfl
theorem ybjm{n:Nat}(l:List Nat):scalar (n+1) (usV l)=false:=rfl
theorem ybzl{n:Nat}(o:Own)(l:List Nat):view o (n+1) (usV l)=usV l:=rfl
theorem ycqw{n:Nat}(o:Own)(l:List Nat):vok o (n+1) (usV l)=True:=rfl
theorem ycvy{n:Nat}(h:Nm->Nm)(l:List Nat):ren h (n+1) (usV l)=usV l:=rfl
theorem ycrz{n:Nat}(D:Nm->Bool)(l:List Nat):cln D (n+1) (usV l)=true:=rfl
theorem ybqk{n:Nat}(fr:List Nm)(o:Own)(l:List Nat):yck fr o (n+1) (usV l)=usV l:=rfl
theorem ycvo{n:Nat}(fr:List Nm)(o:Own)(l:List Nat):pok fr o (n+1) (usV l)=True:=rfl
theorem ybod(l:List Nat):SV.cells (usV l) = [usV l]:=rfl
theorem ybbm(l:List Conf):one1 (yda l)=true:=rfl
theorem yyn{n:Nat}(l:List Conf):owned (n+1) (yda l)=false:=rfl
theorem yum{n:Nat}(l:List Conf):scalar (n+1) (yda l)=false:=rfl
theorem ybdw{n:Nat}(o:Own)(l:List Conf):view o (n+1) (yda l)=yda l:=rfl
theorem ybhu{n:Nat}(o:Own)(l:List Conf):vok o (n+1) (yda l)=True:=rfl
theorem ybjh{n:Nat}(h:Nm->Nm)(l:List Conf):ren h (n+1) (yda l)=yda l:=rfl
theorem ybkr{n:Nat}(D:Nm->Bool)(l:List Conf):cln D (n+1) (yda l)=true:=rfl
theorem yxh{n:Nat}(fr:List Nm)(o:Own)(l:List Conf):yck fr o (n+1) (yda l)=yda l:=rfl
theorem ybjj{n:Nat}(fr:List Nm)(o:Own)(l:List Conf):pok fr o (n+1) (yda l)=True:=rfl
theorem ywr(l:List Conf):SV.cells (yda l) = [yda l]:=rfl
theorem ybjx(l:List Cnt):one1 (yfu l)=true:=rfl
theorem ybbf{n:Nat}(l:List Cnt):owned (n+1) (yfu l)=false:=rfl
theorem yyh{n:Nat}(l:List Cnt):scalar (n+1) (yfu l)=false:=rfl
theorem ybjw{n:Nat}(o:Own)(l:List Cnt):view o (n+1) (yfu l)=yfu l:=rfl
theorem ybvc{n:Nat}(o:Own)(l:List Cnt):vok o (n+1) (yfu l)=True:=rfl
theorem ybue{n:Nat}(h:Nm->Nm)(l:List Cnt):ren h (n+1) (yfu l)=yfu l:=rfl
theorem ybub{n:Nat}(D:Nm->Bool)(l:List Cnt):cln D (n+1) (yfu l)=true:=rfl
theorem ybcj{n:Nat}(fr:List Nm)(o:Own)(l:List Cnt):yck fr o (n+1) (yfu l)=yfu l:=rfl
theorem ybnd{n:Nat}(fr:List Nm)(o:Own)(l:List Cnt):pok fr o (n+1) (yfu l)=True:=rfl
theorem ybci(l:List Cnt):SV.cells (yfu l) = [yfu l]:=rfl
theorem ybwy(l:List Bool):one1 (blV l)=true:=rfl
theorem ybqo{n:Nat}(l:List Bool):owned (n+1) (blV l)=false:=rfl
theorem ybht{n:Nat}(l:List Bool):scalar (n+1) (blV l)=false:=rfl
theorem ybxv{n:Nat}(o:Own)(l:List Bool):view o (n+1) (blV l)=blV l:=rfl
theorem ycpo{n:Nat}(o:Own)(l:List Bool):vok o (n+1) (blV l)=True:=rfl
theorem ycut{n:Nat}(h:Nm->Nm)(l:List Bool):ren h (n+1) (blV l)=blV l:=rfl
theorem ycqc{n:Nat}(D:Nm->Bool)(l:List Bool):cln D (n+1) (blV l)=true:=rfl
theorem ybrn{n:Nat}(fr:List Nm)(o:Own)(l:List Bool):yck fr o (n+1) (blV l)=blV l:=rfl
theorem ycrf{n:Nat}(fr:List Nm)(o:Own)(l:List Bool):pok fr o (n+1) (blV l)=True:=rfl
theorem ybof(l:List Bool):SV.cells (blV l) = [blV l]:=rfl
attribute [go_sem] ybwt ybtp ybjm ybzl ycqw ycvy ycrz ybqk ycvo ybod ybbm yyn yum ybdw ybhu ybjh ybkr yxh ybjj ywr ybjx ybbf yyh ybjw ybvc ybue ybub ybcj ybnd ybci ybwy ybqo ybht ybxv ycpo ycut ycqc ybrn ycrf ybof
theorem Ct.found{P:Program}{g:FuncId}{args:List SV}{α:Type}{R:SV->α->Prop}{V:α->SV}{Q:SV->Prop}(h:Ct P g args fun r=>∃ x,R r x)(hs:∀ r x,R r x->Sim r (V x))(hq:∀ r x,R r x->Q (V x)):Ct P g args Q:=fun G m us h1 h2 h3=>by
 obtain⟨v,m',r,a,b,c,⟨x,hx⟩,e⟩:=h G m us h1 h2 h3;exact⟨v,m',V x,a,b,c,hq r x hx,hs r x hx _ _ _ e⟩
def ypr(e w:Nat):Nat:=if e<2 ^ 24 then resD e w else e
theorem yqq:ybki ypr:=fun e w h0=>by
 unfold ypr;split
 ·exact ybbz e w h0 ‹_›
 ·exact⟨h0,fun _ h=>h⟩
theorem yxo(net:List Nat):DaemonOk 3 net ypr where
 resolve:=fun e w he h0 hw=>by unfold ypr;rw[if_pos he];exact(ybbc net).resolve e w he h0 hw
 permits:=fun e w he h0 hw=>by unfold ypr;rw[if_pos he];exact(ybbc net).permits e w he h0 hw
 zero:=(ybbc net).zero
 sub:=fun e w h0 he=>yqq e w h0
theorem ycwe:ybki resS:=fun e w h0=>⟨h0,fun _ h=>h⟩
theorem Sys.run_len(S:Sys)(res:Nat->Nat->Nat):∀ (ws:List Nat) (c:Conf) (k:Cnt),(S.run res ws c k).length<=ws.length
 | [],_,_=>Nat.le_refl _
 | w :: ws,c,k=>by
  unfold Sys.run;split
  ·exact Nat.zero_le _
  ·simp only[List.length_cons];have:=Sys.run_len S res ws (S.mv c (res (S.en c) w)) (addP k (res (S.en c) w) (S.en (S.mv c (res (S.en c) w))));omega
structure RunD(S:Sys)(res:Nat->Nat->Nat)(ws:List Nat)(c:Conf)(n:Nat)(Cs:List Conf)(Ks:List Cnt):Prop where
 cs:(S.runs res ws c).map (·.1)=Cs
 ks:(S.runs res ws c).map (·.2)=Ks
 len:(S.runs res ws c).length=n
 pos:0<n
 le:n<=ws.length+1
theorem RunD.at_{S:Sys}{res:Nat->Nat->Nat}{ws:List Nat}{c:Conf}{n:Nat}{Cs:List Conf}{Ks:List Cnt}(h:RunD S res ws c n Cs Ks){k:Nat}(hk:k<n):(Cs.getD k [],Ks.getD k default) ∈ S.runs res ws c/\(S.runs res ws c)[k]? = some (Cs.getD k [],Ks.getD k default):=by
 have hk':k<(S.runs res ws c).length:=by rw[h.len];exact hk
 have e:(S.runs res ws c)[k]=(Cs.getD k [],Ks.getD k default):=by
  rw[<- h.cs,<- h.ks];simp[List.getD,hk']
 exact⟨by rw[<- e];exact List.getElem_mem hk',by rw[<- e];exact List.getElem?_eq_getElem hk'⟩
theorem RunD.lC{S:Sys}{res:Nat->Nat->Nat}{ws:List Nat}{c:Conf}{n:Nat}{Cs:List Conf}{Ks:List Cnt}(h:RunD S res ws c n Cs Ks):Cs.length=n:=by rw[<- h.cs,List.length_map,h.len]
theorem RunD.lK{S:Sys}{res:Nat->Nat->Nat}{ws:List Nat}{c:Conf}{n:Nat}{Cs:List Conf}{Ks:List Cnt}(h:RunD S res ws c n Cs Ks):Ks.length=n:=by rw[<- h.ks,List.length_map,h.len]
theorem runD(S:Sys)(res:Nat->Nat->Nat)(ws:List Nat)(c:Conf):∃ n Cs Ks,RunD S res ws c n Cs Ks :=
 ⟨_,_,_,rfl,rfl,rfl,by simp[Sys.runs],by have:=Sys.run_len S res ws c (ycz (S.en c));simp only[Sys.runs,List.length_cons];omega⟩
theorem RunD.last{S:Sys}{res:Nat->Nat->Nat}{ws:List Nat}{c:Conf}{n:Nat}{Cs:List Conf}{Ks:List Cnt}(h:RunD S res ws c n Cs Ks){k:Nat}(hk:k+1<n):S.en (Cs.getD k []) ≠ 0:=by
 have h1:=(h.at_ (show k<n by omega)).2
 exact Sys.runs_last (by rw[h.len];exact hk) h1
end Sh
end Go.Proofs.YtpngeppkgoaimaaGreatDoor

namespace Go.Proofs.YtpngeppkgoaimaaGreatDoor
namespace Sh
open Go Ev
def ydhc:LO:=[o3 (.alloc 73 1 [.a (.string (ByteArray.mk #[])),.i .i64 0,.i .i64 0,.i .i64 0,.i .i64 0,.i .i64 0]) 8 0]
def ydbl:LO:=[mv' 0 9 0,mv' 1 10 0,mv' 2 11 0,mv' 3 12 0,o3 (.build [.a (.string (ByteArray.mk #[])),.i .i64 0,.i .i64 0,.i .i64 0,.i .i64 0,.i .i64 0] [(0,1,(.tmp 9)),(1,1,(ci' 1)),(3,1,(.tmp 10)),(4,1,(.tmp 11)),(5,1,(.tmp 12))]) 13 15,o0 (.store 6 (.tmp 8) (.tmp 13)) 31]
def c51:SC:=(.seq (.reg false ydhc) (.seq (.reg false ydbl) .ret))
theorem ydaf:Fn 51 c51 [.c 8 true 6]:=fn_0 Tryz.func51 (by kernel_rfl) (by kernel_rfl)
def ydgv:LO:=[o3 (.alloc 73 1 [.a (.string (ByteArray.mk #[])),.i .i64 0,.i .i64 0,.i .i64 0,.i .i64 0,.i .i64 0]) 2 0]
def ydct:LO:=[mv' 0 3 0,o3 (.build [.a (.string (ByteArray.mk #[])),.i .i64 0,.i .i64 0,.i .i64 0,.i .i64 0,.i .i64 0] [(0,1,(.tmp 3)),(1,1,(ci' 3))]) 4 1,o0 (.store 6 (.tmp 2) (.tmp 4)) 3]
def c52:SC:=(.seq (.reg false ydgv) (.seq (.reg false ydct) .ret))
theorem ydbz:Fn 52 c52 [.c 2 true 6]:=fn_0 Tryz.func52 (by kernel_rfl) (by kernel_rfl)
def ydex:LO:=[o3 (.mv (.const (.bool false))) 6 0]
def ydbq:LO:=[mv' 0 7 0,mv' 1 8 0,bn' .geq 7 8 9 3,mv' 9 10 7,⟨.mv (.tmp 0),some 11,some (10,true),15⟩,⟨.mv (.tmp 2),some 12,some (10,true),15⟩,⟨.bin .leq (.tmp 11) (.tmp 12),some 13,some (10,true),63⟩,o3 (.pick (.tmp 10) (.tmp 13) (.const (.bool false))) 14 127,mv' 14 6 255]
def c54:SC:=(.seq (.reg false ydex) (.seq (.reg false ydbq) .ret))
theorem ydat:Fn 54 c54 [.t 6]:=fn_0 Tryz.func54 (by kernel_rfl) (by kernel_rfl)
end Sh
end Go.Proofs.YtpngeppkgoaimaaGreatDoor

namespace Go.Proofs.YtpngeppkgoaimaaGreatDoor
open Go
namespace Sh
open Ev Go.RowKit
set_option maxRecDepth 8000
theorem ybup{g:Gr}(hI:GrI g):Returns Tryz.prog 100 [grV g] (.b (yey g)):=by
 refine yzu ⟨_,_,Tryz.func100,rfl⟩ (fun _=>.b) (fun _=>.simple rfl) fun G m us hG hr φ M w us' hRl hs hv=>?_;obtain⟨u,rfl,h1⟩:=rvl1 hr;obtain⟨u',rfl,h2⟩:=yez hv;exact yun u' g w (ycao hG h1 h2 hRl hs hI)
end Sh
end Go.Proofs.YtpngeppkgoaimaaGreatDoor

namespace Go.Proofs.YtpngeppkgoaimaaGreatDoor
open Go
namespace Sh
open Ev Go.RowKit
set_option maxRecDepth 8000
theorem ycab{g:Gr}(hg:yx g){c:Conf}(hR:ycud c){G:List Int}(hG:∀ x ∈ G,I64 x):Returns Tryz.prog 79 [grV g,ybe c,yj G] (.b (yol g.ports.length (yee g G) c)):=by
 refine yzu ⟨_,_,Tryz.func79,rfl⟩ (fun _=>.b) (fun _=>.simple rfl) fun H m us hH hr φ M w us' hRl hs hv=>?_
 obtain⟨u,us2,rfl,h1,h2⟩:∃ u us2,us=u :: us2/\RV H om0 (grV g) u/\RVL H om0 [ybe c,yj G] us2:=by
  cases hr with | cons x y=>exact⟨_,_,rfl,x,y⟩
 obtain⟨u2,u3,rfl,h3,h4⟩:=rvl2 h2
 obtain⟨u',us3,rfl,h5,h6⟩:∃ u' us3,us'=u' :: us3/\VR φ u u'/\VRL φ [u2,u3] us3:=by
  cases hv with | cons x y=>exact⟨_,_,rfl,x,y⟩
 obtain⟨u2',u3',rfl,h7,h8⟩:=yvp h6;exact ymn u' u2' u3' g c G w (ycao hH h1 h5 hRl hs (ywo hg)) (yctq hH h3 h7 hRl hs hR) (ints_at hH h4 h8 hRl hs hG) hg
end Sh
end Go.Proofs.YtpngeppkgoaimaaGreatDoor

namespace Go.Proofs.YtpngeppkgoaimaaGreatDoor
open Go
namespace Sh
open Ev Go.RowKit
set_option maxRecDepth 8000
theorem ybjc(nm:ByteArray)(hi pn pi:Int):Returns Tryz.prog 51 [.a (.string nm),.i .i64 hi,.i .i64 pn,.i .i64 pi] (.ag (varC ⟨nm,1,0,hi,pn,pi⟩)):=by
 refine Returns.of (ydaf _ _ ?_);simp only[c51,ydhc,ydbl,varC,go_sem,Nat.reduceEqDiff,Nat.reduceAdd,Nat.reduceLeDiff,Nat.reduceLT,↓reduceIte,reduceCtorEq];exact Sim.refl _
theorem ybdl(nm:ByteArray):Returns Tryz.prog 52 [.a (.string nm)] (.ag (varC ⟨nm,3,0,0,0,0⟩)):=by
 refine Returns.of (ydbz _ _ ?_);simp only[c52,ydgv,ydct,varC,go_sem,Nat.reduceEqDiff,Nat.reduceAdd,Nat.reduceLeDiff,Nat.reduceLT,↓reduceIte,reduceCtorEq];exact Sim.refl _
end Sh
end Go.Proofs.YtpngeppkgoaimaaGreatDoor

namespace Go.Proofs.YtpngeppkgoaimaaGreatDoor
open Go.ChangeShapes Go.WideShapes Go.ChangeAt Go.RowKit

theorem ybnv{α:Type}{p:Nat->α->Prop}:∀ (n:Nat),(∀ i,i<n -> ∃ x,p i x) -> ∃ xs:List α,xs.length=n /\ ∀ (j:Nat) (x:α),xs[j]? = some x->p j x
 | 0,_=>⟨[],rfl,by simp⟩
 | n+1,h=>by
  obtain⟨xs,h1,h2⟩:=ybnv n fun i hi=>h i (by omega)
  obtain⟨x,hx⟩:=h n (by omega)
  refine⟨xs ++ [x],by simp[h1],fun j y hy=>?_⟩
  by_cases hj:j<xs.length
  ·rw[List.getElem?_append_left hj]at hy;exact h2 j y hy
  ·rw[List.getElem?_append_right (by omega)]at hy
   have:j - xs.length=0:=by
    rcases Nat.eq_zero_or_pos (j - xs.length)with q | q
    ·exact q
    ·rw[List.getElem?_eq_none (by simp;omega)]at hy;cases hy
   rw[this]at hy;simp at hy;subst hy;obtain rfl:j=n:=by omega
   exact hx

section
variable {H:Type} {enc:TypeId × Value->H} {P:Program} {w:World} {base:Nat} {held:Bool}
theorem wf_i64{n:Int}(h:(Lit.int .i64 n).wf=true):I64 n:=by
 simp only[Lit.wf,Bool.and_eq_true,decide_eq_true_eq]at h;have e1:IntKind.i64.min = -9223372036854775808:=rfl;have e2:IntKind.i64.max=9223372036854775807:=rfl;rw[e1,e2]at h;exact h
end

theorem own:ownKnob Tryz.prog.godebug=Option.none:=by kernel_rfl
theorem laidOut:laidOutB Tryz.prog=true:=by kernel_rfl

section
variable {H:Type} {enc:TypeId × Value->H} {w:World} {base:Nat} {held:Bool} {n:Nat} {v:Value} {x:DataW H × List MemPlace}
end
end Go.Proofs.YtpngeppkgoaimaaGreatDoor

namespace Go.Proofs.YtpngeppkgoaimaaGreatDoor
namespace Sh
open Go Ev Go.RowKit

noncomputable def yxg{α:Type}(t:T α):Nat->List (Option α)->T α
 | _,[]=>t
 | i,x :: l=>yxg (T.set (Nat.succ i) t i x) (i+1) l
theorem ylc{α:Type}:∀ (l:List (Option α)) (t:T α) (i j:Nat),(yxg t i l).get j=if i<=j/\j<i+l.length then(l[j - i]?).join else t.get j
 | [],t,i,j=>by rw[if_neg (by simp)];rfl
 | x :: l,t,i,j=>by
  unfold yxg;rw[ylc l _ _ j]
  by_cases c:i+1<=j/\j<i+1+l.length
  ·rw[if_pos c,if_pos (by simp;omega),show j - i=(j - (i+1))+1 by omega]
   rfl
  ·rw[if_neg c,T.set_at]
   by_cases q:j=i
   ·subst q;rw[if_pos rfl,if_pos (by simp)]
    simp
   ·rw[if_neg q,if_neg (by simp;omega)]

def absV(Z:Nat)(v:Value):Option Value:=if simple v then some v else match v with
 | .slice (some ⟨b,o,none⟩) n c=>if n<=c/\c<=9223372036854775807 then(if c=0 then some (.slice (some ⟨Z,0,none⟩) n CU)else if b<=Z then some (.slice (some ⟨b,o,none⟩) n CU)else none)else none
 | .slice (some ⟨_,_,some _⟩) n c=>if n<=c/\c=0 then some (.slice (some ⟨Z,0,none⟩) n CU)else none
 | _=>none
noncomputable def absB(Z:Nat)(w:World)(i:Nat):Option ABlk:=match w.heap[i]? with
 | some (.cells c _ _)=>some (.cells (yxg .leaf 0 (c.toList.map (absV Z))) c.size CU 0)
 | _=>none
def phiW(w:World):Phi:=fun i=>match w.heap[i]? with
 | some (.cells c _ _)=>some ⟨i,0,c.size,0,w.heap[i]?⟩
 | _=>if i<=w.heap.size then some ⟨i,0,0,0,none⟩else none
noncomputable def memW(w:World):Mem:=⟨w.heap.size+1,yxg .leaf 0 ((List.range w.heap.size).map (absB w.heap.size w)),w.heap.size+1⟩

theorem ylr{w:World}{i:Nat}{b:ABlk}:(memW w).b.get i=some b ↔ absB w.heap.size w i=some b:=by
 show(yxg .leaf 0 _).get i=some b ↔ _;rw[ylc]
 by_cases h:i<w.heap.size
 ·rw[if_pos (by simpa using h)]
  simp[h]
 ·rw[if_neg (by simpa using h),T.get_leaf]
  have:absB w.heap.size w i=none:=by unfold absB;rw[Array.getElem?_eq_none (by omega)]
  rw[this]
theorem ybcf(w:World):Wf (memW w):=fun i b h=>by
 rw[ylr]at h;show i<w.heap.size+1;unfold absB at h;split at h
 ·rename_i hc;have:=(Array.getElem?_eq_some_iff.1 hc).1;omega
 ·cases h
theorem ydu{w:World}{v u:Value}(h:absV w.heap.size v=some u):VR (phiW w) u v:=by
 have hZ:∃ l,phiW w w.heap.size=some l:=by
  unfold phiW;rw[Array.getElem?_eq_none (Nat.le_refl _)];simp
 have hφ:∀ b,b<=w.heap.size -> ∃ sz ob,phiW w b=some ⟨b,0,sz,0,ob⟩:=by
  intro b hb;unfold phiW;split
  ·exact⟨_,_,rfl⟩
  ·rw[if_pos hb];exact⟨_,_,rfl⟩
 unfold absV at h;split at h
 ·rename_i hs;cases h;exact .simple hs
 ·split at h
  ·rename_i b o n c _
   split at h
   ·rename_i hc
    split at h
    ·rename_i h0
     cases h
     obtain⟨l,hl⟩:=hZ;exact .slice hl hc.1 (fun q=>absurd rfl q) hc.2 (.inr h0)
    ·split at h
     ·rename_i hbl
      cases h
      obtain⟨sz,ob',hl⟩:=hφ b hbl;exact .slice hl hc.1 (fun q=>absurd rfl q) hc.2 (.inl ⟨by simp,.inl rfl⟩)
     ·cases h
   ·cases h
  ·rename_i b o sp n c _
   split at h
   ·rename_i hc
    cases h
    obtain⟨l,hl⟩:=hZ;exact .slice hl hc.1 (fun q=>absurd rfl q) (by omega) (.inr hc.2)
   ·cases h
  ·cases h
theorem relW(w:World):Rel (phiW w) (memW w).b.get w:=by
 have hblk:∀ i b,(memW w).b.get i=some b -> ∃ l,phiW w i=some l/\l.blk=i/\l.ob=w.heap[i]? /\ BR (phiW w) l w b:=by
  intro i b hb;rw[ylr]at hb;unfold absB at hb;split at hb
  ·rename_i c e fz hc
   cases hb
   refine⟨⟨i,0,c.size,0,w.heap[i]?⟩,by unfold phiW;rw[hc],rfl,rfl,rfl,by simp,c.toList,e,fz,⟨fun q=>absurd rfl q,fun o ho=>ho⟩,by simpa using hc,by simp,fun j v hj hg=>?_⟩
   rw[ylc]at hg;split at hg
   ·simp only[Nat.sub_zero,List.getElem?_map]at hg;cases hcj:c.toList[j]? with
    | none=>rw[hcj]at hg;cases hg
    | some x =>
     rw[hcj]at hg;have hg:absV w.heap.size x=some v:=by simpa using hg
     exact⟨x,by rw[Nat.zero_add];exact hcj,ydu hg⟩
   ·rw[T.get_leaf]at hg;cases hg
  ·cases hb
 refine⟨fun i b hb=>by obtain⟨l,h1,_,_,h2⟩:=hblk i b hb;exact⟨l,h1,h2⟩,fun i j x y li lj hne hx hy hi hj=>?_⟩
 obtain⟨l,h1,h2,_⟩:=hblk i x hx;obtain⟨l',h3,h4,_⟩:=hblk j y hy;rw[hi]at h1;cases h1
 rw[hj]at h3;cases h3
 rw[h2,h4];exact hne
theorem ycvr{w:World}{i:Nat}{b:ABlk}{l:Ev.Loc}(hb:(memW w).b.get i=some b)(hl:phiW w i=some l):l.blk=i /\ ∃ o,l.ob=some o/\w.heap[i]? = some o:=by
 rw[ylr]at hb;unfold absB at hb;split at hb
 ·rename_i c e fz hc
  unfold phiW at hl;rw[hc]at hl;cases hl
  exact⟨rfl,_,rfl,hc⟩
 ·cases hb
theorem ydcv(w:World)(n:Nat):Fresh (phiW w) (memW w).next n:=by
 intro i h1 _;have h1:w.heap.size+1<=i:=h1;unfold phiW;rw[Array.getElem?_eq_none (by omega)]
 simp only;rw[if_neg (by omega)]
theorem ybvq {P:Program} {g:FuncId} {args:List SV} {r:SV} {v:Value} {us us':List Value} {w:World} (h:Returns P g args r) (hg:∃ fn c,P.funcs[g]? = some fn/\fn.body=some c) (hn:ymp P)
  (ha:RVL (memW w).b.get om0 args us) (hv:VRL (phiW w) us us') (hr:∀ F u,RV F om0 r u->u=v) (hat:∀ φ v',VR φ v v'->v'=v):Calls P g us'.toArray w fun e w'=>e = .returned v/\Below w.heap.size w w':=by
 obtain⟨u,m',x,h1,h2,h3,rfl,h5⟩:=h (memW w).b.get (memW w) us (ybcf w) (Le.refl _) ha;have hu:=hr _ _ h5;subst hu;have hs:=(h1 (ybcf w)).2 (phiW w) (memW w).b.get w us' (relW w) (fun i b hb=>hb) hv (ydcv w _);obtain⟨fn,c,k1,k2⟩:=hg;rcases hs with⟨_,hc⟩ | ⟨v',w',hrun,_⟩
 ·refine hc.mono ?_;rintro e w' ⟨v',rfl,φ',M',hgd,hvr⟩;rw[hat _ _ hvr];refine⟨rfl,hgd.wg.os,hgd.wg.tape,hgd.wg.output,hgd.wg.size,fun k hk=>?_⟩
  by_cases hi:Img (phiW w) (memW w).b.get k
  ·obtain⟨i,b,l,e1,e2,e3⟩:=hi;obtain⟨k4,o,k5,k6⟩:=ycvr e1 e2;have hik:i=k:=k4.symm.trans e3;subst hik;have hlt:i<(memW w).next:=ybcf w i b e1
   have hM:M' i=some b:=by
    rw[hgd.frame i (fun q=>by omega) (.inr (Nat.lt_of_lt_of_le hlt h2))]
    exact e1
   obtain⟨l',q1,q2⟩:=hgd.rel.blk i b hM;rw[hgd.le i l e2]at q1;cases q1
   have hcells:∃ c n,b = .cells c n CU 0:=by
    rw[ylr]at e1;unfold absB at e1;split at e1
    ·cases e1;exact⟨_,_,rfl⟩
    ·cases e1
   obtain⟨c',n',rfl⟩:=hcells;obtain⟨_,_,cs,e',fz,h0,_⟩:=q2;rw[k4]at h0;rw[h0.2 o k5,k6]
  ·exact hgd.wg.keep k hk hi
 ·rw[ybs hn k1 k2]at hrun;cases hrun
end Sh
end Go.Proofs.YtpngeppkgoaimaaGreatDoor

namespace Go.Proofs.YtpngeppkgoaimaaGreatDoor
namespace Sh
open Go Ev Go.RowKit Go.ChangeShapes Go.WideShapes Go.ChangeAt
def yru(w:World)(g:SV)(v:Value):Prop:=∃ u,absV w.heap.size v=some u/\RV (memW w).b.get om0 g u
def ybaz(w:World)(g:List SV)(cs:List Value):Prop:=∃ L,cs.map (absV w.heap.size)=L.map some/\RVL (memW w).b.get om0 g L
theorem ybaz.nil(w:World):ybaz w [] []:=⟨[],rfl,.nil⟩
theorem yru.cons{w:World}{g:SV}{v:Value}{gs:List SV}{cs:List Value}(h:yru w g v)(t:ybaz w gs cs):ybaz w (g :: gs) (v :: cs):=by
 obtain⟨u,h1,h2⟩:=h;obtain⟨L,h3,h4⟩:=t;exact⟨u :: L,by rw[List.map_cons,List.map_cons,h1,h3],.cons h2 h4⟩
theorem yvw(w:World)(k:IntKind)(n:Int):yru w (.i k n) (.int k n):=⟨.int k n,rfl,.i⟩
theorem ybfw{w:World}{a:Addr}{v:Value}(h:w.cell? a=some v):a.spot=none/\a.block<w.heap.size /\ ∃ c e fz,w.heap[a.block]? = some (.cells c e fz)/\c[a.off]? = some v:=by
 unfold World.cell? at h;split at h
 ·rename_i c e fz hc
  split at h
  ·cases h
  ·rename_i hs
   refine⟨?_,(Array.getElem?_eq_some_iff.1 hc).1,c,e,fz,hc,h⟩;cases hq:a.spot with
   | none=>rfl
   | some x=>rw[hq]at hs;simp at hs
 ·cases h
section
variable {H:Type} {enc:TypeId × Value->H} {P:Program} {w:World} {base:Nat} {held:Bool}
theorem ytg {α:Type} {z:Nat} {f:α->List SV} {p:α->Prop} (d:α) {t e:TypeId} {fuel:Nat} {v:Value} {x:DataW H × List MemPlace} (ht:P.underlying t=some (.slice e)) (hC:P.cellsOf e=z) (h0:0<z)
  (hE:∀ (n:Nat) (cs':List Value) (y:DataW H × List MemPlace),DataW.trod enc P w base (fun _=>true) held n e cs'=some y->cs'.length=z -> ∃ x,p x/\ybaz w (f x) cs'/\(f x).all one1=true)
  (h:DataW.trod enc P w base (fun _=>true) held fuel t [v]=some x):∃ xs:List α,(∀ x ∈ xs,p x)/\yru w (.sl z xs.length (fun k=>f (xs.getD k d))) v:=by
 rcases Go.Deep.open_slice ht h with⟨h1,_⟩ | ⟨a,len,cap,m,n,D,Pl,hcs,hb,hl,hm,hmm,hx,hi⟩
 ·simp at h1;subst h1;exact⟨[],fun x hx=>(by cases hx),.slice none 0 0,rfl,.sl0 (.inl rfl)⟩
 ·simp at hcs;subst hcs;simp only[if_true]at hmm;subst hmm;unfold maxLen at hm;rw[hC]at hi;obtain⟨b,off,spot⟩:=a;rcases Nat.eq_zero_or_pos m with rfl | hcap
  ·obtain rfl:len=0:=by omega
   refine⟨[],fun x hx=>(by cases hx),.slice (some ⟨w.heap.size,0,none⟩) 0 CU,?_,.sl0 (.inr ⟨_,_,_,rfl⟩)⟩
   cases spot<;>rfl
  ·have h00:∃ v0,w.cell? ⟨b,off,spot⟩=some v0:=by
    obtain⟨cs',h2,_⟩:=hi 0 hcap;obtain⟨_,h3,h4⟩:=World.cells?_some h2;have h5:=h4 0 h0;have h6:cs'[0]? = some (cs'[0]'(by omega)):=List.getElem?_eq_getElem (by omega)
    rw[h6]at h5
    have e:(((⟨b,off,spot⟩:Addr).add (0 * z)).add 0)=⟨b,off,spot⟩:=by
     unfold Addr.add;simp
    rw[e]at h5;exact⟨_,h5⟩
   obtain⟨v0,hv0⟩:=h00;obtain⟨hsp,hblk,c,e',fz,hc,_⟩:=ybfw hv0;have hsp:spot=none:=hsp;subst hsp;have hblk:b<w.heap.size:=hblk;have hc:w.heap[b]? = some (.cells c e' fz):=hc
   have habs:absV w.heap.size (.slice (some ⟨b,off,none⟩) len m)=some (.slice (some ⟨b,off,none⟩) len CU):=by
    unfold absV;rw[if_neg (by simp[simple])]
    simp only;rw[if_pos ⟨hl,hm⟩,if_neg (by omega),if_pos (by omega)]
   obtain⟨xs,x1,x2⟩:=ybnv (p:=fun i x=>p x/\(f x).all one1=true /\ ∃ L:List Value,L.length=z/\RVL (memW w).b.get om0 (f x) L /\ ∀ j,j<z -> ∃ cv,w.cell? ⟨b,off+i * z+j,none⟩=some cv/\absV w.heap.size cv=L[j]?) len fun i hil=>by
    obtain⟨cs',h2,h3⟩:=hi i (by omega)
    obtain⟨_,h4,h5⟩:=World.cells?_some h2;obtain⟨x,q1,⟨L,q2,q3⟩,q4⟩:=hE n cs' _ h3 h4
    have hLz:L.length=z:=by
     have:=congrArg List.length q2
     simpa [h4]using this.symm
    refine⟨x,q1,q4,L,hLz,q3,fun j hj=>?_⟩;have hj':j<cs'.length:=by omega
    refine⟨cs'[j],?_,?_⟩
    ·have:=h5 j hj;rw[List.getElem?_eq_getElem hj']at this;rw[<- this];congr 1;unfold Addr.add;split<;>split<;>simp_all<;>omega
    ·have:=congrArg (fun l=>l[j]?) q2;simp only[List.getElem?_map,List.getElem?_eq_getElem hj']at this;rw[List.getElem?_eq_getElem (show j<L.length by omega)]at this ⊢
     simpa using this
   refine⟨xs,fun x hx=>?_,_,habs,?_⟩
   ·obtain⟨i,hi',rfl⟩:=List.getElem_of_mem hx;exact(x2 i _ (List.getElem?_eq_getElem hi')).1
   ·rw[x1];rcases Nat.eq_zero_or_pos len with rfl | hlen
    ·exact .sl0 (.inr ⟨_,_,_,rfl⟩)
    ·have hat:∀ k,k<len -> ∃ L:List Value,L.length=z/\RVL (memW w).b.get om0 (f (xs.getD k d)) L/\(f (xs.getD k d)).all one1=true /\ ∀ j,j<z -> ∃ cv,w.cell? ⟨b,off+k * z+j,none⟩=some cv/\absV w.heap.size cv=L[j]?:=fun k hk=>by
      have hk':k<xs.length:=by omega
      obtain⟨_,q2,L,q3,q4,q5⟩:=x2 k _ (List.getElem?_eq_getElem hk');rw[List.getD_eq_getElem?_getD,List.getElem?_eq_getElem hk'];exact⟨L,q3,q4,q2,q5⟩
     classical
     let L:Nat->List Value:=fun k=>if hk:k<len then Classical.choose (hat k hk)else[]
     have hL:∀ k (hk:k<len),(L k).length=z/\RVL (memW w).b.get om0 (f (xs.getD k d)) (L k)/\(f (xs.getD k d)).all one1=true /\ ∀ j,j<z -> ∃ cv,w.cell? ⟨b,off+k * z+j,none⟩=some cv/\absV w.heap.size cv=(L k)[j]?:=fun k hk=>by
      have e:L k=Classical.choose (hat k hk):=by show(if hk:k<len then _ else _)=_;rw[dif_pos hk]
      rw[e];exact Classical.choose_spec (hat k hk)
     have hmem:(memW w).b.get b=some (.cells (yxg .leaf 0 (c.toList.map (absV w.heap.size))) c.size CU 0):=by
      rw[ylr];unfold absB;rw[hc]
     have hget:∀ j cv,w.cell? ⟨b,j,none⟩=some cv->j<c.size/\(yxg .leaf 0 (c.toList.map (absV w.heap.size))).get j=absV w.heap.size cv:=fun j cv hcv=>by
      obtain⟨_,_,c2,e2,fz2,h1,h2⟩:=ybfw hcv;have h1:w.heap[b]? = some (.cells c2 e2 fz2):=h1;rw[hc]at h1;cases h1
      have h2:c[j]? = some cv:=h2;have hj:j<c.size:=(Array.getElem?_eq_some_iff.1 h2).1;refine⟨hj,?_⟩;rw[ylc,if_pos ⟨Nat.zero_le _,by simpa using hj⟩,Nat.sub_zero,List.getElem?_map]
      have:c.toList[j]? = some cv:=by simpa using h2
      rw[this];simp
     refine .sl (L:=L) hmem (.inr rfl) ?_ (fun k hk=>(hL k hk).1) (fun k hk j hj=>?_) (fun k hk=>(hL k hk).2.1) (fun k hk=>(hL k hk).2.2.1)
     ·obtain⟨_,_,_,q⟩:=hL (len - 1) (by omega)
      obtain⟨cv,h1,_⟩:=q (z - 1) (by omega)
      have:=(hget _ _ h1).1
      have e:len * z=(len - 1) * z+z:=by
       obtain⟨y,rfl⟩:∃ y,len=y+1:=⟨len - 1,by omega⟩
       rw[Nat.succ_mul];simp
      omega
     ·obtain⟨_,_,_,q⟩:=hL k hk;obtain⟨cv,h1,h2⟩:=q j hj;rw[(hget _ _ h1).2,h2]
theorem ybmd {t e:TypeId} {fuel:Nat} {v:Value} {x:DataW H × List MemPlace} (ht:P.underlying t=some (.slice e)) (he:P.underlying e=some (.int .i64)) (hC:P.cellsOf e=1)
  (h:DataW.trod enc P w base (fun _=>true) held fuel t [v]=some x):∃ xs,(∀ x ∈ xs,I64 x)/\yru w (yj xs) v:=by
 refine ytg (f:=fun x=>[.i .i64 x]) (p:=I64) 0 ht hC (by decide) (fun n cs' y h1 h2=>?_) h
 obtain⟨k,rfl,_,hw⟩:=DataW.trod_int he h1;exact⟨k,wf_i64 hw,(yvw w .i64 k).cons (ybaz.nil w),rfl⟩
end
section
variable {H:Type} {enc:TypeId × Value->H} {w:World} {base:Nat} {held:Bool} {n:Nat} {v:Value} {x:DataW H × List MemPlace}
theorem yfl(h:DataW.trod enc Tryz.prog w base (fun _=>true) held n 22 [v]=some x):∃ xs,(∀ x ∈ xs,I64 x)/\yru w (yj xs) v :=
 ybmd Tryz.underlying22 Tryz.underlying3 (by kernel_rfl) h
end
theorem yiz {P:Program} {g:FuncId} {args:List SV} {x:Bool} {us':List Value} {w:World} (h:Returns P g args (.b x)) (hg:∃ fn c,P.funcs[g]? = some fn/\fn.body=some c) (hn:ymp P)
  {us:List Value} (ha:RVL (memW w).b.get om0 args us) (hv:VRL (phiW w) us us'):Calls P g us'.toArray w fun e w'=>e = .returned (.bool x)/\Below w.heap.size w w' :=
 ybvq h hg hn ha hv (fun F u hu=>by cases hu;rfl) (fun φ v' hv'=>hv'.eq_simple rfl)
end Sh
end Go.Proofs.YtpngeppkgoaimaaGreatDoor

namespace Go.Proofs.YtpngeppkgoaimaaGreatDoor
namespace Sh
open Go Ev Go.RowKit Go.ChangeShapes Go.WideShapes Go.ChangeAt Go.Joins
theorem ycwk{α:Type}{cs:Array α}(h:cs.size=6):∃ c0 c1 c2 c3 c4 c5,cs = #[c0,c1,c2,c3,c4,c5]:=by
 obtain⟨l⟩:=cs
 match l,h with
 | [c0,c1,c2,c3,c4,c5],_=>exact⟨c0,c1,c2,c3,c4,c5,rfl⟩
section
variable {H:Type} {enc:TypeId × Value->H} {P:Program} {w:World} {base:Nat} {held:Bool} {spare:Nat->Bool}
theorem six{α:Type}{xs:List α}(h:xs.length=6):∃ y0 y1 y2 y3 y4 y5,xs = [y0,y1,y2,y3,y4,y5]:=by
 match xs,h with
 | [y0,y1,y2,y3,y4,y5],_=>exact⟨y0,y1,y2,y3,y4,y5,rfl⟩
theorem ybuc {r:Reach} {b0:Nat} {t:TypeId} {f0 f1 f2 f3 f4 f5:Field} {v:Value} {d:DataW H} {p:List MemPlace} (hs:P.underlying t=some (.struct #[f0,f1,f2,f3,f4,f5])) (hone:Go.Deep.oneCellFields P #[f0,f1,f2,f3,f4,f5]=true) (hC:P.cellsOf t=6)
  (hv:Value.okWide P w r b0 t v) (h:DataW.Trod enc P w base spare held t v d p) :
  ∃ (v0 v1 v2 v3 v4 v5:Value) (y0 y1 y2 y3 y4 y5:DataW H × List MemPlace) (n:Nat),v = .agg #[v0,v1,v2,v3,v4,v5] /\
   DataW.trod enc P w base spare held n f0.type [v0]=some y0/\DataW.trod enc P w base spare held n f1.type [v1]=some y1/\DataW.trod enc P w base spare held n f2.type [v2]=some y2 /\
   DataW.trod enc P w base spare held n f3.type [v3]=some y3/\DataW.trod enc P w base spare held n f4.type [v4]=some y4/\DataW.trod enc P w base spare held n f5.type [v5]=some y5:=by
 obtain⟨cs,rfl,hsz⟩:=okWide_struct hs hv;obtain⟨c0,c1,c2,c3,c4,c5,rfl⟩:=ycwk (hsz.trans hC);obtain⟨fuel,hf⟩:=h;obtain⟨xs,n,_,_,_,hlen,hf⟩:=DataW.trod_struct hs hf;obtain⟨y0,y1,y2,y3,y4,y5,rfl⟩:=six hlen;obtain⟨o0,k0⟩:=Go.Deep.hone_of hone 0 f0 rfl;obtain⟨o1,k1⟩:=Go.Deep.hone_of hone 1 f1 rfl;obtain⟨o2,k2⟩:=Go.Deep.hone_of hone 2 f2 rfl;obtain⟨o3,k3⟩:=Go.Deep.hone_of hone 3 f3 rfl;obtain⟨o4,k4⟩:=Go.Deep.hone_of hone 4 f4 rfl
 obtain⟨o5,k5⟩:=Go.Deep.hone_of hone 5 f5 rfl;have h0:=hf 0 f0 rfl;have h1:=hf 1 f1 rfl;have h2:=hf 2 f2 rfl;have h3:=hf 3 f3 rfl;have h4:=hf 4 f4 rfl;have h5:=hf 5 f5 rfl;rw[o0,k0]at h0;rw[o1,k1]at h1;rw[o2,k2]at h2;rw[o3,k3]at h3;rw[o4,k4]at h4;rw[o5,k5]at h5;exact⟨c0,c1,c2,c3,c4,c5,y0,y1,y2,y3,y4,y5,n,rfl,h0,h1,h2,h3,h4,h5⟩
end
set_option maxRecDepth 8000
section
variable {H:Type} {enc:TypeId × Value->H} {w:World} {base:Nat} {held:Bool} {n:Nat} {v:Value} {x:DataW H × List MemPlace}
theorem ybmm(w:World)(b:Bool):yru w (.b b) (.bool b):=⟨.bool b,rfl,.b⟩
theorem yos(h:DataW.trod enc Tryz.prog w base (fun _=>true) held n 25 [v]=some x):∃ xs:List Nat,(∀ k,xs.getD k 0<2 ^ 32)/\yru w (usV xs) v:=by
 obtain⟨xs,h1,h2⟩:=ytg (f:=fun x:Nat=>[SV.i .u32 (x:Int)]) (p:=fun x=>x<2 ^ 32) 0 (z:=1) Tryz.underlying25 (by kernel_rfl) (by decide) (fun n cs' y h1 h2=>by
  obtain⟨k,rfl,_,hw⟩:=DataW.trod_int Tryz.underlying44 h1;have hb:=bounds_u32 hw;obtain⟨m,rfl⟩:∃ m:Nat,k=m:=⟨k.toNat,by omega⟩
  exact⟨m,by omega,(yvw w .u32 m).cons (ybaz.nil w),rfl⟩) h
 refine⟨xs,fun k=>?_,h2⟩;rcases Nat.lt_or_ge k xs.length with q | q
 ·rw[List.getD_eq_getElem?_getD,List.getElem?_eq_getElem q];exact h1 _ (List.getElem_mem q)
 ·rw[List.getD_eq_getElem?_getD,List.getElem?_eq_none q];decide
theorem yqe{l:List Int}(h:∀ x ∈ l,I64 x)(k:Nat):inK .i64 (l.getD k 0):=by
 have:I64 (l.getD k 0):=by
  rcases Nat.lt_or_ge k l.length with q | q
  ·rw[List.getD_eq_getElem?_getD,List.getElem?_eq_getElem q];exact h _ (List.getElem_mem q)
  ·rw[List.getD_eq_getElem?_getD,List.getElem?_eq_none q];exact yep (by decide)
 exact this
theorem yblo{v:Value}{x:DataW H × List MemPlace}(h:DataW.trod enc Tryz.prog w base (fun _=>true) held n 3 [v]=some x):∃ k,inK .i64 k/\yru w (.i .i64 k) v:=by
 obtain⟨k,e,_,hw⟩:=DataW.trod_int Tryz.underlying3 h;simp at e;subst e;exact⟨k,wf_i64 hw,yvw w .i64 k⟩
theorem yss{v:Value}{x:DataW H × List MemPlace}(h:DataW.trod enc Tryz.prog w base (fun _=>true) held n 4 [v]=some x):∃ b,yru w (.b b) v:=by
 obtain⟨b,e,_⟩:=DataW.trod_bool Tryz.underlying4 h;simp at e;subst e;exact⟨b,ybmm w b⟩
theorem ykk{b0:Nat}{d:DataW H}{p:List MemPlace}(hv:Value.okWide Tryz.prog w .any b0 24 v)(h:DataW.Trod enc Tryz.prog w base (fun _=>true) held 24 v d p) :
  ∃ (x:NetR) (u:Value),x.ok/\RV (memW w).b.get om0 (.ag (netC x)) u/\VR (phiW w) u v:=by
 obtain⟨v0,v1,v2,v3,v4,v5,y0,y1,y2,y3,y4,y5,n,rfl,h0,h1,h2,h3,h4,h5⟩:=ybuc Tryz.underlying24 (by kernel_rfl) (by kernel_rfl) hv h
 obtain⟨k,kI,u0,a0,r0⟩:=yblo h0;obtain⟨ls,lI,u1,a1,r1⟩:=yfl h1;obtain⟨ws,wI,u2,a2,r2⟩:=yfl h2;obtain⟨is,iI,u3,a3,r3⟩:=yfl h3;obtain⟨ap,u4,a4,r4⟩:=yss h4;obtain⟨bk,u5,a5,r5⟩:=yss h5;refine⟨⟨k,ls,ws,is,ap,bk⟩,.agg [u0,u1,u2,u3,u4,u5].toArray,⟨kI,yqe lI,yqe wI,yqe iI⟩,.ag (.cons r0 (.cons r1 (.cons r2 (.cons r3 (.cons r4 (.cons r5 .nil)))))),?_⟩;exact .agg (a:=[u0,u1,u2,u3,u4,u5]) (a':=[v0,v1,v2,v3,v4,v5]) (.cons (ydu a0) (.cons (ydu a1) (.cons (ydu a2) (.cons (ydu a3) (.cons (ydu a4) (.cons (ydu a5) .nil))))))
end
end Sh
end Go.Proofs.YtpngeppkgoaimaaGreatDoor

namespace Go.Proofs.YtpngeppkgoaimaaGreatDoor
namespace Ev
open Go
theorem yoc:∀ l:List UInt8,eqBytes l l=true
 | []=>rfl
 | x :: l=>by
  show(Nat.beq x.toNat x.toNat && eqBytes l l)=true;rw[Nat.beq_refl,yoc l];rfl
theorem ysg{ρ:Nat->Nat}{a:Addr}(h:a.spot.isNone=true):eqAddr (renA ρ a) (renA ρ a)=true:=by
 rw[yij];unfold eqAddr;simp only[Nat.beq_refl,h,Bool.and_self]
theorem ybrr{ρ:Nat->Nat}{v:Value}(hf:yoj v=true)(h:eq1 v v=true):eq1 (ren1 ρ v) (ren1 ρ v)=true:=by
 unfold yoj at hf;split at hf
 ·exact ysg hf
 ·rename_i a n c
  show(eqAddr (renA ρ a) (renA ρ a) && Nat.beq n n && Nat.beq c c)=true;rw[ysg hf,Nat.beq_refl,Nat.beq_refl];rfl
 ·rename_i h1 h2
  have:ren1 ρ v=v:=by
   unfold ren1;split
   ·rename_i a;exact absurd rfl (h1 a)
   ·rename_i a n c;exact absurd rfl (h2 a n c)
   ·rfl
  rw[this];exact h
theorem yoy{ρ:Nat->Nat}:∀ {l:List Value},l.all yoj=true->eqL1 l l=true->eqL1 (l.map (ren1 ρ)) (l.map (ren1 ρ))=true
 | [],_,_=>rfl
 | x :: l,hf,h=>by
  simp only[List.all_cons,Bool.and_eq_true]at hf;have h:(eq1 x x && eqL1 l l)=true:=h;rw[Bool.and_eq_true]at h;show(eq1 (ren1 ρ x) (ren1 ρ x) && eqL1 (l.map (ren1 ρ)) (l.map (ren1 ρ)))=true;rw[ybrr hf.1 h.1,yoy hf.2 h.2];rfl
theorem ybqz{v:Value}(h1:∀ a,v = .agg a->False)(h2:∀ g a c,v = .func (.func g) a c->False):eq2 v v=eq1 v v:=by
 cases v with
 | agg a=>exact(h1 a rfl).elim
 | func f a c=>cases f with
  | func g=>exact(h2 g a c rfl).elim
  | _=>rfl
 | _=>rfl
theorem ybmo{ρ:Nat->Nat}{v:Value}(h1:∀ a,v = .agg a->False)(h2:∀ g a c,v = .func (.func g) a c->False)(hf:yoj v=true):ren2 ρ v=ren1 ρ v:=by
 cases v with
 | agg a=>exact(h1 a rfl).elim
 | func f a c=>cases f with
  | func g=>exact(h2 g a c rfl).elim
  | _=>cases hf
 | _=>rfl
theorem ytw{ρ:Nat->Nat}{v:Value}(hf:yoj v=true):(∀ a,ren1 ρ v = .agg a->False) /\ ∀ g a c,ren1 ρ v = .func (.func g) a c->False:=by
 cases v with
 | agg a=>cases hf
 | func f a c=>cases hf
 | pointer p=>cases p<;>exact⟨fun _ h=>(by cases h),fun _ _ _ h=>(by cases h)⟩
 | slice p n c=>cases p<;>exact⟨fun _ h=>(by cases h),fun _ _ _ h=>(by cases h)⟩
 | _=>exact⟨fun _ h=>(by cases h),fun _ _ _ h=>(by cases h)⟩
theorem ybrt{ρ:Nat->Nat}{v:Value}(hf:yjk v=true)(h:eq2 v v=true):eq2 (ren2 ρ v) (ren2 ρ v)=true:=by
 unfold yjk at hf;split at hf
 ·rename_i a
  have h:eqL1 a.toList a.toList=true:=h;show eqL1 (a.toList.map (ren1 ρ)).toArray.toList (a.toList.map (ren1 ρ)).toArray.toList=true;exact yoy hf h
 ·rename_i g a c
  rw[Bool.and_eq_true]at hf;have h:(Nat.beq g g && eqL1 a.toList a.toList && eqL1 c.toList c.toList)=true:=h;simp only[Bool.and_eq_true]at h;show(Nat.beq g g && eqL1 (a.toList.map (ren1 ρ)).toArray.toList (a.toList.map (ren1 ρ)).toArray.toList && eqL1 (c.toList.map (ren1 ρ)).toArray.toList (c.toList.map (ren1 ρ)).toArray.toList)=true;rw[Nat.beq_refl,yoy hf.1 h.1.2,yoy hf.2 h.2];rfl
 ·rename_i h1 h2
  rw[ybqz h1 h2]at h;rw[ybmo h1 h2 hf,ybqz (ytw hf).1 (ytw hf).2];exact ybrr hf h
def reflB(b:BlkL):Bool:=b.l.all (fun v=>eq2 v v && yjk v) && Nat.blt b.l.length 1000000
theorem yrc{ρ:Nat->Nat}{b:BlkL}(h:reflB b=true):∀ v ∈ (b.ren ρ).l,eq2 v v=true:=by
 unfold reflB at h;rw[Bool.and_eq_true]at h;intro v hv;obtain⟨x,hx,rfl⟩:=List.mem_map.1 hv;have:=List.all_eq_true.1 h.1 x hx;rw[Bool.and_eq_true]at this;exact ybrt this.2 this.1
theorem yln{l:List Value}(h:∀ v ∈ l,eq2 v v=true):∀ (k:List Value) (n:Nat),l.drop n=k->cellsAre (tOf l) n k=true
 | [],_,_=>rfl
 | v :: k,n,e=>by
  have hn:n<l.length:=by
   rcases Nat.lt_or_ge n l.length with q | q
   ·exact q
   ·rw[List.drop_eq_nil_of_le q]at e;cases e
  rw[List.drop_eq_getElem_cons hn]at e
  injection e with e1 e2
  unfold cellsAre;rw[ycj,List.getElem?_eq_getElem hn,e1];simp only;rw[h v (by rw[<- e1];exact List.getElem_mem _),yln h k (n+1) e2]
  rfl
theorem ync{m:Mem}{b:BlkL}(hg:m.b.get b.i=some b.blk)(h:∀ v ∈ b.l,eq2 v v=true)(hl:Nat.blt b.l.length 1000000=true):blkIs m b=true:=by
 unfold blkIs;rw[hg];show(Nat.beq b.l.length b.l.length && Nat.beq b.e b.e && Nat.beq b.z b.z && Nat.blt b.l.length 1000000 && cellsAre (tOf b.l) 0 b.l)=true;rw[Nat.beq_refl,Nat.beq_refl,Nat.beq_refl,hl,yln h b.l 0 (List.drop_zero ..)];rfl
theorem yrj:∀ {l:List BlkL} {t:T ABlk} {i:Nat},(∀ b ∈ l,b.i ≠ i)->(blksT t l).get i=t.get i
 | [],_,_,_=>rfl
 | b :: l,t,i,h=>by
  unfold blksT;rw[T.strict_eq,yrj fun c hc=>h c (List.mem_cons_of_mem _ hc),T.set_at,if_neg (fun e=>h b List.mem_cons_self e.symm)]
theorem ypj:∀ {l:List BlkL} {t:T ABlk},yfk (l.map (·.i))=true -> ∀ b ∈ l,(blksT t l).get b.i=some b.blk
 | [],_,_,b,hb=>by cases hb
 | c :: l,t,h,b,hb=>by
  have h:(!(l.map (·.i)).elem c.i && yfk (l.map (·.i)))=true:=h;rw[Bool.and_eq_true,Bool.not_eq_true']at h;unfold blksT;rw[T.strict_eq];rcases List.mem_cons.1 hb with e | hb
  ·subst e;rw[yrj fun d hd e=>?_,T.set_at,if_pos rfl];have:(l.map (·.i)).elem b.i=true:=List.elem_eq_true_of_mem (List.mem_map.2 ⟨d,hd,e⟩);rw[this]at h;cases h.1
  ·exact ypj h.2 b hb
theorem ylp:∀ {l:List Nat},l.Nodup->yfk l=true
 | [],_=>rfl
 | x :: l,h=>by
  rw[List.nodup_cons]at h;show(!(l.elem x) && yfk l)=true
  have:l.elem x=false:=by
   cases hq:l.elem x with
   | false=>rfl
   | true=>exact absurd (by simpa using hq) h.1
  rw[this,ylp h.2];rfl
theorem ywa:∀ {l:List Nat},yfk l=true->l.Nodup
 | [],_=>List.nodup_nil
 | x :: l,h=>by
  have h:(!(l.elem x) && yfk l)=true:=h;rw[Bool.and_eq_true,Bool.not_eq_true']at h;rw[List.nodup_cons];refine⟨fun hm=>?_,ywa h.2⟩;have:l.elem x=true:=by simpa using hm
  rw[this]at h;cases h.1
theorem ybgt{d:Nat}:∀ {l:List BlkL} {k:List Nat},(l.map (·.i)).Nodup->l.length=k.length->l.map (fun b=>yue l k d b.i)=k
 | [],[],_,_=>rfl
 | b :: l,t :: k,hn,hl=>by
  rw[List.map_cons,List.nodup_cons]at hn;have ih:=ybgt (d:=d) hn.2 (by simpa using hl)
  rw[List.map_cons];have e1:yue (b :: l) (t :: k) d b.i=t:=by unfold yue;rw[Nat.beq_refl];rfl
  rw[e1];congr 1;refine Eq.trans (List.map_congr_left fun c hc=>?_) ih;show(bif Nat.beq b.i c.i then t else yue l k d c.i)=_
  have:Nat.beq b.i c.i=false:=by
   cases hq:Nat.beq b.i c.i with
   | false=>rfl
   | true=>exact absurd (List.mem_map.2 ⟨c,hc,(Nat.eq_of_beq_eq_true hq).symm⟩) hn.1
  rw[this];rfl
 | [],_ :: _,_,h=>by cases h
 | _ :: _,[],_,h=>by cases h
def Fact.still(f:Fact):Bool:=Nat.ble f.next0 f.low && f.args.all yjk && yblv f.v && f.pre.all (fun b=>Nat.blt b.i f.next0 && reflB b) && yfk (f.pre.map (·.i)) && f.post.all (fun b=>Nat.ble f.next0 b.i && Nat.blt b.i f.next1 && reflB b) && yfk (f.post.map (·.i)) && Nat.ble f.next0 f.next1
theorem ycjd{a b:Nat}(h:Nat.blt a b=true):a<b:=Nat.lt_of_lt_of_le (Nat.lt_succ_self _) (Nat.le_of_ble_eq_true h)
theorem ybgx{a b:Nat}(h:a<b):Nat.blt a b=true:=Nat.ble_eq_true_of_le h
theorem ykc{f:Fact}(h:f.still=true):f.next0<=f.low/\(f.args.all yjk=true/\yblv f.v=true)/\(∀ b ∈ f.pre,b.i<f.next0/\reflB b=true)/\(f.pre.map (·.i)).Nodup/\(∀ b ∈ f.post,f.next0<=b.i/\b.i<f.next1/\reflB b=true)/\(f.post.map (·.i)).Nodup/\f.next0<=f.next1:=by
 unfold Fact.still at h;simp only[Bool.and_eq_true]at h;obtain⟨⟨⟨⟨⟨⟨⟨h1,h2⟩,h3⟩,h4⟩,h5⟩,h6⟩,h7⟩,h8⟩:=h;refine⟨Nat.le_of_ble_eq_true h1,⟨h2,h3⟩,fun b hb=>?_,ywa h5,fun b hb=>?_,ywa h7,Nat.le_of_ble_eq_true h8⟩
 ·have:=List.all_eq_true.1 h4 b hb;rw[Bool.and_eq_true]at this;exact⟨ycjd this.1,this.2⟩
 ·have:=List.all_eq_true.1 h6 b hb;simp only[Bool.and_eq_true]at this;exact⟨Nat.le_of_ble_eq_true this.1.1,ycjd this.1.2,this.2⟩
theorem ybtt{f:Fact}{tgt:List Nat}{n0:Nat}(hp:∀ b ∈ f.pre,b.i<f.next0/\reflB b=true)(hn:(f.pre.map (·.i)).Nodup)(hl:f.pre.length=tgt.length):f.pre.map (fun b=>f.rho tgt n0 b.i)=tgt:=by
 refine Eq.trans (List.map_congr_left fun b hb=>?_) (ybgt (d:=Nat.add n0 (Nat.sub f.next1 f.next0)) hn hl);unfold Fact.rho;have h1:=(hp b hb).1
 have:(Nat.ble f.next0 b.i && Nat.blt b.i f.next1)=false:=by
  rw[Bool.and_eq_false_iff];left
  cases hq:Nat.ble f.next0 b.i with
  | false=>rfl
  | true=>have:=Nat.le_of_ble_eq_true hq;omega
 rw[this];rfl
theorem ybgi{f:Fact}{tgt:List Nat}{n0 i:Nat}(h1:f.next0<=i)(h2:i<f.next1):f.rho tgt n0 i=i - f.next0+n0:=by
 unfold Fact.rho;rw[Bool.cond_eq_ite,if_pos (by rw[Nat.ble_eq_true_of_le h1,ybgx h2];rfl)]
 rfl
theorem ytc{P:Program}{f:Fact}{tgt:List Nat}{n0:Nat}(hok:yew P f)(hs:f.still=true)(hl:f.pre.length=tgt.length)(hn:tgt.Nodup)(hlt:∀ t ∈ tgt,t<n0):yew P (f.move tgt n0):=by
 refine yqt hok ?_;obtain⟨s1,⟨s2,s3⟩,s4,s5,s6,s7,s8⟩:=ykc hs
 have hpi:(f.move tgt n0).pre.map (·.i)=tgt:=by
  show(f.pre.map (BlkL.ren (f.rho tgt n0))).map (·.i)=tgt;rw[List.map_map];exact Eq.trans (List.map_congr_left fun b hb=>b.ygl) (ybtt (n0:=n0) s4 s5 hl)
 have hqi:yfk ((f.move tgt n0).post.map (·.i))=true:=by
  refine ylp ?_;show((f.post.map (BlkL.ren (f.rho tgt n0))).map (·.i)).Nodup
  have e:(f.post.map (BlkL.ren (f.rho tgt n0))).map (·.i)=(f.post.map (·.i)).map (fun i=>i - f.next0+n0):=by
   rw[List.map_map,List.map_map];refine List.map_congr_left fun b hb=>?_;show(b.ren (f.rho tgt n0)).i=b.i - f.next0+n0;rw[b.ygl,ybgi (s6 b hb).1 (s6 b hb).2.1]
  rw[e];unfold List.Nodup at s7 ⊢;rw[List.pairwise_map];refine List.Pairwise.imp_of_mem (fun {x y} hx hy h=>?_) s7;obtain⟨bx,hbx,rfl⟩:=List.mem_map.1 hx;obtain⟨by_,hby,rfl⟩:=List.mem_map.1 hy;have:=(s6 bx hbx).1;have:=(s6 by_ hby).1;omega
 have hpre:yfk ((f.move tgt n0).pre.map (·.i))=true:=by rw[hpi];exact ylp hn
 unfold Fact.moves;simp only[Bool.and_eq_true];refine⟨⟨⟨⟨⟨⟨⟨⟨Nat.ble_eq_true_of_le s1,s2⟩,s3⟩,?_⟩,?_⟩,hpre⟩,?_⟩,?_⟩,Nat.ble_eq_true_of_le s8⟩
 ·refine List.all_eq_true.2 fun b hb=>?_;have:=(s4 b hb).2;unfold reflB at this;rw[Bool.and_eq_true]at this;rw[ybgx (s4 b hb).1,Bool.true_and];exact List.all_eq_true.2 fun v hv=>by have:=List.all_eq_true.1 this.1 v hv;rw[Bool.and_eq_true]at this;exact this.2
 ·refine List.all_eq_true.2 fun b hb=>?_;have:=(s6 b hb).2.2;unfold reflB at this;rw[Bool.and_eq_true]at this;rw[ybgx (s6 b hb).2.1,Bool.true_and];exact List.all_eq_true.2 fun v hv=>by have:=List.all_eq_true.1 this.1 v hv;rw[Bool.and_eq_true]at this;exact this.2
 ·refine List.all_eq_true.2 fun b' hb'=>?_;obtain⟨b,hb,rfl⟩:=List.mem_map.1 hb';have h2:=(s4 b hb).2;have h3:(b.ren (f.rho tgt n0)).i ∈ (f.move tgt n0).pre.map (·.i):=List.mem_map.2 ⟨_,hb',rfl⟩;rw[hpi]at h3;rw[ybgx (hlt _ h3),Bool.true_and];refine ync (ypj hpre _ hb') (yrc h2) ?_;show Nat.blt (b.l.map _).length 1000000=true;rw[List.length_map];unfold reflB at h2;rw[Bool.and_eq_true]at h2
  exact h2.2
 ·refine List.all_eq_true.2 fun b' hb'=>?_;obtain⟨b,hb,rfl⟩:=List.mem_map.1 hb';have h2:=(s6 b hb).2.2;refine ync (ypj hqi _ hb') (yrc h2) ?_;show Nat.blt (b.l.map _).length 1000000=true;rw[List.length_map];unfold reflB at h2;rw[Bool.and_eq_true]at h2;exact h2.2
end Ev
end Go.Proofs.YtpngeppkgoaimaaGreatDoor

