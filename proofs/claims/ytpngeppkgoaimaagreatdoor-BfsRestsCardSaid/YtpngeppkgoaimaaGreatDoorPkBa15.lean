/- Lemmas, joined: SiE SiF SiG Pa Pb Pc Pd Run RvX Catch RvY RvZ. -/
import Derived.Test.YtpngeppkgoaimaaGreatDoorPkBa14
import Derived.Test.YtpngeppkgoaimaaGreatDoorPkBa13
import Derived.Test.YtpngeppkgoaimaaGreatDoorPkBa3
import Derived.Test.YtpngeppkgoaimaaGreatDoorPkBa8
import Derived.Lib.Bytealg
import Derived.Defers
import Derived.Recover
import Derived.Laws.Pointers
set_option linter.unusedSimpArgs false
set_option linter.unusedVariables false
namespace Go.Proofs.YtpngeppkgoaimaaGreatDoor
open Go
def ykg (back:Bool) (g:Gr) (a b:Nat) (w:Int):Gr:=if a = b \/ ynm (g.ports.getD a []) b = true then g else yci back g a b w
namespace Sh
open Ev Go.RowKit
set_option maxRecDepth 8000
def rowO (l:List (Int × Int)):OB:=⟨43,false,2,l.length,fun k=>[.i .i64 (l.getD k (0,0)).1,.i .i64 (l.getD k (0,0)).2]⟩
def ycl (ports:List (List (Int × Int))):Own:=[(211,.one (some ⟨41,false,1,ports.length,fun v=>[.os (212,v) 0 (ports.getD v []).length true]⟩)),
 (212,.many fun v=>if v < ports.length then some (rowO (ports.getD v [])) else none)]
def ygy (g:Gr):SV:=.ag [yj g.ids,.os (211,0) 0 g.ports.length true]
theorem ycn {i n:Nat} {x b:OB} (h:(if i < n then some x else none) = some b):i < n /\ b = x:=by
 split at h
 ·cases h; exact ⟨by assumption,rfl⟩
 ·cases h
theorem ybs (back:Bool) (L:List (Int × Int)) (x:Int × Int):(addL back L x).length = L.length + 1:=by
 unfold addL
 cases back <;> simp
theorem ybba (L:List (Int × Int)) (x:Int × Int) {k:Nat} (hk:k < L.length + 1):(if k < L.length then [SV.i .i64 (L.getD k (0,0)).1,SV.i .i64 (L.getD k (0,0)).2] else List.take 2 (List.drop ((k - L.length) * 2) [SV.i .i64 x.1,SV.i .i64 x.2])) = [SV.i .i64 ((addL false L x).getD k (0,0)).1,SV.i .i64 ((addL false L x).getD k (0,0)).2]:=by
 show _ = [SV.i .i64 ((L ++ [x]).getD k (0,0)).1,SV.i .i64 ((L ++ [x]).getD k (0,0)).2]
 rw [yqf]
 by_cases h:k < L.length
 ·rw [if_pos h,if_pos h]
 ·obtain rfl:k = L.length:=by omega
  rw [if_neg h,if_neg h,if_pos rfl,Nat.sub_self]
  rfl
theorem ylx (L:List (Int × Int)) (x:Int × Int) (k:Nat):(if k < 1 then List.take 2 (List.drop (k * 2) [SV.i .i64 x.1,SV.i .i64 x.2]) else [SV.i .i64 (L.getD (k - 1) (0,0)).1,SV.i .i64 (L.getD (k - 1) (0,0)).2]) = [SV.i .i64 ((addL true L x).getD k (0,0)).1,SV.i .i64 ((addL true L x).getD k (0,0)).2]:=by
 show _ = [SV.i .i64 ((x :: L).getD k (0,0)).1,SV.i .i64 ((x :: L).getD k (0,0)).2]
 cases k with
 | zero=>rfl
 | succ k=>rw [if_neg (by omega)]; rfl
theorem cells_one (L:List (Int × Int)) (h:L.length = 0) (x:Int × Int) {k:Nat} (hk:k < 1):List.take 2 (List.drop (k * 2) [SV.i .i64 x.1,SV.i .i64 x.2]) = [SV.i .i64 ((addL true L x).getD k (0,0)).1,SV.i .i64 ((addL true L x).getD k (0,0)).2]:=by
 obtain rfl:k = 0:=by omega
 rfl
theorem yhw {n:Nat} {o:Own} {P':List (List (Int × Int))} (hl:P'.length = n) (A:Nat -> Nm) {R:Nat -> List SV} (h11:lookO o (211,0) = some ⟨41,false,1,n,R⟩) (hR:∀ v,v < n -> R v = [.os (A v) 0 (P'.getD v []).length true])
  (hA:∀ v,v < n -> ∃ q,lookO o (A v) = some ⟨43,false,2,(P'.getD v []).length,q⟩ /\ ∀ k,k < (P'.getD v []).length -> q k = [.i .i64 ((P'.getD v []).getD k (0,0)).1,.i .i64 ((P'.getD v []).getD k (0,0)).2])
  (hi:∀ u v,u < n -> v < n -> A u = A v -> u = v) (h0:∀ v,v < n -> A v ≠ (211,0)) :
  ∃ r o',Weak [(211,0)] ⟨[(0,.tp [])],o⟩ ⟨[(0,r)],o'⟩ /\ (cln (live o') 5 r = true /\ allQ (fun p=>famCln (live o') p.2) o' /\ allQ (fun β=>live o' β = true) [(211,0)]) /\ r = .tp [] /\ o' = ycl P':=by
 subst hl
 have hsome:∀ i,(if i < P'.length then some (rowO (P'.getD i [])) else none).isSome = true -> i < P'.length:=fun i h=>by
  by_cases q:i < P'.length
  ·exact q
  ·rw [if_neg q] at h; cases h
 have hlive:∀ i,i < P'.length -> live (ycl P') (212,i) = true:=fun i hi=>by
  show (if i < P'.length then some (rowO (P'.getD i [])) else none).isSome = true
  rw [if_pos hi]; rfl
 refine ⟨.tp [],ycl P',ybbj [(212,A)] [] [] trivial ⟨.inr ⟨.inr fun e=>⟨rfl,rfl⟩,.inr fun j hj e=>?_,trivial⟩,.inr ⟨.inr fun i hi' e=>?_,.inr fun i hi' j hj e=>⟨rfl,?_⟩,trivial⟩,trivial⟩ ⟨?_,trivial⟩ ⟨?_,fun i b hb=>?_,trivial⟩ ⟨⟨rfl,rfl,rfl⟩,trivial⟩,⟨rfl,⟨?_,?_,trivial⟩,rfl,trivial⟩,rfl,rfl⟩
 ·exact absurd e.symm (h0 j (hsome j hj))
 ·exact absurd e (h0 i (hsome i hi'))
 ·exact hi i j (hsome i hi') (hsome j hj) e
 ·exact ⟨_,rfl,.inl ⟨trivial,Sim.refl _,rfl⟩⟩
 ·refine ⟨_,h11,⟨rfl,rfl,rfl,rfl,rfl⟩,fun i hi'=>?_⟩
  have hi':i < P'.length:=hi'
  show telL _ _ _ _ _ (R i) _
  rw [hR i hi']
  refine ⟨.inl ⟨by simp only [go_sem],Sim.refl _,?_⟩,rfl,trivial⟩
  show (live (ycl P') (212,i) && !(List.elem 212 [])) = true
  rw [hlive i hi']
  rfl
 ·obtain ⟨hi',rfl⟩:=ycn hb
  obtain ⟨q,q1,q2⟩:=hA i hi'
  refine ⟨_,q1,⟨rfl,rfl,rfl,rfl,rfl⟩,fun k hk=>?_⟩
  show telL _ _ _ _ _ (q k) _
  rw [q2 k hk]
  exact ⟨.inl ⟨trivial,Sim.refl _,rfl⟩,rfl,.inl ⟨trivial,Sim.refl _,rfl⟩,rfl,trivial⟩
 ·intro k hk
  have:live (ycl P') (212,k) = true:=hlive k hk
  simp only [ycl,List.all_cons,List.all_nil,Bool.and_true] at this ⊢
  exact this
 ·intro i b hb k hk
  obtain ⟨hi',rfl⟩:=ycn hb
  rfl
section
variable {x:NetR} {g:Gr} {a b:Nat} {w:Int}
theorem ybrb (ha:a < g.ports.length) (hb:b < g.ports.length) (hn:g.ports.length <= 24) (hd:∀ v,(g.ports.getD v []).length <= 1000) :
  Cm Tryz.prog 87 [(211,0)] (ycl g.ports) [.ag (netC x),ygy g,.i .i64 a,.i .i64 b,.i .i64 w] fun r o=>r = .tp [] /\ o = ycl (ykg x.back g a b w).ports:=by
 refine ycsx [(211,0)] [] _ _ _ ?_
 obtain ⟨O2,hO2⟩:∃ O,ycl (ykg x.back g a b w).ports = O:=⟨_,rfl⟩
 rw [hO2]
 by_cases hab:a = b
 ·subst hab
  have hP:ykg x.back g a a w = g:=if_pos (.inl rfl)
  rw [hP] at hO2
  simp only [c87,ycth,yctp,netC,ygy,ycl,ygf,go_sem,Nat.reduceEqDiff,Nat.reduceAdd,Nat.reduceLT,↓reduceIte,reduceCtorEq]
  subst hO2
  exact yhw rfl (fun v=>(212,v)) rfl (fun v hv=>rfl) (fun v hv=>⟨_,if_pos hv,fun k hk=>rfl⟩) (fun u v _ _ e=>congrArg Prod.snd e) (fun v _ e=>by cases e)
 ·have hne:((a:Int) == (b:Int)) = false:=by rw [beq_eq_false_iff_ne]; omega
  have hL:=ybjr (ids:=g.ids) (ports:=g.ports) (b:=b) ha (by have:=hd a; omega)
  simp only [c87,ycth,yctp,netC,ygy,ycl,hne,clash,go_sem,Nat.reduceEqDiff,Nat.reduceAdd,Nat.reduceLT,↓reduceIte,reduceCtorEq]
  refine .inl ⟨fun q hq=>by rw [if_pos hq]; exact ⟨Nat.le_refl _,fun k hk=>by simp only [rowO,go_sem]⟩,hL.useS ?_ ?_⟩
  ·refine ⟨yqw ⟨Sim.refl _,?_,trivial⟩,Sim.refl _,Sim.refl _,trivial⟩
   refine yio fun q hq=>?_
   rw [if_pos hq]
   simp only [rowO,ybb,go_sem]
   exact ⟨Sim.refl _,trivial⟩
  cases hlk:ynm (g.ports.getD a []) b with
  | true =>
   have hP:ykg x.back g a b w = g:=if_pos (.inr hlk)
   rw [hP] at hO2
   simp only [thenO,clash,ygf,go_sem,Nat.reduceEqDiff,Nat.reduceAdd,↓reduceIte]
   subst hO2
   exact yhw rfl (fun v=>(212,v)) rfl (fun v hv=>rfl) (fun v hv=>⟨_,if_pos hv,fun k hk=>rfl⟩) (fun u v _ _ e=>congrArg Prod.snd e) (fun v _ e=>by cases e)
  | false =>
   have hP:ykg x.back g a b w = yci x.back g a b w:=if_neg (fun q=>by rcases q with q | q; exact hab q; rw [hlk] at q; cases q)
   rw [hP] at hO2
   subst hO2
   have hba:¬ b = a:=fun e=>hab e.symm
   have hlen:(yci x.back g a b w).ports.length = g.ports.length:=by simp [yci]
   have hat:=yeu x.back g w ha hb
   obtain ⟨G',hG'⟩:∃ G,(yci x.back g a b w).ports = G:=⟨_,rfl⟩
   rw [hG'] at hlen ⊢
   have hat:∀ v,G'.getD v [] = if v = b then addL x.back (g.ports.getD b []) (a,w) else if v = a then addL x.back (g.ports.getD a []) (b,w) else g.ports.getD v []:=fun v=>by rw [<- hG']; exact hat v
   clear hG' hP
   obtain ⟨x1,x2,x3,x4,x5,back⟩:=x
   have hda:=hd a
   have hdb:=hd b
   cases back with
   | false =>
    simp only [thenO,clash,ybhu,ybhq,yczf,rowO,if_pos ha,if_pos hb,hab,hba,ygf,and_false,go_sem,Nat.reduceEqDiff,Nat.reduceAdd,Nat.reduceLeDiff,Nat.reduceLT,↓reduceIte,reduceCtorEq]
    refine ⟨⟨by omega,by omega⟩,by omega,⟨by omega,by omega⟩,by decide,⟨by omega,by omega⟩,by omega,⟨by omega,by omega⟩,by decide,⟨by omega,by omega⟩,by omega,by decide,⟨by omega,by omega⟩,by omega,by decide,?_⟩
    refine yhw hlen (fun v=>if v = b then (74,0) else if v = a then (66,0) else (212,v)) rfl (fun v hv=>?_) (fun v hv=>?_) (fun u v _ _ e=>?_) (fun v _ e=>?_)
    ·rw [hat v]
     by_cases q:v = b
     ·simp only [if_pos q,ybs]
     ·by_cases q2:v = a
      ·simp only [if_neg q,if_pos q2,ybs]
      ·simp only [if_neg q,if_neg q2]
    ·rw [hat v]
     by_cases q:v = b
     ·simp only [if_pos q,ybs]
      exact ⟨_,rfl,fun k hk=>ybba _ (_,_) hk⟩
     ·by_cases q2:v = a
      ·simp only [if_neg q,if_pos q2,ybs]
       exact ⟨_,rfl,fun k hk=>ybba _ (_,_) hk⟩
      ·simp only [if_neg q,if_neg q2]
       refine ⟨fun k=>[.i .i64 ((g.ports.getD v []).getD k (0,0)).1,.i .i64 ((g.ports.getD v []).getD k (0,0)).2],?_,fun k hk=>rfl⟩
       show (if v = b then none else if v = a then none else if v < g.ports.length then some _ else none) = some _
       rw [if_neg q,if_neg q2,if_pos hv]
    ·by_cases q:u = b <;> by_cases q2:u = a <;> by_cases q3:v = b <;> by_cases q4:v = a <;> simp [q,q2,q3,q4,hab] at e ⊢ <;> omega
    ·by_cases q:v = b <;> by_cases q2:v = a <;> simp [q,q2,hab] at e
   | true =>
    by_cases hza:(g.ports.getD a []).length = 0
    ·by_cases hzb:(g.ports.getD b []).length = 0
     ·simp only [thenO,clash,ybhu,ybhq,ybra,ybly,rowO,if_pos ha,if_pos hb,hba,ygf,and_false,hza,hzb,go_sem,Nat.reduceEqDiff,Nat.reduceAdd,Nat.reduceLeDiff,Nat.reduceLT,Nat.reduceMul,↓reduceIte,reduceCtorEq]
      repeat' apply And.intro
      all_goals first | omega | decide | skip
      refine yhw hlen (fun v=>if v = b then (45,0) else if v = a then (33,0) else (212,v)) rfl (fun v hv=>?_) (fun v hv=>?_) (fun u v _ _ e=>?_) (fun v _ e=>?_)
      ·rw [hat v]
       by_cases q:v = b
       ·simp only [if_pos q,ybs,hzb,Nat.zero_add]
       ·by_cases q2:v = a
        ·simp only [if_neg q,if_pos q2,ybs,hza,Nat.zero_add]
        ·simp only [if_neg q,if_neg q2]
      ·rw [hat v]
       by_cases q:v = b
       ·simp only [if_pos q,ybs,hzb,Nat.zero_add]
        exact ⟨_,rfl,fun k hk=>cells_one _ hzb (_,_) hk⟩
       ·by_cases q2:v = a
        ·simp only [if_neg q,if_pos q2,ybs,hza,Nat.zero_add]
         exact ⟨_,rfl,fun k hk=>cells_one _ hza (_,_) hk⟩
        ·simp only [if_neg q,if_neg q2]
         refine ⟨fun k=>[.i .i64 ((g.ports.getD v []).getD k (0,0)).1,.i .i64 ((g.ports.getD v []).getD k (0,0)).2],?_,fun k hk=>rfl⟩
         show (if v < g.ports.length then some _ else none) = some _
         rw [if_pos hv]
      ·by_cases q:u = b <;> by_cases q2:u = a <;> by_cases q3:v = b <;> by_cases q4:v = a <;> simp [q,q2,q3,q4,hab] at e ⊢ <;> omega
      ·by_cases q:v = b <;> by_cases q2:v = a <;> simp [q,q2,hab] at e
     ·simp only [thenO,clash,ybhu,ybhq,ybra,ybly,rowO,if_pos ha,if_pos hb,hba,ygf,and_false,hza,hzb,go_sem,Nat.reduceEqDiff,Nat.reduceAdd,Nat.reduceLeDiff,Nat.reduceLT,Nat.reduceMul,↓reduceIte,reduceCtorEq]
      repeat' apply And.intro
      all_goals first | omega | decide | skip
      refine yhw hlen (fun v=>if v = b then (51,0) else if v = a then (33,0) else (212,v)) rfl (fun v hv=>?_) (fun v hv=>?_) (fun u v _ _ e=>?_) (fun v _ e=>?_)
      ·rw [hat v]
       by_cases q:v = b
       ·simp only [if_pos q,ybs,Nat.add_comm]
       ·by_cases q2:v = a
        ·simp only [if_neg q,if_pos q2,ybs,hza,Nat.zero_add,Nat.add_comm]
        ·simp only [if_neg q,if_neg q2]
      ·rw [hat v]
       by_cases q:v = b
       ·simp only [if_pos q,ybs]
        exact ⟨_,congrArg some (congrArg (fun n=>OB.mk _ _ _ n _) (Nat.add_comm _ _)),fun k hk=>ylx _ (_,_) k⟩
       ·by_cases q2:v = a
        ·simp only [if_neg q,if_pos q2,ybs,hza,Nat.zero_add]
         exact ⟨_,rfl,fun k hk=>cells_one _ hza (_,_) hk⟩
        ·simp only [if_neg q,if_neg q2]
         refine ⟨fun k=>[.i .i64 ((g.ports.getD v []).getD k (0,0)).1,.i .i64 ((g.ports.getD v []).getD k (0,0)).2],?_,fun k hk=>rfl⟩
         show (if v < g.ports.length then some _ else none) = some _
         rw [if_pos hv]
      ·by_cases q:u = b <;> by_cases q2:u = a <;> by_cases q3:v = b <;> by_cases q4:v = a <;> simp [q,q2,q3,q4,hab] at e ⊢ <;> omega
      ·by_cases q:v = b <;> by_cases q2:v = a <;> simp [q,q2,hab] at e
    ·by_cases hzb:(g.ports.getD b []).length = 0
     ·simp only [thenO,clash,ybhu,ybhq,ybra,ybly,rowO,if_pos ha,if_pos hb,hba,ygf,and_false,hza,hzb,go_sem,Nat.reduceEqDiff,Nat.reduceAdd,Nat.reduceLeDiff,Nat.reduceLT,Nat.reduceMul,↓reduceIte,reduceCtorEq]
      repeat' apply And.intro
      all_goals first | omega | decide | skip
      refine yhw hlen (fun v=>if v = b then (45,0) else if v = a then (39,0) else (212,v)) rfl (fun v hv=>?_) (fun v hv=>?_) (fun u v _ _ e=>?_) (fun v _ e=>?_)
      ·rw [hat v]
       by_cases q:v = b
       ·simp only [if_pos q,ybs,hzb,Nat.zero_add,Nat.add_comm]
       ·by_cases q2:v = a
        ·simp only [if_neg q,if_pos q2,ybs,Nat.add_comm]
        ·simp only [if_neg q,if_neg q2]
      ·rw [hat v]
       by_cases q:v = b
       ·simp only [if_pos q,ybs,hzb,Nat.zero_add]
        exact ⟨_,rfl,fun k hk=>cells_one _ hzb (_,_) hk⟩
       ·by_cases q2:v = a
        ·simp only [if_neg q,if_pos q2,ybs]
         exact ⟨_,congrArg some (congrArg (fun n=>OB.mk _ _ _ n _) (Nat.add_comm _ _)),fun k hk=>ylx _ (_,_) k⟩
        ·simp only [if_neg q,if_neg q2]
         refine ⟨fun k=>[.i .i64 ((g.ports.getD v []).getD k (0,0)).1,.i .i64 ((g.ports.getD v []).getD k (0,0)).2],?_,fun k hk=>rfl⟩
         show (if v < g.ports.length then some _ else none) = some _
         rw [if_pos hv]
      ·by_cases q:u = b <;> by_cases q2:u = a <;> by_cases q3:v = b <;> by_cases q4:v = a <;> simp [q,q2,q3,q4,hab] at e ⊢ <;> omega
      ·by_cases q:v = b <;> by_cases q2:v = a <;> simp [q,q2,hab] at e
     ·simp only [thenO,clash,ybhu,ybhq,ybra,ybly,rowO,if_pos ha,if_pos hb,hba,ygf,and_false,hza,hzb,go_sem,Nat.reduceEqDiff,Nat.reduceAdd,Nat.reduceLeDiff,Nat.reduceLT,↓reduceIte,reduceCtorEq]
      repeat' apply And.intro
      all_goals first | omega | decide | skip
      refine yhw hlen (fun v=>if v = b then (51,0) else if v = a then (39,0) else (212,v)) rfl (fun v hv=>?_) (fun v hv=>?_) (fun u v _ _ e=>?_) (fun v _ e=>?_)
      ·rw [hat v]
       by_cases q:v = b
       ·simp only [if_pos q,ybs,Nat.add_comm]
       ·by_cases q2:v = a
        ·simp only [if_neg q,if_pos q2,ybs,Nat.add_comm]
        ·simp only [if_neg q,if_neg q2]
      ·rw [hat v]
       by_cases q:v = b
       ·simp only [if_pos q,ybs]
        exact ⟨_,congrArg some (congrArg (fun n=>OB.mk _ _ _ n _) (Nat.add_comm _ _)),fun k hk=>ylx _ (_,_) k⟩
       ·by_cases q2:v = a
        ·simp only [if_neg q,if_pos q2,ybs]
         exact ⟨_,congrArg some (congrArg (fun n=>OB.mk _ _ _ n _) (Nat.add_comm _ _)),fun k hk=>ylx _ (_,_) k⟩
        ·simp only [if_neg q,if_neg q2]
         refine ⟨fun k=>[.i .i64 ((g.ports.getD v []).getD k (0,0)).1,.i .i64 ((g.ports.getD v []).getD k (0,0)).2],?_,fun k hk=>rfl⟩
         show (if v < g.ports.length then some _ else none) = some _
         rw [if_pos hv]
      ·by_cases q:u = b <;> by_cases q2:u = a <;> by_cases q3:v = b <;> by_cases q4:v = a <;> simp [q,q2,q3,q4,hab] at e ⊢ <;> omega
      ·by_cases q:v = b <;> by_cases q2:v = a <;> simp [q,q2,hab] at e
end
end Sh
end Go.Proofs.YtpngeppkgoaimaaGreatDoor

namespace Go.Proofs.YtpngeppkgoaimaaGreatDoor
open Go
theorem ytf {back:Bool} {g:Gr} {a b:Nat} {w:Int} (hg:ybc g) (ha:a < g.ports.length) (hb:b < g.ports.length) (hw:1 <= w /\ w <= 15):ybc (ykg back g a b w) /\ (ykg back g a b w).ids = g.ids /\ (ykg back g a b w).ports.length = g.ports.length:=by
 unfold ykg
 by_cases h:a = b \/ ynm (g.ports.getD a []) b = true
 ·rw [if_pos h]; exact ⟨hg,rfl,rfl⟩
 ·rw [if_neg h]
  refine ⟨ybaa hg ha hb (fun e=>h (.inl e)) hw fun l hl e=>h (.inr (List.any_eq_true.2 ⟨l,hl,decide_eq_true e⟩)),rfl,by simp [yci]⟩
theorem yzg {back:Bool} {g:Gr} {a b:Nat} {w:Int} (ha:a < g.ports.length) (hb:b < g.ports.length) {m:Nat} (h:Tre g m):Tre (ykg back g a b w) m:=by
 unfold ykg
 split
 ·exact h
 ·exact h.add ha hb
theorem ybmo {back:Bool} {g:Gr} {a b:Nat} {w:Int} (ha:a < g.ports.length) (hb:b < g.ports.length) (hab:a ≠ b):adj (ykg back g a b w) a b:=by
 unfold ykg
 split
 ·rename_i h
  rcases h with h | h
  ·exact absurd h hab
  ·obtain ⟨l,hl,e⟩:=List.any_eq_true.1 h
   exact yqb.2 ⟨l,hl,of_decide_eq_true e⟩
 ·exact yber ha hb hab
namespace Sh
open Ev Go.RowKit
set_option maxRecDepth 8000
theorem ywx {n:Nat} {P:List (List (Int × Int))} {f:SV -> SV} (hf:∀ k z,f (.i k z) = .i k z) {i:Nat} (hi:i < n):(match (if i < n then some (rowO (P.getD i [])) else none) with | some b=>some (⟨b.e,b.bx,b.z,b.n,fun k=>(b.g k).map f⟩:OB) | none=>none) = some (rowO (P.getD i [])):=by
 rw [if_pos hi]
 simp [rowO,hf]
theorem ycty {x:NetR} (hx:x.ok) {most:Nat} (hm:1 <= most /\ most <= 24) :
  Cm Tryz.prog 48 [] [] [.ag (netC x),.i .i64 most] fun r o=>∃ g,ybc g /\ Tre g g.ports.length /\ g.ports.length <= most /\ r = ygy g /\ o = ycl g.ports:=by
 refine ycou [] [88,87] _ _ _ ?_
 have hN:=ybyg hx hm
 obtain ⟨hx1,hx2,hx3,hx4⟩:=hx
 simp only [netC] at hN
 simp only [c48,ycyx,ycxn,netC,go_sem,Nat.reduceEqDiff,Nat.reduceAdd,Nat.reduceLT,↓reduceIte,reduceCtorEq]
 refine callM_of hN [(17,117)] 0 [2,4] [2,4] ?_ ?_
 ·simp only [okN,famCln,yfd,keepF,keepO,allQ,live,yc,go_sem,Nat.reduceEqDiff,Nat.reduceAdd,Nat.reduceBEq,↓reduceIte,reduceCtorEq]
 rintro r o' ⟨ids,h1,h2,h3,rfl,rfl⟩
 obtain ⟨n,hn⟩:∃ n,ids.length = n:=⟨_,rfl⟩
 rw [hn] at h1
 simp only [hn,thenM,yko,nuF,nu,difN,keepF,keepO,Fam.ren,OB.ren,dim,ycps,yre,yip,go_sem,Nat.reduceEqDiff,Nat.reduceAdd,Nat.reduceLT,Nat.reduceBEq,↓reduceIte]
 simp only [ycxl,go_sem]
 refine ybe (σ:=Nat × Gr) (fun q=>⟨[(6,.i .i64 q.1),(5,.pt (5,0) 0 0),(2,.pt (2,0) 0 0),(4,.pt (4,0) 0 0)],
   (5,.one (some ⟨28,true,2,1,fun _=>[yj q.2.ids,.os (211,0) 0 n true]⟩)) :: (2,.one (some ⟨24,true,6,1,fun _=>netC x⟩)) :: (4,.one (some ⟨28,true,2,1,fun _=>[.a (.slice none 0 0),.a (.slice none 0 0)]⟩)) :: ycl q.2.ports⟩)
  (fun q=>ybc q.2 /\ q.2.ports.length = n /\ Tre q.2 q.1 /\ 1 <= q.1 /\ q.1 <= n) (fun q=>n - q.1) (1,bare ids) ⟨ybsa (by omega) (by omega) h2 h3,by simp [bare,hn],fun v h0 h1=>by omega,by omega,by omega⟩ ?_ ?_
 ·refine yg [(211,fun i=>(117,i))] [212] [] ?_
  have b1:(bare ids).ids = ids:=rfl
  have b2:(bare ids).ports.length = n:=by simp [bare,hn]
  have b3:∀ v,(bare ids).ports.getD v [] = []:=fun v=>by
   unfold bare
   rw [List.getD_eq_getElem?_getD,List.getElem?_replicate]
   split <;> rfl
  simp only [netC,ycl,rowO,b1,b2,b3,List.length_nil,allQ,live,yc,yu,go_sem,Nat.reduceEqDiff,Nat.reduceBEq,↓reduceIte,reduceCtorEq]
  refine ⟨rfl,fun i hi=>⟨(212,i),rfl,rfl,by simp [hi]⟩,fun i b hb=>?_⟩
  obtain ⟨_,rfl⟩:=ycn hb
  exact ⟨rfl,rfl⟩
 ·rintro ⟨v,g⟩ ⟨hg,hgn,htr,hv1,hvn⟩
  have hg:ybc g:=hg
  have hgn:g.ports.length = n:=hgn
  have htr:Tre g v:=htr
  have hv1:1 <= v:=hv1
  have hvn:v <= n:=hvn
  by_cases hlt:v < n
  ·have ht:decide ((v:Int) < (n:Int)) = true:=decide_eq_true (by omega)
   have hv2:(v:Int) - 1 = ((v - 1:Nat):Int):=by omega
   have hA1:=at_ret x.links (v - 1)
   have hA2:=at_ret x.weights (v - 1)
   have hi1:=ycw (v:=atP x.links (v - 1)) (m:=(v:Int)) (by omega)
   have hi2:=ycw (v:=atP x.weights (v - 1)) (m:=15) (by omega)
   have hW1:=ycy (atP x.links (v - 1)) v (by omega) (hx2 _)
   have hW2:=ycy (atP x.weights (v - 1)) 15 (by omega) (hx3 _)
   obtain ⟨a,ha⟩:∃ a:Nat,yee (atP x.links (v - 1)) v = a:=Int.eq_ofNat_of_zero_le hi1.1
   obtain ⟨w,hw⟩:∃ w:Int,yee (atP x.weights (v - 1)) 15 = w:=⟨_,rfl⟩
   rw [ha] at hW1 hi1
   rw [hw] at hW2 hi2
   have hL:=ybrb (x:=x) (g:=g) (a:=a) (b:=v) (w:=1 + w) (by omega) (by omega) (by omega) (fun u=>by have:=hg.deg_lt (v:=u); omega)
   simp only [ycuf,ydas,ydam,netC,ycl,ht,hv2,clash,go_sem,Nat.reduceEqDiff,Nat.reduceAdd,Nat.reduceLeDiff,Nat.reduceBEq,↓reduceIte,reduceCtorEq]
   refine ⟨ikw (by omega) (by omega),hA1.use ?_⟩
   simp only [thenO,clash,go_sem,Nat.reduceEqDiff,Nat.reduceAdd,Nat.reduceLeDiff,Nat.reduceBEq,↓reduceIte,reduceCtorEq]
   refine hW1.use ?_
   simp only [hv2,go_sem]
   refine ⟨ikw (by omega) (by omega),hA2.use ?_⟩
   simp only [go_sem,↓reduceIte]
   refine hW2.use ?_
   simp only [go_sem,Nat.reduceEqDiff,Nat.reduceBEq,↓reduceIte]
   refine ⟨ikw (by omega) (by omega),callM_of hL [(211,211),(212,212)] 0 [2,4,5,6] [2,4,5] ?_ ?_⟩
   ·simp only [netC,ygy,ycl,hgn,to1,okN,famCln,yfd,keepF,keepO,allQ,live,yc,go_sem,Nat.reduceEqDiff,Nat.reduceAdd,Nat.reduceBEq,↓reduceIte,reduceCtorEq]
    refine ⟨⟨fun i _ j _ e=>e,fun i hi=>by rw [if_pos hi],fun i b hb=>?_⟩,by decide⟩
    obtain ⟨hi,rfl⟩:=ycn hb
    exact ⟨_,if_pos hi,⟨rfl,rfl,rfl,rfl⟩,fun k hk=>by simp only [rowO,live,yc,go_sem,reduceCtorEq]⟩
   ·rintro r o' ⟨rfl,rfl⟩
    simp only [ycl,thenM,yko,nuF,nu,difN,keepF,keepO,Fam.ren,OB.ren,dim,yqz,yip,go_sem,Nat.reduceEqDiff,Nat.reduceAdd,Nat.reduceBEq,↓reduceIte,reduceCtorEq]
    obtain ⟨gg1,gg2,gg3⟩:=ytf (back:=x.back) (a:=a) (b:=v) (w:=1 + w) hg (by omega) (by omega) (by omega)
    have gg4:=yzg (back:=x.back) (g:=g) (a:=a) (b:=v) (w:=1 + w) (by omega) (by omega) htr
    have gg5:=ybmo (back:=x.back) (g:=g) (a:=a) (b:=v) (w:=1 + w) (by omega) (by omega) (by omega)
    obtain ⟨G,hG⟩:∃ G,ykg x.back g a v (1 + w) = G:=⟨_,rfl⟩
    rw [hG] at gg1 gg2 gg3 gg4 gg5 ⊢
    rw [hgn] at gg3
    refine ⟨ikw (by omega) (by omega),yh (v + 1,G) ⟨gg1,gg3,fun u h0 hu=>?_,by omega,by omega⟩ (by show n - (v + 1) < n - v; omega) ?_⟩
    ·by_cases q:u = v
     ·subst q; exact ⟨a,by omega,gg5⟩
     ·exact gg4 u h0 (by have:u < v + 1:=hu; omega)
    ·refine yg [] [] [] ?_
     simp only [gg3,gg2,allQ,live,yc,yu,go_sem,Nat.reduceEqDiff,↓reduceIte,reduceCtorEq]
     refine ⟨fun i _ j _ e=>e,by omega,fun i hi=>by rw [if_pos hi],fun i b hb=>?_⟩
     obtain ⟨hi,rfl⟩:=ycn hb
     refine ⟨_,ywx (f:=ren (nu [(211,211),(212,212)] 0) 5) (fun _ _=>rfl) hi,⟨rfl,rfl,rfl,rfl⟩,fun k hk=>?_⟩
     simp only [rowO,live,yc,go_sem,reduceCtorEq]
  ·obtain rfl:v = n:=by omega
   have ht:decide ((v:Int) < (v:Int)) = false:=decide_eq_false (by omega)
   simp only [ycuf,ydcr,netC,ycl,ht,clash,splice,ygf,go_sem,Nat.reduceEqDiff,Nat.reduceAdd,↓reduceIte,reduceCtorEq]
   refine ⟨ygy g,ycl g.ports,?_,?_,g,hg,by rw [hgn]; exact htr,by omega,rfl,rfl⟩
   ·refine yg [] [] [] ?_
    simp only [ycl,ygy,hgn,allQ,live,yc,go_sem,Nat.reduceEqDiff,↓reduceIte,reduceCtorEq]
    refine ⟨fun i _ j _ e=>e,fun i hi=>by rw [if_pos hi],fun i b hb=>?_⟩
    obtain ⟨hi,rfl⟩:=ycn hb
    exact ⟨_,if_pos hi,⟨rfl,rfl,rfl,rfl⟩,fun k hk=>by simp only [rowO,live,yc,go_sem,reduceCtorEq]⟩
   ·simp only [ycl,ygy,famCln,yfd,allQ,live,go_sem,Nat.reduceEqDiff,↓reduceIte]
    refine ⟨fun i hi=>by rw [if_pos hi],fun i b hb k hk=>?_⟩
    obtain ⟨hi,rfl⟩:=ycn hb
    simp only [rowO,go_sem]
end Sh
end Go.Proofs.YtpngeppkgoaimaaGreatDoor

namespace Go.Proofs.YtpngeppkgoaimaaGreatDoor
open Go
namespace Sh
open Ev Go.RowKit
set_option maxRecDepth 8000
theorem ycpj {x:NetR} (hx:x.ok) {g:Gr} (hg:ybc g) (ht:Tre g g.ports.length) :
  Cm Tryz.prog 47 [] (ycl g.ports) [.ag (netC x),ygy g] fun r o=>∃ g',ybc g' /\ Tre g' g'.ports.length /\ g'.ports.length = g.ports.length /\ r = ygy g' /\ o = ycl g'.ports:=by
 refine ycub [] [87] _ _ _ ?_
 obtain ⟨hx1,hx2,hx3,hx4⟩:=hx
 have h1:=hg.1
 have h24:=hg.2.1
 obtain ⟨n,hn⟩:∃ n,g.ports.length = n:=⟨_,rfl⟩
 rw [hn] at h1 h24 ht
 obtain ⟨L,hL⟩:∃ L,x.links.length = L:=⟨_,rfl⟩
 simp only [c47,ycvb,ydbn,yddx,netC,ygy,ycl,hn,clash,go_sem,Nat.reduceEqDiff,Nat.reduceAdd,Nat.reduceLT,↓reduceIte,reduceCtorEq]
 refine ybe (σ:=Nat × Gr) (fun q=>⟨[(6,.i .i64 q.1),(5,.i .i64 n),(3,.pt (3,0) 0 0),(2,.pt (2,0) 0 0),(4,.pt (4,0) 0 0)],
   (3,.one (some ⟨28,true,2,1,fun _=>[yj q.2.ids,.os (211,0) 0 n true]⟩)) :: (2,.one (some ⟨24,true,6,1,fun _=>netC x⟩)) :: (4,.one (some ⟨28,true,2,1,fun _=>[.a (.slice none 0 0),.a (.slice none 0 0)]⟩)) :: ycl q.2.ports⟩)
  (fun q=>ybc q.2 /\ q.2.ports.length = n /\ Tre q.2 n /\ q.1 <= 61) (fun q=>62 - q.1) (n,g) ⟨hg,hn,ht,by show n <= 61; omega⟩ ?_ ?_
 ·refine yg [] [] [] ?_
  simp only [netC,ycl,hn,allQ,live,yc,go_sem,Nat.reduceEqDiff,↓reduceIte,reduceCtorEq]
  refine ⟨fun i _ j _ e=>e,fun i hi=>by rw [if_pos hi],fun i b hb=>?_⟩
  obtain ⟨hi,rfl⟩:=ycn hb
  exact ⟨_,if_pos hi,⟨rfl,rfl,rfl,rfl⟩,fun k hk=>by simp only [rowO,live,yc,go_sem,reduceCtorEq]⟩
 ·rintro ⟨i,G⟩ ⟨gg,ggn,gtr,hi61⟩
  have gg:ybc G:=gg
  have ggn:G.ports.length = n:=ggn
  have gtr:Tre G n:=gtr
  have hi61:i <= 61:=hi61
  have hi1:(i:Int) + 1 = ((i + 1:Nat):Int):=by omega
  by_cases hlt:i + 1 < L
  ·by_cases h60:i < 60
   ·have ht1:decide (((i + 1:Nat):Int) < (L:Int)) = true:=decide_eq_true (by omega)
    have ht2:decide ((i:Int) < 60) = true:=decide_eq_true (by omega)
    have hA2:=at_ret x.weights i
    have hi2:=ycw (v:=atP x.weights i) (m:=15) (by omega)
    have hw1:=ycw (v:=x.links.getD i 0) (m:=(n:Int)) (by omega)
    have hw2:=ycw (v:=x.links.getD (i + 1) 0) (m:=(n:Int)) (by omega)
    have hW1:=ycy (x.links.getD i 0) n (by omega) (hx2 i)
    have hW2:=ycy (x.links.getD (i + 1) 0) n (by omega) (hx2 (i + 1))
    have hW3:=ycy (atP x.weights i) 15 (by omega) (hx3 _)
    obtain ⟨a,ha⟩:∃ a:Nat,yee (x.links.getD i 0) n = a:=Int.eq_ofNat_of_zero_le hw1.1
    obtain ⟨b,hb⟩:∃ b:Nat,yee (x.links.getD (i + 1) 0) n = b:=Int.eq_ofNat_of_zero_le hw2.1
    obtain ⟨w,hw⟩:∃ w:Int,yee (atP x.weights i) 15 = w:=⟨_,rfl⟩
    rw [ha] at hW1 hw1
    rw [hb] at hW2 hw2
    rw [hw] at hW3 hi2
    have hK:=ybrb (x:=x) (g:=G) (a:=a) (b:=b) (w:=1 + w) (by omega) (by omega) (by omega) (fun u=>by have:=gg.deg_lt (v:=u); omega)
    simp only [ybwr,ydcn,yddm,netC,ycl,yj,hL,hi1,ht1,ht2,clash,go_sem,Nat.reduceEqDiff,Nat.reduceAdd,Nat.reduceLeDiff,Nat.reduceBEq,↓reduceIte,reduceCtorEq]
    refine ⟨ikw (by omega) (by omega),⟨by omega,by omega⟩,hW1.use ?_⟩
    simp only [thenO,clash,hi1,go_sem,Nat.reduceEqDiff,Nat.reduceAdd,Nat.reduceLeDiff,Nat.reduceBEq,↓reduceIte,reduceCtorEq]
    refine ⟨ikw (by omega) (by omega),⟨by omega,by omega⟩,hW2.use ?_⟩
    simp only [go_sem]
    simp only [yj] at hA2
    refine hA2.use ?_
    simp only [go_sem,↓reduceIte]
    refine hW3.use ?_
    simp only [go_sem,Nat.reduceEqDiff,↓reduceIte]
    refine ⟨ikw (by omega) (by omega),callM_of hK [(211,211),(212,212)] 0 [2,3,4,5,6] [2,3,4] ?_ ?_⟩
    ·simp only [netC,ygy,ycl,ggn,yj,hL,to1,okN,famCln,yfd,keepF,keepO,allQ,live,yc,go_sem,Nat.reduceEqDiff,Nat.reduceAdd,Nat.reduceBEq,↓reduceIte,reduceCtorEq]
     refine ⟨⟨fun i _ j _ e=>e,fun i hi=>by rw [if_pos hi],fun i b hb=>?_⟩,by decide⟩
     obtain ⟨hi,rfl⟩:=ycn hb
     exact ⟨_,if_pos hi,⟨rfl,rfl,rfl,rfl⟩,fun k hk=>by simp only [rowO,live,yc,go_sem,reduceCtorEq]⟩
    ·rintro r o' ⟨rfl,rfl⟩
     simp only [ycl,thenM,yko,nuF,nu,difN,keepF,keepO,Fam.ren,OB.ren,dim,yqz,yip,go_sem,Nat.reduceEqDiff,Nat.reduceAdd,Nat.reduceBEq,↓reduceIte,reduceCtorEq]
     obtain ⟨gg1,gg2,gg3⟩:=ytf (back:=x.back) (a:=a) (b:=b) (w:=1 + w) gg (by omega) (by omega) (by omega)
     have gg4:=yzg (back:=x.back) (g:=G) (a:=a) (b:=b) (w:=1 + w) (by omega) (by omega) gtr
     obtain ⟨H,hH⟩:∃ H,ykg x.back G a b (1 + w) = H:=⟨_,rfl⟩
     rw [hH] at gg1 gg2 gg3 gg4 ⊢
     rw [ggn] at gg3
     refine ⟨ikw (by omega) (by omega),yh (i + 2,H) ⟨gg1,gg3,gg4,by show i + 2 <= 61; omega⟩ (by show 62 - (i + 2) < 62 - i; omega) ?_⟩
     refine yg [] [] [] ?_
     simp only [gg3,gg2,allQ,live,yc,yu,go_sem,Nat.reduceEqDiff,↓reduceIte,reduceCtorEq]
     refine ⟨fun i _ j _ e=>e,by omega,fun i hi=>by rw [if_pos hi],fun i b hb=>?_⟩
     obtain ⟨hi,rfl⟩:=ycn hb
     refine ⟨_,ywx (f:=ren (nu [(211,211),(212,212)] 0) 5) (fun _ _=>rfl) hi,⟨rfl,rfl,rfl,rfl⟩,fun k hk=>?_⟩
     simp only [rowO,live,yc,go_sem,reduceCtorEq]
   ·have ht1:decide (((i + 1:Nat):Int) < (L:Int)) = true:=decide_eq_true (by omega)
    have ht2:decide ((i:Int) < 60) = false:=decide_eq_false (by omega)
    simp only [ybwr,ycrb,netC,ycl,yj,hL,hi1,ht1,ht2,clash,splice,ygf,go_sem,Nat.reduceEqDiff,Nat.reduceAdd,Nat.reduceLeDiff,↓reduceIte,reduceCtorEq]
    refine ⟨ikw (by omega) (by omega),?_⟩
    refine ⟨ygy G,ycl G.ports,?_,?_,G,gg,by rw [ggn]; exact gtr,ggn,rfl,rfl⟩
    ·refine yg [] [] [] ?_
     simp only [ycl,ygy,ggn,yj,allQ,live,yc,go_sem,Nat.reduceEqDiff,↓reduceIte,reduceCtorEq]
     refine ⟨fun i _ j _ e=>e,fun i hi=>by rw [if_pos hi],fun i b hb=>?_⟩
     obtain ⟨hi,rfl⟩:=ycn hb
     exact ⟨_,if_pos hi,⟨rfl,rfl,rfl,rfl⟩,fun k hk=>by simp only [rowO,live,yc,go_sem,reduceCtorEq]⟩
    ·simp only [ycl,ygy,famCln,yfd,allQ,live,go_sem,Nat.reduceEqDiff,↓reduceIte]
     refine ⟨fun i hi=>by rw [if_pos hi],fun i b hb k hk=>?_⟩
     obtain ⟨hi,rfl⟩:=ycn hb
     simp only [rowO,go_sem]
  ·have ht1:decide (((i + 1:Nat):Int) < (L:Int)) = false:=decide_eq_false (by omega)
   simp only [ybwr,ycrb,netC,ycl,yj,hL,hi1,ht1,clash,splice,ygf,go_sem,Nat.reduceEqDiff,Nat.reduceAdd,Nat.reduceLeDiff,↓reduceIte,reduceCtorEq]
   refine ⟨ikw (by omega) (by omega),?_⟩
   refine ⟨ygy G,ycl G.ports,?_,?_,G,gg,by rw [ggn]; exact gtr,ggn,rfl,rfl⟩
   ·refine yg [] [] [] ?_
    simp only [ycl,ygy,ggn,yj,allQ,live,yc,go_sem,Nat.reduceEqDiff,↓reduceIte,reduceCtorEq]
    refine ⟨fun i _ j _ e=>e,fun i hi=>by rw [if_pos hi],fun i b hb=>?_⟩
    obtain ⟨hi,rfl⟩:=ycn hb
    exact ⟨_,if_pos hi,⟨rfl,rfl,rfl,rfl⟩,fun k hk=>by simp only [rowO,live,yc,go_sem,reduceCtorEq]⟩
   ·simp only [ycl,ygy,famCln,yfd,allQ,live,go_sem,Nat.reduceEqDiff,↓reduceIte]
    refine ⟨fun i hi=>by rw [if_pos hi],fun i b hb k hk=>?_⟩
    obtain ⟨hi,rfl⟩:=ycn hb
    simp only [rowO,go_sem]
theorem yfq {x:NetR} (hx:x.ok) {most:Nat} (hm:1 <= most /\ most <= 24) :
  Ct Tryz.prog 15 [.ag (netC x),.i .i64 most] fun r=>∃ g,ybc g /\ ycb g = true /\ g.ports.length <= most /\ Sim r (grV g):=by
 refine ycot [48,47] _ _ ?_
 have hT:=ycty hx hm
 simp only [netC] at hT
 simp only [c15,ydby,yddz,netC,clash,go_sem,Nat.reduceEqDiff,Nat.reduceAdd,Nat.reduceLT,↓reduceIte,reduceCtorEq]
 refine callM_of hT [(211,211),(212,212)] 0 [2,4,5] [2,4] ?_ ?_
 ·simp only [okN,famCln,yfd,keepF,keepO,allQ,live,yc,go_sem,Nat.reduceEqDiff,Nat.reduceAdd,Nat.reduceBEq,↓reduceIte,reduceCtorEq]
 rintro r o' ⟨g,hg,ht,hn,rfl,rfl⟩
 have hM:=ycpj hx hg ht
 simp only [netC] at hM
 simp only [ycl,ygy,thenM,yko,nuF,nu,difN,keepF,keepO,Fam.ren,OB.ren,dim,yre,yip,go_sem,Nat.reduceEqDiff,Nat.reduceAdd,Nat.reduceBEq,↓reduceIte]
 refine callM_of hM [(211,211),(212,212)] 0 [4] [4] ?_ ?_
 ·simp only [ygy,ycl,to1,okN,famCln,yfd,keepF,keepO,allQ,live,yc,go_sem,Nat.reduceEqDiff,Nat.reduceAdd,Nat.reduceBEq,↓reduceIte,reduceCtorEq]
  refine ⟨⟨fun i _ j _ e=>e,fun i hi=>by rw [if_pos hi],fun i b hb=>?_⟩,by decide⟩
  obtain ⟨hi,rfl⟩:=ycn hb
  refine ⟨_,ywx (f:=ren (nu [(211,211),(212,212)] 0) 5) (fun _ _=>rfl) hi,⟨rfl,rfl,rfl,rfl⟩,fun k hk=>?_⟩
  simp only [rowO,live,yc,go_sem,reduceCtorEq]
 rintro r o' ⟨G,gg,gt,gn,rfl,rfl⟩
 simp only [ycl,ygy,clash,splice,thenM,yko,nuF,nu,difN,keepF,keepO,Fam.ren,OB.ren,dim,yre,yip,go_sem,Nat.reduceEqDiff,Nat.reduceAdd,Nat.reduceBEq,↓reduceIte]
 refine ⟨by decide,fun q hq=>?_,G,gg,gt.conn gg,by omega,?_⟩
 ·simp only [if_pos hq]
  exact ⟨Nat.le_refl _,fun k hk=>by simp only [rowO,go_sem]⟩
 ·refine yqw ⟨Sim.refl _,?_,trivial⟩
  refine yio fun q hq=>?_
  simp only [if_pos hq]
  simp only [rowO,ybb,yhb,go_sem]
  exact ⟨Sim.refl _,trivial⟩
end Sh
end Go.Proofs.YtpngeppkgoaimaaGreatDoor

namespace Go.Proofs.YtpngeppkgoaimaaGreatDoor
structure Tgt (S:Sys) (V:Conf -> Prop) (T:Conf -> Nat -> List Int):Prop where
 valid:∀ c s,V c -> s ≠ 0 -> subB s (S.en c) -> V (S.mv c s)
 stay:∀ c s v,V c -> v < S.n -> s.testBit v = false -> (S.mv c s).getD v [] = c.getD v []
 move:∀ c s v,V c -> v < S.n -> s.testBit v = true -> subB s (S.en c) -> (S.mv c s).getD v [] = T c v
 en:∀ c v,V c -> v < S.n -> ((S.en c).testBit v = false ↔ c.getD v [] = T c v)
theorem Tgt.rounds {S:Sys} {V:Conf -> Prop} {T:Conf -> Nat -> List Int} (h:Tgt S V T) {P:Nat -> Nat -> List Int -> Prop} (hT:∀ c v r,V c -> v < S.n -> (∀ u,u < S.n -> P r u (c.getD u [])) -> P (r + 1) v (T c v)) (hl:∀ r v s,P (r + 1) v s -> P r v s):ByRounds S V P where
 valid:=h.valid
 stay:=h.stay
 move:=fun c s v r hv hn hb hs hall=>by rw [h.move c s v hv hn hb hs]; exact hT c v r hv hn hall
 rest:=fun c v r hv hn hb hall=>by rw [(h.en c v hv hn).1 hb]; exact hT c v r hv hn hall
 less:=hl
theorem Tgt.silent {S:Sys} {V:Conf -> Prop} {T:Conf -> Nat -> List Int} (h:Tgt S V T) {P:Nat -> Nat -> List Int -> Prop} (hT:∀ c v r,V c -> v < S.n -> (∀ u,u < S.n -> P r u (c.getD u [])) -> P (r + 1) v (T c v)) {c:Conf} (hv:V c) (h0:∀ v,v < S.n -> P 0 v (c.getD v [])) (he:S.en c = 0):∀ r v,v < S.n -> P r v (c.getD v [])
 | 0,v,hn=>h0 v hn
 | r + 1,v,hn=>by
  rw [(h.en c v hv hn).1 (by rw [he]; simp)]
  exact hT c v r hv hn (Tgt.silent h hT hv h0 he r)
theorem Tgt.en_zero {S:Sys} {V:Conf -> Prop} {T:Conf -> Nat -> List Int} (h:Tgt S V T) {c:Conf} (hv:V c) (hlt:S.en c < 2 ^ S.n) (ht:∀ v,v < S.n -> c.getD v [] = T c v):S.en c = 0:=by
 rw [ycu]
 intro i
 by_cases hi:i < S.n
 ·exact (h.en c i hv hi).2 (ht i hi)
 ·exact Nat.testBit_lt_two_pow (Nat.lt_of_lt_of_le hlt (Nat.pow_le_pow_right (by omega) (by omega)))
theorem Sys.run_last {S:Sys} {res:Nat -> Nat -> Nat}:∀ (ws:List Nat) (c:Conf) (k:Cnt) (i:Nat),i + 1 < (S.run res ws c k).length -> ∀ p,(S.run res ws c k)[i]? = some p -> S.en p.1 ≠ 0
 | [],c,k,i,h,p,hp=>by simp [Sys.run] at h
 | w :: ws,c,k,i,h,p,hp=>by
  unfold Sys.run at h hp
  split at h
  ·simp at h
  ·rename_i h0
   rw [if_neg h0] at hp
   cases i with
   | zero =>
    simp only [List.getElem?_cons_zero] at hp
    cases hp
    simp only [List.length_cons] at h
    cases ws with
    | nil=>simp [Sys.run] at h
    | cons w' ws =>
     unfold Sys.run at h
     split at h
     ·simp at h
     ·assumption
   | succ i=>exact Sys.run_last ws _ _ i (by simpa using h) p (by simpa using hp)
theorem Sys.runs_last {S:Sys} {res:Nat -> Nat -> Nat} {ws:List Nat} {c:Conf} {i:Nat} (h:i + 1 < (S.runs res ws c).length) {p:Conf × Cnt} (hp:(S.runs res ws c)[i]? = some p):S.en p.1 ≠ 0:=by
 unfold Sys.runs at h hp
 cases i with
 | zero =>
  simp only [List.getElem?_cons_zero] at hp
  cases hp
  cases ws with
  | nil=>simp [Sys.run] at h
  | cons w ws =>
   unfold Sys.run at h
   split at h
   ·simp at h
   ·assumption
 | succ i=>exact Sys.run_last ws _ _ i (by simpa using h) p (by simpa using hp)
end Go.Proofs.YtpngeppkgoaimaaGreatDoor

namespace Go.Proofs.YtpngeppkgoaimaaGreatDoor
abbrev eNum (k:Int):Ex:=.leaf 1 k
abbrev ybmj:Ex:=.leaf 4 0
abbrev eVar (k:Int):Ex:=.leaf 5 k
abbrev eN:Ex:=.leaf 6 0
abbrev ybou:Ex:=.leaf 10 0
abbrev eQ (k:Int):Ex:=.leaf 12 k

def yra:Ex:=.agg 24 (eQ 0)
def yth:Ex:=.ite (.bin 37 yra eN) (.bin 33 yra (eNum 1)) eN
def ytm:Ex:=.agg 23 (.bin 35 (eQ 0) yra)
def ycdt:Ex:=.bin 41 ybou (.bin 42 (.bin 36 (eVar 0) (eNum 0)) (.bin 36 (eVar 1) ybmj))
def ycdg:Ex:=.bin 41 (.un 19 ybou) (.bin 42 (.bin 36 (eVar 0) yth) (.bin 36 (eVar 1) ytm))
def ybj (nm d p t l:ByteArray):ProgT:=⟨nm,[⟨d,1,0,0,1,0⟩,⟨p,3,0,0,0,0⟩],[⟨t,ycdt,[(0,eNum 0),(1,ybmj)]⟩,⟨l,ycdg,[(0,yth),(1,ytm)]⟩]⟩

theorem yod (l:List Int):∀ a:Int,l.foldl min a <= a /\ (∀ x ∈ l,l.foldl min a <= x) /\ ∀ b:Int,b <= a -> (∀ x ∈ l,b <= x) -> b <= l.foldl min a:=by
 induction l with
 | nil=>intro a; exact ⟨Int.le_refl _,fun x hx=>(List.not_mem_nil hx).elim,fun b hb _=>hb⟩
 | cons y l ih =>
  intro a
  obtain ⟨h1,h2,h3⟩:=ih (min a y)
  refine ⟨by simp only [List.foldl_cons]; omega,fun x hx=>?_,fun b hb hx=>?_⟩
  ·rcases List.mem_cons.1 hx with rfl | hx
   ·simp only [List.foldl_cons]; omega
   ·exact h2 x hx
  ·have:=hx y List.mem_cons_self
   exact h3 b (by omega) fun x hx'=>hx x (List.mem_cons_of_mem _ hx')
theorem ybkt {l:List Int} {x:Int} (h:x ∈ l):yiu l <= x:=(yod l 1073741824).2.1 x h
theorem yqd {l:List Int} {b:Int} (hb:b <= 1073741824) (h:∀ x ∈ l,b <= x):b <= yiu l:=(yod l 1073741824).2.2 b hb h
theorem yzc {α:Type} (g:Gr) (v:Nat) (f:Int × Int -> α) (h:Nat -> α) (e:∀ q,q < (g.ports.getD v []).length -> h q = f ((g.ports.getD v []).getD q (0,0))):(List.range (g.ports.getD v []).length).map h = (g.ports.getD v []).map f:=by
 refine List.ext_getElem (by simp) fun i h1 h2=>?_
 have hi:i < (g.ports.getD v []).length:=by simpa using h1
 rw [List.getElem_map,List.getElem_range,List.getElem_map,e i hi]
 congr 1
 rw [List.getD_eq_getElem?_getD,List.getElem?_eq_getElem hi]
 rfl
theorem yvb (f:Int × Int -> Bool) (ls:List (Int × Int)):ydt (ls.map fun l=>ybx (f l)) = ydg f ls:=by
 unfold ydt ydg
 have:((fun x:Int=>x != 0) ∘ fun l=>ybx (f l)) = f:=by
  funext l
  show (ybx (f l) != 0) = f l
  unfold ybx
  cases f l <;> rfl
 rw [List.findIdx?_map,this]
 cases List.findIdx? f ls <;> rfl

def endP (c:Conf) (k:Nat) (l:Int × Int):Int:=(c.getD l.1.toNat []).getD k 0
def bfsM (g:Gr) (c:Conf) (v:Nat):Int:=yiu ((g.ports.getD v []).map (endP c 0))
def bfsD (g:Gr) (c:Conf) (v:Nat):Int:=if bfsM g c v < (g.ids.length:Int) then bfsM g c v + 1 else (g.ids.length:Int)
def bfsF (g:Gr) (c:Conf) (v:Nat):Int:=ydg (fun l=>endP c 0 l == bfsM g c v) (g.ports.getD v [])
def bfsT (g:Gr) (c:Conf) (v:Nat):List Int:=if v = 0 then [0,-1] else [bfsD g c v,bfsF g c v]
theorem yxf (g:Gr) (c:Conf) (v:Nat) (p:Int):ybt g c v yra p = bfsM g c v:=by
 show ygx 24 _ = _
 unfold bfsM ygx
 rw [if_neg (by decide),if_neg (by decide),if_neg (by decide),if_neg (by decide),if_pos rfl]
 congr 1
 exact yzc g v _ _ fun q hq=>rfl
theorem yxs {g:Gr} {c:Conf} {v:Nat} (h0:0 <= bfsM g c v) (hn:(g.ids.length:Int) <= 24) (p:Int):ybt g c v yth p = bfsD g c v:=by
 show (if binP 37 (ybt g c v yra p) (ybt g c v eN p) ≠ 0 then binP 33 (ybt g c v yra p) (ybt g c v (eNum 1) p) else ybt g c v eN p) = _
 rw [yxf]
 have e1:ybt g c v eN p = (g.ids.length:Int):=rfl
 have e2:ybt g c v (eNum 1) p = 1:=rfl
 rw [e1,e2]
 have e3:binP 37 (bfsM g c v) (g.ids.length:Int) = ybx (decide (bfsM g c v < (g.ids.length:Int))):=rfl
 have e4:binP 33 (bfsM g c v) 1 = satP (bfsM g c v + 1):=rfl
 rw [e3,e4]
 unfold bfsD
 by_cases h:bfsM g c v < (g.ids.length:Int)
 ·rw [if_pos h,if_pos (by simp [ybx,h])]
  unfold satP
  omega
 ·rw [if_neg h,if_neg (by simp [ybx,h])]
theorem yyl (g:Gr) (c:Conf) (v:Nat) (p:Int):ybt g c v ytm p = bfsF g c v:=by
 show ygx 23 _ = _
 unfold bfsF ygx
 rw [if_neg (by decide),if_neg (by decide),if_neg (by decide),if_pos rfl,<- yvb]
 congr 1
 refine yzc g v _ _ fun q hq=>?_
 show binP 35 (ybt g c v (eQ 0) q) (ybt g c v yra q) = _
 rw [yxf]
 rfl
theorem yye (b:Bool):(ybx b != 0) = b:=by cases b <;> rfl
theorem yded {s:List Int} (h:s.length = 2) (x y:Int):s = [x,y] ↔ s.getD 0 0 = x /\ s.getD 1 0 = y:=by
 match s,h with
 | [a,b],_=>simp
section
variable {nm nd np nt nl:ByteArray} {g:Gr} {c:Conf} {v:Nat}
theorem bT1 {x:ByteArray}:ybd g v ⟨x,1,0,0,1,0⟩ = (0,0 + 1 * (g.ids.length:Int) + 0 * maxI g.ids):=by
 show (if (1:Int) = 1 then _ else _) = _
 rw [if_pos rfl]
theorem bT3 {x:ByteArray}:ybd g v ⟨x,3,0,0,0,0⟩ = (-1,((g.ports.getD v []).length:Int) - 1):=by
 show (if (3:Int) = 1 then _ else if (3:Int) = 2 then _ else if (3:Int) = 3 then _ else _) = _
 rw [if_neg (by decide),if_neg (by decide),if_pos rfl]
theorem yft (hg:ybc g) (hc:ycs (ybj nm nd np nt nl) g c = true):c.length = g.ids.length /\ ∀ v,v < g.ids.length -> (c.getD v []).length = 2 /\ (0 <= (c.getD v []).getD 0 0 /\ (c.getD v []).getD 0 0 <= g.ids.length) /\ (-1 <= (c.getD v []).getD 1 0 /\ (c.getD v []).getD 1 0 < (g.ports.getD v []).length):=by
 have h:=(yfb _ _ _).1 hc
 refine ⟨h.1,fun v hv=>?_⟩
 have hlt:v < c.length:=by rw [h.1]; exact hv
 have e:c.getD v [] = c[v]:=by simp [List.getD,hlt]
 have h2:=h.2 v _ (List.getElem?_eq_getElem hlt)
 rw [e]
 have hl:c[v].length = 2:=h2.1
 have a0:(ybd g v ⟨nd,1,0,0,1,0⟩).1 <= c[v][0] /\ c[v][0] <= (ybd g v ⟨nd,1,0,0,1,0⟩).2:=h2.2 0 _ _ rfl (List.getElem?_eq_getElem (by omega))
 have a1:(ybd g v ⟨np,3,0,0,0,0⟩).1 <= c[v][1] /\ c[v][1] <= (ybd g v ⟨np,3,0,0,0,0⟩).2:=h2.2 1 _ _ rfl (List.getElem?_eq_getElem (by omega))
 have e0:c[v].getD 0 0 = c[v][0]:=by simp [List.getD,hl]
 have e1:c[v].getD 1 0 = c[v][1]:=by simp [List.getD,hl]
 rw [e0,e1]
 rw [bT1] at a0
 rw [bT3] at a1
 simp only at a0 a1
 exact ⟨hl,⟨by omega,by omega⟩,⟨by omega,by omega⟩⟩
theorem ykq (hg:ybc g) (hc:ycs (ybj nm nd np nt nl) g c = true) (hv:v < g.ids.length):0 <= bfsM g c v:=by
 refine yqd (by omega) fun x hx=>?_
 obtain ⟨l,hl,rfl⟩:=List.mem_map.1 hx
 have hvp:v < g.ports.length:=by rw [<- hg.2.2.1]; exact hv
 have hlk:=hg.link (v:=v) (List.getElem?_eq_getElem hvp) (l:=l) (by simpa [List.getD,hvp] using hl)
 have:=(yft hg hc).2 l.1.toNat (by have:=hg.2.2.1; omega)
 exact this.2.1.1
theorem ycpt:-1 <= bfsF g c v /\ (bfsF g c v < (g.ports.getD v []).length):=by
 unfold bfsF ydg
 split
 ·rename_i i hi
  obtain ⟨h,_⟩:=List.findIdx?_eq_some_iff_getElem.1 hi
  omega
 ·omega
theorem ycpd (hg:ybc g) (hc:ycs (ybj nm nd np nt nl) g c = true) (hv:v < g.ids.length):0 <= bfsD g c v /\ bfsD g c v <= g.ids.length:=by
 have:=ykq hg hc hv
 unfold bfsD
 split <;> omega
theorem ybkl (hg:ybc g) (hc:ycs (ybj nm nd np nt nl) g c = true) (hv:v < g.ids.length) :
  yjx g c v ⟨nt,ycdt,[(0,eNum 0),(1,ybmj)]⟩ = (decide (v = 0) && !decide (c.getD v [] = [0,-1])) /\
  yjx g c v ⟨nl,ycdg,[(0,yth),(1,ytm)]⟩ = (!decide (v = 0) && !decide (c.getD v [] = [bfsD g c v,bfsF g c v])):=by
 have h2:=((yft hg hc).2 v hv).1
 have hn:(g.ids.length:Int) <= 24:=by have:=hg.2.1; have:=hg.2.2.1; omega
 have hM:=ykq hg hc hv
 have er:∀ p,ybt g c v ybou p = ybx ((v:Int) == 0):=fun p=>rfl
 have ez:((v:Int) == 0) = decide (v = 0):=by
  cases v with
  | zero=>rfl
  | succ k=>simp; omega
 have e0:∀ p,ybt g c v (eVar 0) p = (c.getD v []).getD 0 0:=fun p=>rfl
 have e1:∀ p,ybt g c v (eVar 1) p = (c.getD v []).getD 1 0:=fun p=>rfl
 have dd:∀ x y:Int,(decide (c.getD v [] = [x,y])) = (((c.getD v []).getD 0 0 == x) && ((c.getD v []).getD 1 0 == y)):=fun x y=>by
  rw [Bool.eq_iff_iff]
  simp only [decide_eq_true_eq,Bool.and_eq_true,beq_iff_eq]
  exact yded h2 x y
 have b41:∀ a b:Bool,binP 41 (ybx a) (ybx b) = ybx (a && b):=fun a b=>by cases a <;> cases b <;> rfl
 have b42:∀ a b:Bool,binP 42 (ybx a) (ybx b) = ybx (a || b):=fun a b=>by cases a <;> cases b <;> rfl
 have b36:∀ a b:Int,binP 36 a b = ybx (a != b):=fun a b=>rfl
 have u19:∀ a:Bool,unP 19 (ybx a) = ybx (!a):=fun a=>by cases a <;> rfl
 have key:∀ t a b:Bool,(t && (!a || !b)) = (t && !(a && b)):=by decide
 constructor
 ·show (binP 41 (ybt g c v ybou (-1)) (binP 42 (binP 36 (ybt g c v (eVar 0) (-1)) 0) (binP 36 (ybt g c v (eVar 1) (-1)) (-1))) != 0) = _
  rw [er,e0,e1,b36,b36,b42,b41,yye,ez,dd]
  exact key _ _ _
 ·show (binP 41 (unP 19 (ybt g c v ybou (-1))) (binP 42 (binP 36 (ybt g c v (eVar 0) (-1)) (ybt g c v yth (-1))) (binP 36 (ybt g c v (eVar 1) (-1)) (ybt g c v ytm (-1)))) != 0) = _
  rw [er,e0,e1,yxs hM hn,yyl,b36,b36,b42,u19,b41,yye,ez,dd]
  exact key _ _ _
theorem ywc (hg:ybc g) (hc:ycs (ybj nm nd np nt nl) g c = true) (hv:v < g.ids.length):ygj (ybj nm nd np nt nl) g c v = if c.getD v [] = bfsT g c v then -1 else if v = 0 then 0 else 1:=by
 obtain ⟨h1,h2⟩:=ybkl (nt:=nt) (nl:=nl) hg hc hv
 unfold ygj ybj
 simp only [List.findIdx?_cons,h1,h2,List.findIdx?_nil]
 unfold bfsT
 generalize c.getD v [] = s
 by_cases h0:v = 0
 ·by_cases hs:s = [0,-1] <;> simp [h0,hs]
 ·by_cases hs:s = [bfsD g c v,bfsF g c v] <;> simp [h0,hs]
theorem ybxz (hg:ybc g) (hc:ycs (ybj nm nd np nt nl) g c = true) (hv:v < g.ids.length) (hne:c.getD v [] ≠ bfsT g c v):yyr (ybj nm nd np nt nl) g c v (ygj (ybj nm nd np nt nl) g c v).toNat = bfsT g c v:=by
 rw [ywc hg hc hv,if_neg hne]
 have h2:=((yft hg hc).2 v hv).1
 have hn:(g.ids.length:Int) <= 24:=by have:=hg.2.1; have:=hg.2.2.1; omega
 have hM:=ykq hg hc hv
 obtain ⟨d1,d2⟩:=ycpd hg hc hv
 obtain ⟨f1,f2⟩:=ycpt (g:=g) (c:=c) (v:=v)
 obtain ⟨a,b,hab⟩:∃ a b,c.getD v [] = [a,b]:=by
  match hq:c.getD v [],h2 with
  | [a,b],_=>exact ⟨a,b,rfl⟩
 have br0:∀ x:Int,0 <= x -> x <= g.ids.length -> yfk 1 (ybd g v ⟨nd,1,0,0,1,0⟩) x = x:=fun x h1 h2=>by
  unfold yfk
  rw [bT1]
  simp only
  rw [if_pos ⟨by omega,by omega⟩]
 have br1:∀ x:Int,-1 <= x -> x < (g.ports.getD v []).length -> yfk 3 (ybd g v ⟨np,3,0,0,0,0⟩) x = x:=fun x h1 h2=>by
  unfold yfk
  rw [bT3]
  simp only
  rw [if_pos ⟨by omega,by omega⟩]
 unfold yyr ymk bfsT
 rw [hab]
 by_cases h0:v = 0
 ·rw [if_pos h0,if_pos h0]
  show [yfk 1 (ybd g v ⟨nd,1,0,0,1,0⟩) (ybt g c v (eNum 0) (-1)),yfk 3 (ybd g v ⟨np,3,0,0,0,0⟩) (ybt g c v ybmj (-1))] = _
  rw [show ybt g c v (eNum 0) (-1) = 0 from rfl,show ybt g c v ybmj (-1) = -1 from rfl,br0 0 (by omega) (by omega),br1 (-1) (by omega) (by omega)]
 ·rw [if_neg h0,if_neg h0]
  show [yfk 1 (ybd g v ⟨nd,1,0,0,1,0⟩) (ybt g c v yth (-1)),yfk 3 (ybd g v ⟨np,3,0,0,0,0⟩) (ybt g c v ytm (-1))] = _
  rw [yxs hM hn,yyl,br0 _ d1 d2,br1 _ f1 f2]
theorem ykz (hg:ybc g):Sh.yut (ybj nm nd np nt nl) g = true:=by
 have:=hg.1
 have:=hg.2.1
 have:=hg.2.2.1
 simp [Sh.yut,ybj,ybd]
 omega
theorem ydbi:(ybj nm nd np nt nl).ok = true:=by kernel_rfl
end
end Go.Proofs.YtpngeppkgoaimaaGreatDoor

namespace Go.Proofs.YtpngeppkgoaimaaGreatDoor
section
variable {g:Gr} {a v:Nat}
theorem ygh (hg:ybc g) (hc:ycb g = true) (ha:a < g.ports.length) (hv:v < g.ports.length):∃ k:Nat,(ybi g a).getD v 0 = k /\ Walk g a k v /\ (∀ j,j < k -> ¬ Walk g a j v) /\ k < g.ports.length:=by
 have h0:0 < g.ports.length:=by omega
 have hall:(ybi g a).all (fun x=>decide (0 <= x)) = true:=yvo hg h0 ha ((Bool.and_eq_true _ _ ▸ hc).2)
 have hl:=ycm hg ha
 have hvl:v < (ybi g a).length:=by rw [hl]; exact hv
 have e:(ybi g a).getD v 0 = (ybi g a)[v]:=by simp [List.getD,hvl]
 have hpos:0 <= (ybi g a)[v]:=by simpa using List.all_eq_true.1 hall _ (List.getElem_mem hvl)
 rcases (ydc hg ha).2 v _ (List.getElem?_eq_getElem hvl) with ⟨h,_⟩ | ⟨k,h1,h2,h3⟩
 ·omega
 ·exact ⟨k,by rw [e,h1],h2,h3,yve hg ha h2 h3⟩
theorem ycpq {k:Nat} (hg:ybc g) (hc:ycb g = true) (ha:a < g.ports.length) (hv:v < g.ports.length) (h1:Walk g a k v) (h2:∀ j,j < k -> ¬ Walk g a j v):(ybi g a).getD v 0 = k:=by
 obtain ⟨j,e,h3,h4,_⟩:=ygh hg hc ha hv
 rcases Nat.lt_trichotomy j k with h | h | h
 ·exact absurd h3 (h2 j h)
 ·rw [e,h]
 ·exact absurd h1 (h4 k h)
theorem ylb (hg:ybc g) (hc:ycb g = true) (ha:a < g.ports.length):(ybi g a).getD a 0 = 0:=ycpq hg hc ha ha (k:=0) rfl fun j hj=>by omega
theorem ykh (hg:ybc g) (hc:ycb g = true) (ha:a < g.ports.length) (hv:v < g.ports.length):0 <= (ybi g a).getD v 0 /\ (ybi g a).getD v 0 < g.ports.length:=by
 obtain ⟨k,e,_,_,h⟩:=ygh hg hc ha hv
 omega
theorem ybwl (hg:ybc g) (hc:ycb g = true) (ha:a < g.ports.length) (hv:v < g.ports.length) (hne:v ≠ a):1 <= (ybi g a).getD v 0:=by
 obtain ⟨k,e,h1,_,_⟩:=ygh hg hc ha hv
 cases k with
 | zero=>exact absurd h1 hne
 | succ k=>omega
theorem ybfl (hg:ybc g) (hc:ycb g = true) (ha:a < g.ports.length) {u:Nat} (h:adj g u v):(ybi g a).getD v 0 <= (ybi g a).getD u 0 + 1:=by
 obtain ⟨hu,hv⟩:=hg.adj_lt h
 obtain ⟨k,e,h1,_,_⟩:=ygh hg hc ha hu
 obtain ⟨j,e',_,h3,_⟩:=ygh hg hc ha hv
 rw [e,e']
 rcases Nat.lt_or_ge (k + 1) j with q | q
 ·exact absurd ⟨u,h1,h⟩ (h3 (k + 1) q)
 ·omega
theorem yxv (hg:ybc g) (hc:ycb g = true) (ha:a < g.ports.length) (hv:v < g.ports.length) (hne:v ≠ a):∃ u,adj g v u /\ (ybi g a).getD u 0 = (ybi g a).getD v 0 - 1:=by
 obtain ⟨k,e,h1,h2,_⟩:=ygh hg hc ha hv
 cases k with
 | zero=>exact absurd h1 hne
 | succ k =>
  obtain ⟨u,h3,h4⟩:=h1
  refine ⟨u,hg.adj_symm h4,?_⟩
  have h5:=ybfl hg hc ha h4
  obtain ⟨hu,_⟩:=hg.adj_lt h4
  obtain ⟨j,e',_,h6,_⟩:=ygh hg hc ha hu
  rw [e,e'] at h5
  rcases Nat.lt_or_ge k j with q | q
  ·exact absurd h3 (h6 k q)
  ·rw [e,e']; omega
theorem ybpy {l:Int × Int} (hg:ybc g) (hv:v < g.ports.length) (hl:l ∈ g.ports.getD v []):0 <= l.1 /\ l.1.toNat < g.ports.length /\ adj g v l.1.toNat /\ 1 <= l.2 /\ l.2 <= 15:=by
 have e:g.ports[v]? = some (g.ports.getD v []):=by simp [List.getD,hv]
 have h:=hg.link e hl
 exact ⟨h.1,by omega,⟨_,e,l,hl,by omega⟩,h.2.2.2.1,h.2.2.2.2⟩
theorem ybqm {u:Nat} (h:adj g v u):∃ l ∈ g.ports.getD v [],l.1.toNat = u:=by
 obtain ⟨l,hl,e⟩:=yqb.1 h
 exact ⟨l,hl,by rw [e]; simp⟩
theorem ybam {f h:Int × Int -> Bool} {ls:List (Int × Int)} (e:∀ l ∈ ls,f l = h l):ydg f ls = ydg h ls:=by
 have:ls.findIdx? f = ls.findIdx? h:=by
  induction ls with
  | nil=>rfl
  | cons x l ih =>
   rw [List.findIdx?_cons,List.findIdx?_cons,e x List.mem_cons_self,ih fun y hy=>e y (List.mem_cons_of_mem _ hy)]
 unfold ydg
 rw [this]
theorem ybup {f:Int × Int -> Bool} {ls:List (Int × Int)} (h:∀ l ∈ ls,f l = false):ydg f ls = -1:=by
 unfold ydg
 rw [List.findIdx?_eq_none_iff.2 (fun x hx=>by simp [h x hx])]
theorem ybgf (hg:ybc g) (hc:ycb g = true) (ha:a < g.ports.length):wayP g (ybi g a) a = -1:=by
 refine ybup fun l hl=>?_
 obtain ⟨_,h1,h2,_⟩:=ybpy hg ha hl
 have h3:=ykh hg hc ha h1
 have h4:=ylb hg hc ha
 unfold yeh
 rw [h4,beq_eq_false_iff_ne]
 omega
end
section
variable {nm nd np nt nl:ByteArray} {g:Gr}
def bfsR (g:Gr) (r v:Nat) (s:List Int):Prop:=if (ybi g 0).getD v 0 < (r:Int) then s = [(ybi g 0).getD v 0,wayP g (ybi g 0) v] else (r:Int) <= s.getD 0 0
theorem ybbz (hg:ybc g):Tgt (ybh (ybj nm nd np nt nl) g) (fun c=>ycs (ybj nm nd np nt nl) g c = true) (bfsT g) where
 valid:=fun c s hc _ _=>Sh.ytw hg ydbi (ykz hg) hc s
 stay:=fun c s v hc hv hb=>by
  have hl:=(yft hg hc).1
  show (ykr _ g c s).getD v [] = _
  rw [Sh.yly _ g c s (by rw [hl]; exact hv),hb]
  rfl
 move:=fun c s v hc hv hb hs=>by
  have hl:=(yft hg hc).1
  have hv:v < g.ids.length:=hv
  show (ykr _ g c s).getD v [] = _
  rw [Sh.yly _ g c s (by rw [hl]; exact hv),hb,if_pos rfl]
  refine ybxz hg hc hv fun he=>?_
  have h1:=hs v hb
  have h1:(yiw _ g.ids.length).testBit v = true:=h1
  rw [yja] at h1
  simp only [Bool.and_eq_true,decide_eq_true_eq] at h1
  rw [ywc hg hc hv,if_pos he] at h1
  omega
 en:=fun c v hc hv=>by
  have hv:v < g.ids.length:=hv
  show (yiw _ g.ids.length).testBit v = false ↔ _
  rw [yja,ywc hg hc hv,decide_eq_true hv,Bool.true_and,decide_eq_false_iff_not]
  by_cases he:c.getD v [] = bfsT g c v
  ·rw [if_pos he]; exact ⟨fun _=>he,fun _=>by omega⟩
  ·rw [if_neg he]; exact ⟨fun h=>(h (by split <;> omega)).elim,fun h=>absurd h he⟩
theorem yvh (hg:ybc g) (hc:ycb g = true) (c:Conf) (v r:Nat) (hv:v < g.ids.length) (hall:∀ u,u < g.ids.length -> bfsR g r u (c.getD u [])):bfsR g (r + 1) v (bfsT g c v):=by
 have hpl:=hg.2.2.1
 have h24:=hg.2.1
 have h0:0 < g.ports.length:=by omega
 have hvp:v < g.ports.length:=by omega
 have hD:=ykh hg hc h0 hvp
 unfold bfsR bfsT
 by_cases hv0:v = 0
 ·subst hv0
  rw [if_pos rfl,ylb hg hc h0,ybgf hg hc h0,if_pos (by omega)]
 ·rw [if_neg hv0]
  have hpos:=ybwl hg hc h0 hvp hv0
  have near:∀ l ∈ g.ports.getD v [],(ybi g 0).getD v 0 - 1 <= (ybi g 0).getD l.1.toNat 0 /\ (((ybi g 0).getD l.1.toNat 0 < (r:Int) /\ endP c 0 l = (ybi g 0).getD l.1.toNat 0) \/ ((r:Int) <= (ybi g 0).getD l.1.toNat 0 /\ (r:Int) <= endP c 0 l)):=fun l hl=>by
   obtain ⟨_,h1,h2,_⟩:=ybpy hg hvp hl
   have h3:=ybfl hg hc h0 (hg.adj_symm h2)
   refine ⟨by omega,?_⟩
   have h4:=hall l.1.toNat (by omega)
   unfold bfsR at h4
   split at h4
   ·rename_i hlt
    refine .inl ⟨hlt,?_⟩
    unfold endP
    rw [h4]
    rfl
   ·exact .inr ⟨by omega,h4⟩
  by_cases hk:(ybi g 0).getD v 0 < ((r + 1:Nat):Int)
  ·rw [if_pos hk]
   have hM:bfsM g c v = (ybi g 0).getD v 0 - 1:=by
    obtain ⟨u,hu,hd⟩:=yxv hg hc h0 hvp hv0
    obtain ⟨l,hl,hlu⟩:=ybqm hu
    subst hlu
    have h5:=near l hl
    have h6:endP c 0 l = (ybi g 0).getD v 0 - 1:=by
     rcases h5.2 with ⟨_,h⟩ | ⟨h,_⟩
     ·rw [h,hd]
     ·omega
    refine Int.le_antisymm ?_ (yqd (by omega) fun x hx=>?_)
    ·rw [<- h6]; exact ybkt (List.mem_map.2 ⟨l,hl,rfl⟩)
    ·obtain ⟨l',hl',rfl⟩:=List.mem_map.1 hx
     have h7:=near l' hl'
     rcases h7.2 with ⟨_,h⟩ | ⟨_,h⟩ <;> omega
   have e1:bfsD g c v = (ybi g 0).getD v 0:=by
    unfold bfsD
    rw [hM,if_pos (by omega)]
    omega
   have e2:bfsF g c v = wayP g (ybi g 0) v:=by
    unfold bfsF wayP
    refine ybam fun l hl=>?_
    have h7:=near l hl
    unfold yeh
    rw [hM,Bool.eq_iff_iff]
    simp only [beq_iff_eq]
    rcases h7.2 with ⟨h8,h⟩ | ⟨h8,h⟩ <;> omega
   rw [e1,e2]
  ·rw [if_neg hk]
   have hM:(r:Int) <= bfsM g c v:=yqd (by omega) fun x hx=>by
    obtain ⟨l',hl',rfl⟩:=List.mem_map.1 hx
    have h7:=near l' hl'
    rcases h7.2 with ⟨_,h⟩ | ⟨_,h⟩ <;> omega
   show ((r + 1:Nat):Int) <= bfsD g c v
   unfold bfsD
   split <;> omega
theorem ybua (r v:Nat) (s:List Int) (h:bfsR g (r + 1) v s):bfsR g r v s:=by
 unfold bfsR at *
 split at h
 ·rename_i h1
  split
  ·exact h
  ·rw [h]; show (r:Int) <= (ybi g 0).getD v 0; omega
 ·rw [if_neg (by omega)]; omega
theorem ybaz (hg:ybc g) (hc:ycb g = true) {c:Conf} (hv:ycs (ybj nm nd np nt nl) g c = true) (v:Nat) (h:v < g.ids.length):bfsR g 0 v (c.getD v []):=by
 have:=ykh hg hc (a:=0) (v:=v) (by have:=hg.1; omega) (by have:=hg.2.2.1; omega)
 unfold bfsR
 rw [if_neg (by omega)]
 have:=((yft hg hv).2 v h).2.1.1
 omega
theorem yfw (hg:ybc g) (hc:ycb g = true) {res:Nat -> Nat -> Nat} (hr:ybco res) {ws:List Nat} {c:Conf} (hv:ycs (ybj nm nd np nt nl) g c = true):∀ p ∈ (ybh (ybj nm nd np nt nl) g).runs res ws c,RInv (ybh (ybj nm nd np nt nl) g) (fun c=>ycs (ybj nm nd np nt nl) g c = true) (bfsR g) p.1 p.2 :=
 ((ybbz hg).rounds (fun c v r _ hn hall=>yvh hg hc c v r hn hall) ybua).runs hr hv fun v h=>ybaz hg hc hv v h
def yln (g:Gr) (c:Conf):Prop:=∀ v,v < g.ids.length -> c.getD v [] = [(ybi g 0).getD v 0,wayP g (ybi g 0) v]
theorem ylp (hg:ybc g) (hc:ycb g = true) {c:Conf} (hv:ycs (ybj nm nd np nt nl) g c = true):ybq g c = true ↔ yln g c:=by
 have hpl:=hg.2.2.1
 have hl:=(yft hg hv).1
 have hb:ydy g c = true:=by
  unfold ydy
  rw [hc,Bool.true_and,<- hv]
  unfold ycs
  rw [hpl]
  congr 1
  funext v
  simp [yeg,ybj,ybd,ybvm,hpl]
 unfold ybq
 rw [hb,Bool.true_and]
 constructor
 ·intro h v hlt
  have hvc:v < c.length:=by omega
  have:=List.all_eq_true.1 h (c[v],v) (List.mem_zipIdx_iff_getElem?.2 (by simp [hvc]))
  have:=of_decide_eq_true this
  rw [List.getD_eq_getElem?_getD,List.getElem?_eq_getElem hvc]
  exact this
 ·intro h
  refine List.all_eq_true.2 fun p hp=>?_
  have hp:=List.mem_zipIdx_iff_getElem?.1 hp
  have hlt:=(List.getElem?_eq_some_iff.1 hp).1
  have:=h p.2 (by omega)
  rw [List.getD_eq_getElem?_getD,hp] at this
  exact decide_eq_true this
theorem ytn (hg:ybc g) (hc:ycb g = true) {c:Conf} {r:Nat} (hr:eccP g 0 < (r:Int)) (h:∀ v,v < g.ids.length -> bfsR g r v (c.getD v [])):yln g c:=fun v hv=>by
 have h1:=h v hv
 have h0:0 < g.ports.length:=by have:=hg.1; omega
 have hvp:v < g.ports.length:=by have:=hg.2.2.1; omega
 have e:eccP g 0 = ybm (ybi g 0):=by
  unfold eccP
  rw [if_pos ⟨hc,by omega,by omega⟩]
  rfl
 have hle:(ybi g 0).getD v 0 <= ybm (ybi g 0):=by
  have hvl:v < (ybi g 0).length:=by rw [ycm hg h0]; exact hvp
  refine yix _ _ ?_
  rw [List.getD_eq_getElem?_getD,List.getElem?_eq_getElem hvl]
  exact List.getElem_mem hvl
 unfold bfsR at h1
 rw [if_pos (by omega)] at h1
 exact h1
theorem ypy (hg:ybc g) (hc:ycb g = true) {c:Conf} (hv:ycs (ybj nm nd np nt nl) g c = true):ybk (ybj nm nd np nt nl) g c = 0 ↔ ybq g c = true:=by
 rw [ylp hg hc hv]
 constructor
 ·intro he
  have:=(ybbz (nm:=nm) (nd:=nd) (np:=np) (nt:=nt) (nl:=nl) hg).silent (P:=bfsR g) (fun c v r _ hn hall=>yvh hg hc c v r hn hall) hv (fun v h=>ybaz hg hc hv v h) he
  refine ytn hg hc (r:=1001) (by have:=(yqa g 0).2; omega) fun v hn=>this 1001 v hn
 ·intro h
  refine (ybbz (nm:=nm) (nd:=nd) (np:=np) (nt:=nt) (nl:=nl) hg).en_zero hv (Sh.ybxd _ g c) fun v hn=>?_
  have hn:v < g.ids.length:=hn
  have hall:∀ u,u < g.ids.length -> bfsR g 1001 u (c.getD u []):=fun u hu=>by
   have:=ykh hg hc (a:=0) (v:=u) (by have:=hg.1; omega) (by have:=hg.2.2.1; omega)
   have:=hg.2.1
   unfold bfsR
   rw [if_pos (by omega)]
   exact h u hu
  have h1:=yvh hg hc c v 1001 hn hall
  have:=ykh hg hc (a:=0) (v:=v) (by have:=hg.1; omega) (by have:=hg.2.2.1; omega)
  have:=hg.2.1
  unfold bfsR at h1
  rw [if_pos (by omega)] at h1
  rw [h1]
  exact h v hn
end
end Go.Proofs.YtpngeppkgoaimaaGreatDoor

namespace Go.Proofs.YtpngeppkgoaimaaGreatDoor
namespace Sh
theorem ypv {l:List Bool} {k:Nat}:ynh l k = true ↔ ∃ j,j < k /\ l[j]? = some true:=by
 unfold ynh
 rw [List.any_eq_true]
 constructor
 ·rintro ⟨x,hx,he⟩
  obtain ⟨j,hj,e⟩:=List.getElem_of_mem hx
  have hj':j < k:=by rw [List.length_take] at hj; omega
  refine ⟨j,hj',?_⟩
  have:(l.take k)[j]? = some true:=by rw [List.getElem?_eq_getElem hj,e]; exact congrArg some he
  rwa [List.getElem?_take_of_lt hj'] at this
 ·rintro ⟨j,hj,e⟩
  refine ⟨true,?_,rfl⟩
  refine List.mem_of_getElem? (i:=j) ?_
  rw [List.getElem?_take_of_lt hj]
  exact e
theorem ycsy {S:Sys} {res:Nat -> Nat -> Nat} {ws:List Nat} {c:Conf} {L:Conf -> Bool} {J:Conf -> Cnt -> Prop} {rounds:Int} (hJ:∀ p ∈ S.runs res ws c,J p.1 p.2) (hrest:∀ c k,J c k -> (S.en c = 0 ↔ L c = true)) (hb:∀ c k,J c k -> L c = false -> (k.begun:Int) <= rounds) {moves:Int} (hm:∀ c k,J c k -> L c = false -> 0 <= moves -> (k.moves:Int) <= moves)
  {ended:Bool} (he:ended = true -> ∀ p,(S.runs res ws c)[(S.runs res ws c).length - 1]? = some p -> S.en p.1 = 0) :
  HeldOk ((S.runs res ws c).map fun p=>L p.1) ((S.runs res ws c).map (·.2)) rounds moves ended:=by
 obtain ⟨R,hR⟩:∃ R,S.runs res ws c = R:=⟨_,rfl⟩
 have hlast:∀ i,i + 1 < R.length -> ∀ p,R[i]? = some p -> S.en p.1 ≠ 0:=fun i hi p hp=>by
  rw [<- hR] at hi hp
  exact Sys.runs_last hi hp
 have hpos:0 < R.length:=by rw [<- hR]; simp [Sys.runs]
 rw [hR] at hJ he ⊢
 have at_:∀ i,i < R.length -> ∃ p,R[i]? = some p /\ J p.1 p.2:=fun i hi=>⟨R[i],List.getElem?_eq_getElem hi,hJ _ (List.getElem_mem hi)⟩
 have lg:∀ (i:Nat) (p:Conf × Cnt),R[i]? = some p -> (R.map fun p=>L p.1)[i]? = some (L p.1):=fun i p hp=>by simp [hp]
 have no:∀ (i:Nat),ynh (R.map fun p=>L p.1) (i + 1) = false -> i < R.length -> ∀ p:Conf × Cnt,R[i]? = some p -> L p.1 = false:=fun i h hi p hp=>by
  cases hq:L p.1 with
  | false=>rfl
  | true =>
   have:ynh (R.map fun p=>L p.1) (i + 1) = true:=ypv.2 ⟨i,Nat.lt_succ_self i,by rw [lg i p hp,hq]⟩
   rw [this] at h; cases h
 refine ⟨by simp,by simpa using hpos,fun i hi h=>?_,fun i hi h=>?_,fun i hi h hmv=>?_,?_⟩
 ·have hi:i < R.length:=by simpa using hi
  obtain ⟨j,hj,e⟩:=ypv.1 h
  obtain ⟨p,hp,hJp⟩:=at_ j (by omega)
  rw [lg j p hp] at e
  exact absurd ((hrest p.1 p.2 hJp).2 (Option.some.inj e)) (hlast j (by omega) p hp)
 ·have hi:i < R.length:=by simpa using hi
  obtain ⟨p,hp,hJp⟩:=at_ i hi
  have:=hb p.1 p.2 hJp (no i h hi p hp)
  rw [List.getD_eq_getElem?_getD,List.getElem?_map,hp]
  exact this
 ·have hi:i < R.length:=by simpa using hi
  obtain ⟨p,hp,hJp⟩:=at_ i hi
  have:=hm p.1 p.2 hJp (no i h hi p hp) hmv
  rw [List.getD_eq_getElem?_getD,List.getElem?_map,hp]
  exact this
 ·cases ended with
  | false=>exact .inr rfl
  | true =>
   obtain ⟨p,hp,hJp⟩:=at_ (R.length - 1) (by omega)
   have h1:=(hrest p.1 p.2 hJp).1 (he rfl p hp)
   exact .inl (ypv.2 ⟨R.length - 1,by simp; omega,by rw [lg _ p hp,h1]⟩)
section
variable {nm nd np nt nl:ByteArray} {g:Gr}
theorem ybyf (hg:ybc g) (hc:ycb g = true) {res:Nat -> Nat -> Nat} (hr:ybco res) {ws:List Nat} {c:Conf} (hv:ycs (ybj nm nd np nt nl) g c = true) {ended:Bool}
  (he:ended = true -> ∀ p,((ybh (ybj nm nd np nt nl) g).runs res ws c)[((ybh (ybj nm nd np nt nl) g).runs res ws c).length - 1]? = some p -> ybk (ybj nm nd np nt nl) g p.1 = 0) :
  HeldOk (((ybh (ybj nm nd np nt nl) g).runs res ws c).map fun p=>ybq g p.1) (((ybh (ybj nm nd np nt nl) g).runs res ws c).map (·.2)) (eccP g 0 + 1) (-1) ended:=by
 refine ycsy (S:=ybh (ybj nm nd np nt nl) g) (J:=RInv (ybh (ybj nm nd np nt nl) g) (fun c=>ycs (ybj nm nd np nt nl) g c = true) (bfsR g)) (yfw hg hc hr hv) (fun c k h=>ypy hg hc h.valid) (fun c k h hL=>?_) (fun c k h hL hm=>by omega) he
 have h1:=h.begun
 rcases Int.lt_or_le (eccP g 0) (k.rounds:Int) with h2 | h2
 ·have h3:=(ylp hg hc h.valid).2 (ytn hg hc h2 h.all)
  rw [h3] at hL; cases hL
 ·omega
end
end Sh
end Go.Proofs.YtpngeppkgoaimaaGreatDoor

namespace Go.Proofs.YtpngeppkgoaimaaGreatDoor
open Go
namespace Sh
open Ev Go.RowKit
set_option maxRecDepth 8000
theorem ybxv (l:List Nat):one1 (usV l) = true:=rfl
theorem ybsq {n:Nat} (l:List Nat):owned (n + 1) (usV l) = false:=rfl
theorem ybhn {n:Nat} (l:List Nat):scalar (n + 1) (usV l) = false:=rfl
theorem ybyk {n:Nat} (o:Own) (l:List Nat):view o (n + 1) (usV l) = usV l:=rfl
theorem ycsr {n:Nat} (o:Own) (l:List Nat):vok o (n + 1) (usV l) = True:=rfl
theorem ycod {n:Nat} (h:Nm -> Nm) (l:List Nat):ren h (n + 1) (usV l) = usV l:=rfl
theorem ycrs {n:Nat} (D:Nm -> Bool) (l:List Nat):cln D (n + 1) (usV l) = true:=rfl
theorem ybok {n:Nat} (fr:List Nm) (o:Own) (l:List Nat):yct fr o (n + 1) (usV l) = usV l:=rfl
theorem ycpg {n:Nat} (fr:List Nm) (o:Own) (l:List Nat):pok fr o (n + 1) (usV l) = True:=rfl
theorem ybpq (l:List Nat):SV.cells (usV l) = [usV l]:=rfl
theorem ybex (l:List Conf):one1 (ydi l) = true:=rfl
theorem yyk {n:Nat} (l:List Conf):owned (n + 1) (ydi l) = false:=rfl
theorem yux {n:Nat} (l:List Conf):scalar (n + 1) (ydi l) = false:=rfl
theorem ybcl {n:Nat} (o:Own) (l:List Conf):view o (n + 1) (ydi l) = ydi l:=rfl
theorem ybjl {n:Nat} (o:Own) (l:List Conf):vok o (n + 1) (ydi l) = True:=rfl
theorem ybiy {n:Nat} (h:Nm -> Nm) (l:List Conf):ren h (n + 1) (ydi l) = ydi l:=rfl
theorem ybkd {n:Nat} (D:Nm -> Bool) (l:List Conf):cln D (n + 1) (ydi l) = true:=rfl
theorem yyc {n:Nat} (fr:List Nm) (o:Own) (l:List Conf):yct fr o (n + 1) (ydi l) = ydi l:=rfl
theorem ybhv {n:Nat} (fr:List Nm) (o:Own) (l:List Conf):pok fr o (n + 1) (ydi l) = True:=rfl
theorem yyz (l:List Conf):SV.cells (ydi l) = [ydi l]:=rfl
theorem ybhr (l:List Cnt):one1 (ydn l) = true:=rfl
theorem ybcd {n:Nat} (l:List Cnt):owned (n + 1) (ydn l) = false:=rfl
theorem yzs {n:Nat} (l:List Cnt):scalar (n + 1) (ydn l) = false:=rfl
theorem ybhm {n:Nat} (o:Own) (l:List Cnt):view o (n + 1) (ydn l) = ydn l:=rfl
theorem ybqe {n:Nat} (o:Own) (l:List Cnt):vok o (n + 1) (ydn l) = True:=rfl
theorem ybtx {n:Nat} (h:Nm -> Nm) (l:List Cnt):ren h (n + 1) (ydn l) = ydn l:=rfl
theorem ybpz {n:Nat} (D:Nm -> Bool) (l:List Cnt):cln D (n + 1) (ydn l) = true:=rfl
theorem ybdw {n:Nat} (fr:List Nm) (o:Own) (l:List Cnt):yct fr o (n + 1) (ydn l) = ydn l:=rfl
theorem ybqi {n:Nat} (fr:List Nm) (o:Own) (l:List Cnt):pok fr o (n + 1) (ydn l) = True:=rfl
theorem ybcn (l:List Cnt):SV.cells (ydn l) = [ydn l]:=rfl
theorem ybzn (l:List Bool):one1 (blV l) = true:=rfl
theorem ybmb {n:Nat} (l:List Bool):owned (n + 1) (blV l) = false:=rfl
theorem ybjp {n:Nat} (l:List Bool):scalar (n + 1) (blV l) = false:=rfl
theorem ybzl {n:Nat} (o:Own) (l:List Bool):view o (n + 1) (blV l) = blV l:=rfl
theorem ycts {n:Nat} (o:Own) (l:List Bool):vok o (n + 1) (blV l) = True:=rfl
theorem ycqc {n:Nat} (h:Nm -> Nm) (l:List Bool):ren h (n + 1) (blV l) = blV l:=rfl
theorem ycnt {n:Nat} (D:Nm -> Bool) (l:List Bool):cln D (n + 1) (blV l) = true:=rfl
theorem yboc {n:Nat} (fr:List Nm) (o:Own) (l:List Bool):yct fr o (n + 1) (blV l) = blV l:=rfl
theorem ycpm {n:Nat} (fr:List Nm) (o:Own) (l:List Bool):pok fr o (n + 1) (blV l) = True:=rfl
theorem ybpe (l:List Bool):SV.cells (blV l) = [blV l]:=rfl
attribute [go_sem] ybxv ybsq ybhn ybyk ycsr ycod ycrs ybok ycpg ybpq ybex yyk yux ybcl ybjl ybiy ybkd yyc ybhv yyz ybhr ybcd yzs ybhm ybqe ybtx ybpz ybdw ybqi ybcn ybzn ybmb ybjp ybzl ycts ycqc ycnt yboc ycpm ybpe
theorem Ct.found {P:Program} {g:FuncId} {args:List SV} {α:Type} {R:SV -> α -> Prop} {V:α -> SV} {Q:SV -> Prop} (h:Ct P g args fun r=>∃ x,R r x) (hs:∀ r x,R r x -> Sim r (V x)) (hq:∀ r x,R r x -> Q (V x)):Ct P g args Q:=fun G m us h1 h2 h3=>by
 obtain ⟨v,m',r,a,b,c,⟨x,hx⟩,e⟩:=h G m us h1 h2 h3
 exact ⟨v,m',V x,a,b,c,hq r x hx,hs r x hx _ _ _ e⟩
def yin (e w:Nat):Nat:=if e < 2 ^ 24 then resD e w else e
theorem yis:ybco yin:=fun e w h0=>by
 unfold yin
 split
 ·exact ybdx e w h0 ‹_›
 ·exact ⟨h0,fun _ h=>h⟩
theorem yrj (net:List Nat):DaemonOk 3 net yin where
 resolve:=fun e w he h0 hw=>by unfold yin; rw [if_pos he]; exact (ybeq net).resolve e w he h0 hw
 permits:=fun e w he h0 hw=>by unfold yin; rw [if_pos he]; exact (ybeq net).permits e w he h0 hw
 zero:=(ybeq net).zero
 sub:=fun e w h0 he=>yis e w h0
theorem ybtd:ybco resS:=fun e w h0=>⟨h0,fun _ h=>h⟩
theorem Sys.run_len (S:Sys) (res:Nat -> Nat -> Nat):∀ (ws:List Nat) (c:Conf) (k:Cnt),(S.run res ws c k).length <= ws.length
 | [],_,_=>Nat.le_refl _
 | w :: ws,c,k=>by
  unfold Sys.run
  split
  ·exact Nat.zero_le _
  ·simp only [List.length_cons]
   have:=Sys.run_len S res ws (S.mv c (res (S.en c) w)) (addP k (res (S.en c) w) (S.en (S.mv c (res (S.en c) w))))
   omega
structure RunD (S:Sys) (res:Nat -> Nat -> Nat) (ws:List Nat) (c:Conf) (n:Nat) (Cs:List Conf) (Ks:List Cnt):Prop where
 cs:(S.runs res ws c).map (·.1) = Cs
 ks:(S.runs res ws c).map (·.2) = Ks
 len:(S.runs res ws c).length = n
 pos:0 < n
 le:n <= ws.length + 1
theorem RunD.at_ {S:Sys} {res:Nat -> Nat -> Nat} {ws:List Nat} {c:Conf} {n:Nat} {Cs:List Conf} {Ks:List Cnt} (h:RunD S res ws c n Cs Ks) {k:Nat} (hk:k < n):(Cs.getD k [],Ks.getD k default) ∈ S.runs res ws c /\ (S.runs res ws c)[k]? = some (Cs.getD k [],Ks.getD k default):=by
 have hk':k < (S.runs res ws c).length:=by rw [h.len]; exact hk
 have e:(S.runs res ws c)[k] = (Cs.getD k [],Ks.getD k default):=by
  rw [<- h.cs,<- h.ks]
  simp [List.getD,hk']
 exact ⟨by rw [<- e]; exact List.getElem_mem hk',by rw [<- e]; exact List.getElem?_eq_getElem hk'⟩
theorem RunD.lC {S:Sys} {res:Nat -> Nat -> Nat} {ws:List Nat} {c:Conf} {n:Nat} {Cs:List Conf} {Ks:List Cnt} (h:RunD S res ws c n Cs Ks):Cs.length = n:=by rw [<- h.cs,List.length_map,h.len]
theorem RunD.lK {S:Sys} {res:Nat -> Nat -> Nat} {ws:List Nat} {c:Conf} {n:Nat} {Cs:List Conf} {Ks:List Cnt} (h:RunD S res ws c n Cs Ks):Ks.length = n:=by rw [<- h.ks,List.length_map,h.len]
theorem runD (S:Sys) (res:Nat -> Nat -> Nat) (ws:List Nat) (c:Conf):∃ n Cs Ks,RunD S res ws c n Cs Ks :=
 ⟨_,_,_,rfl,rfl,rfl,by simp [Sys.runs],by have:=Sys.run_len S res ws c (ydd (S.en c)); simp only [Sys.runs,List.length_cons]; omega⟩
theorem RunD.last {S:Sys} {res:Nat -> Nat -> Nat} {ws:List Nat} {c:Conf} {n:Nat} {Cs:List Conf} {Ks:List Cnt} (h:RunD S res ws c n Cs Ks) {k:Nat} (hk:k + 1 < n):S.en (Cs.getD k []) ≠ 0:=by
 have h1:=(h.at_ (show k < n by omega)).2
 exact Sys.runs_last (by rw [h.len]; exact hk) h1
theorem ybyz {L:Conf -> Bool} {S:Sys} {res:Nat -> Nat -> Nat} {ws:List Nat} {c:Conf} {n:Nat} {Cs:List Conf} {Ks:List Cnt} (h:RunD S res ws c n Cs Ks) {B:Nat -> Bool} (hB:(fun k=>L (Cs.getD k [])) = B) {kind rounds moves:Int} {fair silent ended:Bool}
  (hh:HeldOk ((S.runs res ws c).map fun p=>L p.1) ((S.runs res ws c).map (·.2)) rounds moves ended) (hl:n <= 100000) {Q:SV -> Prop} (hq:Q (.b true)) :
  Ct Tryz.prog 41 [.sl 1 n fun j=>[.b (B j)],.sl 5 n fun i=>cntV (Ks.getD i default),.ag [.i .i64 kind,.b fair,.b silent,.i .i64 rounds,.i .i64 moves],.b ended] Q:=by
 have lL:((S.runs res ws c).map fun p=>L p.1).length = n:=by rw [List.length_map,h.len]
 refine (ybyh hh (by rw [lL]; exact hl)).useS ⟨?_,?_,Sim.refl _,Sim.refl _,trivial⟩ hq
 ·unfold blV
  rw [lL]
  refine sim_sl fun k hk=>?_
  have e:((S.runs res ws c).map fun p=>L p.1).getD k false = B k:=by
   rw [List.getD_eq_getElem?_getD,List.getElem?_map,(h.at_ hk).2,<- hB]
   rfl
  rw [e]
 ·unfold ydn
  rw [h.ks,h.lK]
  exact Sim.refl _
theorem ybor {S:Sys} {res:Nat -> Nat -> Nat} {ws:List Nat} {c:Conf} {n:Nat} {Cs:List Conf} {Ks:List Cnt} (h:RunD S res ws c n Cs Ks) {ended:Bool} (he:decide (S.en (Cs.getD (n - 1) []) = 0) = ended) :
  ended = true -> ∀ p,(S.runs res ws c)[(S.runs res ws c).length - 1]? = some p -> S.en p.1 = 0:=fun hq p hp=>by
 rw [h.len] at hp
 have h1:=(h.at_ (show n - 1 < n by have:=h.pos; omega)).2
 rw [h1] at hp
 cases hp
 rw [hq] at he
 exact of_decide_eq_true he
end Sh
end Go.Proofs.YtpngeppkgoaimaaGreatDoor

namespace Go.Proofs.YtpngeppkgoaimaaGreatDoor
namespace Ev
open Go Go.RowKit

theorem ykx (c:UInt8):∀ (l:List UInt8) (k:Nat),(match findByte c l k with | some i=>Int.ofNat i | none=>-1) = (if Lib.indexByte l c == -1 then -1 else Lib.indexByte l c + (k:Int))
 | [],k=>by simp [findByte,Lib.indexByte]
 | x :: l,k=>by
  unfold findByte Lib.indexByte
  by_cases hx:x = c
  ·subst hx; simp
  ·have h1:Nat.beq x.toNat c.toNat = false:=by
    rw [Bool.eq_false_iff]; intro h; exact hx (UInt8.toNat_inj.1 (Nat.eq_of_beq_eq_true h))
   have h2:(x == c) = false:=by simpa using hx
   rw [h1,h2]
   have ih:=ykx c l (k + 1)
   simp only [Bool.cond_eq_ite,Bool.false_eq_true,if_false]
   rw [ih]
   have:=Lib.indexByte_ge l c
   by_cases hm:Lib.indexByte l c = -1
   ·simp [hm]
   ·have hm':(Lib.indexByte l c == -1) = false:=by simpa using hm
    rw [hm']
    simp only [Bool.false_eq_true,if_false]
    rw [if_neg (by simp; omega)]
    push_cast; omega

theorem yzn (args:List Value) (m:Mem) (out:Out) (h:evIndexByte m args = some out):ybo Tryz.prog (.call 215 args m) out:=by
 unfold evIndexByte at h
 split at h
 ·rename_i s c
  have hf:=ykx c.toUInt8 s.data.toList 0
  have key:∀ n:Int,n = Lib.indexByte s.data.toList c.toUInt8 -> ybo Tryz.prog (.call 215 [.string s,.int .u8 (.ofNat c)] m) (.call (.int .i64 n) (enterM m)):=by
   intro n hn hw
   refine ⟨⟨Nat.le_refl _,fun i b hb=>.inl ⟨b,hb⟩,fun i b _ _ hb=>hb,hw⟩,fun φ M w args' hR hs hv _=>.inr ⟨.int .i64 n,w,?_,?_⟩⟩
   ·have e:args' = [.string s,.int .u8 (.ofNat c)]:=by
     cases hv with
     | cons h1 h2 =>
      cases h2 with
      | cons h3 h4 =>
       cases h4
       rw [h1.eq_simple rfl,h3.eq_simple rfl]
    subst e
    rw [run_callFunc_extern Tryz.func215 (by kernel_rfl) (by kernel_rfl) (by kernel_rfl) (by kernel_rfl),Lib.run_indexByteString,hn]
    rfl
   ·exact ⟨_,rfl,φ,M,⟨φ.le_refl,fun _ _=>rfl,hR,hs,fun _ _ _=>rfl,WG.refl _ _ _⟩,.simple rfl⟩
  have h0:(if Lib.indexByte s.data.toList c.toUInt8 == -1 then -1 else Lib.indexByte s.data.toList c.toUInt8 + ((0:Nat):Int)) = Lib.indexByte s.data.toList c.toUInt8:=by
   by_cases hm:Lib.indexByte s.data.toList c.toUInt8 = -1
   ·simp [hm]
   ·simp [hm]
  rw [h0] at hf
  split at h
  ·rename_i i hi
   rw [hi] at hf
   simp only [forceN_eq] at h
   cases h
   exact key _ hf
  ·rename_i hi
   rw [hi] at hf
   cases h
   exact key _ hf
 ·cases h
end Ev
end Go.Proofs.YtpngeppkgoaimaaGreatDoor

namespace Go.Proofs.YtpngeppkgoaimaaGreatDoor
open Go.RowKit

theorem ywr (w:World):Calls Tryz.prog 127 #[.nilIface] w fun e w'=>e = .returned (.tuple #[.agg #[.int .i64 0,.int .i64 0],.bool false]) /\ Below w.heap.size w w':=by
 go_enter Tryz.func127,Tryz.ntmps127
 go_wp2
 refine ⟨rfl,.tuple #[.agg #[.int .i64 0,.int .i64 0],.bool false],?_,rfl,?_⟩
 ·simp [results,Tryz.results127,go_sem]
 ·exact (Below.refl _ _).alloc (Nat.le_refl _) _

theorem catch_idle (p q:Addr) (w:World) :
  CallsD Tryz.prog 126 #[.pointer (some p),.pointer (some q)] .returning w fun e u' w'=>e = .returned (.tuple #[]) /\ u' = .returning /\ Below w.heap.size w w':=by
 refine callsD_of_wpS Tryz.func126 rfl fun c₀ cs hu=>?_
 apply wpS_seq
 apply wpS_region
 simp [wpOpsS,go_sem,recoverD,hu,Tryz.ntmps126,Exit.thenS]
 refine (ywr w).mono ?_
 rintro e w1 ⟨rfl,hb⟩
 simp [go_sem]
 apply wpS_seq
 apply wpS_region
 simp [wpOpsS,go_sem,Exit.thenS]
 refine wpS_cond (t:=false) (by simp [Act.eval,Array.replicate]) ?_
 simp only [Bool.false_eq_true,if_false]
 refine wpS_of_wp (wp_skip ?_)
 refine ⟨rfl,.returning,by cases c₀; simp_all,.tuple #[],by simp [results,Tryz.results126],rfl,rfl,hb.alloc hb.size _⟩

def catchW (w:World):World:=(w.alloc (.cells #[.int .i64 0] 3)).alloc (.cells #[.int .i64 0] 64)
theorem catchW_0 (w:World):(catchW w).heap[w.heap.size]? = some (.cells #[.int .i64 0] 3):=by
 unfold catchW
 rw [Below.heap_alloc _ _ _ (by simp [go_sem])]
 exact heap_alloc_new w _
theorem catchW_1 (w:World):(catchW w).heap[w.heap.size + 1]? = some (.cells #[.int .i64 0] 64):=by
 have:=heap_alloc_new (w.alloc (.cells #[.int .i64 0] 3)) (.cells #[.int .i64 0] 64)
 rw [show (w.alloc (.cells #[.int .i64 0] 3)).heap.size = w.heap.size + 1 by simp [go_sem]] at this
 exact this
theorem catch_calls (h:FuncId) (first cap:Array Value) (w:World) (Q:World -> Prop)
  (hq:∀ w',Q w' -> w'.heap[w.heap.size]? = (catchW w).heap[w.heap.size]? /\ w'.heap[w.heap.size + 1]? = (catchW w).heap[w.heap.size + 1]?)
  (hc:((callFunc h (first ++ cap)).run Tryz.prog (catchW w) = .ok (.enter h (first ++ cap)) (catchW w) /\ Calls Tryz.prog h (first ++ cap) (catchW w) fun e w'=>(∃ v,e = .returned v) /\ Q w') \/
   (∃ v w',(callFunc h (first ++ cap)).run Tryz.prog (catchW w) = .ok (.value v) w' /\ Q w')) :
  Calls Tryz.prog 97 #[.func (.func h) first cap] w fun e w''=>e = .returned (.tuple #[.int .i64 0,.int .i64 0]) /\
   ∃ w',Q w' /\ Below w'.heap.size ((w'.setCell ⟨w.heap.size,0,none⟩ (.int .i64 0)).setCell ⟨w.heap.size + 1,0,none⟩ (.int .i64 0)) w'':=by
 have hmf:∀ (fn:Fn) (first cap:Array Value) (w:World),(Instr.makeFunc fn first cap).run Tryz.prog w = .ok (.func fn first cap) w:=fun _ _ _ _=>rfl
 have Hq:=Lib.hid hq; clear hq
 have Hc:=Lib.hid hc; clear hc
 go_enter_defers Tryz.func97,Tryz.ntmps97
 generalize hC:(Code.seq (Code.region 2 _ false) _) = C
 generalize hB:(bodyPostD _ _ _) = B
 go_wp2
 subst hC hB
 refine wp_seq (wp_region_list ?_)
 refine wpList_plain rfl fun K hK=>?_
 simp [Oper.wp,go_sem]
 apply hK
 refine wpList_plain rfl fun K2 hK2=>?_
 simp [Oper.wp,go_sem]
 have key:∀ v w',Q w' -> K2 { tmps:=#[.func (.func h) first cap,undef,.pointer (some ⟨w.heap.size,0,none⟩),.pointer (some ⟨w.heap.size + 1,0,none⟩),.func (.func 126) #[] #[.pointer (some ⟨w.heap.size,0,none⟩),.pointer (some ⟨w.heap.size + 1,0,none⟩)],.func (.func h) first cap,v],defers:=[{ target:=.fn (.func 126) #[.pointer (some ⟨w.heap.size,0,none⟩),.pointer (some ⟨w.heap.size + 1,0,none⟩)],args:=#[] }] } w':=by
  intro v w' hQ
  apply hK2
  refine wpList_nil ?_
  obtain ⟨h1,h2⟩:=Hq.out w' hQ
  have h1:w'.heap[w.heap.size]? = some (.cells #[.int .i64 0] 3):=h1.trans (catchW_0 w)
  have h2:w'.heap[w.heap.size + 1]? = some (.cells #[.int .i64 0] 64):=h2.trans (catchW_1 w)
  have c1:w'.cell? ⟨w.heap.size,0,none⟩ = some (.int .i64 0):=by simp [World.cell?,h1]
  have c2:w'.cell? ⟨w.heap.size + 1,0,none⟩ = some (.int .i64 0):=by simp [World.cell?,h2]
  have z1:w'.frozen? ⟨w.heap.size,0,none⟩ = false:=by simp [World.frozen?,h1]
  have z2:w'.frozen? ⟨w.heap.size + 1,0,none⟩ = false:=by simp [World.frozen?,h2]
  have l1:=(Array.getElem?_eq_some_iff.1 h1).1
  have l2:=(Array.getElem?_eq_some_iff.1 h2).1
  have HQ:=Lib.hid hQ; clear hQ
  clear h1 h2
  simp only [Exit.then]
  go_wp2
  refine leaves_cons (f:=126) (args:=#[.pointer (some ⟨w.heap.size,0,none⟩),.pointer (some ⟨w.heap.size + 1,0,none⟩)]) (by simp) (by simp [go_sem]) ?_
  refine (catch_idle ⟨w.heap.size,0,none⟩ ⟨w.heap.size + 1,0,none⟩ _).mono ?_
  rintro e u' w'' ⟨rfl,rfl,hb⟩
  have hsz:((w'.setCell ⟨w.heap.size,0,none⟩ (.int .i64 0)).setCell ⟨w.heap.size + 1,0,none⟩ (.int .i64 0)).heap.size = w'.heap.size:=by simp [go_sem]
  rw [hsz] at hb
  have d1:w''.cell? ⟨w.heap.size,0,none⟩ = some (.int .i64 0):=by
   rw [hb.cell l1]; simp [go_sem,c1]
  have d2:w''.cell? ⟨w.heap.size + 1,0,none⟩ = some (.int .i64 0):=by
   rw [hb.cell l2]; simp [go_sem,c2]
  simp [Leaves,settle,results,Tryz.results97,go_sem,d1,d2]
  exact ⟨w',HQ.out,hb⟩
 have hcc:=RowKit.Hid.out Hc
 clear Hc hmf Hq hK
 revert key
 generalize K2 = K
 intro key
 rw [show ((w.alloc (Obj.cells #[Value.int IntKind.i64 0] 3)).alloc (Obj.cells #[Value.int IntKind.i64 0] 64)) = catchW w from rfl]
 generalize Sem.run Tryz.prog (callFunc h (first ++ cap)) (catchW w) = r at hcc ⊢
 rcases hcc with ⟨rfl,hc⟩ | ⟨v,w',rfl,hc⟩
 ·rw [Oper.upon_enter]
  refine hc.mono ?_
  rintro e w' ⟨⟨v,rfl⟩,hQ⟩
  exact key v w' hQ
 ·exact key v w' hc
end Go.Proofs.YtpngeppkgoaimaaGreatDoor

namespace Go.Proofs.YtpngeppkgoaimaaGreatDoor
namespace Ev
open Go Go.RowKit

theorem yqr (w:World) (k:Nat) (hk:k < w.heap.size):(catchW w).heap[k]? = w.heap[k]?:=by
 unfold catchW
 rw [Below.heap_alloc _ _ _ (by simp [go_sem]; omega),Below.heap_alloc _ _ _ hk]
theorem yea (w:World):(catchW w).heap.size = w.heap.size + 2:=by simp [catchW,go_sem]
theorem ybxs (self:Task -> Option Out) (hself:ydw Tryz.prog self) (args:List Value) (m:Mem) (out:Out) (h:evCatch self m args = some out):ybo Tryz.prog (.call 97 args m) out:=by
 unfold evCatch at h
 split at h
 ·rename_i g first captured
  obtain ⟨o,ho,h2⟩:=ob_some h
  cases o with
  | code=>cases h2
  | call v m1 =>
   cases h2
   have hs:=hself _ _ ho
   intro hw
   obtain ⟨hext,hall⟩:=hs hw
   refine ⟨hext,fun φ M w args' hR hsub hv hfresh=>.inl ⟨ycd yms Tryz.func97 rfl _ _,?_⟩⟩
   obtain ⟨u,rfl,hu⟩:=yfi hv
   obtain ⟨x',y',rfl,hf1,hf2⟩:=hu.func_inv
   have hR2:Rel φ M (catchW w):=hR.keep fun k hk=>yqr w k hk
   have himg:∀ k,w.heap.size <= k -> ¬ Img φ M k:=by
    rintro k hk ⟨i,b,l,h1,h2,h3⟩
    obtain ⟨l',h4,h5⟩:=hR.blk i b h1
    rw [h2] at h4
    cases h4
    have:=h5.lt
    omega
   have hcall:=hall φ M (catchW w) (x' ++ y') hR2 hsub (hf1.append hf2) hfresh
   rw [show (x' ++ y').toArray = x'.toArray ++ y'.toArray by simp] at hcall
   refine (catch_calls g x'.toArray y'.toArray w (fun w'=>∃ e,ycxp φ M (catchW w) m v m1 e w') ?_ ?_).mono ?_
   ·rintro w' ⟨e,v',rfl,φ',M',hgood,hvr⟩
    exact ⟨hgood.wg.keep _ (by rw [yea]; omega) (himg _ (Nat.le_refl _)),hgood.wg.keep _ (by rw [yea]; omega) (himg _ (by omega))⟩
   ·rcases hcall with ⟨h1,h2⟩ | ⟨v',w',h1,h2⟩
    ·refine .inl ⟨h1,h2.mono ?_⟩
     intro e w' hk
     have hk':=hk
     obtain ⟨v',rfl,_⟩:=hk
     exact ⟨⟨_,rfl⟩,_,hk'⟩
    ·exact .inr ⟨v',w',h1,_,h2⟩
   ·rintro e w'' ⟨rfl,w',⟨e,v',rfl,φ',M',hgood,hvr⟩,hb⟩
    have hsz:w.heap.size + 2 <= w'.heap.size:=by rw [<- yea]; exact hgood.wg.size
    have hheap:∀ k,k < w'.heap.size -> k ≠ w.heap.size -> k ≠ w.heap.size + 1 -> w''.heap[k]? = w'.heap[k]?:=fun k hk h1 h2=>by
     rw [hb.block k hk,Below.heap_setCell _ _ _ _ h2,Below.heap_setCell _ _ _ _ h1]
    have hne:∀ k,Img φ' M' k -> k ≠ w.heap.size /\ k ≠ w.heap.size + 1:=fun k hi=>by
     refine ⟨?_,?_⟩
     ·rintro rfl
      exact himg _ (Nat.le_refl _) (hgood.wg.img _ (by rw [yea]; omega) hi)
     ·rintro rfl
      exact himg _ (by omega) (hgood.wg.img _ (by rw [yea]; omega) hi)
    have hb2:w'.heap.size <= w''.heap.size:=by
     have:=hb.size
     simpa [go_sem] using this
    refine ⟨_,rfl,φ',M',⟨hgood.le,hgood.out,⟨fun i b h1=>?_,hgood.rel.inj⟩,hgood.sub,hgood.frame,⟨hb.os.trans hgood.wg.os,hb.tape.trans hgood.wg.tape,hb.output.trans hgood.wg.output,by omega,fun k hk hi=>?_,fun k hk hi=>hgood.wg.img k (by rw [yea]; omega) hi⟩⟩,?_⟩
    ·obtain ⟨l,h2,h3⟩:=hgood.rel.blk i b h1
     have hn:=hne l.blk ⟨i,b,l,h1,h2,rfl⟩
     exact ⟨l,h2,h3.keep (hheap _ h3.lt hn.1 hn.2)⟩
    ·rw [hheap k (by omega) (by omega) (by omega),hgood.wg.keep k (by rw [yea]; omega) hi,yqr w k hk]
    ·exact .tuple (.cons (.simple rfl) (.cons (.simple rfl) .nil))
 ·cases h
end Ev
end Go.Proofs.YtpngeppkgoaimaaGreatDoor

namespace Go.Proofs.YtpngeppkgoaimaaGreatDoor
namespace Ev
open Go Go.RowKit
def hkC (cs:List Chunk):Hooks:=⟨some 97,some 215,some 116,symB,cs,none⟩
def hk (fs:List Fact):Hooks:=hkC [⟨1000000000000,fs⟩]
def ybn (fs:List Fact):Prop:=∀ f ∈ fs,yfm Tryz.prog f
def yfr (cs:List Chunk):Prop:=∀ c ∈ cs,ybn c.l
theorem ycba {cs:List Chunk} (h:yfr cs):HooksOk Tryz.prog (hkC cs) :=
 ⟨fun g h=>(by cases h; exact ybxs),fun g h=>(by cases h; exact yzn),fun g h=>(by cases h; exact ybpt),h,fun g h=>(by cases h)⟩
theorem yfr.nil:yfr []:=fun c hc=>by cases hc
theorem yfr.cons {n:Nat} {l:List Fact} {cs:List Chunk} (h:ybn l) (t:yfr cs):yfr (⟨n,l⟩ :: cs):=fun c hc=>by
 rcases List.mem_cons.1 hc with rfl | hc
 ·exact h
 ·exact t c hc
theorem yddj {fs:List Fact} (h:ybn fs):HooksOk Tryz.prog (hk fs):=ycba (yfr.cons h yfr.nil)
theorem ybn.nil:ybn []:=fun f hf=>by cases hf
theorem ybn.cons {f:Fact} {l:List Fact} (h:yfm Tryz.prog f) (t:ybn l):ybn (f :: l):=fun x hx=>by
 rcases List.mem_cons.1 hx with rfl | hx
 ·exact h
 ·exact t x hx
theorem ybn.at_ {f:Fact} {l:List Fact} (h:ybn l) (i:Nat) (e:l[i]? = some f):yfm Tryz.prog f:=h f (List.mem_of_getElem? e)
theorem ybn.append {a b:List Fact} (ha:ybn a) (hb:ybn b):ybn (a ++ b):=fun f hf=>by
 rcases List.mem_append.1 hf with h | h
 ·exact ha f h
 ·exact hb f h
theorem ybn.check {fs new:List Fact} (h:ybn fs) (hc:new.all (fun f=>f.check Tryz.prog (hk fs)) = true):ybn new:=fun f hf =>
 yit (ylg mix yms (yddj h) 3000) (List.all_eq_true.1 hc f hf)
noncomputable def checkSeq (new:List Fact):List Fact -> Bool:=List.rec (fun _=>true) (fun f _ ih fs=>f.check Tryz.prog (hk fs) && ih (f :: fs)) new
theorem ybn.seq:∀ {new fs:List Fact},ybn fs -> checkSeq new fs = true -> ybn new
 | [],_,_,_=>ybn.nil
 | f :: l,fs,h,hc=>by
  have hc:(f.check Tryz.prog (hk fs) && checkSeq l (f :: fs)) = true:=hc
  rw [Bool.and_eq_true] at hc
  have hf:yfm Tryz.prog f:=yit (ylg mix yms (yddj h) 3000) hc.1
  have hfs:ybn (f :: fs):=fun x hx=>by
   rcases List.mem_cons.1 hx with rfl | hx
   ·exact hf
   ·exact h x hx
  have hl:=ybn.seq hfs hc.2
  intro x hx
  rcases List.mem_cons.1 hx with rfl | hx
  ·exact hf
  ·exact hl x hx
theorem ybn.one {f:Fact} {cs:List Chunk} (h:yfr cs) (hc:f.check Tryz.prog (hkC cs) = true):ybn [f] :=
 ybn.cons (yit (ylg mix yms (ycba h) 3000) hc) ybn.nil
def by8 (l:List Nat):ByteArray:=⟨(l.map Nat.toUInt8).toArray⟩
end Ev
end Go.Proofs.YtpngeppkgoaimaaGreatDoor

