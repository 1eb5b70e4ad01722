/- Lemmas, joined: Pk PwC PwRa. -/
import Derived.Test.YtpngeppkgoaimaaGreatDoorPkPp10
import Derived.Test.YtpngeppkgoaimaaGreatDoorPkPp9
import Derived.Test.YtpngeppkgoaimaaGreatDoorPkPpx0
import Derived.Test.YtpngeppkgoaimaaGreatDoorPkPp16
set_option linter.unusedSimpArgs false
set_option linter.unusedVariables false
namespace Go.Proofs.YtpngeppkgoaimaaGreatDoor
namespace Ev
open Go Go.RowKit
def hkP:Hooks:=⟨none,none,some 116,symB,[],some 101⟩
theorem ycwu:HooksOk Tryz.prog hkP:=⟨fun g h=>(by cases h),fun g h=>(by cases h),fun g h=>(by cases h;exact ybvp),fun c hc=>(by cases hc),fun g h=>(by cases h;exact yvd)⟩
set_option maxRecDepth 1000000 in
theorem ybbg:outV (ev Tryz.prog hkP 3000 (.call 22 [] mem0))=some (.bool true):=by kernel_rfl
theorem ycsq(w:World):Calls Tryz.prog 22 #[] w fun e w'=>e = .returned (.bool true)/\Below w.heap.size w w' :=
 yvn mix yli ycwu ybbg rfl rfl ⟨_,_,Tryz.func22,rfl⟩ w
end Ev
end Go.Proofs.YtpngeppkgoaimaaGreatDoor

namespace Go.Proofs.YtpngeppkgoaimaaGreatDoor
open Go
def yds(g:Gr)(W:List Int)(c:Conf):Bool:=(List.range c.length).all fun v=>decide (c.getD v []=ptS g W v)
theorem yjv{nm nd np nt nl:ByteArray}{g:Gr}{W:List Int}{c:Conf}(hv:ydk (ycy nm nd np nt nl) g c=true):yds g W c=true ↔ ylw g W c:=by
 have hl:=(ycu hv).len;unfold yds;rw[hl];constructor
 ·intro h v hlt;exact of_decide_eq_true (List.all_eq_true.1 h v (List.mem_range.2 hlt))
 ·intro h;exact List.all_eq_true.2 fun v hq=>decide_eq_true (h v (List.mem_range.1 hq))
namespace Sh
open Ev Go.RowKit
set_option maxRecDepth 8000
theorem ybfl{g:Gr}(hI:GrI g):Returns Tryz.prog 60 [grV g] (.b (yey g)):=by
 refine Returns.of (ycxq _ _ ?_);have hC:=ybup hI;simp only[grV]at hC;simp only[c60,ycwt,ycyh,grV,go_sem,Nat.reduceEqDiff,Nat.reduceAdd,Nat.reduceLT,↓reduceIte];refine hC.use ?_;simp only[thenO,sim_b,go_sem,Nat.reduceEqDiff,Nat.reduceAdd,↓reduceIte,reduceCtorEq]
theorem ybgv{g:Gr}(hg:yx g)(hc:yey g=true){c:Conf}(hv:ydk PqP g c=true):Returns Tryz.prog 55 [grV g,ybe c] (.b true):=by
 refine Returns.of (ycyt _ _ ?_);have hF:=ybfl (ywo hg);have h24:=hg.2.1;have hpl:=hg.2.2.1;have hR:=ybwk (yja hg yvt hv)
 have hC:=ycab hg hR (G:=[15 * (g.ids.length:Int),-1]) (fun x hx=>by
  simp at hx;rcases hx with rfl | rfl<;>exact yep (by omega))
 have hcb:yol g.ports.length (yee g [15 * (g.ids.length:Int),-1]) c=true:=by
  rw[<- hv];unfold ydk;rw[hpl];congr 1
  funext v
  have hn0:((15 * (g.ports.length:Int)) = -1)=False:=eq_false (by omega)
  simp[yee,PqP,ycy,ybg,ybvt,hpl,hn0]
 rw[hcb]at hC;rw[hc]at hF;obtain⟨n,hn⟩:∃ n,g.ids.length=n:=⟨_,rfl⟩;rw[hn]at hC;simp only[grV,yj,hn]at hF hC;have two:∀ {q:Nat},q<2->q=0\/q=1:=fun {q} h=>by omega
 simp only[c55,yczw,ydeu,grV,yj,hn,clash,go_sem,Nat.reduceEqDiff,Nat.reduceAdd,Nat.reduceLT,↓reduceIte];refine hF.use ?_;simp only[thenO,clash,go_sem,Nat.reduceEqDiff,Nat.reduceAdd,Nat.reduceLeDiff,Nat.reduceLT,↓reduceIte,reduceCtorEq];refine⟨ikw (by omega) (by omega),.inl ⟨fun q hq=>by rcases two hq with rfl | rfl<;>simp only[go_sem],hC.useS ?_ ?_⟩⟩
 ·refine⟨Sim.refl _,Sim.refl _,?_,trivial⟩;refine yhl fun q hq=>?_;rcases two hq with rfl | rfl<;>(simp only[List.getD_cons_zero,List.getD_cons_succ,go_sem];exact⟨Sim.refl _,trivial⟩)
 simp only[go_sem];exact Sim.refl _
theorem ybda{g:Gr}{W:List Int}(hW:IsW g W){v:Nat}(hv:v<g.ports.length)(hn:g.ports.length<=24){l:Int × Int}(hl:0<=l.1/\l.1<g.ports.length/\1<=l.2/\l.2<=15) :
  Returns Tryz.prog 58 [.ag [.i .i64 l.1,.i .i64 l.2],.rf [yj W],.rf [.i .i64 v]] (.b (W.getD l.1.toNat 0+l.2 == W.getD v 0)):=by
 refine Returns.of (yddw _ _ ?_);have hWl:=hW.len;have h1:=hW.pos v hv;have h2:=hW.small v hv;have h3:=hW.pos l.1.toNat (by omega)
 have h4:=hW.small l.1.toNat (by omega)
 simp only[c58,ydco,yczq,yj,clash,go_sem,Nat.reduceEqDiff,Nat.reduceAdd,Nat.reduceLeDiff,Nat.reduceLT,↓reduceIte,reduceCtorEq];refine⟨⟨by omega,by omega⟩,ikw (by omega) (by omega),⟨by omega,by omega⟩,?_⟩
 exact Sim.refl _
theorem ycby{g:Gr}{W:List Int}(hg:yx g)(hW:IsW g W):Returns Tryz.prog 56 [grV g] (yj W):=by
 have h:=yyl hg;rw[ybot hg hW (by omega) (Nat.le_refl _)]at h
 exact h
theorem ydfu{g:Gr}{W:List Int}(hg:yx g)(hW:IsW g W):Returns Tryz.prog 21 [grV g] (yj W):=by
 have h:=yvf hg;rw[ybot hg hW (by have:=hg.2.1;omega) (Nat.le_refl _)]at h
 exact h
set_option maxHeartbeats 1000000 in
theorem ymj{g:Gr}{W:List Int}(hg:yx g)(hc:yey g=true)(hW:IsW g W){c:Conf}(hv:ydk PqP g c=true):Returns Tryz.prog 24 [grV g,ybe c] (.b (yds g W c)):=by
 refine Returns.of (yczh _ _ ?_);have hF:=ybgv hg hc hv;have hWr:=ycby hg hW;have h24:=hg.2.1;have hpl:=hg.2.2.1;have hcf:=ycu hv;have hWl:=hW.len;simp only[grV]at hF hWr;obtain⟨m,hm⟩:∃ m,c.length=m:=⟨_,rfl⟩;have hmn:m=g.ports.length:=by rw[<- hm,hcf.len,hpl]
 simp only[c24,ycxb,ycxv,grV,clash,go_sem,Nat.reduceEqDiff,Nat.reduceAdd,Nat.reduceLT,↓reduceIte,reduceCtorEq];refine hF.use ?_;simp only[thenO,ycxa,clash,go_sem,Nat.reduceEqDiff,Nat.reduceAdd,Nat.reduceLT,↓reduceIte];refine hWr.use ?_;simp only[yddk,ybe,hm,clash,go_sem,Nat.reduceEqDiff,Nat.reduceAdd,↓reduceIte,reduceCtorEq]
 refine ybc (σ:=Nat) (fun k=>⟨[(17,.i .i64 k),(16,.i .i64 m),(15,ybe c),(5,.pt (5,0) 0 0),(2,.pt (2,0) 0 0)],
   [(2,.one (some ⟨28,true,2,1,fun _=>[yj g.ids,yu g.ports]⟩)),(5,.one (some ⟨22,true,1,1,fun _=>[yj W]⟩))]⟩)
  (fun k=>k<=m /\ ∀ j,j<k->c.getD j []=ptS g W j) (fun k=>m - k) 0 ⟨Nat.zero_le _,fun j hj=>absurd hj (Nat.not_lt_zero j)⟩ ?_ ?_
 ·refine yg [] [] [] ?_;simp only[ybe,yj,hm,allQ,live,yc,Int.natCast_zero,go_sem,Nat.reduceEqDiff,↓reduceIte,reduceCtorEq]
 rintro k ⟨hk,hall⟩
 by_cases hlt:k<m
 ·have ht:decide ((k:Int)<(m:Int))=true:=decide_eq_true (by omega)
  obtain⟨hr1,hr2,hr3⟩:=hcf.row k (by omega)
  obtain⟨s,hs⟩:∃ s,c.getD k []=s:=⟨_,rfl⟩;rw[hs]at hr1 hr2 hr3
  have hFP:=yur g k (by omega) 58 [.rf [yj W],.rf [.i .i64 k]] (fun l=>W.getD l.1.toNat 0+l.2 == W.getD k 0) (by rfl) (by have:=hg.deg_lt (v:=k);omega) (fun l hl=>by
   obtain⟨k1,k2,_,k4,k5⟩:=ybz hg (by omega) hl
   exact ybda hW (by omega) h24 ⟨k1,by omega,k4,k5⟩)
  have hsS:s=ptS g W k ↔ s.getD 0 0=W.getD k 0/\s.getD 1 0=ygq g W k:=ycgq hr1 _ _
  have done:s ≠ ptS g W k->yds g W c=false:=fun hne=>by
   unfold yds;rw[List.all_eq_false];exact⟨k,List.mem_range.2 (by omega),by rw[hs];simp[hne]⟩
  simp only[grV,yj]at hFP
  have nx:s=ptS g W k -> ∀ j,j<k+1->c.getD j []=ptS g W j:=fun e j hj=>by
   by_cases q:j=k
   ·rw[q,hs,e]
   ·exact hall j (by omega)
  have cut:∀ P:Int,ygq g W k=P->((s.getD 0 0 != W.getD k 0)=true/\s ≠ ptS g W k)\/((s.getD 0 0 != W.getD k 0)=false/\(s.getD 1 0 != P)=true/\s ≠ ptS g W k)\/((s.getD 0 0 != W.getD k 0)=false/\(s.getD 1 0 != P)=false/\s=ptS g W k):=fun P hP=>by
   rw[hP]at hsS
   by_cases e0:s.getD 0 0=W.getD k 0
   ·by_cases e1:s.getD 1 0=P
    ·exact .inr (.inr ⟨by rw[bne_eq_false_iff_eq];exact e0,by rw[bne_eq_false_iff_eq];exact e1,hsS.2 ⟨e0,e1⟩⟩)
    ·exact .inr (.inl ⟨by rw[bne_eq_false_iff_eq];exact e0,by rw[bne_iff_ne];exact e1,fun h=>e1 (hsS.1 h).2⟩)
   ·exact .inl ⟨by rw[bne_iff_ne];exact e0,fun h=>e0 (hsS.1 h).1⟩
  by_cases h0:k=0
  ·have z0:((k:Int) != 0)=false:=by rw[bne_eq_false_iff_eq];omega
   rcases cut (-1) (by unfold ygq;rw[if_pos h0])with⟨q0,qn⟩ | ⟨q0,q1,qn⟩ | ⟨q0,q1,qe⟩
   ·rw[done qn];simp only[ybhn,yblr,ybmu,ybsg,ypy,yzm,ybe,yj,hm,hs,ht,z0,q0,clash,go_sem,Int.reduceToNat,Nat.reduceEqDiff,Nat.reduceAdd,Nat.reduceLT,↓reduceIte,reduceCtorEq]
    repeat (refine⟨by omega,?_⟩)
    exact Sim.refl _
   ·rw[done qn];simp only[ybhn,yblr,ybmu,ybsg,ypy,yzm,ybe,yj,hm,hs,ht,z0,q0,q1,clash,go_sem,Int.reduceToNat,Nat.reduceEqDiff,Nat.reduceAdd,Nat.reduceLT,↓reduceIte,reduceCtorEq]
    repeat (refine⟨by omega,?_⟩)
    exact Sim.refl _
   ·simp only[ybhn,yblr,ybmu,ybsg,ypy,ybqb,ybe,yj,hm,hs,ht,z0,q0,q1,clash,go_sem,Int.reduceToNat,Nat.reduceEqDiff,Nat.reduceAdd,Nat.reduceLT,↓reduceIte,reduceCtorEq]
    repeat (refine⟨by omega,?_⟩)
    refine⟨ikw (by omega) (by omega),yh (k+1) ⟨by omega,nx qe⟩ (by omega) ?_⟩
    refine yg [] [] [] ?_;simp only[allQ,live,yc,yw,go_sem,Nat.reduceEqDiff,↓reduceIte,reduceCtorEq];omega
  ·have z0:((k:Int) != 0)=true:=by rw[bne_iff_ne];omega
   obtain⟨P,hP⟩:∃ P,ygb (fun l=>W.getD l.1.toNat 0+l.2 == W.getD k 0) (g.ports.getD k [])=P:=⟨_,rfl⟩;rw[hP]at hFP;simp only[ybhn,yblr,ybmu,ybsg,ydee,ybe,yj,hm,hs,ht,z0,clash,go_sem,Nat.reduceEqDiff,Nat.reduceAdd,Nat.reduceLeDiff,Nat.reduceLT,↓reduceIte,reduceCtorEq];refine⟨⟨by omega,by omega⟩,.inl (hFP.use ?_)⟩
   rcases cut P (by unfold ygq;rw[if_neg h0];exact hP)with⟨q0,qn⟩ | ⟨q0,q1,qn⟩ | ⟨q0,q1,qe⟩
   ·rw[done qn];simp only[thenO,ypy,yzm,q0,clash,go_sem,Int.reduceToNat,Nat.reduceEqDiff,Nat.reduceAdd,↓reduceIte,reduceCtorEq]
    repeat (refine⟨by omega,?_⟩)
    exact Sim.refl _
   ·rw[done qn];simp only[thenO,ypy,yzm,q0,q1,clash,go_sem,Int.reduceToNat,Nat.reduceEqDiff,Nat.reduceAdd,↓reduceIte,reduceCtorEq]
    repeat (refine⟨by omega,?_⟩)
    exact Sim.refl _
   ·simp only[thenO,ypy,ybqb,q0,q1,clash,go_sem,Int.reduceToNat,Nat.reduceEqDiff,Nat.reduceAdd,↓reduceIte,reduceCtorEq]
    repeat (refine⟨by omega,?_⟩)
    refine⟨ikw (by omega) (by omega),yh (k+1) ⟨by omega,nx qe⟩ (by omega) ?_⟩
    refine yg [] [] [] ?_;simp only[allQ,live,yc,yw,go_sem,Nat.reduceEqDiff,↓reduceIte,reduceCtorEq];omega
 ·obtain rfl:k=m:=by omega
  have ht:decide ((k:Int)<(k:Int))=false:=decide_eq_false (by omega)
  have e:yds g W c=true:=by
   unfold yds;rw[List.all_eq_true];intro v hv;exact decide_eq_true (hall v (by have:=List.mem_range.1 hv;omega))
  rw[e];simp only[ybhn,ycnw,ht,go_sem,Nat.reduceEqDiff,↓reduceIte];exact Sim.refl _
theorem yys{g:Gr}(hg:yx g)(hc:yey g=true){c:Conf}(hv:ydk PqP g c=true):Returns Tryz.prog 37 [grV g,ybe c] (yj (towP g c 1)):=by
 refine Returns.of (ydaz _ _ ?_);have h24:=hg.2.1;have hpl:=hg.2.2.1;have hcf:=ycu hv;have h1:=ybgv hg hc hv
 have h2:=ybbq (g:=g) (c:=c) (x:=1) (by rw[hcf.len];omega) (by omega) (by omega) (fun v hv=>by
  obtain⟨r1,_,r3⟩:=hcf.row v (by rw[<- hcf.len];exact hv)
  omega)
 simp only[grV]at h1 h2;simp only[c37,ydga,ydbv,grV,clash,go_sem,Nat.reduceEqDiff,Nat.reduceAdd,Nat.reduceLT,↓reduceIte,reduceCtorEq];refine h1.use ?_;simp only[thenO,ydev,clash,go_sem,Nat.reduceEqDiff,Nat.reduceAdd,↓reduceIte,reduceCtorEq];refine h2.use ?_;simp only[go_sem];exact Sim.refl _
theorem ykq:Returns Tryz.prog 17 [] (.a (.string Pqt)):=by
 refine Returns.of (ycyz _ _ ?_);simp only[c17,ycyr,ycxd,go_sem,↓reduceIte];exact Sim.refl _
theorem ykh:Returns Tryz.prog 19 [] (yct PqP.vars):=by
 refine Returns.of (yddp _ _ ?_);have h1:=ybjc ⟨#[100]⟩ 0 15 0;have h2:=ybdl ⟨#[112]⟩;simp only[varC]at h1 h2;simp only[c19,ydbw,ydaq,go_sem,↓reduceIte];refine h1.use ?_;simp only[thenO,clash,go_sem,Nat.reduceEqDiff,Nat.reduceAdd,Nat.reduceLeDiff,Nat.reduceLT,↓reduceIte,reduceCtorEq];refine h2.use ?_;simp only[go_sem,Nat.reduceAdd,↓reduceIte];have two:∀ {q:Nat},q<2->q=0\/q=1:=fun {q} h=>by omega
 refine⟨fun q hq=>by rcases two hq with rfl | rfl<;>simp only[go_sem],?_⟩
 refine yhl fun q hq=>?_;rcases two hq with rfl | rfl<;>(simp only[PqP,ycy,varC,List.getD_cons_zero,List.getD_cons_succ,go_sem];exact⟨Sim.refl _,Sim.refl _,Sim.refl _,Sim.refl _,Sim.refl _,Sim.refl _,trivial⟩)
theorem yhg:Returns Tryz.prog 22 [] (.b true):=by
 refine yzu ⟨_,_,Tryz.func22,rfl⟩ (fun _=>.b) (fun _=>.simple rfl) fun G m us hG hr φ M w us' hRl hs hv=>?_;cases hr
 cases hv
 exact ycsq w
def ylo(a:Int)(e:El):Int:=if a=0\/e.b<a then e.b else a
theorem ybms{g:Gr}(hg:yx g):∀ k,k<=(flatAt 0 g.ports).length->0<=((flatAt 0 g.ports).take k).foldl ylo 0/\((flatAt 0 g.ports).take k).foldl ylo 0<=15
 | 0,_=>by simp
 | k+1,hk=>by
  rw[ykr ylo 0 (by omega)]
  obtain⟨h1,h2⟩:=yld hg (k:=k) (by omega)
  obtain⟨_,_,_,h3,h4⟩:=ybz hg h1 h2;have:=ybms hg k (by omega)
  generalize ((flatAt 0 g.ports).take k).foldl ylo 0=a at this ⊢
  unfold ylo;split<;>omega
theorem ybig{g:Gr}{W:List Int}(hW:IsW g W)(hg:yx g):0<=maxI W/\maxI W<=400:=by
 have h1:=hg.1;have h24:=hg.2.1;have hl:=hW.len
 have hall:∀ x ∈ W,0<=x/\x<=400:=fun x hx=>by
  obtain⟨v,hv,e⟩:=List.getElem_of_mem hx;have e2:W.getD v 0=x:=by simp[List.getD,hv,e]
  have a:=hW.pos v (by omega)
  have b:=hW.small v (by omega)
  omega
 rw[yuw (by omega) fun x hx=>(hall x hx).1]
 exact⟨ynx _ _,yoi _ _ (fun x hx=>(hall x hx).2) _ (by omega)⟩
set_option maxHeartbeats 1000000 in
theorem ybhm{g:Gr}{W:List Int}(hg:yx g)(hc:yey g=true)(hW:IsW g W):∃ R,Returns Tryz.prog 26 [grV g] (.ag (ynq 3 false true R (-1))):=by
 obtain⟨LT,hLT⟩:∃ x,(flatAt 0 g.ports).foldl ylo 0=x:=⟨_,rfl⟩;refine⟨(maxI W).tdiv (max LT 1)+1,Returns.of (ycxk _ _ ?_)⟩;have hF:=ybfl (ywo hg);rw[hc]at hF;have hWr:=ycby hg hW;have hLk:=ybad (g:=g);have h1:=hg.1;have h24:=hg.2.1;have hM:=yboc W (by rw[hW.len];omega) (by rw[hW.len];omega)
 simp only[grV]at hF hWr hLk;simp only[c26,ydgz,ydfz,grV,clash,go_sem,Nat.reduceEqDiff,Nat.reduceAdd,Nat.reduceLT,↓reduceIte];refine hF.use ?_;simp only[thenO,ydar,ydft,splice,clash,go_sem,Nat.reduceEqDiff,Nat.reduceAdd,Nat.reduceLT,↓reduceIte];refine hLk.use ?_
 refine ybfs (ybha (yzl hg)) [(3,0),(1,0),(2,0)] (fun i (_:Unit)=>⟨[(12,.fn 101 [] [.rf [yj g.ids,yu g.ports]]),(3,.pt (3,0) 0 0),(2,.pt (2,0) 0 0),(1,.pt (1,0) 0 0)],
  [(3,.one (some ⟨3,true,1,1,fun _=>[.i .i64 (((flatAt 0 g.ports).take i).foldl ylo 0)]⟩)),(2,.one (some ⟨56,true,5,1,fun _=>ynq 0 false false 0 0⟩)),(1,.one (some ⟨28,true,2,1,fun _=>[yj g.ids,yu g.ports]⟩))]⟩) (fun i _=>i<=(flatAt 0 g.ports).length) () (Nat.zero_le _) ⟨fun _ h=>absurd h List.not_mem_nil,fun _ h=>absurd h List.not_mem_nil⟩ ?_ (fun _=>rfl) ?_ ?_ ?_
 ·refine yg [] [] [] ?_;simp only[ynq,List.foldl_nil,allQ,live,yc,go_sem,Nat.reduceEqDiff,↓reduceIte,reduceCtorEq]
 ·intro i _ hi _;refine⟨trivial,?_⟩;simp only[go_sem,allQ,go_sem,Nat.reduceEqDiff]
 ·intro i _ hi hlti;have hlti:i<(flatAt 0 g.ports).length:=hlti;obtain⟨e1,e2⟩:=yld hg hlti;have hs:=ykr ylo 0 hlti;have hb:=ybms hg i hi;obtain⟨a,ha⟩:∃ x,((flatAt 0 g.ports).take i).foldl ylo 0=x:=⟨_,rfl⟩;obtain⟨E,hE⟩:∃ E,ydz g.ports i=E:=⟨_,rfl⟩;rw[ha,hE]at hs;refine⟨_,rfl,?_⟩;simp only[yye];have fin:∀ x,ylo a E=x->((flatAt 0 g.ports).take (i+1)).foldl ylo 0=x:=fun x h=>by rw[hs,h]
  by_cases q0:a=0
  ·have z0:(a == 0)=true:=by rw[beq_iff_eq];exact q0
   have f:=fin E.b (by unfold ylo;rw[if_pos (.inl q0)])
   simp only[ybwf,ycap,yctn,ha,hE,z0,clash,splice,ynq,go_sem,Nat.reduceEqDiff,Nat.reduceAdd,Nat.reduceLT,↓reduceIte,reduceCtorEq];refine⟨by omega,?_⟩
   refine ycm [] [] [] ?_;simp only[f,allQ,live,yc,go_sem,Nat.reduceEqDiff,↓reduceIte,reduceCtorEq]
  ·have z0:(a == 0)=false:=by rw[beq_eq_false_iff_ne];exact q0
   by_cases q1:E.b<a
   ·have z1:decide (E.b<a)=true:=decide_eq_true q1;have f:=fin E.b (by unfold ylo;rw[if_pos (.inr q1)])
    simp only[ybwf,ycap,yctn,ha,hE,z0,z1,clash,splice,ynq,go_sem,Nat.reduceEqDiff,Nat.reduceAdd,Nat.reduceLT,↓reduceIte,reduceCtorEq];refine⟨by omega,?_⟩
    refine ycm [] [] [] ?_;simp only[f,allQ,live,yc,go_sem,Nat.reduceEqDiff,↓reduceIte,reduceCtorEq]
   ·have z1:decide (E.b<a)=false:=decide_eq_false q1;have f:=fin a (by unfold ylo;rw[if_neg (by omega)])
    simp only[ybwf,ycap,ha,hE,z0,z1,clash,splice,ynq,go_sem,Nat.reduceEqDiff,Nat.reduceAdd,Nat.reduceLT,↓reduceIte,reduceCtorEq];refine⟨by omega,?_⟩
    refine ycm [] [] [] ?_;simp only[f,allQ,live,yc,go_sem,Nat.reduceEqDiff,↓reduceIte,reduceCtorEq]
 ·intro _ _;have hb:=ybms hg _ (Nat.le_refl _);rw[List.take_length,hLT]at hb;have hmx:1<=max LT 1:=by omega
  have hmW:=ybig hW hg;simp only[ydce,ydec,yye,List.take_length,hLT,ynq,go_sem,Nat.reduceEqDiff,Nat.reduceAdd,↓reduceIte];refine hWr.use ?_;simp only[thenO,clash,go_sem,Nat.reduceEqDiff,Nat.reduceAdd,Nat.reduceLeDiff,↓reduceIte,reduceCtorEq];refine hM.use ?_;simp only[go_sem,Nat.reduceEqDiff,Nat.reduceAdd,↓reduceIte];have d1:(maxI W).tdiv (max LT 1)=maxI W / max LT 1:=Int.tdiv_eq_ediv_of_nonneg hmW.1
  have d2:0<=maxI W / max LT 1:=Int.ediv_nonneg hmW.1 (by omega)
  have d3:maxI W / max LT 1<=maxI W:=Int.ediv_le_self _ hmW.1;exact⟨by decide,⟨by omega,ikw (by omega) (by omega)⟩,ikw (by omega) (by omega),Sim.refl _⟩
end Sh
end Go.Proofs.YtpngeppkgoaimaaGreatDoor

namespace Go.Proofs.YtpngeppkgoaimaaGreatDoor
open Go
namespace Sh
open Ev Go.RowKit
set_option maxRecDepth 8000
set_option maxHeartbeats 4000000 in
theorem ywx{x:NetR}(hx:x.ok){raw:List Int}(hr:∀ k,inK .i64 (raw.getD k 0)){l:List Nat}(hb:∀ k,l.getD k 0<2 ^ 32):Returns Tryz.prog 5 [.ag (netC x),yj raw,usV l] (.b true):=by
 refine Returns.of (ydiz _ _ ?_);have hC:=yhi hx (most:=7) (by omega)
 simp only[netC]at hC;simp only[c5,c5_0,c5_1,netC,clash,go_sem,Int.reduceToNat,Nat.reduceEqDiff,Nat.reduceAdd,Nat.reduceLeDiff,Nat.reduceLT,Nat.reduceBEq,Nat.reduceBNe,Nat.reduceMul,↓reduceIte,reduceCtorEq];refine hC.found (V:=grV) (fun r g h=>h.2.2.2) fun r g h=>?_;obtain⟨hg,hcn,hn8,-⟩:=h;have hI:=ywo hg;obtain⟨W,hW⟩:=exW hg hcn;obtain⟨CR,hCl⟩:=ybhm hg hcn hW;have hCh:Checked (Lies PqB Pqv) (Lies PqC Pqr) PqP g:=⟨hg,yvt,ypz hg,yov⟩
 have hTx:=ykq;have hVs:=ykh;have hCf:=yjj hg yvt hCh.hf hr;have hClen:∀ c,ydk PqP g c=true->c.length=g.ids.length:=fun c h=>(ycu h).len;have hids:g.ids.length<=24:=by have:=hg.2.1;have:=hg.2.2.1;omega
 simp only[grV]at hCf hCl;have hPr:=ygs;simp(maxSteps:=5000000) only [thenO,c5_2,grV,clash,go_sem,Int.reduceToNat,Nat.reduceEqDiff,Nat.reduceAdd,Nat.reduceLeDiff,Nat.reduceLT,Nat.reduceBEq,Nat.reduceBNe,Nat.reduceMul,↓reduceIte,reduceCtorEq];refine hTx.use ?_;simp(maxSteps:=5000000) only [thenO,clash,go_sem,Int.reduceToNat,Nat.reduceEqDiff,Nat.reduceAdd,Nat.reduceLeDiff,Nat.reduceLT,Nat.reduceBEq,Nat.reduceBNe,Nat.reduceMul,↓reduceIte,reduceCtorEq]
 refine hPr.use ?_;simp(maxSteps:=5000000) only [thenO,c5_3,clash,ydb,go_sem,Int.reduceToNat,Nat.reduceEqDiff,Nat.reduceAdd,Nat.reduceLeDiff,Nat.reduceLT,Nat.reduceBEq,Nat.reduceBNe,Nat.reduceMul,↓reduceIte,reduceCtorEq];refine hTx.use ?_;simp(maxSteps:=5000000) only [thenO,clash,go_sem,Int.reduceToNat,Nat.reduceEqDiff,Nat.reduceAdd,Nat.reduceLeDiff,Nat.reduceLT,Nat.reduceBEq,Nat.reduceBNe,Nat.reduceMul,↓reduceIte,reduceCtorEq]
 refine hCl.use ?_;simp(maxSteps:=5000000) only [thenO,ynq,clash,go_sem,Int.reduceToNat,Nat.reduceEqDiff,Nat.reduceAdd,Nat.reduceLeDiff,Nat.reduceLT,Nat.reduceBEq,Nat.reduceBNe,Nat.reduceMul,↓reduceIte,reduceCtorEq];refine hVs.use ?_;simp(maxSteps:=5000000) only [thenO,clash,usV,go_sem,Int.reduceToNat,Nat.reduceEqDiff,Nat.reduceAdd,Nat.reduceLeDiff,Nat.reduceLT,Nat.reduceBEq,Nat.reduceBNe,Nat.reduceMul,↓reduceIte,reduceCtorEq]
 refine⟨by decide,hCf.found (V:=ybe) (fun r c h=>h.2) fun r c h=>?_⟩
 obtain⟨hcv,-⟩:=h;have hWs:=yiw l hb 60 (by omega)
 simp only[usV]at hWs;simp(maxSteps:=5000000) only [thenO,clash,usV,go_sem,Int.reduceToNat,Nat.reduceEqDiff,Nat.reduceAdd,Nat.reduceLeDiff,Nat.reduceLT,Nat.reduceBEq,Nat.reduceBNe,Nat.reduceMul,↓reduceIte,reduceCtorEq];refine⟨by decide,hWs.found (V:=usV) (fun r ws h=>h.2.2) fun r ws h=>?_⟩
 obtain⟨hwl,hw,-⟩:=h;have hRun:=yvq ygs hCh (kind:=3) (by omega) (yxo _) hcv hw (by omega)
 obtain⟨n,Cs,Ks,hD⟩:=runD (ybk PqP g) ypr ws c;have hlen:=hD.le;have hpos:=hD.pos;have hCv:∀ k,k<n->ydk PqP g (Cs.getD k [])=true:=fun k hk=>(yqo hW hg yqq hcv _ (hD.at_ hk).1).valid;rw[hD.cs,hD.ks]at hRun;simp only[grV,usV,yda,yfu,hD.lC,hD.lK]at hRun;simp(maxSteps:=5000000) only [thenO,clash,usV,go_sem,Int.reduceToNat,Nat.reduceEqDiff,Nat.reduceAdd,Nat.reduceLeDiff,Nat.reduceLT,Nat.reduceBEq,Nat.reduceBNe,Nat.reduceMul,↓reduceIte,reduceCtorEq]
 refine⟨by decide,hRun.use ?_⟩
 simp(maxSteps:=5000000) only [thenO,clash,go_sem,Int.reduceToNat,Nat.reduceEqDiff,Nat.reduceAdd,Nat.reduceLeDiff,Nat.reduceLT,Nat.reduceBEq,Nat.reduceBNe,Nat.reduceMul,↓reduceIte,reduceCtorEq];refine⟨by decide,?_⟩
 simp(maxSteps:=5000000) only [c5_4,clash,go_sem,Int.reduceToNat,Nat.reduceEqDiff,Nat.reduceAdd,Nat.reduceLeDiff,Nat.reduceLT,Nat.reduceBEq,Nat.reduceBNe,Nat.reduceMul,↓reduceIte,reduceCtorEq];refine ybc (σ:=Nat) (fun k=>⟨[(12,.i .i64 k),(11,.b true),(9,.sl 1 n fun i=>[ybe (Cs.getD i [])]),(8,.pt (8,0) 0 0),(7,.pt (7,0) 0 0)],[(8,.one (some ⟨53,true,3,1,fun _=>ydb (Lies PqB Pqv) (Lies PqC Pqr) PqP.raw⟩)),(7,.one (some ⟨28,true,2,1,fun _=>[yj g.ids,yu g.ports]⟩))]⟩) (fun k=>k<=n) (fun k=>n - k) 0 (Nat.zero_le _) ?_ ?_
 ·refine yg [] [] [] ?_;simp only[ydb,allQ,live,Option.getD,Option.getD_none,Option.getD_some,yc,yw,sim_b,Int.natCast_zero,go_sem,Int.reduceToNat,Nat.reduceEqDiff,Nat.reduceAdd,Nat.reduceLeDiff,Nat.reduceLT,Nat.reduceBEq,Nat.reduceBNe,Nat.reduceMul,↓reduceIte,reduceCtorEq]
 ·intro k hk
  by_cases hlt:k<n
  ·have t1:decide ((k:Int)<(n:Int))=true:=decide_eq_true (by omega)
   have hLg:=ymj hg hcn hW (hCv k hlt);have hE:=ypw hCh (hCv k hlt)
   have e2:((((ybm PqP g (Cs.getD k []):Nat):Int)) == 0)=yds g W (Cs.getD k []):=by
    have hb:ybm PqP g (Cs.getD k [])=0 ↔ yds g W (Cs.getD k [])=true:=(fun hv=>(ybeq hW hg hv).trans (yjv hv).symm) (hCv k hlt);rw[Bool.eq_iff_iff,beq_iff_eq,<- hb];omega
   simp only[grV,ydb]at hLg hE;obtain⟨lg,hlg⟩:∃ b,yds g W (Cs.getD k [])=b:=⟨_,rfl⟩;rw[hlg]at hLg e2;have e3:(lg != lg)=false:=by cases lg<;>rfl
   simp(maxSteps:=5000000) only [c5_5,c5_7,t1,ydb,clash,go_sem,Int.reduceToNat,Nat.reduceEqDiff,Nat.reduceAdd,Nat.reduceLeDiff,Nat.reduceLT,Nat.reduceBEq,Nat.reduceBNe,Nat.reduceMul,↓reduceIte,reduceCtorEq];refine⟨⟨by omega,by omega⟩,hE.use ?_⟩
   simp(maxSteps:=5000000) only [thenO,clash,e2,go_sem,Int.reduceToNat,Nat.reduceEqDiff,Nat.reduceAdd,Nat.reduceLeDiff,Nat.reduceLT,Nat.reduceBEq,Nat.reduceBNe,Nat.reduceMul,↓reduceIte,reduceCtorEq];refine⟨⟨by omega,by omega⟩,hLg.use ?_⟩
   simp(maxSteps:=5000000) only [thenO,clash,e3,go_sem,Int.reduceToNat,Nat.reduceEqDiff,Nat.reduceAdd,Nat.reduceLeDiff,Nat.reduceLT,Nat.reduceBEq,Nat.reduceBNe,Nat.reduceMul,↓reduceIte,reduceCtorEq];simp(maxSteps:=5000000) only [c5_6,clash,go_sem,Int.reduceToNat,Nat.reduceEqDiff,Nat.reduceAdd,Nat.reduceLeDiff,Nat.reduceLT,Nat.reduceBEq,Nat.reduceBNe,Nat.reduceMul,↓reduceIte,reduceCtorEq];refine⟨ikw (by omega) (by omega),?_⟩
   refine yh (k+1) (by omega) (by omega) ?_
   refine yg [] [] [] ?_;simp only[ydb,allQ,live,Option.getD,Option.getD_none,Option.getD_some,yc,yw,sim_b,Int.natCast_zero,go_sem,Int.reduceToNat,Nat.reduceEqDiff,Nat.reduceAdd,Nat.reduceLeDiff,Nat.reduceLT,Nat.reduceBEq,Nat.reduceBNe,Nat.reduceMul,↓reduceIte,reduceCtorEq];omega
  ·obtain rfl:k=n:=by omega
   have t1:decide ((k:Int)<(k:Int))=false:=decide_eq_false (by omega)
   have hK:=yhg;simp(maxSteps:=5000000) only [c5_5,c5_9,t1,clash,go_sem,Int.reduceToNat,Nat.reduceEqDiff,Nat.reduceAdd,Nat.reduceLeDiff,Nat.reduceLT,Nat.reduceBEq,Nat.reduceBNe,Nat.reduceMul,↓reduceIte,reduceCtorEq];refine hK.use ?_;simp(maxSteps:=5000000) only [thenO,clash,go_sem,Int.reduceToNat,Nat.reduceEqDiff,Nat.reduceAdd,Nat.reduceLeDiff,Nat.reduceLT,Nat.reduceBEq,Nat.reduceBNe,Nat.reduceMul,↓reduceIte,reduceCtorEq]
   exact Sim.refl _
end Sh
end Go.Proofs.YtpngeppkgoaimaaGreatDoor

