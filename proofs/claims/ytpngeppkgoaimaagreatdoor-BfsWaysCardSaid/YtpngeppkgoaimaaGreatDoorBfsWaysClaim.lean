/- For every input, BfsWays returns true, and its arguments read as before; the listed table is tied to the program's text. -/
import Derived.Test.YtpngeppkgoaimaaGreatDoorPkBa14
import Derived.Test.YtpngeppkgoaimaaGreatDoorPkBa13
import Derived.Test.YtpngeppkgoaimaaGreatDoorPkBa16
import Derived.Test.YtpngeppkgoaimaaGreatDoorPkBa15
import Derived.Test.YtpngeppkgoaimaaGreatDoorTie
import Derived.Test.YtpngeppkgoaimaaGreatDoorCards
import Derived.LaidMore
import Derived.Stop.Joined
import Derived.SevenTiedAt
set_option linter.unusedSimpArgs false
set_option linter.unusedVariables false
namespace Go.Proofs.YtpngeppkgoaimaaGreatDoor
open Go
namespace Sh
open Ev Go.RowKit
set_option maxRecDepth 8000
theorem ybjf {g:Gr} (hI:GrI g):Returns Tryz.prog 53 [grV g] (.b (ych g)):=by
 refine yom ⟨_,_,Tryz.func53,rfl⟩ (fun _=>.b) (fun _=>.simple rfl) fun G m us hG hr φ M w us' hRl hs hv=>?_
 obtain ⟨u,rfl,h1⟩:=rvl1 hr
 obtain ⟨u',rfl,h2⟩:=yfi hv
 exact ygr u' g w (ybbw hG h1 h2 hRl hs hI)
theorem ycqo (x lo hi:Int):Returns Tryz.prog 54 [.i .i64 x,.i .i64 lo,.i .i64 hi] (.b (decide (x >= lo) && decide (x <= hi))):=by
 refine Returns.of (ydaj _ _ ?_)
 simp only [c54,ycve,ydcd,sim_b,go_sem,Nat.reduceEqDiff,Nat.reduceAdd,↓reduceIte,reduceCtorEq]
 by_cases h:x >= lo <;> simp [h]
theorem ymm {R:List Int} {x:Int} {ls:List (Int × Int)} {i:Nat} (hi:i < ls.length):yfn R x (ls.take (i + 1)) = (yfn R x (ls.take i) || decide (R[(ls.getD i (0,0)).1.toNat]? = some x)):=by
 unfold yfn
 rw [List.take_succ_eq_append_getElem hi,List.any_append,getD_at hi]
 simp
def yil (d:Int) (R:List Int) (v:Nat) (ls:List (Int × Int)):List Int:=if decide (R.getD v 0 < 0) && yfn R (d - 1) ls then R.set v d else R
theorem ybhx {R:List Int} {x:Int} {ls:List (Int × Int)} {i:Nat} (h:yfn R x (ls.take i) = true):yfn R x ls = true:=by
 unfold yfn at *
 obtain ⟨l,h1,h2⟩:=List.any_eq_true.1 h
 exact List.any_eq_true.2 ⟨l,List.mem_of_mem_take h1,h2⟩
theorem ybpw {d:Int} (hd:1 <= d) {R:List Int} {v:Nat} (hv:v < R.length) {ls:List (Int × Int)} (h:(yil d R v ls).getD v 0 < 0):yil d R v ls = R /\ R.getD v 0 < 0 /\ yfn R (d - 1) ls = false:=by
 unfold yil at h ⊢
 split at h
 ·rename_i hc
  rw [List.getD_eq_getElem?_getD,List.getElem?_set_self hv] at h
  simp at h
  omega
 ·rename_i hc
  rw [if_neg hc]
  refine ⟨rfl,h,?_⟩
  cases hq:yfn R (d - 1) ls with
  | false=>rfl
  | true=>exact absurd (by rw [decide_eq_true h,hq]; rfl) hc
theorem ybmk {d:Int} {R:List Int} {v:Nat} {ls:List (Int × Int)} {i:Nat} (h:¬ (yil d R v (ls.take i)).getD v 0 < 0) (hd:1 <= d):yil d R v (ls.take i) = yil d R v ls:=by
 unfold yil at h ⊢
 by_cases h0:R.getD v 0 < 0
 ·by_cases h1:yfn R (d - 1) (ls.take i) = true
  ·rw [decide_eq_true h0,h1,ybhx h1]
  ·rw [if_neg (by simp [h1])] at h
   exact absurd h0 h
 ·rw [decide_eq_false h0,Bool.false_and,Bool.false_and]
theorem ybqa (g:Gr) (d:Int) (R:List Int) (v:Nat):(yhc g d R v).length = R.length:=by unfold yhc; split <;> simp
theorem yrq (g:Gr) (d:Int):∀ (l:List Nat) (R:List Int),(l.foldl (yhc g d) R).length = R.length
 | [],_=>rfl
 | v :: l,R=>by rw [List.foldl_cons,yrq g d l,ybqa]
def yie (g:Gr) (a d:Nat):List Int:=(List.range d).foldl (fun R d=>stepD g R (d + 1)) (start g a)
theorem yuj (g:Gr) (a:Nat):∀ d,(yie g a d).length = g.ports.length
 | 0=>by simp [yie,start]
 | d + 1=>by
  have:=yuj g a d
  unfold yie at *
  rw [List.range_succ,List.foldl_append]
  show (stepD g _ _).length = _
  rw [show ∀ R e,stepD g R e = (List.range g.ports.length).foldl (yhc g e) R from fun _ _=>rfl,yrq]
  exact this
set_option maxHeartbeats 2000000 in
theorem yxi {g:Gr} (hg:ybc g) {a:Nat} (ha:a < g.ports.length):Returns Tryz.prog 23 [grV g,.i .i64 a] (yj (ybi g a)):=by
 refine Returns.of (yczo _ _ ?_)
 have hV:=ybjf (ybdj hg)
 rw [(ybz g).2 hg] at hV
 have h24:=hg.2.1
 obtain ⟨n,hn⟩:∃ n,g.ports.length = n:=⟨_,rfl⟩
 rw [hn] at ha h24
 have hIn:=ycqo (a:Int) 0 ((n:Int) - 1)
 have e1:(decide ((a:Int) >= 0) && decide ((a:Int) <= (n:Int) - 1)) = true:=by simp; omega
 rw [e1] at hIn
 simp only [grV,yba,hn] at hV
 simp only [c23,ycvp,ycwq,grV,yba,hn,go_sem,Nat.reduceEqDiff,Nat.reduceAdd,Nat.reduceLT,↓reduceIte]
 refine hV.use ?_
 simp only [thenO,go_sem,Nat.reduceEqDiff,Nat.reduceAdd,↓reduceIte,reduceCtorEq]
 refine ⟨ikw (by omega) (by omega),hIn.use ?_⟩
 simp only [ycwj,ycvh,ydbk,go_sem,Nat.reduceEqDiff,Nat.reduceAdd,↓reduceIte,reduceCtorEq]
 let B:Nat × Fam:=(2,.one (some ⟨28,true,2,1,fun _=>[yj g.ids,yba g.ports]⟩))
 refine ybe (σ:=Nat) (fun k=>⟨[(7,.i .i64 k),(5,.i .i64 n),(2,.pt (2,0) 0 0),(1,.i .i64 a),(6,.os (100,0) 0 k true)],[(100,.one (some ⟨3,false,1,k,fun _=>[.i .i64 (-1)]⟩)),B]⟩) (fun k=>k <= n) (fun k=>n - k) 0 (Nat.zero_le _) ?_ ?_
 ·refine yg [] [100] [] ?_
  simp only [B,yba,hn,allQ,live,yc,Int.natCast_zero,go_sem,Nat.reduceEqDiff,Nat.reduceBEq,↓reduceIte,reduceCtorEq]
  exact ⟨(100,0),rfl,rfl,rfl⟩
 intro k hk
 by_cases hlt:k < n
 ·have t1:decide ((k:Int) < (n:Int)) = true:=decide_eq_true (by omega)
  simp only [ycpy,ycyv,ycvz,t1,B,splice,go_sem,Nat.reduceEqDiff,Nat.reduceAdd,Nat.reduceLeDiff,Nat.reduceLT,↓reduceIte,reduceCtorEq]
  refine ⟨⟨by omega,by omega⟩,ikw (by omega) (by omega),?_⟩
  refine yh (k + 1) (by omega) (by omega) ?_
  refine yg [(100,fun i=>(33,i))] [] [] ?_
  simp only [yba,hn,allQ,live,yc,yu,go_sem,Nat.reduceEqDiff,↓reduceIte,reduceCtorEq]
  refine ⟨by omega,fun i hi=>?_⟩
  by_cases q:i < k
  ·simp only [if_pos q]
   simp only [go_sem,live,yc,go_sem,reduceCtorEq]
  ·obtain rfl:i = k:=by omega
   simp only [if_neg q,Nat.sub_self,Nat.zero_mul]
   simp only [go_sem,live,yc,go_sem,reduceCtorEq]
 obtain rfl:k = n:=by omega
 have t1:decide ((k:Int) < (k:Int)) = false:=decide_eq_false (by omega)
 simp only [ycpy,ycyc,ycbs,t1,B,splice,go_sem,Nat.reduceEqDiff,Nat.reduceAdd,↓reduceIte,reduceCtorEq]
 refine ⟨⟨by omega,by omega⟩,by omega,?_⟩
 refine ybe (σ:=Nat) (fun d=>⟨[(8,.i .i64 ((d:Int) + 1)),(5,.i .i64 k),(2,.pt (2,0) 0 0),(6,.os (100,0) 0 k true)],[(100,.one (some ⟨3,false,1,k,fun i=>[.i .i64 ((yie g a d).getD i 0)]⟩)),B]⟩) (fun d=>d <= k - 1) (fun d=>k - d) 0 (Nat.zero_le _) ?_ ?_
 ·refine yg [] [] [] ?_
  simp only [B,yba,hn,allQ,live,yc,yu,Int.natCast_zero,go_sem,Nat.reduceEqDiff,↓reduceIte,reduceCtorEq]
  refine ⟨by omega,fun i hi=>?_⟩
  have e:(yie g a 0).getD i 0 = if i = a then 0 else -1:=by
   show ((List.replicate g.ports.length (-1:Int)).set a 0).getD i 0 = _
   rw [List.getD_eq_getElem?_getD,List.getElem?_set,hn]
   by_cases q:a = i
   ·subst q; simp [hi]
   ·rw [if_neg q,if_neg (fun e=>q e.symm),List.getElem?_replicate,if_pos (by omega)]
    rfl
  rw [e]
  by_cases q:i = a
  ·simp only [if_pos q]
   simp only [go_sem,live,yc,go_sem,reduceCtorEq]
  ·simp only [if_neg q]
   simp only [go_sem,live,yc,go_sem,reduceCtorEq]
 intro d hd
 have hld:=yuj g a d
 rw [hn] at hld
 by_cases hlt:d < k - 1
 ·have t1:decide ((d:Int) + 1 < (k:Int)) = true:=decide_eq_true (by omega)
  simp only [ybqv,ycdq,t1,B,go_sem,Nat.reduceEqDiff,Nat.reduceAdd,↓reduceIte,reduceCtorEq]
  refine ybe (σ:=Nat) (fun v=>⟨[(9,.i .i64 v),(8,.i .i64 ((d:Int) + 1)),(5,.i .i64 k),(2,.pt (2,0) 0 0),(6,.os (100,0) 0 k true)],[(100,.one (some ⟨3,false,1,k,fun i=>[.i .i64 (((List.range v).foldl (yhc g ((d + 1:Nat):Int)) (yie g a d)).getD i 0)]⟩)),B]⟩) (fun v=>v <= k) (fun v=>k - v) 0 (Nat.zero_le _) ?_ ?_
  ·refine yg [] [] [] ?_
   simp only [B,yba,hn,allQ,live,yc,yu,Int.natCast_zero,go_sem,Nat.reduceEqDiff,↓reduceIte,reduceCtorEq]
   exact fun i hi=>rfl
  intro v hv
  obtain ⟨R,hR⟩:∃ R,(List.range v).foldl (yhc g ((d + 1:Nat):Int)) (yie g a d) = R:=⟨_,rfl⟩
  have hlR:R.length = k:=by rw [<- hR,yrq,hld]
  rw [hR]
  by_cases hlt2:v < k
  ·have t2:decide ((v:Int) < (k:Int)) = true:=decide_eq_true (by omega)
   obtain ⟨ls,hls⟩:∃ ls,g.ports.getD v [] = ls:=⟨_,rfl⟩
   have hdl:=hg.deg_lt (v:=v)
   rw [hls] at hdl
   have hnxt:(List.range (v + 1)).foldl (yhc g ((d + 1:Nat):Int)) (yie g a d) = yil ((d + 1:Nat):Int) R v ls:=by
    rw [List.range_succ,List.foldl_append,hR]
    show yhc g _ R v = _
    unfold yhc yil
    rw [hls]
   simp only [ybrh,ychy,t2,B,go_sem,Nat.reduceEqDiff,Nat.reduceAdd,↓reduceIte,reduceCtorEq]
   refine ybe (σ:=Nat) (fun i=>⟨[(10,.i .i64 i),(9,.i .i64 v),(8,.i .i64 ((d:Int) + 1)),(5,.i .i64 k),(2,.pt (2,0) 0 0),(6,.os (100,0) 0 k true)],[(100,.one (some ⟨3,false,1,k,fun j=>[.i .i64 ((yil ((d + 1:Nat):Int) R v (ls.take i)).getD j 0)]⟩)),B]⟩) (fun i=>i <= ls.length) (fun i=>ls.length - i) 0 (Nat.zero_le _) ?_ ?_
   ·refine yg [] [] [] ?_
    simp only [B,allQ,live,yc,yu,Int.natCast_zero,go_sem,Nat.reduceEqDiff,↓reduceIte,reduceCtorEq]
    simp [yil,yfn]
   intro i hi
   by_cases hlt3:i < ls.length
   ·have t3:decide ((i:Int) < (ls.length:Int)) = true:=decide_eq_true (by omega)
    by_cases hneg:(yil ((d + 1:Nat):Int) R v (ls.take i)).getD v 0 < 0
    ·have t4:decide ((yil ((d + 1:Nat):Int) R v (ls.take i)).getD v 0 < 0) = true:=decide_eq_true hneg
     obtain ⟨p1,p2,p3⟩:=ybpw (d:=((d + 1:Nat):Int)) (by omega) (by omega) hneg
     rw [p1] at t4 ⊢
     simp only [ybgt,yckp,t3,t4,B,yba,ybb,hls,go_sem,Nat.reduceEqDiff,Nat.reduceAdd,Nat.reduceLeDiff,↓reduceIte,reduceCtorEq]
     have hlk:=hg.ybw (v:=v) (p:=i) (by omega) (by rw [hls]; exact hlt3)
     unfold ybw at hlk
     rw [hls,hn] at hlk
     obtain ⟨to,hto⟩:∃ t:Nat,(ls.getD i (0,0)).1 = t:=⟨(ls.getD i (0,0)).1.toNat,by omega⟩
     have hsn:=ymm (R:=R) (x:=((d + 1:Nat):Int) - 1) hlt3
     rw [hto,Int.toNat_natCast] at hsn ⊢
     rw [hto] at hlk
     have hRt:R[to]? = some (R.getD to 0):=by
      have:to < R.length:=by omega
      simp [List.getD,this]
     refine ⟨⟨by omega,by omega⟩,⟨by omega,by omega⟩,by omega,⟨by omega,by omega⟩,⟨by omega,by omega⟩,⟨by omega,by omega⟩,by omega,ikw (by omega) (by omega),fun hm=>?_,fun hm=>?_⟩
     ·have e2:yil ((d + 1:Nat):Int) R v (ls.take (i + 1)) = R.set v ((d + 1:Nat):Int):=by
       unfold yil
       rw [hsn,hRt,decide_eq_true (congrArg some (show R.getD to 0 = ((d + 1:Nat):Int) - 1 by omega)),Bool.or_true,decide_eq_true p2]
       rfl
      simp only [ybro,ycfc,splice,go_sem,Nat.reduceEqDiff,Nat.reduceAdd,↓reduceIte,reduceCtorEq]
      refine ⟨⟨by omega,by omega⟩,by omega,ikw (by omega) (by omega),?_⟩
      refine yh (i + 1) (by omega) (by omega) ?_
      refine yg [] [] [] ?_
      simp only [e2,allQ,live,yc,yu,go_sem,Nat.reduceEqDiff,↓reduceIte,reduceCtorEq]
      refine ⟨by omega,fun j hj=>?_⟩
      have e5:(R.set v ((d + 1:Nat):Int)).getD j 0 = if j = v then (d:Int) + 1 else R.getD j 0:=by
       rw [List.getD_eq_getElem?_getD,List.getElem?_set]
       by_cases q:v = j
       ·subst q; simp [hlR,hlt2]
       ·rw [if_neg q,if_neg (fun e=>q e.symm),<- List.getD_eq_getElem?_getD]
      rw [e5]
      by_cases q:j = v
      ·simp only [if_pos q]
       simp only [go_sem,live,yc,go_sem,reduceCtorEq]
      ·simp only [if_neg q]
       simp only [go_sem,live,yc,go_sem,reduceCtorEq]
     ·have e2:yil ((d + 1:Nat):Int) R v (ls.take (i + 1)) = R:=by
       unfold yil
       have hne:decide (some (R.getD to 0) = some (((d + 1:Nat):Int) - 1)) = false:=decide_eq_false (fun q=>hm (by have:=Option.some.inj q; omega))
       rw [hsn,hRt,hne,Bool.or_false,p3,Bool.and_false]
       rfl
      simp only [ybro,go_sem,Nat.reduceEqDiff,Nat.reduceAdd,↓reduceIte,reduceCtorEq]
      refine ⟨ikw (by omega) (by omega),?_⟩
      refine yh (i + 1) (by omega) (by omega) ?_
      refine yg [] [] [] ?_
      simp only [e2,allQ,live,yc,yu,go_sem,Nat.reduceEqDiff,↓reduceIte,reduceCtorEq]
      omega
    ·have t4:decide ((yil ((d + 1:Nat):Int) R v (ls.take i)).getD v 0 < 0) = false:=decide_eq_false hneg
     have e2:=ybmk hneg (by omega)
     rw [e2] at t4 ⊢
     simp only [ybry,ybgt,t3,t4,B,yba,ybb,hls,go_sem,Nat.reduceEqDiff,Nat.reduceAdd,↓reduceIte,reduceCtorEq]
     refine ⟨⟨by omega,by omega⟩,⟨by omega,by omega⟩,by omega,ikw (by omega) (by omega),?_⟩
     refine yh (v + 1) (by omega) (by omega) ?_
     refine yg [] [] [] ?_
     simp only [allQ,live,yc,yu,go_sem,Nat.reduceEqDiff,↓reduceIte,reduceCtorEq]
     exact ⟨by omega,fun i hi=>by rw [<- List.range_succ,hnxt]⟩
   ·obtain rfl:i = ls.length:=by omega
    have t3:decide ((ls.length:Int) < (ls.length:Int)) = false:=decide_eq_false (by omega)
    rw [List.take_length]
    simp only [ybry,ybgt,t3,B,yba,ybb,hls,go_sem,Nat.reduceEqDiff,Nat.reduceAdd,↓reduceIte,reduceCtorEq]
    refine ⟨⟨by omega,by omega⟩,ikw (by omega) (by omega),?_⟩
    refine yh (v + 1) (by omega) (by omega) ?_
    refine yg [] [] [] ?_
    simp only [allQ,live,yc,yu,go_sem,Nat.reduceEqDiff,↓reduceIte,reduceCtorEq]
    exact ⟨by omega,fun i hi=>by rw [<- List.range_succ,hnxt]⟩
  ·obtain rfl:v = k:=by omega
   have t2:decide ((v:Int) < (v:Int)) = false:=decide_eq_false (by omega)
   simp only [ycjp,ybrh,t2,B,go_sem,Nat.reduceEqDiff,Nat.reduceAdd,↓reduceIte,reduceCtorEq]
   refine ⟨ikw (by omega) (by omega),?_⟩
   refine yh (d + 1) (by omega) (by omega) ?_
   refine yg [] [] [] ?_
   have e3:yie g a (d + 1) = R:=by
    rw [<- hR]
    unfold yie
    rw [List.range_succ,List.foldl_append]
    show stepD g _ _ = _
    unfold stepD
    rw [hn]
   simp only [e3,allQ,live,yc,yu,go_sem,Nat.reduceEqDiff,↓reduceIte,reduceCtorEq]
   omega
 ·have t1:decide ((d:Int) + 1 < (k:Int)) = false:=decide_eq_false (by omega)
  obtain rfl:d = k - 1:=by omega
  have e4:yie g a (k - 1) = ybi g a:=by unfold yie ybi; rw [hn]
  rw [e4] at hld ⊢
  simp only [ybqv,ycca,t1,B,go_sem,Nat.reduceEqDiff,Nat.reduceAdd,↓reduceIte,reduceCtorEq]
  unfold yj
  rw [hld]
  exact Sim.refl _
end Sh
end Go.Proofs.YtpngeppkgoaimaaGreatDoor

namespace Go.Proofs.YtpngeppkgoaimaaGreatDoor
open Go
namespace Sh
open Ev Go.RowKit
set_option maxRecDepth 8000
def towP (g:Gr) (c:Conf) (x:Nat):List Int:=mapR c.length fun v=>if (c.getD v []).getD x 0 >= 0 then ((g.ports.getD v []).getD ((c.getD v []).getD x 0).toNat (0,0)).1 else -1
theorem ybfk (g:Gr) (c:Conf) (x:Nat):(towP g c x).length = c.length:=ywk _ _
theorem ybth {g:Gr} {c:Conf} {x v:Nat} (hv:v < c.length):(towP g c x).getD v 0 = if (c.getD v []).getD x 0 >= 0 then ((g.ports.getD v []).getD ((c.getD v []).getD x 0).toNat (0,0)).1 else -1:=gmR _ _ _ _ hv
set_option maxHeartbeats 1000000 in
theorem ybcs {g:Gr} {c:Conf} {x:Nat} (hl:c.length <= g.ports.length) (h1:g.ports.length <= 1000) (hx:x <= 1000) (hc:∀ v,v < c.length -> x < (c.getD v []).length /\ (c.getD v []).getD x 0 < (g.ports.getD v []).length) :
  Returns Tryz.prog 70 [grV g,ybg c,.i .i64 x] (yj (towP g c x)):=by
 refine Returns.of (ydds _ _ ?_)
 obtain ⟨n,hn⟩:∃ n,c.length = n:=⟨_,rfl⟩
 obtain ⟨T,hT⟩:∃ T,towP g c x = T:=⟨_,rfl⟩
 have hTl:T.length = n:=by rw [<- hT,ybfk,hn]
 rw [hn] at hl hc
 simp only [c70,ycxw,ydcb,yczt,grV,ybg,hn,clash,go_sem,Nat.reduceEqDiff,Nat.reduceAdd,Nat.reduceLT,↓reduceIte,reduceCtorEq]
 refine ⟨⟨by omega,by omega⟩,?_⟩
 refine ybe (σ:=Nat) (fun k=>⟨[(15,.i .i64 k),(14,.i .i64 n),(13,.sl 1 n fun v=>[yj (c.getD v [])]),(2,.i .i64 x),(3,.pt (3,0) 0 0),(7,.os (12,0) 0 n true)],[(12,.one (some ⟨3,false,1,n,fun i=>[.i .i64 (if i < k then T.getD i 0 else 0)]⟩)),(3,.one (some ⟨28,true,2,1,fun _=>[yj g.ids,yba g.ports]⟩))]⟩) (fun k=>k <= n) (fun k=>n - k) 0 (Nat.zero_le _) ?_ ?_
 ·refine yg [] [] [] ?_
  simp only [Nat.not_lt_zero,allQ,live,yc,Int.natCast_zero,go_sem,Nat.reduceEqDiff,↓reduceIte,reduceCtorEq]
 intro k hk
 by_cases hlt:k < n
 ·have t1:decide ((k:Int) < (n:Int)) = true:=decide_eq_true (by omega)
  obtain ⟨hcx,hcp⟩:=hc k hlt
  have hat:=ybth (g:=g) (x:=x) (show k < c.length by omega)
  rw [hT] at hat
  by_cases hp:(c.getD k []).getD x 0 >= 0
  ·have t2:decide ((c.getD k []).getD x 0 >= 0) = true:=decide_eq_true hp
   rw [if_pos hp] at hat
   simp only [ybxf,ycoh,ycpa,ycra,ydaz,yctm,t1,t2,yj,yba,ybb,splice,clash,go_sem,Nat.reduceEqDiff,Nat.reduceAdd,Nat.reduceLeDiff,↓reduceIte,reduceCtorEq]
   repeat (refine ⟨by omega,?_⟩)
   refine ⟨ikw (by omega) (by omega),?_⟩
   refine yh (k + 1) (by omega) (by omega) ?_
   refine yg [] [] [] ?_
   simp only [go_sem,allQ,live,yc,yu,go_sem,Nat.reduceEqDiff,↓reduceIte,reduceCtorEq]
   refine ⟨by omega,fun i hi=>?_⟩
   by_cases q:i = k
   ·subst q
    simp only [if_pos (Nat.lt_succ_self i),hat]
    simp only [go_sem,live,yc,go_sem,↓reduceIte,reduceCtorEq]
   ·have e:(if i < k + 1 then T.getD i 0 else 0) = if i < k then T.getD i 0 else 0:=by
     by_cases q1:i < k
     ·rw [if_pos q1,if_pos (by omega)]
     ·rw [if_neg q1,if_neg (by omega)]
    simp only [if_neg q,e]
    simp only [go_sem,live,yc,go_sem,reduceCtorEq]
  ·have t2:decide ((c.getD k []).getD x 0 >= 0) = false:=decide_eq_false hp
   rw [if_neg hp] at hat
   simp only [ybxf,ycoh,ycpa,ycra,yctm,t1,t2,yj,splice,clash,go_sem,Nat.reduceEqDiff,Nat.reduceAdd,↓reduceIte,reduceCtorEq]
   repeat (refine ⟨by omega,?_⟩)
   refine ⟨ikw (by omega) (by omega),?_⟩
   refine yh (k + 1) (by omega) (by omega) ?_
   refine yg [] [] [] ?_
   simp only [go_sem,allQ,live,yc,yu,go_sem,Nat.reduceEqDiff,↓reduceIte,reduceCtorEq]
   refine ⟨by omega,fun i hi=>?_⟩
   by_cases q:i = k
   ·subst q
    simp only [if_pos (Nat.lt_succ_self i),hat]
    simp only [go_sem,live,yc,go_sem,↓reduceIte,reduceCtorEq]
   ·have e:(if i < k + 1 then T.getD i 0 else 0) = if i < k then T.getD i 0 else 0:=by
     by_cases q1:i < k
     ·rw [if_pos q1,if_pos (by omega)]
     ·rw [if_neg q1,if_neg (by omega)]
    simp only [if_neg q,e]
    simp only [go_sem,live,yc,go_sem,reduceCtorEq]
 ·obtain rfl:k = n:=by omega
  have t1:decide ((k:Int) < (k:Int)) = false:=decide_eq_false (by omega)
  simp only [ybxf,ydak,t1,clash,go_sem,Nat.reduceEqDiff,Nat.reduceAdd,↓reduceIte,reduceCtorEq]
  rw [hT]
  unfold yj
  rw [hTl]
  exact sim_sl fun i hi=>by rw [if_pos hi]
theorem ybvx {g:Gr} (hI:GrI g) {c:Conf} (hR:yblx c):Returns Tryz.prog 69 [grV g,ybg c] (.b (ydy g c)):=by
 refine yom ⟨_,_,Tryz.func69,rfl⟩ (fun _=>.b) (fun _=>.simple rfl) fun G m us hG hr φ M w us' hRl hs hv=>?_
 obtain ⟨u,u2,rfl,h1,h2⟩:=rvl2 hr
 obtain ⟨u',u2',rfl,h3,h4⟩:=ymt hv
 exact yeo u' u2' g c w (ybbw hG h1 h3 hRl hs hI) (ybud hG h2 h4 hRl hs hR)
theorem yyq {g:Gr} (hg:ybc g) {c:Conf} (hR:yblx c) (hb:ydy g c = true) (hl:c.length = g.ports.length) (hc:∀ v,v < c.length -> 1 < (c.getD v []).length /\ (c.getD v []).getD 1 0 < (g.ports.getD v []).length) :
  Returns Tryz.prog 35 [grV g,ybg c] (yj (towP g c 1)):=by
 refine Returns.of (ydbg _ _ ?_)
 have h24:=hg.2.1
 have h1:=ybvx (ybdj hg) hR
 rw [hb] at h1
 have h2:=ybcs (g:=g) (c:=c) (x:=1) (by omega) (by omega) (by omega) hc
 simp only [grV] at h1 h2
 simp only [c35,yddi,yczd,grV,clash,go_sem,Nat.reduceEqDiff,Nat.reduceAdd,Nat.reduceLT,↓reduceIte,reduceCtorEq]
 refine h1.use ?_
 simp only [thenO,ycxh,clash,go_sem,Nat.reduceEqDiff,Nat.reduceAdd,↓reduceIte,reduceCtorEq]
 refine h2.use ?_
 simp only [go_sem]
 exact Sim.refl _
end Sh
end Go.Proofs.YtpngeppkgoaimaaGreatDoor

namespace Go.Proofs.YtpngeppkgoaimaaGreatDoor
namespace Sh
theorem ybqg (a:Nat):difB a a = 0:=(ycu _).2 fun i=>by rw [yjk]; cases a.testBit i <;> rfl
theorem ybfz (S:Sys):∀ (ws:List Nat) (c:Conf) (k:Cnt),k.pend = S.en c -> ∀ (i:Nat) p,(S.run resS ws c k)[i]? = some p -> p.2.rounds = k.rounds + i + 1 /\ p.2.pend = S.en p.1
 | [],c,k,_,i,p,h=>by simp [Sys.run] at h
 | w :: ws,c,k,hk,i,p,h=>by
  unfold Sys.run at h
  split at h
  ·simp at h
  ·have e:resS (S.en c) w = S.en c:=rfl
   rw [e] at h
   have hr:(addP k (S.en c) (S.en (S.mv c (S.en c)))).rounds = k.rounds + 1 /\ (addP k (S.en c) (S.en (S.mv c (S.en c)))).pend = S.en (S.mv c (S.en c)):=by
    unfold addP
    rw [hk,ybqg]
    simp
   cases i with
   | zero =>
    simp only [List.getElem?_cons_zero] at h
    cases h
    exact ⟨hr.1,hr.2⟩
   | succ i =>
    have:=ybfz S ws _ _ hr.2 i p (by simpa using h)
    rw [hr.1] at this
    exact ⟨by omega,this.2⟩
theorem ybnr {S:Sys} {ws:List Nat} {c:Conf} {i:Nat} {p:Conf × Cnt} (h:(S.runs resS ws c)[i]? = some p):p.2.rounds = i:=by
 cases i with
 | zero =>
  simp only [Sys.runs,List.getElem?_cons_zero] at h
  cases h
  rfl
 | succ i =>
  have:=(ybfz S ws c (ydd (S.en c)) rfl i p (by simpa [Sys.runs] using h)).1
  have e:(ydd (S.en c)).rounds = 0:=rfl
  omega
theorem ybgc (S:Sys) (res:Nat -> Nat -> Nat):∀ (ws:List Nat) (c:Conf) (k:Cnt),(S.run res ws c k).length < ws.length -> S.en (((c,k) :: S.run res ws c k).getD (S.run res ws c k).length default).1 = 0
 | [],c,k,h=>by simp at h
 | w :: ws,c,k,h=>by
  unfold Sys.run at h ⊢
  by_cases h0:S.en c = 0
  ·simp only [if_pos h0]
   exact h0
  ·simp only [if_neg h0,List.length_cons] at h ⊢
   exact ybgc S res ws _ _ (by omega)
theorem RunD.over {S:Sys} {res:Nat -> Nat -> Nat} {ws:List Nat} {c:Conf} {n:Nat} {Cs:List Conf} {Ks:List Cnt} (h:RunD S res ws c n Cs Ks):S.en (Cs.getD (n - 1) []) = 0 \/ n = ws.length + 1:=by
 by_cases q:n = ws.length + 1
 ·exact .inr q
 ·left
  have hl:=h.len
  have h1:=h.le
  have h2:=ybgc S res ws c (ydd (S.en c)) (by
   simp only [Sys.runs,List.length_cons] at hl
   omega)
  have e:(S.run res ws c (ydd (S.en c))).length = n - 1:=by simp only [Sys.runs,List.length_cons] at hl; omega
  rw [e] at h2
  have h3:=(h.at_ (show n - 1 < n by have:=h.pos; omega)).2
  have e2:((c,ydd (S.en c)) :: S.run res ws c (ydd (S.en c))).getD (n - 1) default = (Cs.getD (n - 1) [],Ks.getD (n - 1) default):=by
   rw [List.getD_eq_getElem?_getD]
   have h3:((c,ydd (S.en c)) :: S.run res ws c (ydd (S.en c)))[n - 1]? = some (Cs.getD (n - 1) [],Ks.getD (n - 1) default):=h3
   rw [h3]
   rfl
  rw [e2] at h2
  exact h2
theorem ybeo {f:Int × Int -> Bool} {ls:List (Int × Int)} (h:∃ l ∈ ls,f l = true):∃ i:Nat,ydg f ls = i /\ i < ls.length /\ f (ls.getD i (0,0)) = true:=by
 unfold ydg
 cases hq:ls.findIdx? f with
 | none =>
  obtain ⟨l,h1,h2⟩:=h
  have:=List.findIdx?_eq_none_iff.1 hq l h1
  rw [h2] at this
  cases this
 | some i =>
  obtain ⟨h1,h2,_⟩:=List.findIdx?_eq_some_iff_getElem.1 hq
  exact ⟨i,rfl,h1,by rw [getD_at h1]; exact h2⟩
section
variable {nm nd np nt nl:ByteArray} {g:Gr}
theorem yvj (hg:ybc g) (hc:ycb g = true) {c:Conf} (hr:yln g c) {v:Nat} (hv:v < g.ids.length) (hl:c.length = g.ids.length) :
  (v = 0 /\ (towP g c 1).getD v 0 = -1) \/ (v ≠ 0 /\ ∃ u:Nat,u < g.ids.length /\ (towP g c 1).getD v 0 = u /\ (ybi g 0).getD u 0 = (ybi g 0).getD v 0 - 1):=by
 have hpl:=hg.2.2.1
 have h0:0 < g.ports.length:=by have:=hg.1; omega
 have hs:(c.getD v []).getD 1 0 = wayP g (ybi g 0) v:=by rw [hr v hv]; rfl
 rw [ybth (by omega),hs]
 by_cases q:v = 0
 ·subst q
  left
  rw [ybgf hg hc h0]
  exact ⟨rfl,rfl⟩
 ·right
  refine ⟨q,?_⟩
  obtain ⟨u,hu,hd⟩:=yxv hg hc h0 (v:=v) (by omega) q
  obtain ⟨l,hll,hlu⟩:=ybqm hu
  obtain ⟨i,e,hi,ht⟩:=ybeo (f:=yeh (ybi g 0) v) (ls:=g.ports.getD v []) ⟨l,hll,by unfold yeh; rw [hlu,hd,beq_self_eq_true]⟩
  have e':wayP g (ybi g 0) v = i:=e
  rw [e',if_pos (by omega),Int.toNat_natCast]
  have hlk:=hg.ybw (v:=v) (p:=i) (by omega) hi
  unfold ybw at hlk
  refine ⟨((g.ports.getD v []).getD i (0,0)).1.toNat,by omega,by omega,?_⟩
  unfold yeh at ht
  exact beq_iff_eq.1 ht
theorem ywh (hg:ybc g) (hc:ycb g = true) {ws:List Nat} {c:Conf} {n:Nat} {Cs:List Conf} {Ks:List Cnt} (hv:ycs (ybj nm nd np nt nl) g c = true) (hD:RunD (ybh (ybj nm nd np nt nl) g) resS ws c n Cs Ks) (hw:g.ports.length < ws.length) :
  yln g (Cs.getD (n - 1) []):=by
 have hn:=hD.pos
 have hi:=yfw hg hc ybtd hv _ (hD.at_ (show n - 1 < n by omega)).1
 rcases hD.over with h | h
 ·exact (ylp hg hc hi.valid).1 ((ypy hg hc hi.valid).1 h)
 ·have hr:=ybnr (hD.at_ (show n - 1 < n by omega)).2
  intro v hv'
  have h1:=hi.all v hv'
  have hdi:=ykh hg hc (a:=0) (v:=v) (by have:=hg.1; omega) (by have:=hg.2.2.1; omega)
  unfold bfsR at h1
  rw [if_pos (by simp only at hr ⊢; omega)] at h1
  exact h1
end
end Sh
end Go.Proofs.YtpngeppkgoaimaaGreatDoor

namespace Go.Proofs.YtpngeppkgoaimaaGreatDoor
open Go
namespace Sh
open Ev Go.RowKit
set_option maxRecDepth 8000
set_option maxHeartbeats 4000000 in
theorem ybpd {x:NetR} (hx:x.ok) {raw:List Int} (hr:∀ k,inK .i64 (raw.getD k 0)) {l:List Nat} (hb:∀ k,l.getD k 0 < 2 ^ 32):Returns Tryz.prog 8 [.ag (netC x),yj raw,usV l] (.b true):=by
 refine Returns.of (yden _ _ ?_)
 have hC:=yfq hx (most:=8) (by omega)
 simp only [netC] at hC
 simp only [c8,c8_0,c8_1,netC,clash,go_sem,Nat.reduceEqDiff,Nat.reduceAdd,Nat.reduceLT,↓reduceIte]
 refine hC.found (V:=grV) (fun r g h=>h.2.2.2) fun r g h=>?_
 obtain ⟨hg,hcn,hn8,-⟩:=h
 have hI:=ybdj hg
 have hCh:Checked (Lies BqB Bqv) (Lies BqC Bqr) BqP g:=⟨hg,ypx,ykz hg,ype⟩
 have hTx:=yli
 have hVs:=ylo
 have hCf:=yju hg ypx hCh.hf hr
 have hDs:=yxi hg (a:=0) (by have:=hg.1; omega)
 have hdl:=ycm hg (a:=0) (by have:=hg.1; omega)
 have hpl:=hg.2.2.1
 simp only [grV,Int.natCast_zero] at hCf hDs
 simp only [thenO,c8_2,grV,clash,go_sem,Nat.reduceEqDiff,Nat.reduceAdd,Nat.reduceLT,↓reduceIte,reduceCtorEq]
 refine hTx.use ?_
 simp only [go_sem]
 refine hVs.use ?_
 simp only [go_sem,↓reduceIte]
 refine ⟨by decide,hCf.found (V:=ybg) (fun r c h=>h.2) fun r c h=>?_⟩
 obtain ⟨hcv,-⟩:=h
 simp only [go_sem]
 refine ⟨by decide,(yjl l hb 20 (by omega)).found (V:=usV) (fun r ws h=>h.2.2) fun r ws h=>?_⟩
 obtain ⟨hwl,hw,-⟩:=h
 have hRun:=yuu yfx hCh (kind:=4) (by omega) (ycrt _) hcv hw (by omega)
 obtain ⟨n,Cs,Ks,hD⟩:=runD (ybh BqP g) resS ws c
 have hlen:=hD.le
 have hpos:=hD.pos
 obtain ⟨C,hCe⟩:∃ C,Cs.getD (n - 1) [] = C:=⟨_,rfl⟩
 have hCv:ycs BqP g C = true:=by rw [<- hCe]; exact (yfw hg hcn ybtd hcv _ (hD.at_ (show n - 1 < n by omega)).1).valid
 have hR:yln g C:=by rw [<- hCe]; exact ywh hg hcn hcv hD (by omega)
 have hLb:ybq g C = true:=(ylp hg hcn hCv).2 hR
 have hcf:=yft hg hCv
 have hRi:=yvi (ygn hg ypx hCv)
 have hLg:=yml hI hRi
 rw [hLb] at hLg
 have hcb:ydy g C = true:=by
  unfold ybq at hLb
  rw [Bool.and_eq_true] at hLb
  exact hLb.1
 have hPa:=yyq hg hRi hcb (by omega) (fun v hv=>⟨by have:=(hcf.2 v (by omega)).1; omega,(hcf.2 v (by omega)).2.2.2⟩)
 simp only [grV] at hLg hPa
 rw [hD.cs,hD.ks] at hRun
 simp only [grV,ydi,ydn,hD.lC,hD.lK] at hRun
 have e1:((n:Int) - 1).toNat = n - 1:=by omega
 simp only [go_sem,↓reduceIte]
 refine ⟨by decide,hRun.use ?_⟩
 simp only [thenO,c8_3,c8_5,c8_6,e1,hCe,clash,go_sem,Nat.reduceEqDiff,Nat.reduceAdd,↓reduceIte,reduceCtorEq]
 refine ⟨by decide,ikw (by omega) (by omega),⟨by omega,by omega⟩,hPa.use ?_⟩
 obtain ⟨T,hT⟩:∃ T,towP g C 1 = T:=⟨_,rfl⟩
 have hTl:T.length = C.length:=by rw [<- hT,ybfk]
 obtain ⟨nn,hnn⟩:∃ m,g.ports.length = m:=⟨_,rfl⟩
 have hCl:C.length = nn:=by rw [hcf.1]; omega
 rw [hCl] at hTl
 have f1:((nn:Int) != (nn:Int)) = false:=by simp
 rw [hT]
 simp only [thenO,c8_7,clash,go_sem,Nat.reduceEqDiff,Nat.reduceAdd,↓reduceIte,reduceCtorEq]
 refine hLg.use ?_
 simp only [c8_9,yj,yba,hTl,hnn,f1,clash,go_sem,Nat.reduceEqDiff,Nat.reduceAdd,↓reduceIte,reduceCtorEq]
 obtain ⟨D,hDd⟩:∃ D,ybi g 0 = D:=⟨_,rfl⟩
 have hstep:∀ v,v < nn -> (v = 0 /\ T.getD v 0 = -1) \/ (v ≠ 0 /\ ∃ u:Nat,u < nn /\ T.getD v 0 = u /\ D.getD u 0 = D.getD v 0 - 1):=fun v hv=>by
  have:=yvj hg hcn hR (v:=v) (by omega) hcf.1
  rw [hT,hDd,hpl,hnn] at this
  exact this
 have h0p:=hg.1
 have hDin:∀ v,v < nn -> 0 <= D.getD v 0 /\ D.getD v 0 < nn:=fun v hv=>by
  have:=ykh hg hcn (a:=0) (v:=v) (by omega) (by omega)
  rw [hDd,hnn] at this
  exact this
 have hD0:D.getD 0 0 = 0:=by rw [<- hDd]; exact ylb hg hcn (by omega)
 rw [hDd] at hDs hdl
 rw [hnn] at hdl
 refine ybe (σ:=Nat) (fun v=>⟨[(13,.i .i64 v),(12,yj T),(11,ybg C),(7,.pt (7,0) 0 0)],[(7,.one (some ⟨28,true,2,1,fun _=>[yj g.ids,yba g.ports]⟩))]⟩) (fun v=>v <= nn) (fun v=>nn - v) 0 (Nat.zero_le _) ?_ ?_
 ·refine yg [] [] [] ?_
  simp only [yj,yba,hnn,hTl,allQ,live,yc,Int.natCast_zero,go_sem,Nat.reduceEqDiff,↓reduceIte,reduceCtorEq]
 intro v hv
 by_cases hlt:v < nn
 ·have t1:decide ((v:Int) < (nn:Int)) = true:=decide_eq_true (by omega)
  simp only [ycnq,ycxr,t1,yj,hTl,clash,go_sem,Nat.reduceEqDiff,Nat.reduceAdd,↓reduceIte,reduceCtorEq]
  refine ybe (σ:=Nat × Nat) (fun p=>⟨[(15,.i .i64 p.2),(14,.i .i64 p.1),(13,.i .i64 v),(12,yj T),(11,ybg C),(7,.pt (7,0) 0 0)],[(7,.one (some ⟨28,true,2,1,fun _=>[yj g.ids,yba g.ports]⟩))]⟩) (fun p=>p.1 < nn /\ (p.2:Int) + D.getD p.1 0 = D.getD v 0) (fun p=>(D.getD p.1 0).toNat) (v,0) ⟨hlt,by simp⟩ ?_ ?_
  ·refine yg [] [] [] ?_
   simp only [yj,hTl,allQ,live,yc,Int.natCast_zero,go_sem,Nat.reduceEqDiff,↓reduceIte,reduceCtorEq]
  rintro ⟨u,k⟩ ⟨hu,huk⟩
  simp only at hu huk
  have d1:=hDin u hu
  have d2:=hDin v hlt
  have t2:decide ((k:Int) <= (nn:Int)) = true:=decide_eq_true (by omega)
  have t3:decide ((u:Int) >= 0) = true:=decide_eq_true (by omega)
  have t4:decide ((u:Int) < (nn:Int)) = true:=decide_eq_true (by omega)
  rcases hstep u hu with ⟨h0,e⟩ | ⟨hne,w,hw1,hw2,hw3⟩
  ·have t5:decide (T.getD u 0 >= 0) = false:=decide_eq_false (by omega)
   rw [h0,hD0] at huk
   have g0:((u:Int) != 0) = false:=by rw [bne_eq_false_iff_eq]; omega
   have g1:(((k:Nat):Int) != (C.getD v []).getD 0 0) = false:=by
    rw [hR v (by omega),hDd]
    show ((k:Int) != D.getD v 0) = false
    rw [bne_eq_false_iff_eq]
    omega
   have g2:(((k:Nat):Int) != D.getD v 0) = false:=by rw [bne_eq_false_iff_eq]; omega
   have hv2:(C.getD v []).length = 2:=(hcf.2 v (by omega)).1
   simp only [ycsq,ycwm,t2,t3,t4,t5,yj,ybg,hTl,hCl,hv2,g0,g1,clash,go_sem,Int.reduceToNat,Nat.reduceEqDiff,Nat.reduceAdd,↓reduceIte,reduceCtorEq]
   repeat (refine ⟨by omega,?_⟩)
   refine hDs.use ?_
   simp only [thenO,ydcw,yj,hdl,g2,clash,go_sem,Nat.reduceEqDiff,Nat.reduceAdd,↓reduceIte,reduceCtorEq]
   repeat (refine ⟨by omega,?_⟩)
   refine ⟨ikw (by omega) (by omega),?_⟩
   refine yh (v + 1) (by omega) (by omega) ?_
   refine yg [] [] [] ?_
   simp only [allQ,live,yc,yu,go_sem,Nat.reduceEqDiff,↓reduceIte,reduceCtorEq]
   omega
  ·have t5:decide ((w:Int) >= 0) = true:=decide_eq_true (by omega)
   simp only [ycsq,ycwr,t2,t3,t4,t5,yj,hTl,hw2,clash,go_sem,Nat.reduceEqDiff,Nat.reduceAdd,↓reduceIte,reduceCtorEq]
   repeat (refine ⟨by omega,?_⟩)
   refine ⟨ikw (by omega) (by omega),?_⟩
   have d3:=hDin w hw1
   refine yh (w,k + 1) ⟨hw1,by simp only; omega⟩ (by simp only; omega) ?_
   refine yg [] [] [] ?_
   simp only [allQ,live,yc,yu,go_sem,Nat.reduceEqDiff,↓reduceIte,reduceCtorEq]
   omega
 ·obtain rfl:v = nn:=by omega
  have t1:decide ((v:Int) < (v:Int)) = false:=decide_eq_false (by omega)
  have hK:=yib
  simp only [ycnq,ycvv,t1,yj,hTl,clash,go_sem,Nat.reduceEqDiff,Nat.reduceAdd,↓reduceIte,reduceCtorEq]
  refine hK.use ?_
  simp only [thenO,clash,go_sem,Nat.reduceAdd,↓reduceIte,reduceCtorEq]
  exact Sim.refl _
end Sh
end Go.Proofs.YtpngeppkgoaimaaGreatDoor

namespace Go.Proofs.YtpngeppkgoaimaaGreatDoor
open Go.ChangeShapes Go.WideShapes Go.ChangeAt Go.RowKit Go.Joins Go.WideMaps Go.WideElems
set_option linter.unusedVariables false

set_option maxRecDepth 100000 in
theorem bfsWays_door (os:Os) (args:Array Value):laidMetH Tryz.prog Rows.bfsWaysRow.laid ((World.doorLaid Tryz.prog 14 os).forCall (fun _ _=>0) ⟨#[],args,[]⟩).memory :=
 laidMetH_of_parts3 (fuel:=8) (laidMet_of_run' 8 (by kernel_rfl) (by kernel_rfl)) (by kernel_rfl) (by kernel_rfl)

set_option maxRecDepth 100000 in
theorem bfsWays_lifted (os:Os) (started:os.Started) (H:Type) (enc:TypeId × Value -> H) :
  ReturnsInHanded {} Tryz.checked os 8 .any (fun w args=>(Rows.bfsWaysSpec.pre enc Tryz.prog Tryz.f8 [] false w args /\ laidMetH Tryz.prog Rows.bfsWaysRow.laid w) /\ sizedMet enc Tryz.prog Tryz.f8 (OpenSpec.ofChange Rows.bfsWaysSpec) false w args)
   (Rows.bfsWaysSpec.post enc Tryz.prog Tryz.f8 false true false false):=by
 refine returnsInHanded_of_change_and (C:=Tryz.checked) (X:=fun w _=>laidMetH Tryz.prog Rows.bfsWaysRow.laid w) (fun _ _ _ hh h=>h.of_heap hh) own started (by kernel_rfl) Tryz.func8
  (ChangeSpec.witness_shaped (enc:=enc) (C:=Tryz.checked) (os:=os) (X:=fun w _=>laidMetH Tryz.prog Rows.bfsWaysRow.laid w) false (World.doorLaid Tryz.prog 14 os) #[.agg #[.int .i64 0,.slice .none 0 0,.slice .none 0 0,.slice .none 0 0,.bool false,.bool false],.slice .none 0 0,.slice .none 0 0] 8 rfl (World.shaped_of_RefB (by kernel_rfl) (by kernel_rfl)) (by kernel_rfl) (by kernel_rfl) (by kernel_rfl) (bfsWays_door os _)) ?_
 intro W base args ds gs before hval0 hW _ _ hL _
 have hval:∀ (j:Nat) t v,Tryz.f8.params[j]? = some t -> args[j]? = some v -> Value.okWide Tryz.prog W .any base t v:=hval0
 have hW':=hW
 obtain ⟨p,q,hA0,hV,rfl,hfz,hnd⟩:=hW
 have hA:DataW.TrodAll enc Tryz.prog W 0 (fun _=>true) true Tryz.f8.params.toList args.toList ds p:=hA0
 rw [Tryz.params8] at hA hval
 obtain ⟨v0,vs0,d0,ds0,p0,q0,hargs,rfl,rfl,h0,r0⟩:=trodAll_cons hA
 obtain ⟨v1,vs1,d1,ds1,p1,q1,rfl,rfl,rfl,h1,r1⟩:=trodAll_cons r0
 obtain ⟨v2,vs2,d2,ds2,p2,q2,rfl,rfl,rfl,h2,r2⟩:=trodAll_cons r1
 obtain ⟨rfl,rfl,rfl⟩:=trodAll_nil r2
 obtain rfl:args = #[v0,v1,v2]:=by cases args; simp_all
 obtain ⟨rfl,rfl⟩:=trodVars_none hV
 have k0:=h0
 have k1:=h1
 have k2:=h2
 have lt0:∀ x ∈ p0,x.block < W.heap.size:=by obtain ⟨m,hm⟩:=k0; exact DataW.trod_lt m _ _ _ hm
 have lt1:∀ x ∈ p1,x.block < W.heap.size:=by obtain ⟨m,hm⟩:=k1; exact DataW.trod_lt m _ _ _ hm
 have lt2:∀ x ∈ p2,x.block < W.heap.size:=by obtain ⟨m,hm⟩:=k2; exact DataW.trod_lt m _ _ _ hm
 obtain ⟨x0,u0,hx0,rr0,a0⟩:=Sh.ylz (hval 0 24 v0 rfl rfl) h0
 obtain ⟨m1,hm1⟩:=h1
 obtain ⟨A1,len1,cap1,rfl⟩:=okWide_slice Tryz.underlying22 (hval 1 22 v1 rfl rfl)
 obtain ⟨x1,hx1,u1,a1,rr1⟩:=Sh.yge (v:=.slice A1 len1 cap1) hm1
 obtain ⟨m2,hm2⟩:=h2
 obtain ⟨A2,len2,cap2,rfl⟩:=okWide_slice Tryz.underlying25 (hval 2 25 v2 rfl rfl)
 obtain ⟨x2,hx2,u2,a2,rr2⟩:=Sh.ypp (v:=.slice A2 len2 cap2) hm2
 clear hA0 hval0
 have ha:Sh.RVL (Sh.memW W).b.get Sh.om0 [.ag (Sh.netC x0),Sh.yj x1,Sh.usV x2] [u0,u1,u2]:=.cons rr0 (.cons rr1 (.cons rr2 .nil))
 have hv:Ev.VRL (Sh.phiW W) [u0,u1,u2] [v0,.slice A1 len1 cap1,.slice A2 len2 cap2]:=.cons a0 (.cons (Sh.yeb a1) (.cons (Sh.yeb a2) .nil))
 refine (Sh.yjs (Sh.ybpd hx0 (Sh.yqn hx1) hx2) ⟨_,_,Tryz.func8,rfl⟩ Ev.yms ha hv).mono fun e W' ⟨he,bel⟩=>?_
 subst he
 exact ⟨_,rfl,_,_,_,[],_,[],hW',trodAll_mk1 (shut_bool Tryz.underlying4 _),(trodAll_cons_mk (Below.trod laidOut (by kernel_rfl) (of_decide_eq_true (by kernel_rfl)) k0 bel lt0) (trodAll_cons_mk (Below.trod laidOut (by kernel_rfl) (of_decide_eq_true (by kernel_rfl)) k1 bel lt1) (trodAll_cons_mk (Below.trod laidOut (by kernel_rfl) (of_decide_eq_true (by kernel_rfl)) k2 bel lt2) trodAll_mk0))),rfl,bel.frame _,fun h=>by cases h⟩

theorem bfsWays_over:Rows.BfsWaysSaid :=
 OpenClaim.holds_of_wide 8 Tryz.f8 rfl rfl rfl rfl rfl rfl rfl ⟨rfl,rfl,rfl,rfl,rfl⟩ rfl rfl rfl rfl rfl (by kernel_rfl) Tryz.func8 (by kernel_rfl)
  (of_decide_eq_true (by kernel_rfl)) (by unfold Func.isWrapper; first | (rw [if_pos (by decide +kernel)]; kernel_rfl) | (rw [if_neg (by decide +kernel)]; exact ⟨rfl,rfl⟩))
  (fun os started H enc _=>bfsWays_lifted os started H enc)

theorem bfsWays_holds:Rows.BfsWaysCardSaid :=
 Claim7.holds_tied_plain_at .later [] [.data] true Rows.bfsWaysCard.stood.harness true
  bfsWays_over (fun _ h=>by cases h) (by kernel_rfl) (fun _ h=>by cases h) bfsWays_row_tie rfl ⟨rfl,rfl⟩ (by kernel_rfl) rfl
  (fun f fn hf hfn=>by
   obtain rfl:f = 8:=Option.some.inj ((show Tryz.prog.funcNamed Rows.bfsWaysRow.func = some 8 by kernel_rfl).symm.trans hf) |>.symm
   obtain rfl:fn = Tryz.f8:=(Option.some.inj (Tryz.func8.symm.trans hfn)).symm
   exact ⟨by kernel_rfl,fun j t ht=>by
    rw [Tryz.params8] at ht
    have hm:t ∈ [24,22,25]:=by simpa using Array.mem_of_getElem? ht
    have hall:([24,22,25].all fun u=>!Tryz.prog.wantsStandIn u) = true:=by kernel_rfl
    exact (show Tryz.prog.wantsStandIn t = false by simpa using List.all_eq_true.1 hall t (by simpa using hm))⟩)
  (by kernel_rfl)
#print axioms bfsWays_holds
end Go.Proofs.YtpngeppkgoaimaaGreatDoor

