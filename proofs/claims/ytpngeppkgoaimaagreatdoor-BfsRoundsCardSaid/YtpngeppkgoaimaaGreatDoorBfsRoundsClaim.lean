/- For every input, BfsRounds returns true, and its arguments read as before; the listed table is tied to the program's text. -/
import Derived.Test.YtpngeppkgoaimaaGreatDoorPkBa14
import Derived.Test.YtpngeppkgoaimaaGreatDoorPkBa13
import Derived.Test.YtpngeppkgoaimaaGreatDoorPkBa16
import Derived.Test.YtpngeppkgoaimaaGreatDoorTie
import Derived.Test.YtpngeppkgoaimaaGreatDoorCards
import Derived.LaidMore
import Derived.Stop.Joined
import Derived.SevenTiedAt
set_option linter.unusedSimpArgs false
set_option linter.unusedVariables false
namespace Go.Proofs.YtpngeppkgoaimaaGreatDoor
open Go
namespace Sh
open Ev Go.RowKit
set_option maxRecDepth 8000
theorem ybjf {g:Gr} (hI:GrI g):Returns Tryz.prog 53 [grV g] (.b (ych g)):=by
 refine yom ⟨_,_,Tryz.func53,rfl⟩ (fun _=>.b) (fun _=>.simple rfl) fun G m us hG hr φ M w us' hRl hs hv=>?_
 obtain ⟨u,rfl,h1⟩:=rvl1 hr
 obtain ⟨u',rfl,h2⟩:=yfi hv
 exact ygr u' g w (ybbw hG h1 h2 hRl hs hI)
theorem ycqo (x lo hi:Int):Returns Tryz.prog 54 [.i .i64 x,.i .i64 lo,.i .i64 hi] (.b (decide (x >= lo) && decide (x <= hi))):=by
 refine Returns.of (ydaj _ _ ?_)
 simp only [c54,ycve,ydcd,sim_b,go_sem,Nat.reduceEqDiff,Nat.reduceAdd,↓reduceIte,reduceCtorEq]
 by_cases h:x >= lo <;> simp [h]
theorem ymm {R:List Int} {x:Int} {ls:List (Int × Int)} {i:Nat} (hi:i < ls.length):yfn R x (ls.take (i + 1)) = (yfn R x (ls.take i) || decide (R[(ls.getD i (0,0)).1.toNat]? = some x)):=by
 unfold yfn
 rw [List.take_succ_eq_append_getElem hi,List.any_append,getD_at hi]
 simp
def yil (d:Int) (R:List Int) (v:Nat) (ls:List (Int × Int)):List Int:=if decide (R.getD v 0 < 0) && yfn R (d - 1) ls then R.set v d else R
theorem ybhx {R:List Int} {x:Int} {ls:List (Int × Int)} {i:Nat} (h:yfn R x (ls.take i) = true):yfn R x ls = true:=by
 unfold yfn at *
 obtain ⟨l,h1,h2⟩:=List.any_eq_true.1 h
 exact List.any_eq_true.2 ⟨l,List.mem_of_mem_take h1,h2⟩
theorem ybpw {d:Int} (hd:1 <= d) {R:List Int} {v:Nat} (hv:v < R.length) {ls:List (Int × Int)} (h:(yil d R v ls).getD v 0 < 0):yil d R v ls = R /\ R.getD v 0 < 0 /\ yfn R (d - 1) ls = false:=by
 unfold yil at h ⊢
 split at h
 ·rename_i hc
  rw [List.getD_eq_getElem?_getD,List.getElem?_set_self hv] at h
  simp at h
  omega
 ·rename_i hc
  rw [if_neg hc]
  refine ⟨rfl,h,?_⟩
  cases hq:yfn R (d - 1) ls with
  | false=>rfl
  | true=>exact absurd (by rw [decide_eq_true h,hq]; rfl) hc
theorem ybmk {d:Int} {R:List Int} {v:Nat} {ls:List (Int × Int)} {i:Nat} (h:¬ (yil d R v (ls.take i)).getD v 0 < 0) (hd:1 <= d):yil d R v (ls.take i) = yil d R v ls:=by
 unfold yil at h ⊢
 by_cases h0:R.getD v 0 < 0
 ·by_cases h1:yfn R (d - 1) (ls.take i) = true
  ·rw [decide_eq_true h0,h1,ybhx h1]
  ·rw [if_neg (by simp [h1])] at h
   exact absurd h0 h
 ·rw [decide_eq_false h0,Bool.false_and,Bool.false_and]
theorem ybqa (g:Gr) (d:Int) (R:List Int) (v:Nat):(yhc g d R v).length = R.length:=by unfold yhc; split <;> simp
theorem yrq (g:Gr) (d:Int):∀ (l:List Nat) (R:List Int),(l.foldl (yhc g d) R).length = R.length
 | [],_=>rfl
 | v :: l,R=>by rw [List.foldl_cons,yrq g d l,ybqa]
def yie (g:Gr) (a d:Nat):List Int:=(List.range d).foldl (fun R d=>stepD g R (d + 1)) (start g a)
theorem yuj (g:Gr) (a:Nat):∀ d,(yie g a d).length = g.ports.length
 | 0=>by simp [yie,start]
 | d + 1=>by
  have:=yuj g a d
  unfold yie at *
  rw [List.range_succ,List.foldl_append]
  show (stepD g _ _).length = _
  rw [show ∀ R e,stepD g R e = (List.range g.ports.length).foldl (yhc g e) R from fun _ _=>rfl,yrq]
  exact this
set_option maxHeartbeats 2000000 in
theorem yxi {g:Gr} (hg:ybc g) {a:Nat} (ha:a < g.ports.length):Returns Tryz.prog 23 [grV g,.i .i64 a] (yj (ybi g a)):=by
 refine Returns.of (yczo _ _ ?_)
 have hV:=ybjf (ybdj hg)
 rw [(ybz g).2 hg] at hV
 have h24:=hg.2.1
 obtain ⟨n,hn⟩:∃ n,g.ports.length = n:=⟨_,rfl⟩
 rw [hn] at ha h24
 have hIn:=ycqo (a:Int) 0 ((n:Int) - 1)
 have e1:(decide ((a:Int) >= 0) && decide ((a:Int) <= (n:Int) - 1)) = true:=by simp; omega
 rw [e1] at hIn
 simp only [grV,yba,hn] at hV
 simp only [c23,ycvp,ycwq,grV,yba,hn,go_sem,Nat.reduceEqDiff,Nat.reduceAdd,Nat.reduceLT,↓reduceIte]
 refine hV.use ?_
 simp only [thenO,go_sem,Nat.reduceEqDiff,Nat.reduceAdd,↓reduceIte,reduceCtorEq]
 refine ⟨ikw (by omega) (by omega),hIn.use ?_⟩
 simp only [ycwj,ycvh,ydbk,go_sem,Nat.reduceEqDiff,Nat.reduceAdd,↓reduceIte,reduceCtorEq]
 let B:Nat × Fam:=(2,.one (some ⟨28,true,2,1,fun _=>[yj g.ids,yba g.ports]⟩))
 refine ybe (σ:=Nat) (fun k=>⟨[(7,.i .i64 k),(5,.i .i64 n),(2,.pt (2,0) 0 0),(1,.i .i64 a),(6,.os (100,0) 0 k true)],[(100,.one (some ⟨3,false,1,k,fun _=>[.i .i64 (-1)]⟩)),B]⟩) (fun k=>k <= n) (fun k=>n - k) 0 (Nat.zero_le _) ?_ ?_
 ·refine yg [] [100] [] ?_
  simp only [B,yba,hn,allQ,live,yc,Int.natCast_zero,go_sem,Nat.reduceEqDiff,Nat.reduceBEq,↓reduceIte,reduceCtorEq]
  exact ⟨(100,0),rfl,rfl,rfl⟩
 intro k hk
 by_cases hlt:k < n
 ·have t1:decide ((k:Int) < (n:Int)) = true:=decide_eq_true (by omega)
  simp only [ycpy,ycyv,ycvz,t1,B,splice,go_sem,Nat.reduceEqDiff,Nat.reduceAdd,Nat.reduceLeDiff,Nat.reduceLT,↓reduceIte,reduceCtorEq]
  refine ⟨⟨by omega,by omega⟩,ikw (by omega) (by omega),?_⟩
  refine yh (k + 1) (by omega) (by omega) ?_
  refine yg [(100,fun i=>(33,i))] [] [] ?_
  simp only [yba,hn,allQ,live,yc,yu,go_sem,Nat.reduceEqDiff,↓reduceIte,reduceCtorEq]
  refine ⟨by omega,fun i hi=>?_⟩
  by_cases q:i < k
  ·simp only [if_pos q]
   simp only [go_sem,live,yc,go_sem,reduceCtorEq]
  ·obtain rfl:i = k:=by omega
   simp only [if_neg q,Nat.sub_self,Nat.zero_mul]
   simp only [go_sem,live,yc,go_sem,reduceCtorEq]
 obtain rfl:k = n:=by omega
 have t1:decide ((k:Int) < (k:Int)) = false:=decide_eq_false (by omega)
 simp only [ycpy,ycyc,ycbs,t1,B,splice,go_sem,Nat.reduceEqDiff,Nat.reduceAdd,↓reduceIte,reduceCtorEq]
 refine ⟨⟨by omega,by omega⟩,by omega,?_⟩
 refine ybe (σ:=Nat) (fun d=>⟨[(8,.i .i64 ((d:Int) + 1)),(5,.i .i64 k),(2,.pt (2,0) 0 0),(6,.os (100,0) 0 k true)],[(100,.one (some ⟨3,false,1,k,fun i=>[.i .i64 ((yie g a d).getD i 0)]⟩)),B]⟩) (fun d=>d <= k - 1) (fun d=>k - d) 0 (Nat.zero_le _) ?_ ?_
 ·refine yg [] [] [] ?_
  simp only [B,yba,hn,allQ,live,yc,yu,Int.natCast_zero,go_sem,Nat.reduceEqDiff,↓reduceIte,reduceCtorEq]
  refine ⟨by omega,fun i hi=>?_⟩
  have e:(yie g a 0).getD i 0 = if i = a then 0 else -1:=by
   show ((List.replicate g.ports.length (-1:Int)).set a 0).getD i 0 = _
   rw [List.getD_eq_getElem?_getD,List.getElem?_set,hn]
   by_cases q:a = i
   ·subst q; simp [hi]
   ·rw [if_neg q,if_neg (fun e=>q e.symm),List.getElem?_replicate,if_pos (by omega)]
    rfl
  rw [e]
  by_cases q:i = a
  ·simp only [if_pos q]
   simp only [go_sem,live,yc,go_sem,reduceCtorEq]
  ·simp only [if_neg q]
   simp only [go_sem,live,yc,go_sem,reduceCtorEq]
 intro d hd
 have hld:=yuj g a d
 rw [hn] at hld
 by_cases hlt:d < k - 1
 ·have t1:decide ((d:Int) + 1 < (k:Int)) = true:=decide_eq_true (by omega)
  simp only [ybqv,ycdq,t1,B,go_sem,Nat.reduceEqDiff,Nat.reduceAdd,↓reduceIte,reduceCtorEq]
  refine ybe (σ:=Nat) (fun v=>⟨[(9,.i .i64 v),(8,.i .i64 ((d:Int) + 1)),(5,.i .i64 k),(2,.pt (2,0) 0 0),(6,.os (100,0) 0 k true)],[(100,.one (some ⟨3,false,1,k,fun i=>[.i .i64 (((List.range v).foldl (yhc g ((d + 1:Nat):Int)) (yie g a d)).getD i 0)]⟩)),B]⟩) (fun v=>v <= k) (fun v=>k - v) 0 (Nat.zero_le _) ?_ ?_
  ·refine yg [] [] [] ?_
   simp only [B,yba,hn,allQ,live,yc,yu,Int.natCast_zero,go_sem,Nat.reduceEqDiff,↓reduceIte,reduceCtorEq]
   exact fun i hi=>rfl
  intro v hv
  obtain ⟨R,hR⟩:∃ R,(List.range v).foldl (yhc g ((d + 1:Nat):Int)) (yie g a d) = R:=⟨_,rfl⟩
  have hlR:R.length = k:=by rw [<- hR,yrq,hld]
  rw [hR]
  by_cases hlt2:v < k
  ·have t2:decide ((v:Int) < (k:Int)) = true:=decide_eq_true (by omega)
   obtain ⟨ls,hls⟩:∃ ls,g.ports.getD v [] = ls:=⟨_,rfl⟩
   have hdl:=hg.deg_lt (v:=v)
   rw [hls] at hdl
   have hnxt:(List.range (v + 1)).foldl (yhc g ((d + 1:Nat):Int)) (yie g a d) = yil ((d + 1:Nat):Int) R v ls:=by
    rw [List.range_succ,List.foldl_append,hR]
    show yhc g _ R v = _
    unfold yhc yil
    rw [hls]
   simp only [ybrh,ychy,t2,B,go_sem,Nat.reduceEqDiff,Nat.reduceAdd,↓reduceIte,reduceCtorEq]
   refine ybe (σ:=Nat) (fun i=>⟨[(10,.i .i64 i),(9,.i .i64 v),(8,.i .i64 ((d:Int) + 1)),(5,.i .i64 k),(2,.pt (2,0) 0 0),(6,.os (100,0) 0 k true)],[(100,.one (some ⟨3,false,1,k,fun j=>[.i .i64 ((yil ((d + 1:Nat):Int) R v (ls.take i)).getD j 0)]⟩)),B]⟩) (fun i=>i <= ls.length) (fun i=>ls.length - i) 0 (Nat.zero_le _) ?_ ?_
   ·refine yg [] [] [] ?_
    simp only [B,allQ,live,yc,yu,Int.natCast_zero,go_sem,Nat.reduceEqDiff,↓reduceIte,reduceCtorEq]
    simp [yil,yfn]
   intro i hi
   by_cases hlt3:i < ls.length
   ·have t3:decide ((i:Int) < (ls.length:Int)) = true:=decide_eq_true (by omega)
    by_cases hneg:(yil ((d + 1:Nat):Int) R v (ls.take i)).getD v 0 < 0
    ·have t4:decide ((yil ((d + 1:Nat):Int) R v (ls.take i)).getD v 0 < 0) = true:=decide_eq_true hneg
     obtain ⟨p1,p2,p3⟩:=ybpw (d:=((d + 1:Nat):Int)) (by omega) (by omega) hneg
     rw [p1] at t4 ⊢
     simp only [ybgt,yckp,t3,t4,B,yba,ybb,hls,go_sem,Nat.reduceEqDiff,Nat.reduceAdd,Nat.reduceLeDiff,↓reduceIte,reduceCtorEq]
     have hlk:=hg.ybw (v:=v) (p:=i) (by omega) (by rw [hls]; exact hlt3)
     unfold ybw at hlk
     rw [hls,hn] at hlk
     obtain ⟨to,hto⟩:∃ t:Nat,(ls.getD i (0,0)).1 = t:=⟨(ls.getD i (0,0)).1.toNat,by omega⟩
     have hsn:=ymm (R:=R) (x:=((d + 1:Nat):Int) - 1) hlt3
     rw [hto,Int.toNat_natCast] at hsn ⊢
     rw [hto] at hlk
     have hRt:R[to]? = some (R.getD to 0):=by
      have:to < R.length:=by omega
      simp [List.getD,this]
     refine ⟨⟨by omega,by omega⟩,⟨by omega,by omega⟩,by omega,⟨by omega,by omega⟩,⟨by omega,by omega⟩,⟨by omega,by omega⟩,by omega,ikw (by omega) (by omega),fun hm=>?_,fun hm=>?_⟩
     ·have e2:yil ((d + 1:Nat):Int) R v (ls.take (i + 1)) = R.set v ((d + 1:Nat):Int):=by
       unfold yil
       rw [hsn,hRt,decide_eq_true (congrArg some (show R.getD to 0 = ((d + 1:Nat):Int) - 1 by omega)),Bool.or_true,decide_eq_true p2]
       rfl
      simp only [ybro,ycfc,splice,go_sem,Nat.reduceEqDiff,Nat.reduceAdd,↓reduceIte,reduceCtorEq]
      refine ⟨⟨by omega,by omega⟩,by omega,ikw (by omega) (by omega),?_⟩
      refine yh (i + 1) (by omega) (by omega) ?_
      refine yg [] [] [] ?_
      simp only [e2,allQ,live,yc,yu,go_sem,Nat.reduceEqDiff,↓reduceIte,reduceCtorEq]
      refine ⟨by omega,fun j hj=>?_⟩
      have e5:(R.set v ((d + 1:Nat):Int)).getD j 0 = if j = v then (d:Int) + 1 else R.getD j 0:=by
       rw [List.getD_eq_getElem?_getD,List.getElem?_set]
       by_cases q:v = j
       ·subst q; simp [hlR,hlt2]
       ·rw [if_neg q,if_neg (fun e=>q e.symm),<- List.getD_eq_getElem?_getD]
      rw [e5]
      by_cases q:j = v
      ·simp only [if_pos q]
       simp only [go_sem,live,yc,go_sem,reduceCtorEq]
      ·simp only [if_neg q]
       simp only [go_sem,live,yc,go_sem,reduceCtorEq]
     ·have e2:yil ((d + 1:Nat):Int) R v (ls.take (i + 1)) = R:=by
       unfold yil
       have hne:decide (some (R.getD to 0) = some (((d + 1:Nat):Int) - 1)) = false:=decide_eq_false (fun q=>hm (by have:=Option.some.inj q; omega))
       rw [hsn,hRt,hne,Bool.or_false,p3,Bool.and_false]
       rfl
      simp only [ybro,go_sem,Nat.reduceEqDiff,Nat.reduceAdd,↓reduceIte,reduceCtorEq]
      refine ⟨ikw (by omega) (by omega),?_⟩
      refine yh (i + 1) (by omega) (by omega) ?_
      refine yg [] [] [] ?_
      simp only [e2,allQ,live,yc,yu,go_sem,Nat.reduceEqDiff,↓reduceIte,reduceCtorEq]
      omega
    ·have t4:decide ((yil ((d + 1:Nat):Int) R v (ls.take i)).getD v 0 < 0) = false:=decide_eq_false hneg
     have e2:=ybmk hneg (by omega)
     rw [e2] at t4 ⊢
     simp only [ybry,ybgt,t3,t4,B,yba,ybb,hls,go_sem,Nat.reduceEqDiff,Nat.reduceAdd,↓reduceIte,reduceCtorEq]
     refine ⟨⟨by omega,by omega⟩,⟨by omega,by omega⟩,by omega,ikw (by omega) (by omega),?_⟩
     refine yh (v + 1) (by omega) (by omega) ?_
     refine yg [] [] [] ?_
     simp only [allQ,live,yc,yu,go_sem,Nat.reduceEqDiff,↓reduceIte,reduceCtorEq]
     exact ⟨by omega,fun i hi=>by rw [<- List.range_succ,hnxt]⟩
   ·obtain rfl:i = ls.length:=by omega
    have t3:decide ((ls.length:Int) < (ls.length:Int)) = false:=decide_eq_false (by omega)
    rw [List.take_length]
    simp only [ybry,ybgt,t3,B,yba,ybb,hls,go_sem,Nat.reduceEqDiff,Nat.reduceAdd,↓reduceIte,reduceCtorEq]
    refine ⟨⟨by omega,by omega⟩,ikw (by omega) (by omega),?_⟩
    refine yh (v + 1) (by omega) (by omega) ?_
    refine yg [] [] [] ?_
    simp only [allQ,live,yc,yu,go_sem,Nat.reduceEqDiff,↓reduceIte,reduceCtorEq]
    exact ⟨by omega,fun i hi=>by rw [<- List.range_succ,hnxt]⟩
  ·obtain rfl:v = k:=by omega
   have t2:decide ((v:Int) < (v:Int)) = false:=decide_eq_false (by omega)
   simp only [ycjp,ybrh,t2,B,go_sem,Nat.reduceEqDiff,Nat.reduceAdd,↓reduceIte,reduceCtorEq]
   refine ⟨ikw (by omega) (by omega),?_⟩
   refine yh (d + 1) (by omega) (by omega) ?_
   refine yg [] [] [] ?_
   have e3:yie g a (d + 1) = R:=by
    rw [<- hR]
    unfold yie
    rw [List.range_succ,List.foldl_append]
    show stepD g _ _ = _
    unfold stepD
    rw [hn]
   simp only [e3,allQ,live,yc,yu,go_sem,Nat.reduceEqDiff,↓reduceIte,reduceCtorEq]
   omega
 ·have t1:decide ((d:Int) + 1 < (k:Int)) = false:=decide_eq_false (by omega)
  obtain rfl:d = k - 1:=by omega
  have e4:yie g a (k - 1) = ybi g a:=by unfold yie ybi; rw [hn]
  rw [e4] at hld ⊢
  simp only [ybqv,ycca,t1,B,go_sem,Nat.reduceEqDiff,Nat.reduceAdd,↓reduceIte,reduceCtorEq]
  unfold yj
  rw [hld]
  exact Sim.refl _
end Sh
end Go.Proofs.YtpngeppkgoaimaaGreatDoor

namespace Go.Proofs.YtpngeppkgoaimaaGreatDoor
open Go
namespace Sh
open Ev Go.RowKit
set_option maxRecDepth 8000
set_option maxHeartbeats 4000000 in
theorem ybei {x:NetR} (hx:x.ok) {raw:List Int} (hr:∀ k,inK .i64 (raw.getD k 0)) {l:List Nat} (hb:∀ k,l.getD k 0 < 2 ^ 32):Returns Tryz.prog 7 [.ag (netC x),yj raw,usV l] (.b true):=by
 refine Returns.of (ydfu _ _ ?_)
 have hC:=yfq hx (most:=8) (by omega)
 simp only [netC] at hC
 simp only [c7,c7_0,c7_1,netC,clash,go_sem,Nat.reduceEqDiff,Nat.reduceAdd,Nat.reduceLT,↓reduceIte]
 refine hC.found (V:=grV) (fun r g h=>h.2.2.2) fun r g h=>?_
 obtain ⟨hg,hcn,hn8,-⟩:=h
 have hI:=ybdj hg
 have hCh:Checked (Lies BqB Bqv) (Lies BqC Bqr) BqP g:=⟨hg,ypx,ykz hg,ype⟩
 have hTx:=yli
 have hVs:=ylo
 have hCf:=yju hg ypx hCh.hf hr
 have hDs:=yxi hg (a:=0) (by have:=hg.1; omega)
 have hdl:=ycm hg (a:=0) (by have:=hg.1; omega)
 simp only [grV,Int.natCast_zero] at hCf hDs
 simp only [thenO,c7_2,grV,clash,go_sem,Nat.reduceEqDiff,Nat.reduceAdd,Nat.reduceLT,↓reduceIte,reduceCtorEq]
 refine hTx.use ?_
 simp only [go_sem]
 refine hVs.use ?_
 simp only [go_sem,↓reduceIte]
 refine ⟨by decide,hCf.found (V:=ybg) (fun r c h=>h.2) fun r c h=>?_⟩
 obtain ⟨hcv,-⟩:=h
 simp only [go_sem]
 refine ⟨by decide,(yjl l hb 120 (by omega)).found (V:=usV) (fun r ws h=>h.2.2) fun r ws h=>?_⟩
 obtain ⟨hwl,hw,-⟩:=h
 have hRun:=yuu yfx hCh (kind:=3) (by omega) (yrj _) hcv hw (by omega)
 obtain ⟨n,Cs,Ks,hD⟩:=runD (ybh BqP g) yin ws c
 have hlen:=hD.le
 have hpos:=hD.pos
 have hRd:∀ k,k < n -> RInv (ybh BqP g) (fun c=>ycs BqP g c = true) (bfsR g) (Cs.getD k []) (Ks.getD k default):=fun k hk=>yfw hg hcn yis hcv _ (hD.at_ hk).1
 rw [hD.cs,hD.ks] at hRun
 simp only [grV,ydi,ydn,hD.lC,hD.lK] at hRun
 simp only [go_sem,↓reduceIte]
 refine ⟨by decide,hRun.use ?_⟩
 simp only [thenO,c7_3,clash,go_sem,Nat.reduceEqDiff,Nat.reduceAdd,↓reduceIte,reduceCtorEq]
 refine ⟨by decide,hDs.use ?_⟩
 obtain ⟨D,hDd⟩:∃ D,ybi g 0 = D:=⟨_,rfl⟩
 obtain ⟨nn,hnn⟩:∃ m,g.ports.length = m:=⟨_,rfl⟩
 rw [hDd,hnn] at hdl
 rw [hDd]
 have hpl:=hg.2.2.1
 simp only [c7_4,c7_6,clash,go_sem,Nat.reduceEqDiff,Nat.reduceAdd,↓reduceIte]
 refine ybe (σ:=Nat) (fun k=>⟨[(12,.i .i64 k),(8,.sl 1 n fun i=>[ybg (Cs.getD i [])]),(9,.sl 5 n fun i=>cntV (Ks.getD i default)),(11,yj D)],[]⟩) (fun k=>k <= n) (fun k=>n - k) 0 (Nat.zero_le _) ?_ ?_
 ·refine yg [] [] [] ?_
  simp only [go_sem,allQ,live,yc,Int.natCast_zero,go_sem,Nat.reduceEqDiff,↓reduceIte,reduceCtorEq]
 ·intro k hk
  by_cases hlt:k < n
  ·have t1:decide ((k:Int) < (n:Int)) = true:=decide_eq_true (by omega)
   have hI:=hRd k hlt
   obtain ⟨C,hC⟩:∃ C,Cs.getD k [] = C:=⟨_,rfl⟩
   obtain ⟨K,hK⟩:∃ K,Ks.getD k default = K:=⟨_,rfl⟩
   rw [hC,hK] at hI
   have hcf:=yft hg hI.valid
   simp only [c7_7,c7_9,t1,clash,go_sem,Nat.reduceEqDiff,Nat.reduceAdd,↓reduceIte,reduceCtorEq]
   refine ybe (σ:=Nat) (fun v=>⟨[(13,.i .i64 v),(12,.i .i64 k),(8,.sl 1 n fun i=>[ybg (Cs.getD i [])]),(9,.sl 5 n fun i=>cntV (Ks.getD i default)),(11,yj D)],[]⟩) (fun v=>v <= nn) (fun v=>nn - v) 0 (Nat.zero_le _) ?_ ?_
   ·refine yg [] [] [] ?_
    simp only [go_sem,allQ,live,yc,Int.natCast_zero,go_sem,Nat.reduceEqDiff,↓reduceIte,reduceCtorEq]
   intro v hv
   by_cases hlt2:v < nn /\ (K.rounds:Int) > 0
   ·have t2:decide ((v:Int) < (nn:Int)) = true:=decide_eq_true (by omega)
    have t3:decide ((K.rounds:Int) > 0) = true:=decide_eq_true hlt2.2
    obtain ⟨hv2,-,-⟩:=hcf.2 v (by omega)
    have hCl:C.length = nn:=by rw [hcf.1]; omega
    have f1:((nn:Int) != (nn:Int)) = false:=by simp
    have f2:(((2:Nat):Int) != 2) = false:=rfl
    have hb1:=hI.all v (show v < g.ids.length by omega)
    unfold bfsR at hb1
    rw [hDd] at hb1
    by_cases hq:D.getD v 0 < (K.rounds:Int)
    ·rw [if_pos hq] at hb1
     have f3:(C.getD v []).getD 0 0 = D.getD v 0:=by rw [hb1]; rfl
     have f4:decide (D.getD v 0 < (K.rounds:Int)) = true:=decide_eq_true hq
     have f5:decide (D.getD v 0 >= (K.rounds:Int)) = false:=decide_eq_false (by omega)
     have f6:(D.getD v 0 != D.getD v 0) = false:=by simp
     simp only [ybkx,ycpc,ycqx,yctu,ycpn,t2,t3,cntV,yj,ybg,hC,hK,hdl,hCl,hv2,f1,f2,f3,f4,f5,f6,clash,go_sem,Int.reduceToNat,Nat.reduceEqDiff,Nat.reduceAdd,Nat.reduceLeDiff,↓reduceIte,reduceCtorEq]
     repeat (refine ⟨by omega,?_⟩)
     refine ⟨ikw (by omega) (by omega),?_⟩
     refine yh (v + 1) (by omega) (by omega) ?_
     refine yg [] [] [] ?_
     simp only [go_sem,allQ,live,yc,yu,go_sem,Nat.reduceEqDiff,↓reduceIte,reduceCtorEq]
     omega
    ·rw [if_neg hq] at hb1
     have f4:decide (D.getD v 0 < (K.rounds:Int)) = false:=decide_eq_false hq
     have f5:decide (D.getD v 0 >= (K.rounds:Int)) = true:=decide_eq_true (by omega)
     have f6:decide ((C.getD v []).getD 0 0 < (K.rounds:Int)) = false:=decide_eq_false (by omega)
     simp only [ybkx,ycpc,ycqx,yctu,ycpn,t2,t3,cntV,yj,ybg,hC,hK,hdl,hCl,hv2,f1,f2,f4,f5,f6,clash,go_sem,Int.reduceToNat,Nat.reduceEqDiff,Nat.reduceAdd,Nat.reduceLeDiff,↓reduceIte,reduceCtorEq]
     repeat (refine ⟨by omega,?_⟩)
     refine ⟨ikw (by omega) (by omega),?_⟩
     refine yh (v + 1) (by omega) (by omega) ?_
     refine yg [] [] [] ?_
     simp only [go_sem,allQ,live,yc,yu,go_sem,Nat.reduceEqDiff,↓reduceIte,reduceCtorEq]
     omega
   ·by_cases hlv:v < nn
    ·have t2:decide ((v:Int) < (nn:Int)) = true:=decide_eq_true (by omega)
     have t3:decide ((K.rounds:Int) > 0) = false:=decide_eq_false (fun q=>hlt2 ⟨hlv,q⟩)
     simp only [c7_8,ybkx,t2,t3,cntV,hK,hdl,yj,clash,go_sem,Nat.reduceEqDiff,Nat.reduceAdd,Nat.reduceLeDiff,↓reduceIte,reduceCtorEq]
     refine ⟨by omega,?_⟩
     refine ⟨ikw (by omega) (by omega),?_⟩
     refine yh (k + 1) (by omega) (by omega) ?_
     refine yg [] [] [] ?_
     simp only [go_sem,allQ,live,yc,yu,go_sem,Nat.reduceEqDiff,↓reduceIte,reduceCtorEq]
     omega
    ·have t2:decide ((v:Int) < (nn:Int)) = false:=decide_eq_false (by omega)
     simp only [c7_8,ybkx,t2,cntV,hdl,yj,clash,go_sem,Nat.reduceEqDiff,Nat.reduceAdd,↓reduceIte,reduceCtorEq]
     refine ⟨ikw (by omega) (by omega),?_⟩
     refine yh (k + 1) (by omega) (by omega) ?_
     refine yg [] [] [] ?_
     simp only [go_sem,allQ,live,yc,yu,go_sem,Nat.reduceEqDiff,↓reduceIte,reduceCtorEq]
     omega
  ·obtain rfl:k = n:=by omega
   have t1:decide ((k:Int) < (k:Int)) = false:=decide_eq_false (by omega)
   have hK:=yib
   simp only [c7_7,ydeb,t1,clash,go_sem,Nat.reduceEqDiff,Nat.reduceAdd,↓reduceIte,reduceCtorEq]
   refine hK.use ?_
   simp only [thenO,clash,go_sem,Nat.reduceAdd,↓reduceIte,reduceCtorEq]
   exact Sim.refl _
end Sh
end Go.Proofs.YtpngeppkgoaimaaGreatDoor

namespace Go.Proofs.YtpngeppkgoaimaaGreatDoor
open Go.ChangeShapes Go.WideShapes Go.ChangeAt Go.RowKit Go.Joins Go.WideMaps Go.WideElems
set_option linter.unusedVariables false

set_option maxRecDepth 100000 in
theorem bfsRounds_door (os:Os) (args:Array Value):laidMetH Tryz.prog Rows.bfsRoundsRow.laid ((World.doorLaid Tryz.prog 14 os).forCall (fun _ _=>0) ⟨#[],args,[]⟩).memory :=
 laidMetH_of_parts3 (fuel:=8) (laidMet_of_run' 8 (by kernel_rfl) (by kernel_rfl)) (by kernel_rfl) (by kernel_rfl)

set_option maxRecDepth 100000 in
theorem bfsRounds_lifted (os:Os) (started:os.Started) (H:Type) (enc:TypeId × Value -> H) :
  ReturnsInHanded {} Tryz.checked os 7 .any (fun w args=>(Rows.bfsRoundsSpec.pre enc Tryz.prog Tryz.f7 [] false w args /\ laidMetH Tryz.prog Rows.bfsRoundsRow.laid w) /\ sizedMet enc Tryz.prog Tryz.f7 (OpenSpec.ofChange Rows.bfsRoundsSpec) false w args)
   (Rows.bfsRoundsSpec.post enc Tryz.prog Tryz.f7 false true false false):=by
 refine returnsInHanded_of_change_and (C:=Tryz.checked) (X:=fun w _=>laidMetH Tryz.prog Rows.bfsRoundsRow.laid w) (fun _ _ _ hh h=>h.of_heap hh) own started (by kernel_rfl) Tryz.func7
  (ChangeSpec.witness_shaped (enc:=enc) (C:=Tryz.checked) (os:=os) (X:=fun w _=>laidMetH Tryz.prog Rows.bfsRoundsRow.laid w) false (World.doorLaid Tryz.prog 14 os) #[.agg #[.int .i64 0,.slice .none 0 0,.slice .none 0 0,.slice .none 0 0,.bool false,.bool false],.slice .none 0 0,.slice .none 0 0] 8 rfl (World.shaped_of_RefB (by kernel_rfl) (by kernel_rfl)) (by kernel_rfl) (by kernel_rfl) (by kernel_rfl) (bfsRounds_door os _)) ?_
 intro W base args ds gs before hval0 hW _ _ hL _
 have hval:∀ (j:Nat) t v,Tryz.f7.params[j]? = some t -> args[j]? = some v -> Value.okWide Tryz.prog W .any base t v:=hval0
 have hW':=hW
 obtain ⟨p,q,hA0,hV,rfl,hfz,hnd⟩:=hW
 have hA:DataW.TrodAll enc Tryz.prog W 0 (fun _=>true) true Tryz.f7.params.toList args.toList ds p:=hA0
 rw [Tryz.params7] at hA hval
 obtain ⟨v0,vs0,d0,ds0,p0,q0,hargs,rfl,rfl,h0,r0⟩:=trodAll_cons hA
 obtain ⟨v1,vs1,d1,ds1,p1,q1,rfl,rfl,rfl,h1,r1⟩:=trodAll_cons r0
 obtain ⟨v2,vs2,d2,ds2,p2,q2,rfl,rfl,rfl,h2,r2⟩:=trodAll_cons r1
 obtain ⟨rfl,rfl,rfl⟩:=trodAll_nil r2
 obtain rfl:args = #[v0,v1,v2]:=by cases args; simp_all
 obtain ⟨rfl,rfl⟩:=trodVars_none hV
 have k0:=h0
 have k1:=h1
 have k2:=h2
 have lt0:∀ x ∈ p0,x.block < W.heap.size:=by obtain ⟨m,hm⟩:=k0; exact DataW.trod_lt m _ _ _ hm
 have lt1:∀ x ∈ p1,x.block < W.heap.size:=by obtain ⟨m,hm⟩:=k1; exact DataW.trod_lt m _ _ _ hm
 have lt2:∀ x ∈ p2,x.block < W.heap.size:=by obtain ⟨m,hm⟩:=k2; exact DataW.trod_lt m _ _ _ hm
 obtain ⟨x0,u0,hx0,rr0,a0⟩:=Sh.ylz (hval 0 24 v0 rfl rfl) h0
 obtain ⟨m1,hm1⟩:=h1
 obtain ⟨A1,len1,cap1,rfl⟩:=okWide_slice Tryz.underlying22 (hval 1 22 v1 rfl rfl)
 obtain ⟨x1,hx1,u1,a1,rr1⟩:=Sh.yge (v:=.slice A1 len1 cap1) hm1
 obtain ⟨m2,hm2⟩:=h2
 obtain ⟨A2,len2,cap2,rfl⟩:=okWide_slice Tryz.underlying25 (hval 2 25 v2 rfl rfl)
 obtain ⟨x2,hx2,u2,a2,rr2⟩:=Sh.ypp (v:=.slice A2 len2 cap2) hm2
 clear hA0 hval0
 have ha:Sh.RVL (Sh.memW W).b.get Sh.om0 [.ag (Sh.netC x0),Sh.yj x1,Sh.usV x2] [u0,u1,u2]:=.cons rr0 (.cons rr1 (.cons rr2 .nil))
 have hv:Ev.VRL (Sh.phiW W) [u0,u1,u2] [v0,.slice A1 len1 cap1,.slice A2 len2 cap2]:=.cons a0 (.cons (Sh.yeb a1) (.cons (Sh.yeb a2) .nil))
 refine (Sh.yjs (Sh.ybei hx0 (Sh.yqn hx1) hx2) ⟨_,_,Tryz.func7,rfl⟩ Ev.yms ha hv).mono fun e W' ⟨he,bel⟩=>?_
 subst he
 exact ⟨_,rfl,_,_,_,[],_,[],hW',trodAll_mk1 (shut_bool Tryz.underlying4 _),(trodAll_cons_mk (Below.trod laidOut (by kernel_rfl) (of_decide_eq_true (by kernel_rfl)) k0 bel lt0) (trodAll_cons_mk (Below.trod laidOut (by kernel_rfl) (of_decide_eq_true (by kernel_rfl)) k1 bel lt1) (trodAll_cons_mk (Below.trod laidOut (by kernel_rfl) (of_decide_eq_true (by kernel_rfl)) k2 bel lt2) trodAll_mk0))),rfl,bel.frame _,fun h=>by cases h⟩

theorem bfsRounds_over:Rows.BfsRoundsSaid :=
 OpenClaim.holds_of_wide 7 Tryz.f7 rfl rfl rfl rfl rfl rfl rfl ⟨rfl,rfl,rfl,rfl,rfl⟩ rfl rfl rfl rfl rfl (by kernel_rfl) Tryz.func7 (by kernel_rfl)
  (of_decide_eq_true (by kernel_rfl)) (by unfold Func.isWrapper; first | (rw [if_pos (by decide +kernel)]; kernel_rfl) | (rw [if_neg (by decide +kernel)]; exact ⟨rfl,rfl⟩))
  (fun os started H enc _=>bfsRounds_lifted os started H enc)

theorem bfsRounds_holds:Rows.BfsRoundsCardSaid :=
 Claim7.holds_tied_plain_at .later [] [.data] true Rows.bfsRoundsCard.stood.harness true
  bfsRounds_over (fun _ h=>by cases h) (by kernel_rfl) (fun _ h=>by cases h) bfsRounds_row_tie rfl ⟨rfl,rfl⟩ (by kernel_rfl) rfl
  (fun f fn hf hfn=>by
   obtain rfl:f = 7:=Option.some.inj ((show Tryz.prog.funcNamed Rows.bfsRoundsRow.func = some 7 by kernel_rfl).symm.trans hf) |>.symm
   obtain rfl:fn = Tryz.f7:=(Option.some.inj (Tryz.func7.symm.trans hfn)).symm
   exact ⟨by kernel_rfl,fun j t ht=>by
    rw [Tryz.params7] at ht
    have hm:t ∈ [24,22,25]:=by simpa using Array.mem_of_getElem? ht
    have hall:([24,22,25].all fun u=>!Tryz.prog.wantsStandIn u) = true:=by kernel_rfl
    exact (show Tryz.prog.wantsStandIn t = false by simpa using List.all_eq_true.1 hall t (by simpa using hm))⟩)
  (by kernel_rfl)
#print axioms bfsRounds_holds
end Go.Proofs.YtpngeppkgoaimaaGreatDoor

