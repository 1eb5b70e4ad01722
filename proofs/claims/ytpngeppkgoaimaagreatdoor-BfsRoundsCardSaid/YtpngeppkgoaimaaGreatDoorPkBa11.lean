/- Lemmas, joined: SgF SgG SgH SgN SgI SgK Pr Pt SgL SgM SgJ. -/
import Derived.Test.YtpngeppkgoaimaaGreatDoorPkBa10
set_option linter.unusedSimpArgs false
set_option linter.unusedVariables false
namespace Go.Proofs.YtpngeppkgoaimaaGreatDoor
namespace Sh
open Go Ev
set_option maxRecDepth 8000

theorem yqh {l:List Int} {k:Nat} (h:k < l.length):countP (l.take (k + 1)) = countP (l.take k) + (if l.getD k 0 ≠ 0 then 1 else 0):=by
 unfold countP
 rw [List.take_succ_eq_append_getElem h,List.filter_append,List.length_append,getD_at h]
 by_cases q:l[k] = 0
 ·simp [q]
 ·simp [q]
theorem ybde {l:List Int} (k:Nat):0 <= countP (l.take k) /\ countP (l.take k) <= k:=by
 have:=countP_le (l.take k)
 simp only [List.length_take] at this
 omega
theorem ybrv (l:List Int) (hl:l.length <= 1000):Returns Tryz.prog 229 [yj l] (.i .i64 (countP l)):=by
 refine Returns.of (yctc _ _ ?_)
 simp only [c229,ycmf,ycle,ycnc,yj,go_sem,Nat.reduceAdd,↓reduceIte,reduceCtorEq]
 refine ybe (σ:=Nat) (fun k=>⟨[(8,.i .i64 k),(3,.i .i64 (countP (l.take k))),(6,yj l),(7,.i .i64 l.length)],[]⟩) (fun k=>k <= l.length) (fun k=>l.length - k) 0 (Nat.zero_le _) ?_ ?_
 ·refine yg [] [] [] ?_
  simp only [yj,allQ,live,yc,yu,Int.natCast_zero,go_sem,Nat.reduceEqDiff,↓reduceIte,reduceCtorEq]
  simp [countP]
 ·intro k hk
  simp only [ycfi,yckk,ychx,yckm,ycfh,ycmw,yj,yu,go_sem,Nat.reduceEqDiff,Nat.reduceAdd,↓reduceIte,reduceCtorEq]
  have hb:=ybde (l:=l) k
  refine ⟨fun hlt=>⟨by omega,fun h0=>⟨ikw (by omega) (by omega),ikw (by omega) (by omega),?_⟩,fun h0=>⟨ikw (by omega) (by omega),?_⟩⟩,fun hlt=>?_⟩
  ·have hk':k < l.length:=by omega
   refine yh (k + 1) (by omega) (by omega) ?_
   refine yg [] [] [] ?_
   simp only [yqh hk',if_pos h0,allQ,live,yc,yu,go_sem,Nat.reduceEqDiff,↓reduceIte,reduceCtorEq]
   simp
  ·have hk':k < l.length:=by omega
   refine yh (k + 1) (by omega) (by omega) ?_
   refine yg [] [] [] ?_
   simp only [yqh hk',if_neg (not_not_intro h0),allQ,live,yc,yu,go_sem,Nat.reduceEqDiff,↓reduceIte,reduceCtorEq]
   simp
  ·rw [List.take_of_length_le (by omega)]
theorem yny {l:List Int} {k:Nat} (h:k < l.length):ydp (l.take (k + 1)) = (if l.getD k 0 > (ydp (l.take k)).1 then (l.getD k 0,(ydp (l.take k)).1) else ((ydp (l.take k)).1,max (ydp (l.take k)).2 (l.getD k 0))):=by
 unfold ydp
 rw [List.take_succ_eq_append_getElem h,List.foldl_append,getD_at h]
 rfl
theorem ypw (l:List Int) (hl:l.length <= 1000):Returns Tryz.prog 232 [yj l] (.tp [.i .i64 (ydp l).1,.i .i64 (ydp l).2]):=by
 refine Returns.of (yctj _ _ ?_)
 simp only [c232,ycnf,ycbq,ycfz,yj,go_sem,Nat.reduceAdd,↓reduceIte,reduceCtorEq]
 refine ybe (σ:=Nat) (fun k=>⟨[(8,.i .i64 k),(2,.i .i64 (ydp (l.take k)).1),(3,.i .i64 (ydp (l.take k)).2),(6,yj l),(7,.i .i64 l.length)],[]⟩) (fun k=>k <= l.length) (fun k=>l.length - k) 0 (Nat.zero_le _) ?_ ?_
 ·refine yg [] [] [] ?_
  simp only [yj,allQ,live,yc,yu,Int.natCast_zero,go_sem,Nat.reduceEqDiff,↓reduceIte,reduceCtorEq]
  simp [ydp]
 ·intro k hk
  simp only [ychh,ycbt,ycfl,ycfq,yced,ycnn,ycni,yj,go_sem,Nat.reduceEqDiff,Nat.reduceAdd,↓reduceIte,reduceCtorEq]
  refine ⟨fun hlt=>⟨by omega,fun h0=>⟨ikw (by omega) (by omega),?_⟩,fun h0=>⟨ikw (by omega) (by omega),?_⟩⟩,fun hlt=>?_⟩
  ·have hk':k < l.length:=by omega
   refine yh (k + 1) (by omega) (by omega) ?_
   refine yg [] [] [] ?_
   simp only [yny hk',if_pos h0,allQ,live,yc,yu,go_sem,Nat.reduceEqDiff,↓reduceIte,reduceCtorEq]
   simp
  ·have hk':k < l.length:=by omega
   refine yh (k + 1) (by omega) (by omega) ?_
   refine yg [] [] [] ?_
   simp only [yny hk',if_neg h0,allQ,live,yc,yu,go_sem,Nat.reduceEqDiff,↓reduceIte,reduceCtorEq]
   simp
  ·rw [List.take_of_length_le (by omega)]
   exact Sim.refl _
theorem yzd (l:List Int) (x:Int) (hl:l.length <= 100000):Returns Tryz.prog 237 [yj l,.i .i64 x] (.b (l.elem x)):=by
 refine Returns.of (yctq _ _ ?_)
 simp only [c237,ycep,yclc,yj,go_sem,Nat.reduceEqDiff,Nat.reduceAdd,↓reduceIte,reduceCtorEq]
 refine (ybuq l x hl).use ?_
 simp only [thenO,sim_b,go_sem,Nat.reduceEqDiff,Nat.reduceAdd,↓reduceIte,reduceCtorEq]
 unfold idxP
 cases h:l.findIdx? (fun y=>x == y) with
 | none =>
  rw [List.findIdx?_eq_none_iff] at h
  have:l.elem x = false:=by
   rw [List.elem_eq_mem,decide_eq_false_iff_not]
   intro hm
   have:=h x hm
   simp at this
  rw [this]; simp
 | some i =>
  obtain ⟨h1,h2,_⟩:=List.findIdx?_eq_some_iff_getElem.1 h
  have:l.elem x = true:=by
   rw [List.elem_eq_mem,decide_eq_true_eq]
   have:x = l[i]:=by simpa using h2
   rw [this]; exact List.getElem_mem h1
  rw [this]; simp
theorem ybhw {l:List Int} {n:Nat} {r:Int} (h:l.elem r = true):ysm l (n + 1) r = ysm l n (r + 1):=by
 show (if l.elem r then _ else _) = _; rw [if_pos h]
theorem ybjv {l:List Int} {n:Nat} {r:Int} (h:l.elem r = false):ysm l n r = r:=by
 cases n with
 | zero=>rfl
 | succ n=>show (if l.elem r then _ else _) = _; rw [if_neg (by rw [h]; simp)]
theorem yzy {l:List Int} {k:Nat} (h:∀ j:Nat,j < k -> l.elem (j:Int) = true):k <= l.length:=by
 have h1:((List.range k).map fun (j:Nat)=>(j:Int)).Nodup:=by
  rw [List.Nodup,List.pairwise_map]
  exact List.nodup_range.imp fun {a b} hab e=>hab (by omega)
 have h2:((List.range k).map fun (j:Nat)=>(j:Int)) ⊆ l:=fun x hx=>by
  obtain ⟨j,hj,rfl⟩:=List.mem_map.1 hx
  have:=h j (List.mem_range.1 hj)
  simpa using this
 have:=List.Nodup.length_le_of_subset h1 h2
 simpa using this
theorem ycph (l:List Int) (hl:l.length <= 1000):Returns Tryz.prog 233 [yj l] (.i .i64 (mexP l)):=by
 refine Returns.of (ycsn _ _ ?_)
 simp only [c233,ycci,yccc,yj,go_sem]
 refine ybe (σ:=Nat) (fun k=>⟨[(3,.i .i64 k),(0,yj l)],[]⟩) (fun k=>(∀ j:Nat,j < k -> l.elem (j:Int) = true) /\ mexP l = ysm l (l.length + 1 - k) k) (fun k=>l.length + 1 - k) 0 ⟨fun j h=>absurd h (Nat.not_lt_zero _),rfl⟩ ?_ ?_
 ·refine yg [] [] [] ?_
  simp only [yj,allQ,live,yc,Int.natCast_zero,go_sem,↓reduceIte,reduceCtorEq]
 ·intro k ⟨hk,he⟩
  have hb:=yzy hk
  simp only [ycmu,ycme,yceg,yj,go_sem,Nat.reduceEqDiff,Nat.reduceAdd,↓reduceIte,reduceCtorEq]
  refine (yzd l k (by omega)).use ?_
  simp only [thenO,yu,go_sem,Nat.reduceEqDiff,Nat.reduceAdd,↓reduceIte,reduceCtorEq]
  refine ⟨fun h=>⟨ikw (by omega) (by omega),?_⟩,fun h=>?_⟩
  ·have hk2:∀ j:Nat,j < k + 1 -> l.elem (j:Int) = true:=fun j hj=>by
    by_cases q:j < k
    ·exact hk j q
    ·obtain rfl:j = k:=by omega
     exact h
   have hb2:=yzy hk2
   refine yh (k + 1) ⟨hk2,?_⟩ (by omega) ?_
   ·rw [he,show l.length + 1 - k = (l.length + 1 - (k + 1)) + 1 by omega,ybhw h]; simp
   ·refine yg [] [] [] ?_
    simp only [allQ,live,yc,yu,go_sem,↓reduceIte,reduceCtorEq]
    simp
  ·rw [he,ybjv h]
theorem ybom (x:Int):Returns Tryz.prog 231 [.i .i64 x] (.b (x != 0)):=by
 refine Returns.of (ycns _ _ ?_)
 simp only [c231,ycli,ycbh,sim_b,go_sem,Nat.reduceEqDiff,Nat.reduceAdd,↓reduceIte,reduceCtorEq]
theorem yvy (l:List Int) (hl:l.length <= 1000):Returns Tryz.prog 230 [yj l,.fn 231 [] []] (.i .i64 (ydt l)):=by
 refine Returns.of (ycpw _ _ ?_)
 simp only [c230,ychg,ybzy,yj,go_sem,Nat.reduceAdd,↓reduceIte,reduceCtorEq]
 refine ybe (σ:=Nat) (fun k=>⟨[(8,.i .i64 k),(0,yj l),(1,.fn 231 [] []),(7,.i .i64 l.length)],[]⟩) (fun k=>k <= l.length /\ (l.take k).findIdx? (· != 0) = none) (fun k=>l.length - k) 0 ⟨Nat.zero_le _,by simp⟩ ?_ ?_
 ·refine yg [] [] [] ?_
  simp only [yj,allQ,live,yc,Int.natCast_zero,go_sem,Nat.reduceEqDiff,↓reduceIte,reduceCtorEq]
 ·intro k ⟨hk,hno⟩
  simp only [yckq,yciq,ycig,ycbi,ycbw,ycjx,yj,yu,go_sem,Nat.reduceEqDiff,Nat.reduceAdd,↓reduceIte,reduceCtorEq]
  refine ⟨fun hlt=>⟨by omega,(ybom _).use ?_⟩,fun hlt=>?_⟩
  ·have hlt:k < l.length:=by omega
   simp only [thenO,yu,go_sem,Nat.reduceEqDiff,Nat.reduceAdd,↓reduceIte,reduceCtorEq]
   rw [getD_at hlt]
   refine ⟨fun ha=>?_,fun ha=>⟨ikw (by omega) (by omega),?_⟩⟩
   ·have:l.findIdx? (· != 0) = some k:=by
     rw [List.findIdx?_eq_some_iff_getElem]
     refine ⟨hlt,by simpa using ha,fun j hj=>?_⟩
     rw [List.findIdx?_eq_none_iff] at hno
     have:=hno l[j] (List.mem_take_iff_getElem.2 ⟨j,by omega,rfl⟩)
     simpa using this
    unfold ydt
    rw [this]
   ·refine yh (k + 1) ⟨by omega,?_⟩ (by omega) ?_
    ·rw [List.take_succ_eq_append_getElem hlt,List.findIdx?_append,hno]
     simp [ha]
    ·refine yg [] [] [] ?_
     simp only [allQ,live,yc,yu,go_sem,Nat.reduceEqDiff,↓reduceIte,reduceCtorEq]
     simp
  ·obtain rfl:k = l.length:=by omega
   rw [List.take_length] at hno
   unfold ydt
   rw [hno]
end Sh
end Go.Proofs.YtpngeppkgoaimaaGreatDoor

namespace Go.Proofs.YtpngeppkgoaimaaGreatDoor
namespace Sh
open Go Ev
set_option maxRecDepth 8000

theorem ybdu {l:List Int} {k:Nat} (h:k < l.length):yiu (l.take (k + 1)) = min (yiu (l.take k)) (l.getD k 0):=by
 unfold yiu
 rw [List.take_succ_eq_append_getElem h,List.foldl_append,getD_at h]
 rfl
theorem yxa {l:List Int} {k:Nat} (h:k < l.length):(l.take (k + 1)).sum = (l.take k).sum + l.getD k 0:=by
 rw [List.take_succ_eq_append_getElem h,List.sum_append,getD_at h]
 simp
theorem ybqk {l:List Int} (h:∀ x ∈ l,InB x):∀ k,k <= l.length -> -1073741824 * (k:Int) <= (l.take k).sum /\ (l.take k).sum <= 1073741824 * (k:Int)
 | 0,_=>by simp
 | k + 1,hk=>by
  have ih:=ybqk h k (by omega)
  rw [yxa (by omega)]
  have:=h l[k] (List.getElem_mem (by omega))
  rw [<- getD_at (d:=0) (show k < l.length by omega)] at this
  unfold InB at this
  omega
theorem ybyx (op:Int) (l:List Int) (hl:l.length <= 24) (hb:∀ x ∈ l,InB x):Returns Tryz.prog 222 [.i .i64 op,yj l] (.i .i64 (ygx op l)):=by
 refine Returns.of (ycsk _ _ ?_)
 have hin:∀ k,k < l.length -> InB (l.getD k 0):=fun k hk=>by rw [getD_at hk]; exact hb _ (List.getElem_mem hk)
 obtain ⟨L,hL⟩:∃ L,yj l = L:=⟨_,rfl⟩
 have hLs:L = .sl 1 l.length (fun k=>[.i .i64 (l.getD k 0)]):=hL.symm
 simp only [c222,yclt,ycdb,ycgl,ycmn,ycem,ycdh,ycjy,ycbr,yceq,ycjg,ybsj,ybtz,ybqd,ybtl,ybnk,ybsu,ybof,ybpu,ybtj,ybsg,ybnp,ybtu,ybpr,ybrt,ybmw,ybrj,ybkz,yblw,yble,ybpk,ybut,ybpf,ybsc,ybpx,ybqp,ybtv,ybti,yj,go_sem,Int.reduceToNat,Nat.reduceEqDiff,Nat.reduceAdd,↓reduceIte,reduceCtorEq]
 have hcount:=ybrv l (by omega)
 have htwo:=ypw l (by omega)
 simp only [yj] at hcount htwo
 refine ⟨fun h20=>hcount.use ?_,fun h20=>⟨fun h21=>hcount.use ?_,fun h21=>⟨fun h22=>hcount.use ?_,fun h22=>⟨fun h23=>?_,fun h23=>⟨fun h24=>?_,fun h24=>⟨fun h25=>htwo.use ?_,fun h25=>⟨fun h26=>?_,fun h26=>⟨fun h27=>?_,fun h27=>⟨fun h28=>htwo.use ?_,fun h28=>?_⟩⟩⟩⟩⟩⟩⟩⟩⟩
 ·simp only [thenO,go_sem,Nat.reduceEqDiff,Nat.reduceAdd,↓reduceIte,reduceCtorEq]
  refine (ydu _).use ?_
  simp only [yu,go_sem]
  simp [ygx,h20]
 ·simp only [thenO,go_sem,Nat.reduceEqDiff,Nat.reduceAdd,↓reduceIte,reduceCtorEq]
  refine (ydu _).use ?_
  simp only [yu,go_sem]
  simp [ygx,h21]
 ·simp only [thenO,yu,go_sem,Nat.reduceEqDiff,Nat.reduceAdd,↓reduceIte,reduceCtorEq]
  simp [ygx,h22]
 ·have:=yvy l (by omega)
  simp only [yj] at this
  refine this.use ?_
  simp only [thenO,yu,go_sem,Nat.reduceEqDiff,Nat.reduceAdd,↓reduceIte,reduceCtorEq]
  simp [ygx,h23]
 ·refine ybe (σ:=Nat) (fun k=>⟨[(42,.i .i64 k),(5,.i .i64 (yiu (l.take k))),(40,yj l),(41,.i .i64 l.length)],[]⟩) (fun k=>k <= l.length) (fun k=>l.length - k) 0 (Nat.zero_le _) ?_ ?_
  ·refine yg [] [] [] ?_
   simp only [yj,allQ,live,yc,yu,Int.natCast_zero,go_sem,Nat.reduceEqDiff,↓reduceIte,reduceCtorEq]
   simp [yiu]
  ·intro k hk
   simp only [yj,yu,go_sem,Nat.reduceEqDiff,Nat.reduceAdd,↓reduceIte,reduceCtorEq]
   refine ⟨fun hlt=>⟨by omega,ikw (by omega) (by omega),?_⟩,fun hlt=>?_⟩
   ·have hk':k < l.length:=by omega
    refine yh (k + 1) (by omega) (by omega) ?_
    refine yg [] [] [] ?_
    simp only [ybdu hk',allQ,live,yc,yu,go_sem,Nat.reduceEqDiff,↓reduceIte,reduceCtorEq]
    simp
   ·rw [List.take_of_length_le (by omega)]
    simp [ygx,h24]
 ·simp only [thenO,yu,go_sem,Nat.reduceEqDiff,Nat.reduceAdd,↓reduceIte,reduceCtorEq]
  simp [ygx,h25]
 ·refine ybe (σ:=Nat) (fun k=>⟨[(63,.i .i64 k),(10,.i .i64 (l.take k).sum),(61,yj l),(62,.i .i64 l.length)],[]⟩) (fun k=>k <= l.length) (fun k=>l.length - k) 0 (Nat.zero_le _) ?_ ?_
  ·refine yg [] [] [] ?_
   simp only [yj,allQ,live,yc,yu,Int.natCast_zero,go_sem,Nat.reduceEqDiff,↓reduceIte,reduceCtorEq]
   simp
  ·intro k hk
   simp only [yj,go_sem,Nat.reduceEqDiff,Nat.reduceAdd,↓reduceIte,reduceCtorEq]
   have hs:=ybqk hb k hk
   refine ⟨fun hlt=>?_,fun hlt=>(ydm _).use ?_⟩
   ·have hk':k < l.length:=by omega
    have hs2:=ybqk hb (k + 1) hk'
    rw [yxa hk'] at hs2
    refine ⟨by omega,ikw (by omega) (by omega),ikw (by omega) (by omega),?_⟩
    refine yh (k + 1) (by omega) (by omega) ?_
    refine yg [] [] [] ?_
    simp only [yxa hk',allQ,live,yc,yu,go_sem,Nat.reduceEqDiff,↓reduceIte,reduceCtorEq]
    simp
   ·simp only [thenO,yu,go_sem,Nat.reduceEqDiff,Nat.reduceAdd,↓reduceIte,reduceCtorEq]
    rw [List.take_of_length_le (by omega)]
    simp [ygx,h26]
 ·have:=ycph l (by omega)
  simp only [yj] at this
  refine this.use ?_
  simp only [thenO,yu,go_sem,Nat.reduceEqDiff,Nat.reduceAdd,↓reduceIte,reduceCtorEq]
  simp [ygx,h27]
 ·simp only [thenO,yu,go_sem,Nat.reduceEqDiff,Nat.reduceAdd,↓reduceIte,reduceCtorEq]
  simp [ygx,h28]
 ·refine ⟨fun h0=>?_,fun h0=>⟨by omega,?_⟩⟩
  ·simp only [yu,go_sem]
   have:l = []:=List.eq_nil_of_length_eq_zero (by omega)
   simp [ygx,h20,h21,h22,h23,h24,h25,h26,h27,h28,this]
  ·cases l with
   | nil=>simp at h0
   | cons x l=>
    simp only [yu,go_sem]
    simp [ygx,h20,h21,h22,h23,h24,h25,h26,h27,h28]
end Sh
end Go.Proofs.YtpngeppkgoaimaaGreatDoor

namespace Go.Proofs.YtpngeppkgoaimaaGreatDoor
def Ex.shp:Ex -> Bool
 | .leaf op _=>decide (1 <= op /\ op <= 17)
 | .un op a=>decide (18 <= op /\ op <= 29) && a.shp
 | .agg op a=>decide (18 <= op /\ op <= 29) && a.shp
 | .bin op a b=>decide (30 <= op /\ op <= 42) && a.shp && b.shp
 | .ite x a b=>x.shp && a.shp && b.shp
theorem Ex.ok_shp {nv:Int}:∀ (x:Ex) {bnd:Bool},x.ok nv bnd = true -> x.shp = true
 | .leaf op arg,bnd,h=>by
  simp only [Ex.ok,Bool.and_eq_true] at h
  exact h.1.1
 | .un op a,bnd,h=>by
  simp only [Ex.ok,Bool.and_eq_true,decide_eq_true_eq] at h
  simp only [Ex.shp,Bool.and_eq_true,decide_eq_true_eq]
  exact ⟨by omega,Ex.ok_shp a h.2⟩
 | .agg op a,bnd,h=>by
  simp only [Ex.ok,Bool.and_eq_true,decide_eq_true_eq] at h
  simp only [Ex.shp,Bool.and_eq_true,decide_eq_true_eq]
  exact ⟨by omega,Ex.ok_shp a h.2⟩
 | .bin op a b,bnd,h=>by
  simp only [Ex.ok,Bool.and_eq_true,decide_eq_true_eq] at h
  simp only [Ex.shp,Bool.and_eq_true,decide_eq_true_eq]
  exact ⟨⟨h.1.1,Ex.ok_shp a h.1.2⟩,Ex.ok_shp b h.2⟩
 | .ite x a b,bnd,h=>by
  simp only [Ex.ok,Bool.and_eq_true] at h
  simp only [Ex.shp,Bool.and_eq_true]
  exact ⟨⟨Ex.ok_shp x h.1.1,Ex.ok_shp a h.1.2⟩,Ex.ok_shp b h.2⟩
def yjy (op:Int):Int:=if op < 1 \/ op > 43 then -1 else if op <= 17 then 0 else if op <= 29 then 1 else if op <= 42 then 2 else 3
def serL (ts:List Ex):List Tm:=(ts.map Ex.ser).flatten
def Ex.head:Ex -> Tm
 | .leaf op arg=>(op,arg)
 | .un op _=>(op,0)
 | .agg op _=>(op,0)
 | .bin op _ _=>(op,0)
 | .ite _ _ _=>(43,0)
def Ex.subs:Ex -> List Ex
 | .leaf _ _=>[]
 | .un _ a=>[a]
 | .agg _ a=>[a]
 | .bin _ a b=>[a,b]
 | .ite x a b=>[x,a,b]
theorem Ex.ser_eq (x:Ex):x.ser = x.head :: serL x.subs:=by
 cases x <;> simp [Ex.ser,Ex.head,Ex.subs,serL]
theorem ybvv {op:Int} (h:1 <= op /\ op <= 17):yjy op = 0:=by
 unfold yjy; rw [if_neg (by omega),if_pos (by omega)]
theorem ybge {op:Int} (h:18 <= op /\ op <= 29):yjy op = 1:=by
 unfold yjy; rw [if_neg (by omega),if_neg (by omega),if_pos (by omega)]
theorem ybwo {op:Int} (h:30 <= op /\ op <= 42):yjy op = 2:=by
 unfold yjy; rw [if_neg (by omega),if_neg (by omega),if_neg (by omega),if_pos (by omega)]
theorem Ex.arity (x:Ex) (h:x.shp = true):yjy x.head.1 = x.subs.length:=by
 cases x with
 | leaf op arg=>simp only [Ex.shp,decide_eq_true_eq] at h; exact ybvv h
 | un op a=>simp only [Ex.shp,Bool.and_eq_true,decide_eq_true_eq] at h; exact ybge h.1
 | agg op a=>simp only [Ex.shp,Bool.and_eq_true,decide_eq_true_eq] at h; exact ybge h.1
 | bin op a b=>simp only [Ex.shp,Bool.and_eq_true,decide_eq_true_eq] at h; exact ybwo h.1.1
 | ite x a b=>simp [Ex.head,Ex.subs,yjy]
theorem Ex.subs_shp (x:Ex) (h:x.shp = true):∀ y ∈ x.subs,y.shp = true:=by
 cases x with
 | leaf op arg=>intro y hy; cases hy
 | un op a=>simp only [Ex.shp,Bool.and_eq_true] at h; intro y hy; simp [Ex.subs] at hy; subst hy; exact h.2
 | agg op a=>simp only [Ex.shp,Bool.and_eq_true] at h; intro y hy; simp [Ex.subs] at hy; subst hy; exact h.2
 | bin op a b=>simp only [Ex.shp,Bool.and_eq_true] at h; intro y hy; simp [Ex.subs] at hy; rcases hy with rfl | rfl <;> first | exact h.1.2 | exact h.2
 | ite x a b=>simp only [Ex.shp,Bool.and_eq_true] at h; intro y hy; simp [Ex.subs] at hy; rcases hy with rfl | rfl | rfl <;> first | exact h.1.1 | exact h.1.2 | exact h.2
theorem yel {e:List Tm} {at_:Nat} {t:Tm} {r:List Tm} (h:e.drop at_ = t :: r):at_ < e.length /\ e.getD at_ (0,0) = t /\ e.drop (at_ + 1) = r:=by
 have hlt:at_ < e.length:=by
  refine Classical.byContradiction fun hc=>?_
  rw [List.drop_of_length_le (by omega)] at h; cases h
 refine ⟨hlt,?_,?_⟩
 ·rw [List.drop_eq_getElem_cons hlt] at h
  simp only [List.cons.injEq] at h
  simp [List.getD,hlt,h.1]
 ·rw [List.drop_eq_getElem_cons hlt] at h
  simp only [List.cons.injEq] at h
  exact h.2
namespace Sh
open Go Ev
set_option maxRecDepth 8000

theorem ybpm (op:Int):Returns Tryz.prog 203 [.i .i64 op] (.i .i64 (yjy op)):=by
 refine Returns.of (ycow _ _ ?_)
 simp only [c203,ycmy,ycid,yckr,ycat,ycbz,ycav,ycbp,ybzx,ycft,yckl,yu,yjy,go_sem,Nat.reduceEqDiff,Nat.reduceAdd,↓reduceIte,reduceCtorEq]
 refine ⟨fun h1=>⟨fun h=>by rw [if_pos (.inr h)],fun h2=>⟨fun h=>by rw [if_neg (by omega),if_pos h],fun h3=>⟨fun h=>by rw [if_neg (by omega),if_neg h3,if_pos h],fun h4=>⟨fun h=>by rw [if_neg (by omega),if_neg h3,if_neg h4,if_pos h],fun h5=>by rw [if_neg (by omega),if_neg h3,if_neg h4,if_neg h5]⟩⟩⟩⟩,fun h=>by rw [if_pos (.inl h)]⟩
theorem ycrn (e:List Tm) (x:Ex) (at_:Nat) (rest:List Tm) (hx:x.shp = true) (he:e.drop at_ = x.ser ++ rest) (hl:e.length <= 1000):Returns Tryz.prog 189 [ybb e,.i .i64 at_] (.i .i64 ((at_ + x.ser.length:Nat):Int)):=by
 refine Returns.of (ycoq _ _ ?_)
 have h0:at_ < e.length:=by
  rw [x.ser_eq] at he
  exact (yel he).1
 simp only [c189,yclj,yccv,ychj,ycbx,ybb,yu,go_sem,Nat.reduceEqDiff,Nat.reduceAdd,↓reduceIte,reduceCtorEq]
 refine ⟨fun _=>⟨fun h=>by omega,fun _=>?_⟩,fun h=>by omega⟩
 refine ybe (σ:=Nat × List Ex) (fun p=>⟨[(1,.i .i64 p.1),(5,.i .i64 p.2.length),(0,ybb e)],[]⟩)
  (fun p=>e.drop p.1 = serL p.2 ++ rest /\ p.2 ≠ [] /\ (∀ y ∈ p.2,y.shp = true) /\ p.1 + (serL p.2).length = at_ + x.ser.length /\ p.2.length <= 3 * p.1 + 1) (fun p=>e.length - p.1) (at_,[x]) ⟨by simpa [serL] using he,by simp,by simpa using hx,by simp [serL],by simp⟩ ?_ ?_
 ·refine yg [] [] [] ?_
  simp only [ybb,allQ,live,yc,yu,go_sem,Nat.reduceEqDiff,↓reduceIte,reduceCtorEq]
  simp
 ·rintro ⟨k,ts⟩ ⟨hk,hne,hsh,hlen,hb⟩
  cases ts with
  | nil=>exact absurd rfl hne
  | cons y ts =>
   dsimp only at hk hlen hb ⊢
   have hser:serL (y :: ts) = y.head :: (serL y.subs ++ serL ts):=by
    show (y.ser ++ serL ts) = _
    rw [y.ser_eq]; rfl
   rw [hser] at hk hlen
   obtain ⟨d1,d2,d3⟩:=yel hk
   have hy:=hsh y List.mem_cons_self
   have har:=y.arity hy
   have hsub:y.subs.length <= 3:=by cases y <;> simp [Ex.subs]
   simp only [List.length_cons] at hb hlen
   simp only [ycmv,ycmx,ycdo,ychs,ycie,ycbl,ybrw,ybmd,yboi,ybb,yu,go_sem,Nat.reduceEqDiff,Nat.reduceAdd,Nat.reduceLeDiff,↓reduceIte,reduceCtorEq]
   refine ⟨fun hlt=>⟨by omega,(ybpm _).use ?_⟩,fun hlt=>by omega⟩
   rw [d2,har]
   simp only [thenO,yu,go_sem,Nat.reduceEqDiff,Nat.reduceAdd,↓reduceIte,reduceCtorEq]
   refine ⟨fun h=>by omega,fun _=>⟨ikw (by omega) (by omega),ikw (by simp; omega) (by simp; omega),fun h=>⟨ikw (by omega) (by omega),?_⟩,fun h=>⟨ikw (by omega) (by omega),?_⟩⟩⟩
   ·have h1:ts = []:=List.eq_nil_of_length_eq_zero (by omega)
    have h2:y.subs = []:=List.eq_nil_of_length_eq_zero (by omega)
    subst h1
    rw [h2] at hlen
    simp [serL] at hlen
    omega
   ·have hpos:y.subs ++ ts ≠ []:=fun q=>by
     have q1:=congrArg List.length q
     simp only [List.length_append,List.length_nil] at q1
     omega
    refine yh (k + 1,y.subs ++ ts) ⟨?_,hpos,?_,?_,?_⟩ (by dsimp only; omega) ?_
    ·dsimp only
     rw [d3]
     simp [serL]
    ·intro z hz
     rcases List.mem_append.1 hz with q | q
     ·exact y.subs_shp hy z q
     ·exact hsh z (List.mem_cons_of_mem _ q)
    ·dsimp only
     have:(serL (y.subs ++ ts)).length = (serL y.subs ++ serL ts).length:=by simp [serL]
     rw [this]
     omega
    ·dsimp only
     simp only [List.length_append]
     omega
    ·refine yg [] [] [] ?_
     simp only [allQ,live,yc,yu,go_sem,Nat.reduceEqDiff,↓reduceIte,reduceCtorEq]
     simp
     omega
end Sh
end Go.Proofs.YtpngeppkgoaimaaGreatDoor

namespace Go.Proofs.YtpngeppkgoaimaaGreatDoor
namespace Sh
open Go Ev
def varC (x:VarR):List SV:=[.a (.string x.name),.i .i64 x.kind,.i .i64 x.lo,.i .i64 x.hi,.i .i64 x.perNode,.i .i64 x.perID]
def ydb (l:List VarR):SV:=.sl 6 l.length (fun k=>varC (l.getD k default))
def yhk (l:List SetR):SV:=.sl 2 l.length (fun k=>[.i .i64 (l.getD k default).var,ybb (l.getD k default).val])
def ycj (l:List RuleR):SV:=.sl 3 l.length (fun k=>[.a (.string (l.getD k default).name),ybb (l.getD k default).guard,yhk (l.getD k default).sets])
def ymc (p:ProgR):List SV:=[.a (.string p.name),ydb p.vars,ycj p.rules]
def ydj (g:Gr):SV:=.sl 1 g.ports.length (fun v=>[yj (yjf g v)])
def yex (p:ProgR) (g:Gr):List SV:=[.a (.string p.name),ydb p.vars,ycj p.rules,yj g.ids,yba g.ports,.i .i64 (ybue g),ydj g]
def yhr (p:ProgR) (g:Gr) (c:Conf) (v:Nat) (e:List Tm):List SV:=[.rf (yex p g),ybg c,.i .i64 v,ybb e]
theorem ybjy (l:List Int):one1 (yj l) = true:=rfl
theorem ybdz {n:Nat} (l:List Int):owned (n + 1) (yj l) = false:=rfl
theorem yxo {n:Nat} (l:List Int):scalar (n + 1) (yj l) = false:=rfl
theorem ybim {n:Nat} (o:Own) (l:List Int):view o (n + 1) (yj l) = yj l:=rfl
theorem yblo {n:Nat} (o:Own) (l:List Int):vok o (n + 1) (yj l) = True:=rfl
theorem ybum {n:Nat} (h:Nm -> Nm) (l:List Int):ren h (n + 1) (yj l) = yj l:=rfl
theorem ybsf {n:Nat} (L:Nm -> Bool) (l:List Int):cln L (n + 1) (yj l) = true:=rfl
theorem ybbu (l:List (Int × Int)):one1 (ybb l) = true:=rfl
theorem ybal {n:Nat} (l:List (Int × Int)):owned (n + 1) (ybb l) = false:=rfl
theorem yvt {n:Nat} (l:List (Int × Int)):scalar (n + 1) (ybb l) = false:=rfl
theorem ybbo {n:Nat} (o:Own) (l:List (Int × Int)):view o (n + 1) (ybb l) = ybb l:=rfl
theorem ybid {n:Nat} (o:Own) (l:List (Int × Int)):vok o (n + 1) (ybb l) = True:=rfl
theorem ybkk {n:Nat} (h:Nm -> Nm) (l:List (Int × Int)):ren h (n + 1) (ybb l) = ybb l:=rfl
theorem ybkr {n:Nat} (L:Nm -> Bool) (l:List (Int × Int)):cln L (n + 1) (ybb l) = true:=rfl
theorem ybdl (l:List (List (Int × Int))):one1 (yba l) = true:=rfl
theorem yyf {n:Nat} (l:List (List (Int × Int))):owned (n + 1) (yba l) = false:=rfl
theorem yvw {n:Nat} (l:List (List (Int × Int))):scalar (n + 1) (yba l) = false:=rfl
theorem ybcr {n:Nat} (o:Own) (l:List (List (Int × Int))):view o (n + 1) (yba l) = yba l:=rfl
theorem ybip {n:Nat} (o:Own) (l:List (List (Int × Int))):vok o (n + 1) (yba l) = True:=rfl
theorem ybiq {n:Nat} (h:Nm -> Nm) (l:List (List (Int × Int))):ren h (n + 1) (yba l) = yba l:=rfl
theorem ybik {n:Nat} (L:Nm -> Bool) (l:List (List (Int × Int))):cln L (n + 1) (yba l) = true:=rfl
theorem ybka (l:List (List Int)):one1 (ybg l) = true:=rfl
theorem ybcc {n:Nat} (l:List (List Int)):owned (n + 1) (ybg l) = false:=rfl
theorem ybae {n:Nat} (l:List (List Int)):scalar (n + 1) (ybg l) = false:=rfl
theorem ybhz {n:Nat} (o:Own) (l:List (List Int)):view o (n + 1) (ybg l) = ybg l:=rfl
theorem ybui {n:Nat} (o:Own) (l:List (List Int)):vok o (n + 1) (ybg l) = True:=rfl
theorem ybtp {n:Nat} (h:Nm -> Nm) (l:List (List Int)):ren h (n + 1) (ybg l) = ybg l:=rfl
theorem ybtt {n:Nat} (L:Nm -> Bool) (l:List (List Int)):cln L (n + 1) (ybg l) = true:=rfl
theorem ybir (l:List VarR):one1 (ydb l) = true:=rfl
theorem ybcv {n:Nat} (l:List VarR):owned (n + 1) (ydb l) = false:=rfl
theorem yzx {n:Nat} (l:List VarR):scalar (n + 1) (ydb l) = false:=rfl
theorem ybil {n:Nat} (o:Own) (l:List VarR):view o (n + 1) (ydb l) = ydb l:=rfl
theorem ybrp {n:Nat} (o:Own) (l:List VarR):vok o (n + 1) (ydb l) = True:=rfl
theorem ybps {n:Nat} (h:Nm -> Nm) (l:List VarR):ren h (n + 1) (ydb l) = ydb l:=rfl
theorem ybtf {n:Nat} (L:Nm -> Bool) (l:List VarR):cln L (n + 1) (ydb l) = true:=rfl
theorem ybkc (l:List SetR):one1 (yhk l) = true:=rfl
theorem ybcj {n:Nat} (l:List SetR):owned (n + 1) (yhk l) = false:=rfl
theorem ybaf {n:Nat} (l:List SetR):scalar (n + 1) (yhk l) = false:=rfl
theorem ybht {n:Nat} (o:Own) (l:List SetR):view o (n + 1) (yhk l) = yhk l:=rfl
theorem ybuc {n:Nat} (o:Own) (l:List SetR):vok o (n + 1) (yhk l) = True:=rfl
theorem ybmm {n:Nat} (h:Nm -> Nm) (l:List SetR):ren h (n + 1) (yhk l) = yhk l:=rfl
theorem ybnd {n:Nat} (L:Nm -> Bool) (l:List SetR):cln L (n + 1) (yhk l) = true:=rfl
theorem ybdn (l:List RuleR):one1 (ycj l) = true:=rfl
theorem ybbc {n:Nat} (l:List RuleR):owned (n + 1) (ycj l) = false:=rfl
theorem yvq {n:Nat} (l:List RuleR):scalar (n + 1) (ycj l) = false:=rfl
theorem ybcb {n:Nat} (o:Own) (l:List RuleR):view o (n + 1) (ycj l) = ycj l:=rfl
theorem ybjw {n:Nat} (o:Own) (l:List RuleR):vok o (n + 1) (ycj l) = True:=rfl
theorem ybhl {n:Nat} (h:Nm -> Nm) (l:List RuleR):ren h (n + 1) (ycj l) = ycj l:=rfl
theorem ybjn {n:Nat} (L:Nm -> Bool) (l:List RuleR):cln L (n + 1) (ycj l) = true:=rfl
theorem ybck (l:Gr):one1 (ydj l) = true:=rfl
theorem ybaw {n:Nat} (l:Gr):owned (n + 1) (ydj l) = false:=rfl
theorem yvg {n:Nat} (l:Gr):scalar (n + 1) (ydj l) = false:=rfl
theorem ybcm {n:Nat} (o:Own) (l:Gr):view o (n + 1) (ydj l) = ydj l:=rfl
theorem ybib {n:Nat} (o:Own) (l:Gr):vok o (n + 1) (ydj l) = True:=rfl
theorem ybko {n:Nat} (h:Nm -> Nm) (l:Gr):ren h (n + 1) (ydj l) = ydj l:=rfl
theorem ybjh {n:Nat} (L:Nm -> Bool) (l:Gr):cln L (n + 1) (ydj l) = true:=rfl
theorem ybcx {n:Nat} (fr:List Nm) (o:Own) (l:List Int):yct fr o (n + 1) (yj l) = yj l:=rfl
theorem ybmq {n:Nat} (fr:List Nm) (o:Own) (l:List Int):pok fr o (n + 1) (yj l) = True:=rfl
theorem ybbe {n:Nat} (fr:List Nm) (o:Own) (l:List (Int × Int)):yct fr o (n + 1) (ybb l) = ybb l:=rfl
theorem ybhk {n:Nat} (fr:List Nm) (o:Own) (l:List (Int × Int)):pok fr o (n + 1) (ybb l) = True:=rfl
theorem yzw {n:Nat} (fr:List Nm) (o:Own) (l:List (List (Int × Int))):yct fr o (n + 1) (yba l) = yba l:=rfl
theorem ybke {n:Nat} (fr:List Nm) (o:Own) (l:List (List (Int × Int))):pok fr o (n + 1) (yba l) = True:=rfl
theorem ybeb {n:Nat} (fr:List Nm) (o:Own) (l:List (List Int)):yct fr o (n + 1) (ybg l) = ybg l:=rfl
theorem ybur {n:Nat} (fr:List Nm) (o:Own) (l:List (List Int)):pok fr o (n + 1) (ybg l) = True:=rfl
theorem ybbq {n:Nat} (fr:List Nm) (o:Own) (l:List VarR):yct fr o (n + 1) (ydb l) = ydb l:=rfl
theorem ybov {n:Nat} (fr:List Nm) (o:Own) (l:List VarR):pok fr o (n + 1) (ydb l) = True:=rfl
theorem ybef {n:Nat} (fr:List Nm) (o:Own) (l:List SetR):yct fr o (n + 1) (yhk l) = yhk l:=rfl
theorem ybrx {n:Nat} (fr:List Nm) (o:Own) (l:List SetR):pok fr o (n + 1) (yhk l) = True:=rfl
theorem yzl {n:Nat} (fr:List Nm) (o:Own) (l:List RuleR):yct fr o (n + 1) (ycj l) = ycj l:=rfl
theorem ybkp {n:Nat} (fr:List Nm) (o:Own) (l:List RuleR):pok fr o (n + 1) (ycj l) = True:=rfl
theorem yxe {n:Nat} (fr:List Nm) (o:Own) (l:Gr):yct fr o (n + 1) (ydj l) = ydj l:=rfl
theorem ybki {n:Nat} (fr:List Nm) (o:Own) (l:Gr):pok fr o (n + 1) (ydj l) = True:=rfl
theorem ybee (l:List Int):SV.cells (yj l) = [yj l]:=rfl
theorem yyy (l:List (Int × Int)):SV.cells (ybb l) = [ybb l]:=rfl
theorem ybar (l:List (List (Int × Int))):SV.cells (yba l) = [yba l]:=rfl
theorem ybdf (l:List (List Int)):SV.cells (ybg l) = [ybg l]:=rfl
theorem ybcz (l:List VarR):SV.cells (ydb l) = [ydb l]:=rfl
theorem ybej (l:List SetR):SV.cells (yhk l) = [yhk l]:=rfl
theorem yzk (l:List RuleR):SV.cells (ycj l) = [ycj l]:=rfl
theorem ybad (l:Gr):SV.cells (ydj l) = [ydj l]:=rfl
attribute [go_sem] ybjy ybdz yxo ybim yblo ybum ybsf ybbu ybal yvt ybbo ybid ybkk ybkr
attribute [go_sem] ybdl yyf yvw ybcr ybip ybiq ybik ybka ybcc ybae ybhz ybui ybtp
attribute [go_sem] ybtt ybir ybcv yzx ybil ybrp ybps ybtf ybkc ybcj ybaf ybht ybuc ybmm
attribute [go_sem] ybnd ybdn ybbc yvq ybcb ybjw ybhl ybjn ybck ybaw yvg ybcm ybib
attribute [go_sem] ybko ybjh ybcx ybmq ybbe ybhk yzw ybke ybeb ybur ybbq ybov ybef ybrx
attribute [go_sem] yzl ybkp yxe ybki ybee yyy ybar ybdf ybcz ybej yzk ybad
end Sh
end Go.Proofs.YtpngeppkgoaimaaGreatDoor

namespace Go.Proofs.YtpngeppkgoaimaaGreatDoor
namespace Sh
open Go Ev
set_option maxRecDepth 8000

theorem ybxc (p:ProgR) {g:Gr} (hg:ybc g) (op:Int) {v:Nat} (hv:v < g.ports.length) (port:Int) (hp:op = 6 \/ op = 7 \/ op = 8 \/ op = 9 \/ op = 10 \/ op = 11 \/ (0 <= port /\ port < (g.ports.getD v []).length)) :
  Returns Tryz.prog 220 [.rf (yex p g),.i .i64 op,.i .i64 v,.i .i64 port] (.i .i64 (ylm g op v port)):=by
 refine Returns.of (ycqh _ _ ?_)
 have hlen:=hg.2.2.1
 simp only [c220,ycfk,ycaj,ycdw,ycnp,yccz,ycib,yckd,ycdj,ycjz,ycgo,ybpl,ybrq,ybsd,ybld,ybsh,ybox,ybnc,ybno,ybpa,ybrd,ybpv,ybmv,ybpn,ybqf,ybrm,yex,yj,yba,ybb,ydj,yu,go_sem,Nat.reduceEqDiff,Nat.reduceAdd,Nat.reduceLeDiff,Nat.reduceLT,↓reduceIte,reduceCtorEq]
 refine ⟨fun h6=>?_,fun h6=>⟨fun h7=>?_,fun h7=>⟨fun h8=>⟨by omega,?_⟩,fun h8=>⟨fun h9=>⟨by omega,?_⟩,fun h9=>⟨fun h10=>(ydu _).use ?_,fun h10=>⟨fun h11=>?_,fun h11=>?_⟩⟩⟩⟩⟩⟩
 ·simp [ylm,h6]
 ·simp [ylm,h7]
 ·simp [ylm,h8]
 ·simp [ylm,h9]
 ·simp only [thenO,yu,go_sem,Nat.reduceEqDiff,Nat.reduceAdd,↓reduceIte,reduceCtorEq]
  simp [ylm,h10]
 ·simp [ylm,h11]
 ·have hp:0 <= port /\ port < (g.ports.getD v []).length:=by omega
  have hpn:port.toNat < (g.ports.getD v []).length:=by omega
  have hl:=hg.ybw hv hpn
  unfold ybw at hl
  refine ⟨by omega,by omega,fun h13=>⟨by omega,?_⟩,fun h13=>⟨fun h14=>⟨by omega,?_⟩,fun h14=>⟨fun h15=>(ydu _).use ?_,fun h15=>⟨fun h16=>?_,fun h16=>⟨by omega,?_⟩⟩⟩⟩⟩
  ·simp [ylm,h13,ybw]
  ·simp [ylm,h14,ybw]
  ·simp only [thenO,yu,go_sem,Nat.reduceEqDiff,Nat.reduceAdd,↓reduceIte,reduceCtorEq]
   simp [ylm,h15,ybw]
  ·simp [ylm,h16,ybw]
  ·refine ⟨by rw [show (yjf g v).length = (g.ports.getD v []).length from List.length_map _]; omega,?_⟩
   simp [ylm,h6,h7,h8,h9,h10,h11,h13,h14,h15,h16]
theorem ybyy (p:ProgR) {g:Gr} (hg:ybc g) {nv:Nat} {c:Conf} (hc:ConfIn g.ports.length nv c) {v:Nat} (hv:v < g.ports.length) (e:List Tm) {op arg:Int} {bnd:Bool} (ho:(Ex.leaf op arg).ok nv bnd = true) (port:Int) (hp:bnd = true -> 0 <= port /\ port < (g.ports.getD v []).length) :
  Returns Tryz.prog 211 [.rf (yhr p g c v e),.ag [.i .i64 op,.i .i64 arg],.i .i64 port] (.i .i64 (ypz g c op arg v port)):=by
 refine Returns.of (ycrw _ _ ?_)
 simp only [Ex.ok,Bool.and_eq_true,decide_eq_true_eq] at ho
 obtain ⟨⟨ho1,ho2⟩,ho3⟩:=ho
 have hlen:=hc.len
 have hrow:=hc.at_ hv
 have hF:=ybxc p hg op hv port
 simp only [yex,yj,yba,ybb,ydj] at hF
 simp only [c211,ycfr,ycic,ycbu,ycmi,ycmt,ycll,ycab,ycmc,ycna,ycbb,ybta,ybma,yblf,ybrl,ybug,yhr,ybg,yex,yj,yba,ybb,ydj,yu,go_sem,Nat.reduceEqDiff,Nat.reduceAdd,Nat.reduceLeDiff,Nat.reduceLT,↓reduceIte,reduceCtorEq]
 refine ⟨fun h1=>?_,fun h1=>⟨fun h2=>?_,fun h2=>⟨fun h3=>?_,fun h3=>⟨fun h4=>?_,fun h4=>⟨fun h5=>?_,fun h5=>⟨fun h12=>?_,fun h12=>(hF ?_).use ?_⟩⟩⟩⟩⟩⟩
 ·simp [ypz,h1]
 ·simp [ypz,h2]
 ·simp [ypz,h3]
 ·simp [ypz,h4]
 ·rw [if_neg (by omega),if_pos (by omega)] at ho2
  have ho2:=of_decide_eq_true ho2
  refine ⟨by omega,by omega,?_⟩
  simp [ypz,h5]
 ·rw [if_neg (by omega),if_pos (by omega)] at ho2
  have ho2:=of_decide_eq_true ho2
  rw [if_pos (by omega)] at ho3
  have hp:=hp ho3
  have hpn:port.toNat < (g.ports.getD v []).length:=by omega
  have hl:=hg.ybw hv hpn
  have hr2:=hc.at_ (v:=(ybw g v port.toNat).1.toNat) (by omega)
  unfold ybw at hl hr2
  refine ⟨by omega,by omega,by omega,by omega,?_⟩
  simp [ypz,h12,ybw]
 ·by_cases q:11 <= op
  ·rw [if_pos q] at ho3
   have:=hp ho3
   omega
  ·omega
 ·simp only [thenO,yu,go_sem,Nat.reduceEqDiff,Nat.reduceAdd,↓reduceIte,reduceCtorEq]
  simp [ypz,h1,h2,h3,h4,h5,h12]

theorem ypf {e:List Tm} {at_:Nat} {a b:List Tm} (h:e.drop at_ = a ++ b):e.drop (at_ + a.length) = b:=by
 rw [<- List.drop_drop,h,List.drop_left]
theorem ybvf {n:Nat} {gg:Nat -> List SV} {l:List Int} (hn:n = l.length) (h:∀ k,k < n -> gg k = [.i .i64 (l.getD k 0)]):Sim (.sl 1 n gg) (yj l):=by
 subst hn
 exact sim_sl h
def ybsn (p:ProgR) (g:Gr) (nv:Nat) (c:Conf) (v:Nat) (e:List Tm) (x:Ex):Prop :=
 ∀ (bnd:Bool) (port:Int) (at_:Nat) (rest:List Tm),x.ok nv bnd = true -> (bnd = true -> 0 <= port /\ port < (g.ports.getD v []).length) -> InB port -> e.drop at_ = x.ser ++ rest ->
  Returns Tryz.prog 194 [.rf (yhr p g c v e),.i .i64 at_,.i .i64 port] (.tp [.i .i64 (ybt g c v x port),.i .i64 ((at_ + x.ser.length:Nat):Int)])
theorem yvz (p:ProgR) {g:Gr} (hg:ybc g) {nv:Nat} {c:Conf} (hc:ConfIn g.ports.length nv c) {v:Nat} (hv:v < g.ports.length) (e:List Tm) (hl:e.length <= 1000) {op:Int} {a:Ex} (ho:(Ex.agg op a).ok nv true = true) (ih:ybsn p g nv c v e a) (at_:Nat) (rest:List Tm) (he:e.drop at_ = (Ex.agg op a).ser ++ rest) :
  Returns Tryz.prog 213 [.rf (yhr p g c v e),.i .i64 op,.i .i64 at_] (.tp [.i .i64 (ybt g c v (.agg op a) 0),.i .i64 ((at_ + (Ex.agg op a).ser.length:Nat):Int)]):=by
 have ho':=ho
 simp only [Ex.ok,Bool.and_eq_true,decide_eq_true_eq] at ho
 have hd:=hg.deg_lt (v:=v)
 obtain ⟨deg,hdeg⟩:∃ d,(g.ports.getD v []).length = d:=⟨_,rfl⟩
 rw [hdeg] at hd
 have hin:∀ q:Nat,q < deg -> InB (ybt g c v a q):=fun q hq=>ygl hg rfl hc hv a ho.2 (fun _=>by omega) (by unfold InB; omega)
 have hsh:=Ex.ok_shp _ ho'
 have hdrop:e.drop (at_ + 1) = a.ser ++ rest:=(yel (show e.drop at_ = (op,0) :: (a.ser ++ rest) from he)).2.2
 have hat:=(yel (show e.drop at_ = (op,0) :: (a.ser ++ rest) from he)).1
 have hfit:at_ + 1 + a.ser.length <= e.length:=by
  have:=congrArg List.length hdrop
  simp at this
  omega
 refine Returns.of (ycnz _ _ ?_)
 simp only [c213,yclh,ycji,ycen,ycjn,yhr,ybg,yex,yj,yba,ybb,ydj,hdeg,go_sem,Nat.reduceEqDiff,Nat.reduceAdd,Nat.reduceLeDiff,Nat.reduceLT,↓reduceIte,reduceCtorEq]
 refine ⟨by omega,?_⟩
 let val:Nat -> Int:=fun q=>ybt g c v a q
 refine ybe (σ:=Nat) (fun k=>⟨[(27,.i .i64 k),(26,.i .i64 deg),(9,.i .i64 deg),(0,.rf (yhr p g c v e)),(1,.i .i64 op),(2,.i .i64 at_),(8,.pt (8,0) 0 0),(7,.i .i64 (if k = 0 then 0 else ((at_ + 1 + a.ser.length:Nat):Int)))],
   [(8,.one (some ⟨248,true,1,24,fun i=>[.i .i64 (if i < k then val i else 0)]⟩))]⟩) (fun k=>k <= deg) (fun k=>deg - k) 0 (Nat.zero_le _) ?_ ?_
 ·refine yg [] [] [] ?_
  simp only [yhr,ybg,yex,yj,yba,ybb,ydj,allQ,live,yc,yu,Int.natCast_zero,go_sem,Nat.reduceEqDiff,↓reduceIte,reduceCtorEq]
  intro i _
  rw [if_neg (by omega)]
 ·intro k hk
  simp only [ycgx,ycfy,ycck,yceh,yckf,yclg,ybrz,go_sem,Nat.reduceEqDiff,Nat.reduceAdd,Nat.reduceLeDiff,↓reduceIte,reduceCtorEq]
  refine ⟨fun hlt=>⟨ikw (by omega) (by omega),?_⟩,fun hlt=>?_⟩
  ·have hk':k < deg:=by omega
   have hv1:=ih true (k:Int) (at_ + 1) rest ho.2 (fun _=>by rw [hdeg]; omega) (by unfold InB; omega) hdrop
   rw [show ((at_ + 1:Nat):Int) = (at_:Int) + 1 by omega] at hv1
   refine hv1.use ?_
   simp only [thenO,splice,go_sem,Nat.reduceEqDiff,Nat.reduceAdd,↓reduceIte,reduceCtorEq]
   refine ⟨by omega,by omega,ikw (by omega) (by omega),?_⟩
   refine yh (k + 1) (by omega) (by omega) ?_
   refine yg [] [] [] ?_
   simp only [allQ,live,yc,yu,go_sem,Nat.reduceEqDiff,↓reduceIte,reduceCtorEq]
   refine ⟨by omega,?_⟩
   intro i hi
   by_cases q:i = k
   ·rw [if_pos q,if_pos (by omega)]
    subst q
    simp only [val,live,yc,go_sem,reduceCtorEq]
   ·rw [if_neg q]
    by_cases q2:i < k
    ·rw [if_pos q2,if_pos (by omega)]
     simp only [live,yc,go_sem,reduceCtorEq]
    ·rw [if_neg q2,if_neg (by omega)]
     simp only [live,yc,go_sem,reduceCtorEq]
  ·obtain rfl:k = deg:=by omega
   have hE:=ycrn e _ at_ rest hsh he hl
   have hF:=ybyx op ((List.range k).map val) (by simp; omega) (fun x hx=>by
    obtain ⟨q,hq,rfl⟩:=List.mem_map.1 hx
    exact hin q (List.mem_range.1 hq))
   have hres:ybt g c v (.agg op a) 0 = ygx op ((List.range k).map val):=by
    show ygx op _ = _
    rw [hdeg]
   rw [hres]
   simp only [yhr,ybb,go_sem,Nat.reduceEqDiff,Nat.reduceAdd,↓reduceIte,reduceCtorEq]
   simp only [ybb] at hE
   have hsim:SimL [.i .i64 op,.sl 1 (k - 0) fun i=>[.i .i64 (if i < k then val i else 0)]] [.i .i64 op,yj ((List.range k).map val)]:=by
    refine ⟨Sim.refl _,ybvf (by simp) fun i hi=>?_,trivial⟩
    rw [if_pos (by omega)]
    simp [List.getD,show i < k by omega]
   refine ⟨fun h0=>hE.use ?_,fun h0=>?_⟩
   ·simp only [thenO,go_sem,Nat.reduceEqDiff,Nat.reduceAdd,Nat.reduceLeDiff,↓reduceIte,reduceCtorEq]
    refine ⟨by simp; omega,.inl ⟨by omega,hF.useS hsim ?_⟩⟩
    simp only [go_sem]
    exact Sim.refl _
   ·refine ⟨by simp; omega,.inl ⟨by omega,hF.useS hsim ?_⟩⟩
    simp only [thenO,if_neg (show ¬ k = 0 by omega),go_sem,Nat.reduceEqDiff,Nat.reduceAdd,↓reduceIte,reduceCtorEq]
    rw [show at_ + (Ex.agg op a).ser.length = at_ + 1 + a.ser.length by simp [Ex.ser]; omega]
    exact Sim.refl _
end Sh
end Go.Proofs.YtpngeppkgoaimaaGreatDoor

namespace Go.Proofs.YtpngeppkgoaimaaGreatDoor
namespace Sh
open Go Ev
set_option maxRecDepth 8000

theorem ybkg (g:Gr) (v:Nat) (hv:v < g.ports.length) (u:Int) (hl:(g.ports.getD v []).length <= 100000):Returns Tryz.prog 142 [grV g,.i .i64 v,.i .i64 u] (.i .i64 (ygg (g.ports.getD v []) u)):=by
 refine Returns.of (ycrv _ _ ?_)
 simp only [c142,ycjb,ycnd,grV,yba,ybb,yj,go_sem,Nat.reduceEqDiff,Nat.reduceAdd,Nat.reduceLT,↓reduceIte,reduceCtorEq]
 refine ⟨by omega,?_⟩
 obtain ⟨ls,hls⟩:∃ ls,g.ports.getD v [] = ls:=⟨_,rfl⟩
 rw [hls] at hl ⊢
 refine ybe (σ:=Nat) (fun k=>⟨[(15,.i .i64 k),(13,ybb ls),(14,.i .i64 ls.length),(2,.i .i64 u)],[]⟩) (fun k=>k <= ls.length /\ (ls.take k).findIdx? (fun l=>l.1 == u) = none) (fun k=>ls.length - k) 0 ⟨Nat.zero_le _,by simp⟩ ?_ ?_
 ·refine yg [] [] [] ?_
  simp only [ybb,allQ,live,yc,Int.natCast_zero,go_sem,Nat.reduceEqDiff,↓reduceIte,reduceCtorEq]
 ·intro k ⟨hk,hno⟩
  simp only [ycls,ycia,ycbc,ycet,ycff,ycke,ybb,yu,splice,go_sem,Nat.reduceEqDiff,Nat.reduceAdd,Nat.reduceLeDiff,Nat.reduceLT,↓reduceIte,reduceCtorEq]
  refine ⟨fun hlt=>⟨by omega,fun he=>?_,fun he=>⟨ikw (by omega) (by omega),?_⟩⟩,fun hlt=>?_⟩
  ·have hlt:k < ls.length:=by omega
   rw [getD_at hlt] at he
   rw [ymy ls u k hlt he hno]
  ·have hlt:k < ls.length:=by omega
   rw [getD_at hlt] at he
   refine yh (k + 1) ⟨by omega,yoh ls u k hlt he hno⟩ (by omega) ?_
   refine yg [] [] [] ?_
   simp only [allQ,live,yc,yu,go_sem,Nat.reduceEqDiff,↓reduceIte,reduceCtorEq]
   simp
  ·obtain rfl:k = ls.length:=by omega
   rw [yrl ls u hno]
theorem ybjx {ids:List Int} {k:Nat} (h:k < ids.length):(ids.take (k + 1)).foldl max 0 = max ((ids.take k).foldl max 0) (ids.getD k 0):=by
 rw [ybjm ids k h,getD_at h]
theorem yyd (p:ProgR) {g:Gr} (hg:ybc g):Returns Tryz.prog 103 [.ag (ymc p),grV g] (.rf (yex p g)):=by
 refine Returns.of (ycpz _ _ ?_)
 have h24:=hg.2.1
 have hid:=hg.2.2.1
 obtain ⟨n,hn⟩:∃ n,g.ports.length = n:=⟨_,rfl⟩
 rw [hn] at h24 hid
 simp only [c103,ycko,ycgy,ycii,grV,yba,ybb,yj,ymc,splice,hn,go_sem,Nat.reduceEqDiff,Nat.reduceAdd,Nat.reduceLeDiff,Nat.reduceLT,↓reduceIte,reduceCtorEq]
 refine ⟨by omega,?_⟩
 refine ybe (σ:=Nat) (fun k=>⟨[(21,.i .i64 k),(19,yba g.ports),(20,.i .i64 n),(3,.pt (3,0) 0 0),(5,.pt (17,0) 0 0)],
   [(3,.one (some ⟨28,true,2,1,fun _=>[yj g.ids,yba g.ports]⟩)),(17,.one (some ⟨171,true,7,1,fun _=>[.a (.string p.name),ydb p.vars,ycj p.rules,yj g.ids,yba g.ports,.i .i64 ((g.ids.take k).foldl max 0),.os (15,0) 0 n true]⟩)),
    (15,.one (some ⟨22,false,1,n,fun i=>[if i < k then yj (yjf g i) else .a (.slice none 0 0)]⟩))]⟩) (fun k=>k <= n) (fun k=>n - k) 0 (Nat.zero_le _) ?_ ?_
 ·refine yg [] [] [] ?_
  simp only [yba,ybb,yj,hn,allQ,live,yc,yu,Int.natCast_zero,go_sem,Nat.reduceEqDiff,↓reduceIte,reduceCtorEq]
  refine ⟨fun i _=>by simp,fun i _=>?_⟩
  rw [if_neg (by omega)]
  simp only [yc,go_sem]
 ·intro k hk
  simp only [ycae,ycjo,yccq,ybzv,yba,ybb,yj,splice,hn,go_sem,Nat.reduceEqDiff,Nat.reduceAdd,Nat.reduceLeDiff,↓reduceIte,reduceCtorEq]
  refine ⟨fun hlt=>⟨by omega,by omega,by decide,?_⟩,fun hlt=>?_⟩
  ·have hk':k < n:=by omega
   obtain ⟨ls,hls⟩:∃ ls,g.ports.getD k [] = ls:=⟨_,rfl⟩
   have hdeg:=hg.deg_lt (v:=k)
   rw [hls] at hdeg
   rw [hls]
   have hback:∀ j,j < ls.length -> (yjf g k).getD j 0 = ygg (g.ports.getD (ls.getD j (0,0)).1.toNat []) k:=fun j hj=>by
    unfold yjf
    rw [hls]
    simp [List.getD,hj]
   have hbl:(yjf g k).length = ls.length:=by unfold yjf; rw [hls,List.length_map]
   refine ybe (σ:=Nat) (fun j=>⟨[(41,.i .i64 j),(39,ybb ls),(40,.i .i64 ls.length),(6,.i .i64 k),(21,.i .i64 k),(19,yba g.ports),(20,.i .i64 n),(3,.pt (3,0) 0 0),(5,.pt (17,0) 0 0)],
    [(3,.one (some ⟨28,true,2,1,fun _=>[yj g.ids,yba g.ports]⟩)),(17,.one (some ⟨171,true,7,1,fun _=>[.a (.string p.name),ydb p.vars,ycj p.rules,yj g.ids,yba g.ports,.i .i64 ((g.ids.take (k + 1)).foldl max 0),.os (15,0) 0 n true]⟩)),
     (15,.one (some ⟨22,false,1,n,fun i=>[if i < k then yj (yjf g i) else if i = k then .os (100,0) 0 j true else .a (.slice none 0 0)]⟩)),
     (100,.one (some ⟨3,false,1,j,fun q=>[.i .i64 ((yjf g k).getD q 0)]⟩))]⟩) (fun j=>j <= ls.length) (fun j=>ls.length - j) 0 (Nat.zero_le _) ?_ ?_
   ·refine yg [] [100] [] ?_
    simp only [yba,ybb,yj,hn,ybjx (show k < g.ids.length by omega),allQ,live,yc,Int.natCast_zero,go_sem,Nat.reduceEqDiff,Nat.reduceBEq,↓reduceIte,reduceCtorEq]
    intro i hi
    by_cases q1:i < k
    ·simp only [if_pos q1]
     simp only [yc,go_sem,reduceCtorEq]
    ·by_cases q2:i = k
     ·simp only [if_neg q1,if_pos q2]
      simp only [live,go_sem,Nat.reduceEqDiff,↓reduceIte]
      simp
     ·simp only [if_neg q1,if_neg q2]
      simp only [yc,go_sem,reduceCtorEq]
   ·intro j hj
    simp only [ycgm,yccm,ycct,ybun,ybqb,yba,ybb,yj,splice,hn,go_sem,Nat.reduceEqDiff,Nat.reduceAdd,Nat.reduceLeDiff,Nat.reduceLT,↓reduceIte,reduceCtorEq]
    have hP:=fun hlt:j < ls.length=>ybkg g (ls.getD j (0,0)).1.toNat (by
     have:=hg.ybw (v:=k) (p:=j) (by omega) (by rw [hls]; omega)
     unfold ybw at this
     rw [hls] at this
     omega) (k:Int) (by have:=hg.deg_lt (v:=(ls.getD j (0,0)).1.toNat); omega)
    have hto:j < ls.length -> ((ls.getD j (0,0)).1.toNat:Int) = (ls.getD j (0,0)).1:=fun hlt=>by
     have:=hg.ybw (v:=k) (p:=j) (by omega) (by rw [hls]; omega)
     unfold ybw at this
     rw [hls] at this
     omega
    refine ⟨fun hlt=>⟨by omega,by omega,by omega,?_⟩,fun hlt=>?_⟩
    ·have hj':j < ls.length:=by omega
     have hP:=hP hj'
     rw [hto hj'] at hP
     simp only [grV,yba,ybb,yj,hn] at hP
     refine hP.use ?_
     simp only [thenO,splice,go_sem,Nat.reduceEqDiff,Nat.reduceAdd,Nat.reduceLeDiff,Nat.reduceLT,↓reduceIte,reduceCtorEq]
     refine ⟨by decide,by omega,by decide,by omega,by omega,by decide,ikw (by omega) (by omega),?_⟩
     refine yh (j + 1) (by omega) (by omega) ?_
     refine yg [(100,fun _=>(63,0))] [] [] ?_
     simp only [allQ,live,yc,yu,go_sem,Nat.reduceEqDiff,↓reduceIte,reduceCtorEq]
     refine ⟨by omega,fun i hi=>?_,fun i hi=>?_⟩
     ·by_cases q2:i = k
      ·simp only [if_pos q2,if_neg (show ¬ i < k by omega)]
       simp only [live,yc,go_sem,Nat.reduceEqDiff,↓reduceIte,reduceCtorEq]
      ·simp only [if_neg q2]
       by_cases q1:i < k
       ·simp only [if_pos q1]
        simp only [live,yc,go_sem,reduceCtorEq]
       ·simp only [if_neg q1]
        simp only [live,yc,go_sem,reduceCtorEq]
     ·by_cases q2:i < j
      ·simp only [if_pos q2]
       simp only [live,yc,go_sem,reduceCtorEq]
      ·obtain rfl:i = j:=by omega
       simp only [if_neg q2,Nat.sub_self,Nat.zero_mul]
       simp only [live,yu,go_sem,reduceCtorEq]
       rw [hback i hj']
    ·obtain rfl:j = ls.length:=by omega
     refine ⟨ikw (by omega) (by omega),?_⟩
     refine yh (k + 1) (by omega) (by omega) ?_
     refine yg [] [] [(100,0)] ?_
     simp only [allQ,live,yc,yu,go_sem,Nat.reduceEqDiff,Nat.reduceLeDiff,↓reduceIte,reduceCtorEq]
     refine ⟨by omega,fun i hi=>?_⟩
     by_cases q1:i < k
     ·simp only [if_pos q1,if_pos (show i < k + 1 by omega)]
      simp only [yc,go_sem]
     ·by_cases q2:i = k
      ·simp only [if_neg q1,if_pos q2,if_pos (show i < k + 1 by omega)]
       subst q2
       simp only [hbl,yc,go_sem,Nat.reduceEqDiff,↓reduceIte]
      ·simp only [if_neg q1,if_neg q2,if_neg (show ¬ i < k + 1 by omega)]
       simp only [yc,go_sem]
  ·obtain rfl:k = n:=by omega
   simp only [ybku,go_sem,Nat.reduceEqDiff,Nat.reduceAdd,Nat.reduceLeDiff,↓reduceIte,reduceCtorEq]
   refine ⟨fun q hq=>by simp only [if_pos hq]; simp only [go_sem],?_⟩
   refine ydac ?_ (by simp only [yex,go_sem])
   simp only [SimL,yex,yj,yba,ybb,ydj,hn,yc,true_and,and_true]
   refine ⟨?_,?_⟩
   ·rw [yu]
    refine ⟨rfl,?_⟩
    unfold ybue
    rw [List.take_of_length_le (by omega)]
   ·refine yio fun q hq=>?_
    simp only [if_pos hq]
    simp only [SimL,yc,go_sem]
end Sh
end Go.Proofs.YtpngeppkgoaimaaGreatDoor

namespace Go.Proofs.YtpngeppkgoaimaaGreatDoor

def yiw (f:Nat -> Bool):Nat -> Nat
 | 0=>0
 | n + 1=>if f n then yiw f n ||| 2 ^ n else yiw f n
theorem yja (f:Nat -> Bool):∀ (n i:Nat),(yiw f n).testBit i = (decide (i < n) && f i)
 | 0,i=>by simp [yiw]
 | n + 1,i=>by
  unfold yiw
  have ih:=yja f n i
  by_cases h:f n = true
  ·rw [if_pos h,Nat.testBit_or,ih,Nat.testBit_two_pow]
   by_cases e:n = i
   ·subst e; simp [h]
   ·have:(i < n + 1) = (i < n):=propext (by omega)
    simp [e,this]
  ·rw [if_neg h,ih]
   by_cases e:n = i
   ·subst e; simp [h]
   ·have:(i < n + 1) = (i < n):=propext (by omega)
    simp [this]
theorem ybgp (f:Nat -> Bool) (n:Nat):yiw f n < 2 ^ n:=by
 refine Nat.lt_pow_two_of_testBit _ fun i hi=>?_
 rw [yja]; simp; omega
def difB (a b:Nat):Nat:=a ^^^ (a &&& b)
theorem yjk (a b i:Nat):(difB a b).testBit i = (a.testBit i && !(b.testBit i)):=by
 unfold difB
 rw [Nat.testBit_xor,Nat.testBit_and]
 cases a.testBit i <;> cases b.testBit i <;> rfl
theorem ycu (a:Nat):a = 0 ↔ ∀ i,a.testBit i = false:=by
 constructor
 ·rintro rfl i; simp
 ·intro h; exact Nat.eq_of_testBit_eq fun i=>by rw [h i]; simp
theorem yccy {a b n:Nat} (h:a < 2 ^ n):a &&& b < 2 ^ n:=by
 have:=Nat.and_le_left (n:=a) (m:=b); omega
theorem ybdm {a b n:Nat} (h:a < 2 ^ n):difB a b < 2 ^ n:=by
 refine Nat.lt_pow_two_of_testBit _ fun i hi=>?_
 rw [yjk,Nat.testBit_lt_two_pow (Nat.lt_of_lt_of_le h (Nat.pow_le_pow_right (by omega) hi))]
 rfl
structure Cnt where
 steps:Nat
 moves:Nat
 rounds:Nat
 begun:Nat
 pend:Nat
def yfo (s:Nat):Nat -> Nat
 | 0=>0
 | n + 1=>yfo s n + (s.testBit n).toNat
def popP (s:Nat):Nat:=yfo s 32
def ydd (e:Nat):Cnt:=⟨0,0,0,0,e⟩
def addP (k:Cnt) (chosen after:Nat):Cnt :=
 let p:=difB k.pend chosen &&& after
 ⟨k.steps + 1,k.moves + popP chosen,if p = 0 then k.rounds + 1 else k.rounds,k.rounds + 1,if p = 0 then after else p⟩
def Cnt.ok (k:Cnt):Prop:=k.rounds <= k.begun /\ k.begun <= k.rounds + 1 /\ k.begun <= k.steps /\ k.steps <= k.moves /\ k.moves <= 24 * k.steps /\ k.pend < 2 ^ 24
theorem yji (s:Nat):∀ n,yfo s n <= n
 | 0=>Nat.le_refl _
 | n + 1=>by
  have:=yji s n
  unfold yfo
  cases s.testBit n <;> simp [Bool.toNat] <;> omega
theorem ysy (s:Nat) (h:s < 2 ^ 24):∀ k,yfo s (24 + k) = yfo s 24
 | 0=>rfl
 | k + 1=>by
  have e:s.testBit (24 + k) = false:=Nat.testBit_lt_two_pow (Nat.lt_of_lt_of_le h (Nat.pow_le_pow_right (by omega) (by omega)))
  show yfo s (24 + k) + (s.testBit (24 + k)).toNat = _
  rw [ysy s h k,e]
  rfl
theorem ybqh (s:Nat) (h:s < 2 ^ 24):popP s <= 24:=by
 have:=ysy s h 8
 unfold popP
 rw [this]; exact yji s 24
theorem yzz {s i:Nat} (hs:s.testBit i = true):∀ n,i < n -> 1 <= yfo s n
 | 0,h=>by omega
 | n + 1,h=>by
  unfold yfo
  by_cases e:i = n
  ·subst e; rw [hs]; simp
  ·have:=yzz hs n (by omega); omega
theorem ybvg (s:Nat) (h:s < 2 ^ 32) (h0:s ≠ 0):1 <= popP s:=by
 refine Classical.byContradiction fun hc=>h0 ?_
 rw [ycu]
 intro i
 cases hb:s.testBit i with
 | false=>rfl
 | true =>
  exfalso
  have hi:i < 32:=by
   refine Classical.byContradiction fun hi=>?_
   rw [Nat.testBit_lt_two_pow (Nat.lt_of_lt_of_le h (Nat.pow_le_pow_right (by omega) (by omega)))] at hb
   cases hb
  exact hc (yzz hb 32 hi)
theorem ybty {e:Nat} (h:e < 2 ^ 24):(ydd e).ok:=⟨Nat.le_refl _,by simp [ydd],Nat.le_refl _,Nat.le_refl _,by simp [ydd],h⟩
theorem ycrk {k:Cnt} {s e:Nat} (hk:k.ok) (hs:s < 2 ^ 24) (h0:s ≠ 0) (he:e < 2 ^ 24):(addP k s e).ok:=by
 obtain ⟨h1,h2,h3,h4,h5,h6⟩:=hk
 have p1:=ybqh s hs
 have p2:=ybvg s (by omega) h0
 have hp:difB k.pend s &&& e < 2 ^ 24:=yccy (ybdm h6)
 unfold addP Cnt.ok
 simp only
 refine ⟨by split <;> omega,by split <;> omega,by omega,by omega,by omega,by split <;> omega⟩

structure Sys where
 n:Nat
 en:Conf -> Nat
 mv:Conf -> Nat -> Conf
def Sys.run (S:Sys) (res:Nat -> Nat -> Nat):List Nat -> Conf -> Cnt -> List (Conf × Cnt)
 | [],_,_=>[]
 | w :: ws,c,k=>if S.en c = 0 then [] else (let s:=res (S.en c) w
  let d:=S.mv c s
  (d,addP k s (S.en d)) :: S.run res ws d (addP k s (S.en d)))
def Sys.runs (S:Sys) (res:Nat -> Nat -> Nat) (ws:List Nat) (c:Conf):List (Conf × Cnt):=(c,ydd (S.en c)) :: S.run res ws c (ydd (S.en c))
def subB (a b:Nat):Prop:=∀ i,a.testBit i = true -> b.testBit i = true
def ybco (res:Nat -> Nat -> Nat):Prop:=∀ e w,e ≠ 0 -> res e w ≠ 0 /\ subB (res e w) e
theorem Sys.run_all {S:Sys} {res:Nat -> Nat -> Nat} (hr:ybco res) {J:Conf -> Cnt -> Prop} (hstep:∀ c k s,J c k -> s ≠ 0 -> subB s (S.en c) -> J (S.mv c s) (addP k s (S.en (S.mv c s)))) :
  ∀ (ws:List Nat) (c:Conf) (k:Cnt),J c k -> ∀ p ∈ S.run res ws c k,J p.1 p.2
 | [],_,_,_,p,hp=>by cases hp
 | w :: ws,c,k,hJ,p,hp=>by
  unfold Sys.run at hp
  split at hp
  ·cases hp
  ·rename_i h0
   obtain ⟨r1,r2⟩:=hr _ w h0
   have hJ':=hstep c k _ hJ r1 r2
   rcases List.mem_cons.1 hp with e | e
   ·rw [e]; exact hJ'
   ·exact Sys.run_all hr hstep ws _ _ hJ' p e
theorem Sys.runs_all {S:Sys} {res:Nat -> Nat -> Nat} (hr:ybco res) {J:Conf -> Cnt -> Prop} (hstep:∀ c k s,J c k -> s ≠ 0 -> subB s (S.en c) -> J (S.mv c s) (addP k s (S.en (S.mv c s)))) {ws:List Nat} {c:Conf} (h:J c (ydd (S.en c))):∀ p ∈ S.runs res ws c,J p.1 p.2:=fun p hp=>by
 rcases List.mem_cons.1 hp with e | e
 ·rw [e]; exact h
 ·exact Sys.run_all hr hstep ws _ _ h p e

structure ByRounds (S:Sys) (V:Conf -> Prop) (P:Nat -> Nat -> List Int -> Prop):Prop where
 valid:∀ c s,V c -> s ≠ 0 -> subB s (S.en c) -> V (S.mv c s)
 stay:∀ c s v,V c -> v < S.n -> s.testBit v = false -> (S.mv c s).getD v [] = c.getD v []
 move:∀ c s v r,V c -> v < S.n -> s.testBit v = true -> subB s (S.en c) -> (∀ u,u < S.n -> P r u (c.getD u [])) -> P (r + 1) v ((S.mv c s).getD v [])
 rest:∀ c v r,V c -> v < S.n -> (S.en c).testBit v = false -> (∀ u,u < S.n -> P r u (c.getD u [])) -> P (r + 1) v (c.getD v [])
 less:∀ r v s,P (r + 1) v s -> P r v s
structure RInv (S:Sys) (V:Conf -> Prop) (P:Nat -> Nat -> List Int -> Prop) (c:Conf) (k:Cnt):Prop where
 valid:V c
 all:∀ v,v < S.n -> P k.rounds v (c.getD v [])
 done:∀ v,v < S.n -> k.pend.testBit v = false -> P (k.rounds + 1) v (c.getD v [])
 begun:k.begun <= k.rounds + 1
theorem ByRounds.start {S:Sys} {V:Conf -> Prop} {P:Nat -> Nat -> List Int -> Prop} (h:ByRounds S V P) {c:Conf} (hv:V c) (h0:∀ v,v < S.n -> P 0 v (c.getD v [])):RInv S V P c (ydd (S.en c)) :=
 ⟨hv,h0,fun v hn hb=>h.rest c v 0 hv hn hb h0,by simp [ydd]⟩
theorem ByRounds.step {S:Sys} {V:Conf -> Prop} {P:Nat -> Nat -> List Int -> Prop} (h:ByRounds S V P) (c:Conf) (k:Cnt) (s:Nat) (hi:RInv S V P c k) (h0:s ≠ 0) (hs:subB s (S.en c)):RInv S V P (S.mv c s) (addP k s (S.en (S.mv c s))):=by
 obtain ⟨i1,i2,i3,i4⟩:=hi
 have hv:=h.valid c s i1 h0 hs
 have hall:∀ v,v < S.n -> P k.rounds v ((S.mv c s).getD v []):=fun v hn=>by
  cases hb:s.testBit v with
  | true=>exact h.less _ _ _ (h.move c s v _ i1 hn hb hs i2)
  | false=>rw [h.stay c s v i1 hn hb]; exact i2 v hn
 have hnext:∀ v,v < S.n -> (difB k.pend s &&& S.en (S.mv c s)).testBit v = false -> P (k.rounds + 1) v ((S.mv c s).getD v []):=fun v hn hb=>by
  rw [Nat.testBit_and,yjk] at hb
  cases hb1:s.testBit v with
  | true=>exact h.move c s v _ i1 hn hb1 hs i2
  | false =>
   cases hb2:k.pend.testBit v with
   | false=>rw [h.stay c s v i1 hn hb1]; exact i3 v hn hb2
   | true =>
    rw [hb1,hb2] at hb
    exact h.rest _ v _ hv hn (by simpa using hb) hall
 unfold addP
 simp only
 by_cases hp:difB k.pend s &&& S.en (S.mv c s) = 0
 ·simp only [if_pos hp]
  have hall':∀ v,v < S.n -> P (k.rounds + 1) v ((S.mv c s).getD v []):=fun v hn=>hnext v hn (by rw [hp]; simp)
  exact ⟨hv,hall',fun v hn hb=>h.rest _ v _ hv hn hb hall',by show k.rounds + 1 <= _; simp⟩
 ·simp only [if_neg hp]
  exact ⟨hv,hall,hnext,Nat.le_refl _⟩
theorem ByRounds.runs {S:Sys} {V:Conf -> Prop} {P:Nat -> Nat -> List Int -> Prop} (h:ByRounds S V P) {res:Nat -> Nat -> Nat} (hr:ybco res) {ws:List Nat} {c:Conf} (hv:V c) (h0:∀ v,v < S.n -> P 0 v (c.getD v [])):∀ p ∈ S.runs res ws c,RInv S V P p.1 p.2 :=
 Sys.runs_all hr h.step (h.start hv h0)
end Go.Proofs.YtpngeppkgoaimaaGreatDoor

namespace Go.Proofs.YtpngeppkgoaimaaGreatDoor

structure RuleT where
 name:ByteArray
 guard:Ex
 sets:List (Int × Ex)
structure ProgT where
 name:ByteArray
 vars:List VarR
 rules:List RuleT
instance:Inhabited Ex:=⟨.leaf 0 0⟩
instance:Inhabited RuleT:=⟨⟨.empty,default,[]⟩⟩
def RuleT.raw (r:RuleT):RuleR:=⟨r.name,r.guard.ser,r.sets.map fun s=>⟨s.1,s.2.ser⟩⟩
def ProgT.raw (p:ProgT):ProgR:=⟨p.name,p.vars,p.rules.map RuleT.raw⟩
def RuleT.ok (nv:Nat) (r:RuleT):Bool:=r.guard.ok nv false && decide (r.guard.ser.length <= 1000) && decide (r.sets.length <= 100) && r.sets.all fun s=>decide (0 <= s.1 /\ s.1 < nv) && s.2.ok nv false && decide (s.2.ser.length <= 1000)
def VarR.ok (x:VarR):Bool:=decide (x.kind = 1 \/ x.kind = 2 \/ x.kind = 3) && decide (0 <= x.lo /\ x.lo <= 4096) && decide (-4096 <= x.hi /\ x.hi <= 4096) && decide (0 <= x.perNode /\ x.perNode <= 255) && decide (0 <= x.perID /\ x.perID <= 255)
def ProgT.ok (p:ProgT):Bool:=decide (1 <= p.vars.length /\ p.vars.length <= 6) && p.vars.all VarR.ok && decide (p.rules.length <= 12) && p.rules.all (RuleT.ok p.vars.length)

def yjx (g:Gr) (c:Conf) (v:Nat) (r:RuleT):Bool:=ybt g c v r.guard (-1) != 0
def ygj (p:ProgT) (g:Gr) (c:Conf) (v:Nat):Int:=match p.rules.findIdx? (yjx g c v) with | some i=>i | none=>-1
def ybd (g:Gr) (v:Nat) (x:VarR):Int × Int :=
 if x.kind = 1 then (x.lo,x.hi + x.perNode * (g.ids.length:Int) + x.perID * maxI g.ids) else if x.kind = 2 then (0,1) else if x.kind = 3 then (-1,((g.ports.getD v []).length:Int) - 1) else (0,-1)
def yfk (kind:Int) (b:Int × Int) (x:Int):Int:=if x >= b.1 /\ x <= b.2 then x else if kind = 3 then -1 else if x < b.1 then b.1 else b.2
def ymk (p:ProgT) (g:Gr) (c:Conf) (v:Nat) (s0:List Int) (sets:List (Int × Ex)):List Int :=
 sets.foldl (fun s a=>s.set a.1.toNat (yfk (p.vars.getD a.1.toNat default).kind (ybd g v (p.vars.getD a.1.toNat default)) (ybt g c v a.2 (-1)))) s0
def yyr (p:ProgT) (g:Gr) (c:Conf) (v:Nat) (r:Nat):List Int:=ymk p g c v (c.getD v []) (p.rules.getD r default).sets
def ybk (p:ProgT) (g:Gr) (c:Conf):Nat:=yiw (fun v=>decide (ygj p g c v >= 0)) g.ids.length
def ykr (p:ProgT) (g:Gr) (c:Conf) (s:Nat):Conf:=c.zipIdx.map fun q=>if s.testBit q.2 then yyr p g c q.2 (ygj p g c q.2).toNat else q.1
def ybh (p:ProgT) (g:Gr):Sys:=⟨g.ids.length,ybk p g,ykr p g⟩
def ycs (p:ProgT) (g:Gr) (c:Conf):Bool:=yor g.ids.length (fun v=>p.vars.map (ybd g v)) c
end Go.Proofs.YtpngeppkgoaimaaGreatDoor

namespace Go.Proofs.YtpngeppkgoaimaaGreatDoor
namespace Sh
open Go Ev
set_option maxRecDepth 8000

theorem ycpr {g:Gr} (hg:ybc g):0 <= maxI g.ids /\ maxI g.ids <= 255:=by
 have h1:=hg.1
 have h2:=hg.2.2.1
 rw [ybgm (by omega) fun x hx=>(hg.2.2.2.1 x hx).1]
 exact yqg hg
theorem ybbl {x:VarR} (h:x.ok = true):(x.kind = 1 \/ x.kind = 2 \/ x.kind = 3) /\ (0 <= x.lo /\ x.lo <= 4096) /\ (-4096 <= x.hi /\ x.hi <= 4096) /\ (0 <= x.perNode /\ x.perNode <= 255) /\ (0 <= x.perID /\ x.perID <= 255):=by
 unfold VarR.ok at h
 simp only [Bool.and_eq_true,decide_eq_true_eq] at h
 obtain ⟨⟨⟨⟨a,b⟩,c⟩,d⟩,e⟩:=h
 exact ⟨a,b,c,d,e⟩
theorem mulN {a b A B:Int} (h1:0 <= a) (h2:a <= A) (h3:0 <= b) (h4:b <= B):0 <= a * b /\ a * b <= A * B:=⟨Int.mul_nonneg h1 h3,Int.mul_le_mul h2 h4 h3 (by omega)⟩
theorem yll {g:Gr} (hg:ybc g) {x:VarR} (hx:x.ok = true):(0 <= x.perNode * (g.ids.length:Int) /\ x.perNode * (g.ids.length:Int) <= 255 * 24) /\ (0 <= x.perID * maxI g.ids /\ x.perID * maxI g.ids <= 255 * 255):=by
 obtain ⟨_,_,_,h4,h5⟩:=ybbl hx
 have h6:=ycpr hg
 have h7:=hg.2.1
 have h8:=hg.2.2.1
 exact ⟨mulN h4.1 h4.2 (by omega) (by omega),mulN h5.1 h5.2 h6.1 h6.2⟩
theorem ybcu {g:Gr} (hg:ybc g) {x:VarR} (hx:x.ok = true) (v:Int):Returns Tryz.prog 171 [.ag (varC x),grV g,.i .i64 v] (.tp [.i .i64 x.lo,.i .i64 (x.hi + x.perNode * (g.ids.length:Int) + x.perID * maxI g.ids)]):=by
 refine Returns.of (ycrr _ _ ?_)
 have h1:=hg.1
 have h7:=hg.2.1
 have h8:=hg.2.2.1
 have hM:=ycrx g.ids (by omega) (by omega)
 obtain ⟨hb1,hb2⟩:=yll hg hx
 obtain ⟨_,_,hv3,_,_⟩:=ybbl hx
 simp only [yj] at hM
 simp only [c171,ychw,ycix,grV,varC,yj,go_sem,Nat.reduceEqDiff,Nat.reduceAdd,Nat.reduceLeDiff,Nat.reduceLT,↓reduceIte,reduceCtorEq]
 refine ⟨ikw (by omega) (by omega),ikw (by omega) (by omega),hM.use ?_⟩
 simp only [thenO,go_sem,Nat.reduceEqDiff,Nat.reduceAdd,↓reduceIte,reduceCtorEq]
 refine ⟨ikw (by omega) (by omega),ikw (by omega) (by omega),?_⟩
 exact Sim.refl _
theorem ybdq (g:Gr) (x:VarR) (v:Int):Returns Tryz.prog 172 [.ag (varC x),grV g,.i .i64 v] (.tp [.i .i64 0,.i .i64 1]):=by
 refine Returns.of (ycrp _ _ ?_)
 simp only [c172,ycdn,yciv,grV,varC,go_sem,Nat.reduceEqDiff,Nat.reduceAdd,Nat.reduceLT,↓reduceIte,reduceCtorEq]
 exact Sim.refl _
theorem ybbr {g:Gr} (hg:ybc g) (x:VarR) {v:Nat} (hv:v < g.ports.length):Returns Tryz.prog 173 [.ag (varC x),grV g,.i .i64 v] (.tp [.i .i64 (-1),.i .i64 (((g.ports.getD v []).length:Int) - 1)]):=by
 refine Returns.of (ycok _ _ ?_)
 have hd:=hg.deg_lt (v:=v)
 simp only [c173,yche,ychr,grV,yba,ybb,varC,go_sem,Nat.reduceEqDiff,Nat.reduceAdd,Nat.reduceLT,↓reduceIte,reduceCtorEq]
 refine ⟨by omega,ikw (by omega) (by omega),?_⟩
 exact Sim.refl _
theorem ybnm (kind:Int) (b:Int × Int) (x:Int):Returns Tryz.prog 195 [.i .i64 kind,.ag [.i .i64 b.1,.i .i64 b.2],.i .i64 x] (.i .i64 (yfk kind b x)):=by
 refine Returns.of (yctx _ _ ?_)
 simp only [c195,ycdy,ycio,ybzz,ycee,ycks,ycku,ycis,ycky,yu,yfk,go_sem,Int.reduceToNat,Nat.reduceEqDiff,Nat.reduceAdd,Nat.reduceLeDiff,Nat.reduceLT,Nat.reduceMul,↓reduceIte,reduceCtorEq]
 refine ⟨by omega,fun h1=>⟨by omega,fun h2=>by rw [if_pos ⟨h1,h2⟩],fun h2=>⟨fun h3=>by rw [if_neg (fun q=>h2 q.2),if_pos h3],fun h3=>⟨by omega,fun h4=>⟨by omega,by rw [if_neg (fun q=>h2 q.2),if_neg h3,if_pos h4]⟩,fun h4=>⟨by omega,by rw [if_neg (fun q=>h2 q.2),if_neg h3,if_neg h4]⟩⟩⟩⟩,fun h1=>⟨fun h3=>by rw [if_neg (fun q=>h1 q.1),if_pos h3],fun h3=>⟨by omega,fun h4=>⟨by omega,by rw [if_neg (fun q=>h1 q.1),if_neg h3,if_pos h4]⟩,fun h4=>⟨by omega,by rw [if_neg (fun q=>h1 q.1),if_neg h3,if_neg h4]⟩⟩⟩⟩
theorem ytb {g:Gr} (hg:ybc g) {x:VarR} (hx:x.ok = true) {v:Nat} (hv:v < g.ports.length):Returns Tryz.prog 143 [.ag (varC x),grV g,.i .i64 v] (.tp [.i .i64 (ybd g v x).1,.i .i64 (ybd g v x).2]):=by
 refine Returns.of (ycsa _ _ ?_)
 have h1:=ybcu hg hx v
 have h2:=ybdq g x v
 have h3:=ybbr hg x hv
 obtain ⟨hk,_⟩:=ybbl hx
 simp only [varC,grV] at h1 h2 h3
 simp only [c143,ycjr,yckj,yclq,varC,grV,splice,go_sem,Nat.reduceEqDiff,Nat.reduceAdd,Nat.reduceLeDiff,Nat.reduceLT,↓reduceIte,reduceCtorEq]
 refine ybe (σ:=Nat) (fun k=>⟨[(17,.i .i64 k),(15,.os (14,0) 0 3 true),(16,.i .i64 3),(2,.i .i64 v),(3,.pt (3,0) 0 0),(4,.pt (4,0) 0 0)],
   [(3,.one (some ⟨73,true,6,1,fun _=>varC x⟩)),(4,.one (some ⟨28,true,2,1,fun _=>[yj g.ids,yba g.ports]⟩)),
    (14,.one (some ⟨208,false,2,3,fun k=>if k = 0 then [.i .i64 1,.fn 171 [] []] else if k = 1 then [.i .i64 2,.fn 172 [] []] else [.i .i64 3,.fn 173 [] []]⟩))]⟩)
  (fun k=>k <= 2 /\ (1 <= k -> x.kind ≠ 1) /\ (2 <= k -> x.kind ≠ 2)) (fun k=>3 - k) 0 ⟨by omega,by omega,by omega⟩ ?_ ?_
 ·refine yg [] [] [] ?_
  simp only [varC,allQ,live,yc,yu,Int.natCast_zero,go_sem,Nat.reduceEqDiff,↓reduceIte,reduceCtorEq]
  refine ⟨rfl,fun i hi=>?_⟩
  rcases (show i = 0 \/ i = 1 \/ i = 2 by omega) with rfl | rfl | rfl
  ·simp only [live,yc,go_sem,↓reduceIte,reduceCtorEq]
  ·simp only [if_neg (show ¬ (1:Nat) = 0 by omega),live,yc,go_sem,↓reduceIte,reduceCtorEq]
  ·simp only [if_neg (show ¬ (2:Nat) = 0 by omega),if_neg (show ¬ (2:Nat) = 1 by omega),live,yc,go_sem,Nat.reduceEqDiff,↓reduceIte,reduceCtorEq]
 ·rintro k ⟨hk2,hk3,hk4⟩
  rcases (show k = 0 \/ k = 1 \/ k = 2 by omega) with rfl | rfl | rfl
  ·simp only [ybfh,ybgq,ybga,ybgb,ybfm,ybfa,varC,splice,go_sem,Nat.reduceEqDiff,Nat.reduceAdd,Nat.reduceLeDiff,Nat.reduceLT,↓reduceIte,reduceCtorEq]
   refine ⟨fun _=>⟨by omega,fun he=>h1.use ?_,fun he=>⟨ikw (by omega) (by omega),?_⟩⟩,fun h=>by omega⟩
   ·simp only [thenO,go_sem,Nat.reduceEqDiff,Nat.reduceAdd,↓reduceIte,reduceCtorEq]
    have e:ybd g v x = (x.lo,x.hi + x.perNode * (g.ids.length:Int) + x.perID * maxI g.ids):=by unfold ybd; rw [if_pos he.symm]
    rw [e]
    exact Sim.refl _
   ·refine yh 1 ⟨by omega,fun _ q=>he q.symm,by omega⟩ (by omega) ?_
    refine yg [] [] [] ?_
    simp only [allQ,live,yc,yu,Int.natCast_zero,go_sem,Nat.reduceEqDiff,↓reduceIte,reduceCtorEq]
    refine ⟨by omega,fun i hi=>?_⟩
    rcases (show i = 0 \/ i = 1 \/ i = 2 by omega) with rfl | rfl | rfl
    ·simp only [live,yc,go_sem,↓reduceIte,reduceCtorEq]
    ·simp only [if_neg (show ¬ (1:Nat) = 0 by omega),live,yc,go_sem,↓reduceIte,reduceCtorEq]
    ·simp only [if_neg (show ¬ (2:Nat) = 0 by omega),if_neg (show ¬ (2:Nat) = 1 by omega),live,yc,go_sem,Nat.reduceEqDiff,↓reduceIte,reduceCtorEq]
  ·simp only [ybfh,ybgq,ybga,ybgb,ybfm,ybfa,varC,splice,go_sem,Nat.reduceEqDiff,Nat.reduceAdd,Nat.reduceLeDiff,Nat.reduceLT,↓reduceIte,reduceCtorEq]
   refine ⟨fun _=>⟨by omega,fun he=>h2.use ?_,fun he=>⟨ikw (by omega) (by omega),?_⟩⟩,fun h=>by omega⟩
   ·simp only [thenO,go_sem,Nat.reduceEqDiff,Nat.reduceAdd,↓reduceIte,reduceCtorEq]
    have e:ybd g v x = (0,1):=by unfold ybd; rw [if_neg (by omega),if_pos he.symm]
    rw [e]
    exact Sim.refl _
   ·refine yh 2 ⟨by omega,fun _=>by omega,fun _ q=>he q.symm⟩ (by omega) ?_
    refine yg [] [] [] ?_
    simp only [allQ,live,yc,yu,go_sem,Nat.reduceEqDiff,↓reduceIte,reduceCtorEq]
    refine ⟨by omega,fun i hi=>?_⟩
    rcases (show i = 0 \/ i = 1 \/ i = 2 by omega) with rfl | rfl | rfl
    ·simp only [live,yc,go_sem,↓reduceIte,reduceCtorEq]
    ·simp only [if_neg (show ¬ (1:Nat) = 0 by omega),live,yc,go_sem,↓reduceIte,reduceCtorEq]
    ·simp only [if_neg (show ¬ (2:Nat) = 0 by omega),if_neg (show ¬ (2:Nat) = 1 by omega),live,yc,go_sem,Nat.reduceEqDiff,↓reduceIte,reduceCtorEq]
  ·simp only [ybfh,ybgq,ybga,ybgb,ybfm,ybfa,varC,splice,go_sem,Nat.reduceEqDiff,Nat.reduceAdd,Nat.reduceLeDiff,Nat.reduceLT,↓reduceIte,reduceCtorEq]
   refine ⟨fun _=>⟨by omega,fun he=>h3.use ?_,fun he=>by omega⟩,fun h=>by omega⟩
   simp only [thenO,go_sem,Nat.reduceEqDiff,Nat.reduceAdd,↓reduceIte,reduceCtorEq]
   have e:ybd g v x = (-1,((g.ports.getD v []).length:Int) - 1):=by unfold ybd; rw [if_neg (by omega),if_neg (by omega),if_pos he.symm]
   rw [e]
   exact Sim.refl _
def yih (n:Nat) (vars:List VarR) (b:Nat -> VarR -> Int × Int):SV:=.sl 1 n (fun v=>[.sl 2 vars.length (fun i=>[.i .i64 (b v (vars.getD i default)).1,.i .i64 (b v (vars.getD i default)).2])])
def rowT (vars:List VarR) (b:VarR -> Int × Int):SV:=.sl 2 vars.length (fun i=>[.i .i64 (b (vars.getD i default)).1,.i .i64 (b (vars.getD i default)).2])
theorem ybbd (p:ProgR) {g:Gr} (hg:ybc g) (hp:p.vars.all VarR.ok = true) (hl:p.vars.length <= 6):Returns Tryz.prog 104 [.ag (ymc p),grV g] (yih g.ids.length p.vars (ybd g)):=by
 refine Returns.of (yctd _ _ ?_)
 have h24:=hg.2.1
 have hid:=hg.2.2.1
 obtain ⟨n,hn⟩:∃ n,g.ids.length = n:=⟨_,rfl⟩
 obtain ⟨nv,hnv⟩:∃ k,p.vars.length = k:=⟨_,rfl⟩
 rw [hn]
 rw [hnv] at hl
 simp only [c104,ycew,ycdk,yceu,grV,yj,ymc,hn,go_sem,Nat.reduceEqDiff,Nat.reduceAdd,Nat.reduceLeDiff,Nat.reduceLT,↓reduceIte,reduceCtorEq]
 refine ⟨by omega,?_⟩
 refine ybe (σ:=Nat) (fun k=>⟨[(15,.i .i64 k),(14,.i .i64 n),(5,.os (12,0) 0 n true),(2,.pt (2,0) 0 0),(3,.pt (3,0) 0 0)],
   [(2,.one (some ⟨53,true,3,1,fun _=>ymc p⟩)),(3,.one (some ⟨28,true,2,1,fun _=>[yj g.ids,yba g.ports]⟩)),
    (12,.one (some ⟨172,false,1,n,fun i=>[if i < k then rowT p.vars (ybd g i) else .a (.slice none 0 0)]⟩))]⟩) (fun k=>k <= n) (fun k=>n - k) 0 (Nat.zero_le _) ?_ ?_
 ·refine yg [] [] [] ?_
  simp only [ymc,yj,hn,allQ,live,yc,Int.natCast_zero,go_sem,Nat.reduceEqDiff,↓reduceIte,reduceCtorEq]
  intro i _
  rw [if_neg (by omega)]
  simp only [yc,go_sem]
 ·intro k hk
  simp only [ycgd,ycec,ycje,ycam,ymc,ydb,splice,hnv,go_sem,Nat.reduceEqDiff,Nat.reduceAdd,Nat.reduceLeDiff,Nat.reduceLT,↓reduceIte,reduceCtorEq]
  refine ⟨fun hlt=>⟨by omega,by omega,by omega,?_⟩,fun hlt=>?_⟩
  ·have hk':k < n:=by omega
   let b:Nat -> Int × Int:=fun i=>ybd g k (p.vars.getD i default)
   refine ybe (σ:=Nat) (fun j=>⟨[(28,.i .i64 j),(26,ydb p.vars),(27,.i .i64 nv),(6,.i .i64 k),(15,.i .i64 k),(14,.i .i64 n),(5,.os (12,0) 0 n true),(2,.pt (2,0) 0 0),(3,.pt (3,0) 0 0)],
    [(2,.one (some ⟨53,true,3,1,fun _=>ymc p⟩)),(3,.one (some ⟨28,true,2,1,fun _=>[yj g.ids,yba g.ports]⟩)),
     (12,.one (some ⟨172,false,1,n,fun i=>[if i < k then rowT p.vars (ybd g i) else if i = k then .os (23,0) 0 nv true else .a (.slice none 0 0)]⟩)),
     (23,.one (some ⟨175,false,2,nv,fun i=>[.i .i64 (if i < j then (b i).1 else 0),.i .i64 (if i < j then (b i).2 else 0)]⟩))]⟩) (fun j=>j <= nv) (fun j=>nv - j) 0 (Nat.zero_le _) ?_ ?_
   ·refine yg [] [] [] ?_
    simp only [ymc,ydb,hnv,allQ,live,yc,yu,Int.natCast_zero,go_sem,Nat.reduceEqDiff,↓reduceIte,reduceCtorEq]
    refine ⟨fun i hi=>?_,fun i hi=>?_⟩
    ·by_cases q2:i = k
     ·simp only [if_pos q2,if_neg (show ¬ i < k by omega)]
      simp only [live,yc,go_sem,Nat.reduceEqDiff,↓reduceIte,reduceCtorEq]
     ·simp only [if_neg q2]
      by_cases q1:i < k
      ·simp only [if_pos q1]
       simp only [rowT,live,yc,go_sem,reduceCtorEq]
      ·simp only [if_neg q1]
       simp only [live,yc,go_sem,reduceCtorEq]
    ·simp only [if_neg (Nat.not_lt_zero i),and_self]
   ·intro j hj
    simp only [ycbk,ycev,ycgs,ybqw,yblu,ymc,ydb,varC,splice,hnv,go_sem,Nat.reduceEqDiff,Nat.reduceAdd,Nat.reduceLT,↓reduceIte,reduceCtorEq]
    refine ⟨fun hlt=>?_,fun hlt=>?_⟩
    ·have hj':j < nv:=by omega
     have hB:=ytb hg (x:=p.vars.getD j default) (by
      rw [getD_at (by omega)]
      exact List.all_eq_true.1 hp _ (List.getElem_mem _)) (v:=k) (by omega)
     simp only [varC,grV] at hB
     refine ⟨by omega,by omega,by omega,by omega,by omega,hB.use ?_⟩
     simp only [thenO,splice,go_sem,Int.reduceToNat,Nat.reduceEqDiff,Nat.reduceAdd,Nat.reduceLeDiff,Nat.reduceMul,↓reduceIte,reduceCtorEq]
     refine ⟨by omega,by omega,by omega,by decide,by omega,by omega,by omega,by decide,ikw (by omega) (by omega),?_⟩
     refine yh (j + 1) (by omega) (by omega) ?_
     refine yg [] [] [] ?_
     simp only [allQ,live,yc,yu,go_sem,Nat.reduceEqDiff,↓reduceIte,reduceCtorEq]
     refine ⟨by omega,fun i hi=>?_,fun i hi=>?_⟩
     ·by_cases q1:i < k
      ·simp only [if_pos q1]
       simp only [rowT,yc,go_sem]
      ·simp only [if_neg q1]
       by_cases q2:i = k
       ·simp only [if_pos q2]
        simp only [live,yc,go_sem,Nat.reduceEqDiff,↓reduceIte]
       ·simp only [if_neg q2]
        simp only [yc,go_sem]
     ·by_cases q2:i = j
      ·subst q2
       simp only [if_pos (Nat.lt_succ_self i),↓reduceIte]
       simp only [live,yu,go_sem,reduceCtorEq]
       exact ⟨rfl,rfl⟩
      ·simp only [if_neg q2]
       by_cases q1:i < j
       ·simp only [if_pos q1,if_pos (show i < j + 1 by omega)]
        simp only [live,yc,go_sem,reduceCtorEq]
       ·simp only [if_neg q1,if_neg (show ¬ i < j + 1 by omega)]
        simp only [live,yc,go_sem,reduceCtorEq]
    ·obtain rfl:j = nv:=by omega
     refine ⟨ikw (by omega) (by omega),?_⟩
     refine yh (k + 1) (by omega) (by omega) ?_
     refine yg [] [] [(23,0)] ?_
     simp only [allQ,live,yc,yu,go_sem,Nat.reduceEqDiff,Nat.reduceLeDiff,↓reduceIte,reduceCtorEq]
     refine ⟨by omega,fun i hi=>?_⟩
     by_cases q1:i < k
     ·simp only [if_pos q1,if_pos (show i < k + 1 by omega)]
      simp only [rowT,yc,go_sem]
     ·by_cases q2:i = k
      ·simp only [if_neg q1,if_pos q2,if_pos (show i < k + 1 by omega)]
       subst q2
       simp only [rowT,hnv,go_sem,Nat.reduceEqDiff,↓reduceIte]
       refine yio fun q hq=>?_
       simp only [if_pos hq]
       simp only [SimL,go_sem]
       exact ⟨Sim.refl _,Sim.refl _⟩
      ·simp only [if_neg q1,if_neg q2,if_neg (show ¬ i < k + 1 by omega)]
       simp only [yc,go_sem]
  ·obtain rfl:k = n:=by omega
   simp only [ybnw,go_sem,Nat.reduceEqDiff,Nat.reduceAdd,↓reduceIte,reduceCtorEq]
   refine ⟨fun q hq=>by simp only [if_pos hq]; simp only [rowT,go_sem],?_⟩
   refine yio fun q hq=>?_
   simp only [if_pos hq]
   simp only [SimL,yc,rowT,hnv,go_sem]
end Sh
end Go.Proofs.YtpngeppkgoaimaaGreatDoor

namespace Go.Proofs.YtpngeppkgoaimaaGreatDoor
namespace Sh
open Go Ev
set_option maxRecDepth 8000

theorem ybnz (bs:Bounds) (s:List Int) (hl:bs.length <= 1000):Returns Tryz.prog 170 [ybb bs,yj s] (.b (ypu bs s)):=by
 refine Returns.of (yctz _ _ ?_)
 simp only [c170,ycdm,ychl,yclx,ycei,ybb,yj,sim_b,go_sem,Nat.reduceEqDiff,Nat.reduceAdd,↓reduceIte,reduceCtorEq]
 refine ⟨fun h=>?_,fun h=>?_⟩
 ·have:¬ ypu bs s = true:=fun q=>h (by rw [((yer bs s).1 q).1])
  simpa using this
 have hlen:s.length = bs.length:=by omega
 refine ybe (σ:=Nat) (fun k=>⟨[(14,.i .i64 k),(13,.i .i64 s.length),(12,yj s),(0,ybb bs)],[]⟩) (fun k=>k <= s.length /\ ∀ i,i < k -> (bs.getD i (0,0)).1 <= s.getD i 0 /\ s.getD i 0 <= (bs.getD i (0,0)).2) (fun k=>s.length - k) 0 ⟨Nat.zero_le _,fun i h=>absurd h (Nat.not_lt_zero _)⟩ ?_ ?_
 ·refine yg [] [] [] ?_
  simp only [ybb,yj,allQ,live,yc,Int.natCast_zero,go_sem,Nat.reduceEqDiff,↓reduceIte,reduceCtorEq]
 ·intro k ⟨hk,hall⟩
  simp only [ycau,ycex,yclp,ycgf,ycki,ycgi,ybb,yj,sim_b,go_sem,Int.reduceToNat,Nat.reduceEqDiff,Nat.reduceAdd,Nat.reduceLeDiff,Nat.reduceMul,↓reduceIte,reduceCtorEq]
  have hno:k < s.length -> ¬ ((bs.getD k (0,0)).1 <= s.getD k 0 /\ s.getD k 0 <= (bs.getD k (0,0)).2) -> ypu bs s = false:=fun hlt hn=>by
   have:¬ ypu bs s = true:=fun q=>hn (by
    have hb:k < bs.length:=by omega
    have:=((yer bs s).1 q).2 k bs[k] s[k] (List.getElem?_eq_getElem hb) (List.getElem?_eq_getElem hlt)
    rw [getD_at hlt,getD_at hb]
    exact this)
   simpa using this
  refine ⟨fun hlt=>⟨by omega,by omega,by omega,fun h1=>⟨by omega,by omega,fun h2=>?_,fun h2=>⟨ikw (by omega) (by omega),?_⟩⟩,fun h1=>?_⟩,fun hlt=>?_⟩
  ·rw [hno (by omega) (by omega)]
  ·refine yh (k + 1) ⟨by omega,fun i hi=>?_⟩ (by omega) ?_
   ·by_cases q:i < k
    ·exact hall i q
    ·obtain rfl:i = k:=by omega
     omega
   ·refine yg [] [] [] ?_
    simp only [allQ,live,yc,yu,go_sem,Nat.reduceEqDiff,↓reduceIte,reduceCtorEq]
    simp
  ·rw [hno (by omega) (by omega)]
  ·obtain rfl:k = s.length:=by omega
   rw [(yer bs s).2 ⟨hlen,fun i b x hb hx=>by
    have h1:=(List.getElem?_eq_some_iff.1 hx).1
    have:=hall i h1
    simp only [List.getD,hb,hx,Option.getD_some] at this
    exact this⟩]
theorem ybis {n:Nat} (vars:List VarR) (hv:vars.length <= 1000) (b:Nat -> VarR -> Int × Int) (c:Conf) (hn:n <= 1000):Returns Tryz.prog 141 [yih n vars b,ybg c] (.b (yor n (fun v=>vars.map (b v)) c)):=by
 refine Returns.of (ycog _ _ ?_)
 simp only [c141,yccd,ycfp,ycgz,ycin,yih,ybg,sim_b,go_sem,Nat.reduceEqDiff,Nat.reduceAdd,↓reduceIte,reduceCtorEq]
 refine ⟨fun h=>?_,fun h=>?_⟩
 ·rw [yhq fun q=>h (by rw [q.1])]
 have hlen:c.length = n:=by omega
 refine ybe (σ:=Nat) (fun k=>⟨[(14,.i .i64 k),(13,.i .i64 n),(12,yih n vars b),(1,ybg c)],[]⟩) (fun k=>k <= n /\ ∀ (i:Nat) s,i < k -> c[i]? = some s -> yed (vars.map (b i)) s) (fun k=>n - k) 0 ⟨Nat.zero_le _,fun i s h=>absurd h (Nat.not_lt_zero _)⟩ ?_ ?_
 ·refine yg [] [] [] ?_
  simp only [yih,ybg,allQ,live,yc,Int.natCast_zero,go_sem,Nat.reduceEqDiff,↓reduceIte,reduceCtorEq]
 ·intro k ⟨hk,hall⟩
  simp only [ycfu,ycgc,ycgr,yckv,yckn,ycco,yih,ybg,yj,sim_b,go_sem,Nat.reduceEqDiff,Nat.reduceAdd,↓reduceIte,reduceCtorEq]
  refine ⟨fun hlt=>⟨by omega,by omega,?_⟩,fun hlt=>?_⟩
  ·have hS:=ybnz (vars.map (b k)) (c.getD k []) (by simpa using hv)
   refine hS.useS ⟨?_,Sim.refl _,trivial⟩ ?_
   ·show Sim (.sl 2 vars.length _) (ybb (vars.map (b k)))
    unfold ybb
    rw [List.length_map]
    refine sim_sl fun i hi=>?_
    simp [List.getD,hi]
   ·simp only [thenO,sim_b,go_sem,Nat.reduceEqDiff,Nat.reduceAdd,↓reduceIte,reduceCtorEq]
    have hk':k < c.length:=by omega
    rw [getD_at hk']
    refine ⟨fun h1=>?_,fun h1=>⟨ikw (by omega) (by omega),?_⟩⟩
    ·rw [yhq fun q=>by
      have:=(yer _ _).2 (q.2 k c[k] (List.getElem?_eq_getElem hk'))
      rw [this] at h1; cases h1]
    ·refine yh (k + 1) ⟨by omega,fun i s hi hs=>?_⟩ (by omega) ?_
     ·by_cases q:i < k
      ·exact hall i s q hs
      ·obtain rfl:i = k:=by omega
       rw [List.getElem?_eq_getElem hk'] at hs
       cases hs
       exact (yer _ _).1 h1
     ·refine yg [] [] [] ?_
      simp only [allQ,live,yc,yu,go_sem,Nat.reduceEqDiff,↓reduceIte,reduceCtorEq]
      simp
  ·obtain rfl:k = n:=by omega
   rw [ysz ⟨hlen,fun v s hs=>hall v s (by have:=(List.getElem?_eq_some_iff.1 hs).1; omega) hs⟩]
theorem yww (c:Conf) (hc:∀ s ∈ c,0 < s.length /\ s.length <= 1000) (hl:c.length <= 1000):Returns Tryz.prog 92 [ybg c] (ybg c):=by
 refine Returns.of (ycur _ _ ?_)
 obtain ⟨n,hn⟩:∃ n,c.length = n:=⟨_,rfl⟩
 rw [hn] at hl
 simp only [c92,ycqq,ycox,ycrz,ybg,hn,go_sem,Nat.reduceEqDiff,Nat.reduceAdd,Nat.reduceLT,↓reduceIte,reduceCtorEq]
 refine ⟨by omega,?_⟩
 refine ybe (σ:=Nat) (fun k=>⟨[(11,.i .i64 k),(10,.i .i64 n),(9,ybg c),(3,.os (8,0) 0 n true)],[(8,.one (some ⟨22,false,1,n,fun i=>[if i < k then yj (c.getD i []) else .a (.slice none 0 0)]⟩))]⟩) (fun k=>k <= n) (fun k=>n - k) 0 (Nat.zero_le _) ?_ ?_
 ·refine yg [] [] [] ?_
  simp only [ybg,hn,allQ,live,yc,Int.natCast_zero,go_sem,Nat.reduceEqDiff,↓reduceIte,reduceCtorEq]
  intro i _
  rw [if_neg (by omega)]
  simp only [yc,go_sem]
 ·intro k hk
  have hrow:k < n -> 0 < (c.getD k []).length /\ (c.getD k []).length <= 1000:=fun h=>by
   have:=hc (c.getD k []) (by rw [getD_at (show k < c.length by omega)]; exact List.getElem_mem _)
   exact this
  by_cases hlt:k < n
  ·have hr:=hrow (by omega)
   have hr0:¬ (c.getD k []).length = 0:=by omega
   have ht:decide ((k:Int) < (n:Int)) = true:=decide_eq_true (by omega)
   simp only [ybpo,ybsz,ybqz,ybnb,ybtb,ybg,yj,splice,hn,hr0,ht,go_sem,Nat.reduceEqDiff,Nat.reduceAdd,Nat.reduceLT,↓reduceIte,reduceCtorEq]
   refine ⟨by omega,by omega,by omega,by omega,ikw (by omega) (by omega),?_⟩
   refine yh (k + 1) (by omega) (by omega) ?_
   refine yg [] [] [(19,0)] ?_
   simp only [allQ,live,yc,yu,go_sem,Nat.reduceEqDiff,↓reduceIte,reduceCtorEq]
   refine ⟨by omega,fun i hi=>?_⟩
   by_cases q2:i = k
   ·subst q2
    simp only [if_pos (Nat.lt_succ_self i),↓reduceIte]
    simp only [live,yc,go_sem,Nat.reduceEqDiff,↓reduceIte,reduceCtorEq]
   ·simp only [if_neg q2]
    by_cases q1:i < k
    ·simp only [if_pos q1,if_pos (show i < k + 1 by omega)]
     simp only [live,yc,go_sem,reduceCtorEq]
    ·simp only [if_neg q1,if_neg (show ¬ i < k + 1 by omega)]
     simp only [live,yc,go_sem,reduceCtorEq]
  ·obtain rfl:k = n:=by omega
   have ht:decide ((k:Int) < (k:Int)) = false:=decide_eq_false (by omega)
   simp only [ybpo,ybsz,ybqz,ybnb,ybtb,ybg,yj,hn,ht,go_sem,Nat.reduceEqDiff,Nat.reduceAdd,↓reduceIte,reduceCtorEq]
   refine ⟨fun q hq=>by simp only [if_pos hq]; simp only [go_sem],?_⟩
   refine yio fun q hq=>?_
   simp only [if_pos hq]
   simp only [SimL,yc,go_sem]
theorem ybvr (c:Conf) (hc:∀ s ∈ c,0 < s.length /\ s.length <= 1000) (hl:c.length <= 1000):Cm Tryz.prog 92 [] [] [ybg c] fun r o=>r = .os (8,0) 0 c.length true /\ o = [(8,.one (some ⟨22,false,1,c.length,fun i=>[yj (c.getD i [])]⟩))]:=by
 refine yctn [] [] _ _ _ ?_
 obtain ⟨n,hn⟩:∃ n,c.length = n:=⟨_,rfl⟩
 rw [hn] at hl ⊢
 simp only [c92,ycqq,ycox,ycrz,ybg,hn,go_sem,Nat.reduceEqDiff,Nat.reduceAdd,Nat.reduceLT,↓reduceIte,reduceCtorEq]
 refine ⟨by omega,?_⟩
 refine ybe (σ:=Nat) (fun k=>⟨[(11,.i .i64 k),(10,.i .i64 n),(9,ybg c),(3,.os (8,0) 0 n true)],[(8,.one (some ⟨22,false,1,n,fun i=>[if i < k then yj (c.getD i []) else .a (.slice none 0 0)]⟩))]⟩) (fun k=>k <= n) (fun k=>n - k) 0 (Nat.zero_le _) ?_ ?_
 ·refine yg [] [] [] ?_
  simp only [ybg,hn,allQ,live,yc,Int.natCast_zero,go_sem,Nat.reduceEqDiff,↓reduceIte,reduceCtorEq]
  intro i _
  rw [if_neg (by omega)]
  simp only [yc,go_sem]
 ·intro k hk
  have hrow:k < n -> 0 < (c.getD k []).length /\ (c.getD k []).length <= 1000:=fun h=>by
   have:=hc (c.getD k []) (by rw [getD_at (show k < c.length by omega)]; exact List.getElem_mem _)
   exact this
  by_cases hlt:k < n
  ·have hr:=hrow (by omega)
   have hr0:¬ (c.getD k []).length = 0:=by omega
   have ht:decide ((k:Int) < (n:Int)) = true:=decide_eq_true (by omega)
   simp only [ybpo,ybsz,ybqz,ybnb,ybtb,ybg,yj,splice,hn,hr0,ht,go_sem,Nat.reduceEqDiff,Nat.reduceAdd,Nat.reduceLT,↓reduceIte,reduceCtorEq]
   refine ⟨by omega,by omega,by omega,by omega,ikw (by omega) (by omega),?_⟩
   refine yh (k + 1) (by omega) (by omega) ?_
   refine yg [] [] [(19,0)] ?_
   simp only [allQ,live,yc,yu,go_sem,Nat.reduceEqDiff,↓reduceIte,reduceCtorEq]
   refine ⟨by omega,fun i hi=>?_⟩
   by_cases q2:i = k
   ·subst q2
    simp only [if_pos (Nat.lt_succ_self i),↓reduceIte]
    simp only [live,yc,go_sem,Nat.reduceEqDiff,↓reduceIte,reduceCtorEq]
   ·simp only [if_neg q2]
    by_cases q1:i < k
    ·simp only [if_pos q1,if_pos (show i < k + 1 by omega)]
     simp only [live,yc,go_sem,reduceCtorEq]
    ·simp only [if_neg q1,if_neg (show ¬ i < k + 1 by omega)]
     simp only [live,yc,go_sem,reduceCtorEq]
  ·obtain rfl:k = n:=by omega
   have ht:decide ((k:Int) < (k:Int)) = false:=decide_eq_false (by omega)
   simp only [ybpo,ybsz,ybqz,ybnb,ybtb,ybg,yj,hn,ht,ygf,go_sem,Nat.reduceEqDiff,Nat.reduceAdd,↓reduceIte,reduceCtorEq]
   refine ⟨.os (8,0) 0 k true,[(8,.one (some ⟨22,false,1,k,fun i=>[yj (c.getD i [])]⟩))],?_,?_,rfl,rfl⟩
   ·refine yg [] [] [] ?_
    simp only [yj,allQ,live,yc,go_sem,↓reduceIte,reduceCtorEq]
    intro i hi
    simp only [if_pos hi]
    simp only [yc,go_sem]
   ·simp only [famCln,yfd,allQ,live,go_sem,↓reduceIte]
end Sh
end Go.Proofs.YtpngeppkgoaimaaGreatDoor

namespace Go.Proofs.YtpngeppkgoaimaaGreatDoor
namespace Sh
open Go Ev
set_option maxRecDepth 8000

theorem ygq (p:ProgR) {g:Gr} (hg:ybc g) {nv:Nat} {c:Conf} (hc:ConfIn g.ports.length nv c) {v:Nat} (hv:v < g.ports.length) (e:List Tm) (hl:e.length <= 1000):∀ x:Ex,ybsn p g nv c v e x
 | .leaf op arg=>by
  intro bnd port at_ rest ho hp hpi he
  obtain ⟨d1,d2,d3⟩:=yel (show e.drop at_ = (op,arg) :: rest from he)
  have hL:=ybyy p hg hc hv e ho port hp
  have hr:=ho
  simp only [Ex.ok,Bool.and_eq_true,decide_eq_true_eq] at hr
  simp only [yhr,ybb] at hL
  refine Returns.of (yrp _ _ ?_)
  simp only [c194,ytu,ysu,yst,yti,ysx,yua,ytk,yuf,yum,yty,ynj,ynq,ymo,ynn,ynd,ymg,yng,ynb,ymq,yhr,ybb,d2,splice,go_sem,Nat.reduceEqDiff,Nat.reduceAdd,Nat.reduceLeDiff,Nat.reduceLT,↓reduceIte,reduceCtorEq]
  refine ⟨by omega,fun h=>hL.use ?_,fun h=>by omega⟩
  simp only [thenO,go_sem,Nat.reduceEqDiff,Nat.reduceAdd,↓reduceIte,reduceCtorEq]
  refine ⟨ikw (by omega) (by omega),?_⟩
  exact Sim.refl _
 | .un op a=>by
  intro bnd port at_ rest ho hp hpi he
  obtain ⟨d1,d2,d3⟩:=yel (show e.drop at_ = (op,0) :: (a.ser ++ rest) from he)
  have hr:=ho
  simp only [Ex.ok,Bool.and_eq_true,decide_eq_true_eq] at hr
  have hV:=ygq p hg hc hv e hl a bnd port (at_ + 1) rest hr.2 hp hpi d3
  rw [show ((at_ + 1:Nat):Int) = (at_:Int) + 1 by omega] at hV
  have hU:=yboy op (ybt g c v a port) (ygl hg rfl hc hv a hr.2 hp hpi)
  simp only [yhr,ybb] at hV
  refine Returns.of (yrp _ _ ?_)
  simp only [c194,ytu,ysu,yst,yti,ysx,yua,ytk,yuf,yum,yty,ynj,ynq,ymo,ynn,ynd,ymg,yng,ynb,ymq,yhr,ybb,d2,splice,go_sem,Nat.reduceEqDiff,Nat.reduceAdd,Nat.reduceLeDiff,Nat.reduceLT,↓reduceIte,reduceCtorEq]
  refine ⟨by omega,fun h=>by omega,fun h=>⟨fun h=>⟨ikw (by omega) (by omega),hV.use ?_⟩,fun h=>by omega⟩⟩
  simp only [thenO,go_sem,Nat.reduceEqDiff,Nat.reduceAdd,Nat.reduceLeDiff,↓reduceIte,reduceCtorEq]
  refine hU.use ?_
  simp only [go_sem]
  rw [show at_ + (Ex.un op a).ser.length = at_ + 1 + a.ser.length by simp [Ex.ser]; omega]
  exact Sim.refl _
 | .agg op a=>by
  intro bnd port at_ rest ho hp hpi he
  obtain ⟨d1,d2,d3⟩:=yel (show e.drop at_ = (op,0) :: (a.ser ++ rest) from he)
  have hr:=ho
  simp only [Ex.ok,Bool.and_eq_true,decide_eq_true_eq] at hr
  have ho2:(Ex.agg op a).ok nv true = true:=by simp only [Ex.ok,Bool.and_eq_true,decide_eq_true_eq]; exact hr
  have hA:=yvz p hg hc hv e hl ho2 (ygq p hg hc hv e hl a) at_ rest he
  simp only [yhr,ybb] at hA
  refine Returns.of (yrp _ _ ?_)
  simp only [c194,ytu,ysu,yst,yti,ysx,yua,ytk,yuf,yum,yty,ynj,ynq,ymo,ynn,ynd,ymg,yng,ynb,ymq,yhr,ybb,d2,splice,go_sem,Nat.reduceEqDiff,Nat.reduceAdd,Nat.reduceLeDiff,Nat.reduceLT,↓reduceIte,reduceCtorEq]
  refine ⟨by omega,fun h=>by omega,fun h=>⟨fun h=>by omega,fun h=>⟨fun h=>hA.use ?_,fun h=>by omega⟩⟩⟩
  simp only [thenO,go_sem,Nat.reduceEqDiff,Nat.reduceAdd,↓reduceIte,reduceCtorEq]
  exact Sim.refl _
 | .bin op a b=>by
  intro bnd port at_ rest ho hp hpi he
  obtain ⟨d1,d2,d3⟩:=yel (show e.drop at_ = (op,0) :: ((a.ser ++ b.ser) ++ rest) from he)
  have hr:=ho
  simp only [Ex.ok,Bool.and_eq_true,decide_eq_true_eq] at hr
  rw [List.append_assoc] at d3
  have hfit:at_ + 1 + a.ser.length <= e.length:=by
   have:=congrArg List.length d3
   simp at this
   omega
  have hV1:=ygq p hg hc hv e hl a bnd port (at_ + 1) _ hr.1.2 hp hpi d3
  have hV2:=ygq p hg hc hv e hl b bnd port (at_ + 1 + a.ser.length) _ hr.2 hp hpi (ypf d3)
  rw [show ((at_ + 1:Nat):Int) = (at_:Int) + 1 by omega] at hV1
  have hB:=ybkn op (ybt g c v a port) (ybt g c v b port) (ygl hg rfl hc hv a hr.1.2 hp hpi) (ygl hg rfl hc hv b hr.2 hp hpi)
  simp only [yhr,ybb] at hV1 hV2
  refine Returns.of (yrp _ _ ?_)
  simp only [c194,ytu,ysu,yst,yti,ysx,yua,ytk,yuf,yum,yty,ynj,ynq,ymo,ynn,ynd,ymg,yng,ynb,ymq,yhr,ybb,d2,splice,go_sem,Nat.reduceEqDiff,Nat.reduceAdd,Nat.reduceLeDiff,Nat.reduceLT,↓reduceIte,reduceCtorEq]
  refine ⟨by omega,fun h=>by omega,fun h=>⟨fun h=>by omega,fun h=>⟨fun h=>by omega,fun h=>⟨fun h=>⟨ikw (by omega) (by omega),hV1.use ?_⟩,fun h=>by omega⟩⟩⟩⟩
  simp only [thenO,go_sem,Nat.reduceEqDiff,Nat.reduceAdd,↓reduceIte,reduceCtorEq]
  refine hV2.use ?_
  simp only [go_sem,Nat.reduceEqDiff,Nat.reduceAdd,Nat.reduceLeDiff,↓reduceIte]
  refine hB.use ?_
  simp only [go_sem]
  rw [show at_ + (Ex.bin op a b).ser.length = at_ + 1 + a.ser.length + b.ser.length by simp [Ex.ser]; omega]
  exact Sim.refl _
 | .ite x a b=>by
  intro bnd port at_ rest ho hp hpi he
  obtain ⟨d1,d2,d3⟩:=yel (show e.drop at_ = (43,0) :: ((x.ser ++ (a.ser ++ b.ser)) ++ rest) from he)
  have hr:=ho
  simp only [Ex.ok,Bool.and_eq_true] at hr
  rw [List.append_assoc,List.append_assoc] at d3
  have hfit:at_ + 1 + x.ser.length + a.ser.length <= e.length:=by
   have:=congrArg List.length d3
   simp at this
   omega
  have hV1:=ygq p hg hc hv e hl x bnd port (at_ + 1) _ hr.1.1 hp hpi d3
  have hV2:=ygq p hg hc hv e hl a bnd port (at_ + 1 + x.ser.length) _ hr.1.2 hp hpi (ypf d3)
  have hV3:=ygq p hg hc hv e hl b bnd port (at_ + 1 + x.ser.length + a.ser.length) _ hr.2 hp hpi (ypf (ypf d3))
  rw [show ((at_ + 1:Nat):Int) = (at_:Int) + 1 by omega] at hV1
  simp only [yhr,ybb] at hV1 hV2 hV3
  refine Returns.of (yrp _ _ ?_)
  simp only [c194,ytu,ysu,yst,yti,ysx,yua,ytk,yuf,yum,yty,ynj,ynq,ymo,ynn,ynd,ymg,yng,ynb,ymq,yhr,ybb,d2,splice,go_sem,Nat.reduceEqDiff,Nat.reduceAdd,Nat.reduceLeDiff,Nat.reduceLT,↓reduceIte,reduceCtorEq]
  refine ⟨by omega,fun h=>by omega,fun h=>⟨fun h=>by omega,fun h=>⟨fun h=>by omega,fun h=>⟨fun h=>by omega,fun h=>⟨ikw (by omega) (by omega),hV1.use ?_⟩⟩⟩⟩⟩
  simp only [thenO,go_sem,Nat.reduceEqDiff,Nat.reduceAdd,↓reduceIte,reduceCtorEq]
  refine hV2.use ?_
  simp only [go_sem,Nat.reduceEqDiff,↓reduceIte,reduceCtorEq]
  refine hV3.use ?_
  simp only [go_sem,Nat.reduceEqDiff,Nat.reduceAdd,↓reduceIte,reduceCtorEq]
  rw [show at_ + (Ex.ite x a b).ser.length = at_ + 1 + x.ser.length + a.ser.length + b.ser.length by simp [Ex.ser]; omega]
  refine ⟨fun h0=>?_,fun h0=>?_⟩
  ·show Sim _ (.tp [.i .i64 (if _ then _ else _),_])
   rw [if_pos h0]
   exact Sim.refl _
  ·show Sim _ (.tp [.i .i64 (if _ then _ else _),_])
   rw [if_neg (not_not_intro h0)]
   exact Sim.refl _
theorem yxw (p:ProgR) {g:Gr} (hg:ybc g) {nv:Nat} {c:Conf} (hc:ConfIn g.ports.length nv c) {v:Nat} (hv:v < g.ports.length) (x:Ex) (hx:x.ok nv false = true) (hl:x.ser.length <= 1000) :
  Returns Tryz.prog 174 [.rf (yex p g),ybg c,.i .i64 v,ybb x.ser] (.i .i64 (ybt g c v x (-1))):=by
 have hV:=ygq p hg hc hv x.ser hl x false (-1) 0 [] hx (fun q=>by cases q) (by unfold InB; omega) (by simp)
 refine Returns.of (ycqd _ _ ?_)
 simp only [yhr,yex,ybg,yj,ybb,yba,ydj,Int.natCast_zero] at hV
 simp only [c174,yccb,ychu,ycgb,ycgh,yex,ybg,yj,ybb,yba,ydj,splice,go_sem,Nat.reduceEqDiff,Nat.reduceAdd,Nat.reduceLeDiff,Nat.reduceLT,↓reduceIte,reduceCtorEq]
 refine .inl (hV.use ?_)
 simp only [thenO,yu,go_sem,Nat.reduceEqDiff,Nat.reduceAdd,↓reduceIte,reduceCtorEq]
end Sh
end Go.Proofs.YtpngeppkgoaimaaGreatDoor

