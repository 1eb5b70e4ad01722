/- Lemmas, joined: SgF SgG SgH SgI SgK Pr Pt SgL SgM SgJ U32. -/
import Derived.Test.YtiejahgklcjhkaaGreatDoorPkJ12
import Derived.Test.YtiejahgklcjhkaaGreatDoorPkJ11
import Derived.Test.YtiejahgklcjhkaaGreatDoorPkJ3
set_option linter.unusedSimpArgs false
set_option linter.unusedVariables false
namespace Go.Proofs.YtiejahgklcjhkaaGreatDoor
namespace Sh
open Go Ev
set_option maxRecDepth 8000

theorem yqp{l:List Int}{k:Nat}(h:k<l.length):countP (l.take (k+1))=countP (l.take k)+(if l.getD k 0 ≠ 0 then 1 else 0):=by
 unfold countP;rw[List.take_succ_eq_append_getElem h,List.filter_append,List.length_append,getD_at h]
 by_cases q:l[k]=0
 ·simp[q]
 ·simp[q]
theorem ybbo{l:List Int}(k:Nat):0<=countP (l.take k)/\countP (l.take k)<=k:=by
 have:=countP_le (l.take k);simp only[List.length_take]at this;omega
theorem ybof(l:List Int)(hl:l.length<=1000):Returns Tryz.prog 266 [yj l] (.i .i64 (countP l)):=by
 refine Returns.of (ycqm _ _ ?_);simp only[c266,ycjg,ycoq,ycbd,yj,go_sem,Nat.reduceAdd,↓reduceIte,reduceCtorEq];refine ybd (σ:=Nat) (fun k=>⟨[(8,.i .i64 k),(3,.i .i64 (countP (l.take k))),(6,yj l),(7,.i .i64 l.length)],[]⟩) (fun k=>k<=l.length) (fun k=>l.length - k) 0 (Nat.zero_le _) ?_ ?_
 ·refine yg [] [] [] ?_;simp only[yj,allQ,live,yc,yu,Int.natCast_zero,go_sem,Nat.reduceEqDiff,↓reduceIte,reduceCtorEq];simp[countP]
 ·intro k hk;simp only[yccz,ycda,ycgl,ychb,ycde,ycby,yj,yu,go_sem,Nat.reduceEqDiff,Nat.reduceAdd,↓reduceIte,reduceCtorEq];have hb:=ybbo (l:=l) k;refine⟨fun hlt=>⟨by omega,fun h0=>⟨ikw (by omega) (by omega),ikw (by omega) (by omega),?_⟩,fun h0=>⟨ikw (by omega) (by omega),?_⟩⟩,fun hlt=>?_⟩
  ·have hk':k<l.length:=by omega
   refine yh (k+1) (by omega) (by omega) ?_
   refine yg [] [] [] ?_;simp only[yqp hk',if_pos h0,allQ,live,yc,yu,go_sem,Nat.reduceEqDiff,↓reduceIte,reduceCtorEq];simp
  ·have hk':k<l.length:=by omega
   refine yh (k+1) (by omega) (by omega) ?_
   refine yg [] [] [] ?_;simp only[yqp hk',if_neg (not_not_intro h0),allQ,live,yc,yu,go_sem,Nat.reduceEqDiff,↓reduceIte,reduceCtorEq];simp
  ·rw[List.take_of_length_le (by omega)]
theorem yng{l:List Int}{k:Nat}(h:k<l.length):ycl (l.take (k+1))=(if l.getD k 0 > (ycl (l.take k)).1 then(l.getD k 0,(ycl (l.take k)).1)else((ycl (l.take k)).1,max (ycl (l.take k)).2 (l.getD k 0))):=by
 unfold ycl;rw[List.take_succ_eq_append_getElem h,List.foldl_append,getD_at h];rfl
theorem ypf(l:List Int)(hl:l.length<=1000):Returns Tryz.prog 269 [yj l] (.tp [.i .i64 (ycl l).1,.i .i64 (ycl l).2]):=by
 refine Returns.of (ycva _ _ ?_);simp only[c269,ycnu,ycfv,ycnn,yj,go_sem,Nat.reduceAdd,↓reduceIte,reduceCtorEq];refine ybd (σ:=Nat) (fun k=>⟨[(8,.i .i64 k),(2,.i .i64 (ycl (l.take k)).1),(3,.i .i64 (ycl (l.take k)).2),(6,yj l),(7,.i .i64 l.length)],[]⟩) (fun k=>k<=l.length) (fun k=>l.length - k) 0 (Nat.zero_le _) ?_ ?_
 ·refine yg [] [] [] ?_;simp only[yj,allQ,live,yc,yu,Int.natCast_zero,go_sem,Nat.reduceEqDiff,↓reduceIte,reduceCtorEq];simp[ycl]
 ·intro k hk;simp only[yciu,ycga,ycdu,yckg,yccs,ycbf,ycin,yj,go_sem,Nat.reduceEqDiff,Nat.reduceAdd,↓reduceIte,reduceCtorEq];refine⟨fun hlt=>⟨by omega,fun h0=>⟨ikw (by omega) (by omega),?_⟩,fun h0=>⟨ikw (by omega) (by omega),?_⟩⟩,fun hlt=>?_⟩
  ·have hk':k<l.length:=by omega
   refine yh (k+1) (by omega) (by omega) ?_
   refine yg [] [] [] ?_;simp only[yng hk',if_pos h0,allQ,live,yc,yu,go_sem,Nat.reduceEqDiff,↓reduceIte,reduceCtorEq];simp
  ·have hk':k<l.length:=by omega
   refine yh (k+1) (by omega) (by omega) ?_
   refine yg [] [] [] ?_;simp only[yng hk',if_neg h0,allQ,live,yc,yu,go_sem,Nat.reduceEqDiff,↓reduceIte,reduceCtorEq];simp
  ·rw[List.take_of_length_le (by omega)]
   exact Sim.refl _
theorem ywc(l:List Int)(x:Int)(hl:l.length<=100000):Returns Tryz.prog 274 [yj l,.i .i64 x] (.b (l.elem x)):=by
 refine Returns.of (yctc _ _ ?_);simp only[c274,ycec,ycge,yj,go_sem,Nat.reduceEqDiff,Nat.reduceAdd,↓reduceIte,reduceCtorEq];refine(ybmw l x hl).use ?_;simp only[thenO,sim_b,go_sem,Nat.reduceEqDiff,Nat.reduceAdd,↓reduceIte,reduceCtorEq];unfold idxP;cases h:l.findIdx? (fun y=>x == y)with
 | none =>
  rw[List.findIdx?_eq_none_iff]at h
  have:l.elem x=false:=by
   rw[List.elem_eq_mem,decide_eq_false_iff_not];intro hm;have:=h x hm;simp at this
  rw[this];simp
 | some i =>
  obtain⟨h1,h2,_⟩:=List.findIdx?_eq_some_iff_getElem.1 h
  have:l.elem x=true:=by
   rw[List.elem_eq_mem,decide_eq_true_eq];have:x=l[i]:=by simpa using h2
   rw[this];exact List.getElem_mem h1
  rw[this];simp
theorem ybiy{l:List Int}{n:Nat}{r:Int}(h:l.elem r=true):yrf l (n+1) r=yrf l n (r+1):=by
 show(if l.elem r then _ else _)=_;rw[if_pos h]
theorem ybjg{l:List Int}{n:Nat}{r:Int}(h:l.elem r=false):yrf l n r=r:=by
 cases n with
 | zero=>rfl
 | succ n=>show(if l.elem r then _ else _)=_;rw[if_neg (by rw[h];simp)]
theorem yzb{l:List Int}{k:Nat}(h:∀ j:Nat,j<k->l.elem (j:Int)=true):k<=l.length:=by
 have h1:((List.range k).map fun(j:Nat)=>(j:Int)).Nodup:=by
  rw[List.Nodup,List.pairwise_map];exact List.nodup_range.imp fun {a b} hab e=>hab (by omega)
 have h2:((List.range k).map fun(j:Nat)=>(j:Int)) ⊆ l:=fun x hx=>by
  obtain⟨j,hj,rfl⟩:=List.mem_map.1 hx;have:=h j (List.mem_range.1 hj)
  simpa using this
 have:=List.Nodup.length_le_of_subset h1 h2
 simpa using this
theorem ycur(l:List Int)(hl:l.length<=1000):Returns Tryz.prog 270 [yj l] (.i .i64 (mexP l)):=by
 refine Returns.of (ycst _ _ ?_);simp only[c270,ycfd,ycjh,yj,go_sem];refine ybd (σ:=Nat) (fun k=>⟨[(3,.i .i64 k),(0,yj l)],[]⟩) (fun k=>(∀ j:Nat,j<k->l.elem (j:Int)=true)/\mexP l=yrf l (l.length+1 - k) k) (fun k=>l.length+1 - k) 0 ⟨fun j h=>absurd h (Nat.not_lt_zero _),rfl⟩ ?_ ?_
 ·refine yg [] [] [] ?_;simp only[yj,allQ,live,yc,Int.natCast_zero,go_sem,↓reduceIte,reduceCtorEq]
 ·intro k ⟨hk,he⟩;have hb:=yzb hk;simp only[ycol,ycha,ycdo,yj,go_sem,Nat.reduceEqDiff,Nat.reduceAdd,↓reduceIte,reduceCtorEq];refine(ywc l k (by omega)).use ?_
  simp only[thenO,yu,go_sem,Nat.reduceEqDiff,Nat.reduceAdd,↓reduceIte,reduceCtorEq];refine⟨fun h=>⟨ikw (by omega) (by omega),?_⟩,fun h=>?_⟩
  ·have hk2:∀ j:Nat,j<k+1->l.elem (j:Int)=true:=fun j hj=>by
    by_cases q:j<k
    ·exact hk j q
    ·obtain rfl:j=k:=by omega
     exact h
   have hb2:=yzb hk2;refine yh (k+1) ⟨hk2,?_⟩ (by omega) ?_
   ·rw[he,show l.length+1 - k=(l.length+1 - (k+1))+1 by omega,ybiy h];simp
   ·refine yg [] [] [] ?_;simp only[allQ,live,yc,yu,go_sem,↓reduceIte,reduceCtorEq];simp
  ·rw[he,ybjg h]
theorem ybpl(x:Int):Returns Tryz.prog 268 [.i .i64 x] (.b (x != 0)):=by
 refine Returns.of (ycrf _ _ ?_);simp only[c268,ycku,ycmd,sim_b,go_sem,Nat.reduceEqDiff,Nat.reduceAdd,↓reduceIte,reduceCtorEq]
theorem yug(l:List Int)(hl:l.length<=1000):Returns Tryz.prog 267 [yj l,.fn 268 [] []] (.i .i64 (yel l)):=by
 refine Returns.of (ycve _ _ ?_);simp only[c267,ycgo,ycgn,yj,go_sem,Nat.reduceAdd,↓reduceIte,reduceCtorEq];refine ybd (σ:=Nat) (fun k=>⟨[(8,.i .i64 k),(0,yj l),(1,.fn 268 [] []),(7,.i .i64 l.length)],[]⟩) (fun k=>k<=l.length/\(l.take k).findIdx? (· != 0)=none) (fun k=>l.length - k) 0 ⟨Nat.zero_le _,by simp⟩ ?_ ?_
 ·refine yg [] [] [] ?_;simp only[yj,allQ,live,yc,Int.natCast_zero,go_sem,Nat.reduceEqDiff,↓reduceIte,reduceCtorEq]
 ·intro k ⟨hk,hno⟩;simp only[ycet,ycmw,yclk,ycbp,ycfi,ychp,yj,yu,go_sem,Nat.reduceEqDiff,Nat.reduceAdd,↓reduceIte,reduceCtorEq];refine⟨fun hlt=>⟨by omega,(ybpl _).use ?_⟩,fun hlt=>?_⟩
  ·have hlt:k<l.length:=by omega
   simp only[thenO,yu,go_sem,Nat.reduceEqDiff,Nat.reduceAdd,↓reduceIte,reduceCtorEq];rw[getD_at hlt];refine⟨fun ha=>?_,fun ha=>⟨ikw (by omega) (by omega),?_⟩⟩
   ·have:l.findIdx? (· != 0)=some k:=by
     rw[List.findIdx?_eq_some_iff_getElem];refine⟨hlt,by simpa using ha,fun j hj=>?_⟩
     rw[List.findIdx?_eq_none_iff]at hno;have:=hno l[j] (List.mem_take_iff_getElem.2 ⟨j,by omega,rfl⟩)
     simpa using this
    unfold yel;rw[this]
   ·refine yh (k+1) ⟨by omega,?_⟩ (by omega) ?_
    ·rw[List.take_succ_eq_append_getElem hlt,List.findIdx?_append,hno];simp[ha]
    ·refine yg [] [] [] ?_;simp only[allQ,live,yc,yu,go_sem,Nat.reduceEqDiff,↓reduceIte,reduceCtorEq];simp
  ·obtain rfl:k=l.length:=by omega
   rw[List.take_length]at hno;unfold yel;rw[hno]
end Sh
end Go.Proofs.YtiejahgklcjhkaaGreatDoor

namespace Go.Proofs.YtiejahgklcjhkaaGreatDoor
namespace Sh
open Go Ev
set_option maxRecDepth 8000

theorem ybbu{l:List Int}{k:Nat}(h:k<l.length):ymz (l.take (k+1))=min (ymz (l.take k)) (l.getD k 0):=by
 unfold ymz;rw[List.take_succ_eq_append_getElem h,List.foldl_append,getD_at h];rfl
theorem yuh{l:List Int}{k:Nat}(h:k<l.length):(l.take (k+1)).sum=(l.take k).sum+l.getD k 0:=by
 rw[List.take_succ_eq_append_getElem h,List.sum_append,getD_at h];simp
theorem ybsm{l:List Int}(h:∀ x ∈ l,InB x):∀ k,k<=l.length -> -1073741824 * (k:Int)<=(l.take k).sum/\(l.take k).sum<=1073741824 * (k:Int)
 | 0,_=>by simp
 | k+1,hk=>by
  have ih:=ybsm h k (by omega)
  rw[yuh (by omega)]
  have:=h l[k] (List.getElem_mem (by omega))
  rw[<- getD_at (d:=0) (show k<l.length by omega)]at this
  unfold InB at this;omega
theorem ybzp(op:Int)(l:List Int)(hl:l.length<=24)(hb:∀ x ∈ l,InB x):Returns Tryz.prog 257 [.i .i64 op,yj l] (.i .i64 (yhn op l)):=by
 refine Returns.of (ycpw _ _ ?_);have hin:∀ k,k<l.length->InB (l.getD k 0):=fun k hk=>by rw[getD_at hk];exact hb _ (List.getElem_mem hk)
 obtain⟨L,hL⟩:∃ L,yj l=L:=⟨_,rfl⟩;have hLs:L = .sl 1 l.length (fun k=>[.i .i64 (l.getD k 0)]):=hL.symm;simp only[c257,ycmi,ycbm,yckm,ycfc,yceu,ycot,ycmz,ycdl,ycaz,yckj,ybnj,ybqe,ybqm,ybln,ybkb,yblr,ybts,ybme,ybmc,ybnr,ybsv,ybrl,yboq,ybow,ybnu,ybop,ybqc,ybkc,ybtb,ybtz,ybpf,ybuh,ybmh,ybkp,ybmd,yblf,ybmz,yj,go_sem,Int.reduceToNat,Nat.reduceEqDiff,Nat.reduceAdd,↓reduceIte,reduceCtorEq]
 have hcount:=ybof l (by omega)
 have htwo:=ypf l (by omega)
 simp only[yj]at hcount htwo;refine⟨fun h20=>hcount.use ?_,fun h20=>⟨fun h21=>hcount.use ?_,fun h21=>⟨fun h22=>hcount.use ?_,fun h22=>⟨fun h23=>?_,fun h23=>⟨fun h24=>?_,fun h24=>⟨fun h25=>htwo.use ?_,fun h25=>⟨fun h26=>?_,fun h26=>⟨fun h27=>?_,fun h27=>⟨fun h28=>htwo.use ?_,fun h28=>?_⟩⟩⟩⟩⟩⟩⟩⟩⟩
 ·simp only[thenO,go_sem,Nat.reduceEqDiff,Nat.reduceAdd,↓reduceIte,reduceCtorEq];refine(ydg _).use ?_;simp only[yu,go_sem];simp[yhn,h20]
 ·simp only[thenO,go_sem,Nat.reduceEqDiff,Nat.reduceAdd,↓reduceIte,reduceCtorEq];refine(ydg _).use ?_;simp only[yu,go_sem];simp[yhn,h21]
 ·simp only[thenO,yu,go_sem,Nat.reduceEqDiff,Nat.reduceAdd,↓reduceIte,reduceCtorEq];simp[yhn,h22]
 ·have:=yug l (by omega)
  simp only[yj]at this;refine this.use ?_;simp only[thenO,yu,go_sem,Nat.reduceEqDiff,Nat.reduceAdd,↓reduceIte,reduceCtorEq];simp[yhn,h23]
 ·refine ybd (σ:=Nat) (fun k=>⟨[(42,.i .i64 k),(5,.i .i64 (ymz (l.take k))),(40,yj l),(41,.i .i64 l.length)],[]⟩) (fun k=>k<=l.length) (fun k=>l.length - k) 0 (Nat.zero_le _) ?_ ?_
  ·refine yg [] [] [] ?_;simp only[yj,allQ,live,yc,yu,Int.natCast_zero,go_sem,Nat.reduceEqDiff,↓reduceIte,reduceCtorEq];simp[ymz]
  ·intro k hk;simp only[yj,yu,go_sem,Nat.reduceEqDiff,Nat.reduceAdd,↓reduceIte,reduceCtorEq];refine⟨fun hlt=>⟨by omega,ikw (by omega) (by omega),?_⟩,fun hlt=>?_⟩
   ·have hk':k<l.length:=by omega
    refine yh (k+1) (by omega) (by omega) ?_
    refine yg [] [] [] ?_;simp only[ybbu hk',allQ,live,yc,yu,go_sem,Nat.reduceEqDiff,↓reduceIte,reduceCtorEq];simp
   ·rw[List.take_of_length_le (by omega)]
    simp[yhn,h24]
 ·simp only[thenO,yu,go_sem,Nat.reduceEqDiff,Nat.reduceAdd,↓reduceIte,reduceCtorEq];simp[yhn,h25]
 ·refine ybd (σ:=Nat) (fun k=>⟨[(63,.i .i64 k),(10,.i .i64 (l.take k).sum),(61,yj l),(62,.i .i64 l.length)],[]⟩) (fun k=>k<=l.length) (fun k=>l.length - k) 0 (Nat.zero_le _) ?_ ?_
  ·refine yg [] [] [] ?_;simp only[yj,allQ,live,yc,yu,Int.natCast_zero,go_sem,Nat.reduceEqDiff,↓reduceIte,reduceCtorEq];simp
  ·intro k hk;simp only[yj,go_sem,Nat.reduceEqDiff,Nat.reduceAdd,↓reduceIte,reduceCtorEq];have hs:=ybsm hb k hk;refine⟨fun hlt=>?_,fun hlt=>(yct _).use ?_⟩
   ·have hk':k<l.length:=by omega
    have hs2:=ybsm hb (k+1) hk';rw[yuh hk']at hs2;refine⟨by omega,ikw (by omega) (by omega),ikw (by omega) (by omega),?_⟩
    refine yh (k+1) (by omega) (by omega) ?_
    refine yg [] [] [] ?_;simp only[yuh hk',allQ,live,yc,yu,go_sem,Nat.reduceEqDiff,↓reduceIte,reduceCtorEq];simp
   ·simp only[thenO,yu,go_sem,Nat.reduceEqDiff,Nat.reduceAdd,↓reduceIte,reduceCtorEq];rw[List.take_of_length_le (by omega)]
    simp[yhn,h26]
 ·have:=ycur l (by omega)
  simp only[yj]at this;refine this.use ?_;simp only[thenO,yu,go_sem,Nat.reduceEqDiff,Nat.reduceAdd,↓reduceIte,reduceCtorEq];simp[yhn,h27]
 ·simp only[thenO,yu,go_sem,Nat.reduceEqDiff,Nat.reduceAdd,↓reduceIte,reduceCtorEq];simp[yhn,h28]
 ·refine⟨fun h0=>?_,fun h0=>⟨by omega,?_⟩⟩
  ·simp only[yu,go_sem];have:l = []:=List.eq_nil_of_length_eq_zero (by omega)
   simp[yhn,h20,h21,h22,h23,h24,h25,h26,h27,h28,this]
  ·cases l with
   | nil=>simp at h0
   | cons x l=>
    simp only[yu,go_sem];simp[yhn,h20,h21,h22,h23,h24,h25,h26,h27,h28]
end Sh
end Go.Proofs.YtiejahgklcjhkaaGreatDoor

namespace Go.Proofs.YtiejahgklcjhkaaGreatDoor
def Ex.shp:Ex->Bool
 | .leaf op _=>decide (1<=op/\op<=17)
 | .un op a=>decide (18<=op/\op<=29) && a.shp
 | .agg op a=>decide (18<=op/\op<=29) && a.shp
 | .bin op a b=>decide (30<=op/\op<=42) && a.shp && b.shp
 | .ite x a b=>x.shp && a.shp && b.shp
theorem Ex.ok_shp{nv:Int}:∀ (x:Ex) {bnd:Bool},x.ok nv bnd=true->x.shp=true
 | .leaf op arg,bnd,h=>by
  simp only[Ex.ok,Bool.and_eq_true]at h;exact h.1.1
 | .un op a,bnd,h=>by
  simp only[Ex.ok,Bool.and_eq_true,decide_eq_true_eq]at h;simp only[Ex.shp,Bool.and_eq_true,decide_eq_true_eq];exact⟨by omega,Ex.ok_shp a h.2⟩
 | .agg op a,bnd,h=>by
  simp only[Ex.ok,Bool.and_eq_true,decide_eq_true_eq]at h;simp only[Ex.shp,Bool.and_eq_true,decide_eq_true_eq];exact⟨by omega,Ex.ok_shp a h.2⟩
 | .bin op a b,bnd,h=>by
  simp only[Ex.ok,Bool.and_eq_true,decide_eq_true_eq]at h;simp only[Ex.shp,Bool.and_eq_true,decide_eq_true_eq];exact⟨⟨h.1.1,Ex.ok_shp a h.1.2⟩,Ex.ok_shp b h.2⟩
 | .ite x a b,bnd,h=>by
  simp only[Ex.ok,Bool.and_eq_true]at h;simp only[Ex.shp,Bool.and_eq_true];exact⟨⟨Ex.ok_shp x h.1.1,Ex.ok_shp a h.1.2⟩,Ex.ok_shp b h.2⟩
def yjj(op:Int):Int:=if op<1\/op > 43 then -1 else if op<=17 then 0 else if op<=29 then 1 else if op<=42 then 2 else 3
def serL(ts:List Ex):List Tm:=(ts.map Ex.ser).flatten
def Ex.head:Ex->Tm
 | .leaf op arg=>(op,arg)
 | .un op _=>(op,0)
 | .agg op _=>(op,0)
 | .bin op _ _=>(op,0)
 | .ite _ _ _=>(43,0)
def Ex.subs:Ex->List Ex
 | .leaf _ _=>[]
 | .un _ a=>[a]
 | .agg _ a=>[a]
 | .bin _ a b=>[a,b]
 | .ite x a b=>[x,a,b]
theorem Ex.ser_eq(x:Ex):x.ser=x.head :: serL x.subs:=by
 cases x<;>simp[Ex.ser,Ex.head,Ex.subs,serL]
theorem ybym{op:Int}(h:1<=op/\op<=17):yjj op=0:=by
 unfold yjj;rw[if_neg (by omega),if_pos (by omega)]
theorem ybee{op:Int}(h:18<=op/\op<=29):yjj op=1:=by
 unfold yjj;rw[if_neg (by omega),if_neg (by omega),if_pos (by omega)]
theorem ybya{op:Int}(h:30<=op/\op<=42):yjj op=2:=by
 unfold yjj;rw[if_neg (by omega),if_neg (by omega),if_neg (by omega),if_pos (by omega)]
theorem Ex.arity(x:Ex)(h:x.shp=true):yjj x.head.1=x.subs.length:=by
 cases x with
 | leaf op arg=>simp only[Ex.shp,decide_eq_true_eq]at h;exact ybym h
 | un op a=>simp only[Ex.shp,Bool.and_eq_true,decide_eq_true_eq]at h;exact ybee h.1
 | agg op a=>simp only[Ex.shp,Bool.and_eq_true,decide_eq_true_eq]at h;exact ybee h.1
 | bin op a b=>simp only[Ex.shp,Bool.and_eq_true,decide_eq_true_eq]at h;exact ybya h.1.1
 | ite x a b=>simp[Ex.head,Ex.subs,yjj]
theorem Ex.subs_shp(x:Ex)(h:x.shp=true):∀ y ∈ x.subs,y.shp=true:=by
 cases x with
 | leaf op arg=>intro y hy;cases hy
 | un op a=>simp only[Ex.shp,Bool.and_eq_true]at h;intro y hy;simp[Ex.subs]at hy;subst hy;exact h.2
 | agg op a=>simp only[Ex.shp,Bool.and_eq_true]at h;intro y hy;simp[Ex.subs]at hy;subst hy;exact h.2
 | bin op a b=>simp only[Ex.shp,Bool.and_eq_true]at h;intro y hy;simp[Ex.subs]at hy;rcases hy with rfl | rfl<;>first | exact h.1.2 | exact h.2
 | ite x a b=>simp only[Ex.shp,Bool.and_eq_true]at h;intro y hy;simp[Ex.subs]at hy;rcases hy with rfl | rfl | rfl<;>first | exact h.1.1 | exact h.1.2 | exact h.2
theorem ydy{e:List Tm}{at_:Nat}{t:Tm}{r:List Tm}(h:e.drop at_=t :: r):at_<e.length/\e.getD at_ (0,0)=t/\e.drop (at_+1)=r:=by
 have hlt:at_<e.length:=by
  refine Classical.byContradiction fun hc=>?_;rw[List.drop_of_length_le (by omega)]at h;cases h
 refine⟨hlt,?_,?_⟩
 ·rw[List.drop_eq_getElem_cons hlt]at h;simp only[List.cons.injEq]at h;simp[List.getD,hlt,h.1]
 ·rw[List.drop_eq_getElem_cons hlt]at h;simp only[List.cons.injEq]at h;exact h.2
namespace Sh
open Go Ev
set_option maxRecDepth 8000

theorem yblz(op:Int):Returns Tryz.prog 247 [.i .i64 op] (.i .i64 (yjj op)):=by
 refine Returns.of (ycug _ _ ?_);simp only[c247,ycax,ycmv,ycht,ycnq,ycoe,ycbh,ycnw,yckq,yclx,ycjr,yu,yjj,go_sem,Nat.reduceEqDiff,Nat.reduceAdd,↓reduceIte,reduceCtorEq];refine⟨fun h1=>⟨fun h=>by rw[if_pos (.inr h)],fun h2=>⟨fun h=>by rw[if_neg (by omega),if_pos h],fun h3=>⟨fun h=>by rw[if_neg (by omega),if_neg h3,if_pos h],fun h4=>⟨fun h=>by rw[if_neg (by omega),if_neg h3,if_neg h4,if_pos h],fun h5=>by rw[if_neg (by omega),if_neg h3,if_neg h4,if_neg h5]⟩⟩⟩⟩,fun h=>by rw[if_pos (.inl h)]⟩
theorem ycsz(e:List Tm)(x:Ex)(at_:Nat)(rest:List Tm)(hx:x.shp=true)(he:e.drop at_=x.ser ++ rest)(hl:e.length<=1000):Returns Tryz.prog 231 [yba e,.i .i64 at_] (.i .i64 ((at_+x.ser.length:Nat):Int)):=by
 refine Returns.of (ycsf _ _ ?_)
 have h0:at_<e.length:=by
  rw[x.ser_eq]at he;exact(ydy he).1
 simp only[c231,ycao,ychl,ycct,yccp,yba,yu,go_sem,Nat.reduceEqDiff,Nat.reduceAdd,↓reduceIte,reduceCtorEq];refine⟨fun _=>⟨fun h=>by omega,fun _=>?_⟩,fun h=>by omega⟩
 refine ybd (σ:=Nat × List Ex) (fun p=>⟨[(1,.i .i64 p.1),(5,.i .i64 p.2.length),(0,yba e)],[]⟩)
  (fun p=>e.drop p.1=serL p.2 ++ rest/\p.2 ≠ []/\(∀ y ∈ p.2,y.shp=true)/\p.1+(serL p.2).length=at_+x.ser.length/\p.2.length<=3 * p.1+1) (fun p=>e.length - p.1) (at_,[x]) ⟨by simpa [serL]using he,by simp,by simpa using hx,by simp[serL],by simp⟩ ?_ ?_
 ·refine yg [] [] [] ?_;simp only[yba,allQ,live,yc,yu,go_sem,Nat.reduceEqDiff,↓reduceIte,reduceCtorEq];simp
 ·rintro⟨k,ts⟩ ⟨hk,hne,hsh,hlen,hb⟩;cases ts with
  | nil=>exact absurd rfl hne
  | cons y ts =>
   dsimp only at hk hlen hb ⊢
   have hser:serL (y :: ts)=y.head :: (serL y.subs ++ serL ts):=by
    show(y.ser ++ serL ts)=_;rw[y.ser_eq];rfl
   rw[hser]at hk hlen;obtain⟨d1,d2,d3⟩:=ydy hk;have hy:=hsh y List.mem_cons_self;have har:=y.arity hy;have hsub:y.subs.length<=3:=by cases y<;>simp[Ex.subs]
   simp only[List.length_cons]at hb hlen;simp only[ycen,ycma,ycos,yced,ycmn,yccb,yblc,ybll,ybpq,yba,yu,go_sem,Nat.reduceEqDiff,Nat.reduceAdd,Nat.reduceLeDiff,↓reduceIte,reduceCtorEq];refine⟨fun hlt=>⟨by omega,(yblz _).use ?_⟩,fun hlt=>by omega⟩
   rw[d2,har];simp only[thenO,yu,go_sem,Nat.reduceEqDiff,Nat.reduceAdd,↓reduceIte,reduceCtorEq];refine⟨fun h=>by omega,fun _=>⟨ikw (by omega) (by omega),ikw (by simp;omega) (by simp;omega),fun h=>⟨ikw (by omega) (by omega),?_⟩,fun h=>⟨ikw (by omega) (by omega),?_⟩⟩⟩
   ·have h1:ts = []:=List.eq_nil_of_length_eq_zero (by omega)
    have h2:y.subs = []:=List.eq_nil_of_length_eq_zero (by omega)
    subst h1;rw[h2]at hlen;simp[serL]at hlen;omega
   ·have hpos:y.subs ++ ts ≠ []:=fun q=>by
     have q1:=congrArg List.length q;simp only[List.length_append,List.length_nil]at q1;omega
    refine yh (k+1,y.subs ++ ts) ⟨?_,hpos,?_,?_,?_⟩ (by dsimp only;omega) ?_
    ·dsimp only
     rw[d3];simp[serL]
    ·intro z hz;rcases List.mem_append.1 hz with q | q
     ·exact y.subs_shp hy z q
     ·exact hsh z (List.mem_cons_of_mem _ q)
    ·dsimp only
     have:(serL (y.subs ++ ts)).length=(serL y.subs ++ serL ts).length:=by simp[serL]
     rw[this];omega
    ·dsimp only
     simp only[List.length_append];omega
    ·refine yg [] [] [] ?_;simp only[allQ,live,yc,yu,go_sem,Nat.reduceEqDiff,↓reduceIte,reduceCtorEq];simp;omega
end Sh
end Go.Proofs.YtiejahgklcjhkaaGreatDoor

namespace Go.Proofs.YtiejahgklcjhkaaGreatDoor
namespace Sh
open Go Ev
set_option maxRecDepth 8000

theorem ybxb(p:ProgR){g:Gr}(hg:ybb g)(op:Int){v:Nat}(hv:v<g.ports.length)(port:Int)(hp:op=6\/op=7\/op=8\/op=9\/op=10\/op=11\/(0<=port/\port<(g.ports.getD v []).length)) :
  Returns Tryz.prog 255 [.rf (yei p g),.i .i64 op,.i .i64 v,.i .i64 port] (.i .i64 (ykw g op v port)):=by
 refine Returns.of (ycue _ _ ?_);have hlen:=hg.2.2.1;simp only[c255,ycif,ycmf,ycgb,ycam,ycls,ycjv,yccy,ycli,yceb,yckl,ybtm,ybre,ybod,ybmr,ybpa,ybnm,ybpy,ybrx,yboy,ybmv,ybkx,ybqo,ybju,ybnv,ybpk,yei,yj,yw,yba,ycp,yu,go_sem,Nat.reduceEqDiff,Nat.reduceAdd,Nat.reduceLeDiff,Nat.reduceLT,↓reduceIte,reduceCtorEq];refine⟨fun h6=>?_,fun h6=>⟨fun h7=>?_,fun h7=>⟨fun h8=>⟨by omega,?_⟩,fun h8=>⟨fun h9=>⟨by omega,?_⟩,fun h9=>⟨fun h10=>(ydg _).use ?_,fun h10=>⟨fun h11=>?_,fun h11=>?_⟩⟩⟩⟩⟩⟩
 ·simp[ykw,h6]
 ·simp[ykw,h7]
 ·simp[ykw,h8]
 ·simp[ykw,h9]
 ·simp only[thenO,yu,go_sem,Nat.reduceEqDiff,Nat.reduceAdd,↓reduceIte,reduceCtorEq];simp[ykw,h10]
 ·simp[ykw,h11]
 ·have hp:0<=port/\port<(g.ports.getD v []).length:=by omega
  have hpn:port.toNat<(g.ports.getD v []).length:=by omega
  have hl:=hg.yby hv hpn;unfold yby at hl;refine⟨by omega,by omega,fun h13=>⟨by omega,?_⟩,fun h13=>⟨fun h14=>⟨by omega,?_⟩,fun h14=>⟨fun h15=>(ydg _).use ?_,fun h15=>⟨fun h16=>?_,fun h16=>⟨by omega,?_⟩⟩⟩⟩⟩
  ·simp[ykw,h13,yby]
  ·simp[ykw,h14,yby]
  ·simp only[thenO,yu,go_sem,Nat.reduceEqDiff,Nat.reduceAdd,↓reduceIte,reduceCtorEq];simp[ykw,h15,yby]
  ·simp[ykw,h16,yby]
  ·refine⟨by rw[show(yie g v).length=(g.ports.getD v []).length from List.length_map _];omega,?_⟩
   simp[ykw,h6,h7,h8,h9,h10,h11,h13,h14,h15,h16]
theorem ybwt(p:ProgR){g:Gr}(hg:ybb g){nv:Nat}{c:Conf}(hc:ConfIn g.ports.length nv c){v:Nat}(hv:v<g.ports.length)(e:List Tm){op arg:Int}{bnd:Bool}(ho:(Ex.leaf op arg).ok nv bnd=true)(port:Int)(hp:bnd=true->0<=port/\port<(g.ports.getD v []).length) :
  Returns Tryz.prog 236 [.rf (yhg p g c v e),.ag [.i .i64 op,.i .i64 arg],.i .i64 port] (.i .i64 (yqv g c op arg v port)):=by
 refine Returns.of (ycqb _ _ ?_);simp only[Ex.ok,Bool.and_eq_true,decide_eq_true_eq]at ho;obtain⟨⟨ho1,ho2⟩,ho3⟩:=ho;have hlen:=hc.len;have hrow:=hc.at_ hv;have hF:=ybxb p hg op hv port;simp only[yei,yj,yw,yba,ycp]at hF;simp only[c236,ycme,ycho,yckz,ycof,ycjb,ycjs,ycia,ycmb,ycnk,ycbr,ybkg,ybnz,ybqq,ybmk,ybsc,yhg,ybe,yei,yj,yw,yba,ycp,yu,go_sem,Nat.reduceEqDiff,Nat.reduceAdd,Nat.reduceLeDiff,Nat.reduceLT,↓reduceIte,reduceCtorEq]
 refine⟨fun h1=>?_,fun h1=>⟨fun h2=>?_,fun h2=>⟨fun h3=>?_,fun h3=>⟨fun h4=>?_,fun h4=>⟨fun h5=>?_,fun h5=>⟨fun h12=>?_,fun h12=>(hF ?_).use ?_⟩⟩⟩⟩⟩⟩
 ·simp[yqv,h1]
 ·simp[yqv,h2]
 ·simp[yqv,h3]
 ·simp[yqv,h4]
 ·rw[if_neg (by omega),if_pos (by omega)]at ho2
  have ho2:=of_decide_eq_true ho2;refine⟨by omega,by omega,?_⟩
  simp[yqv,h5]
 ·rw[if_neg (by omega),if_pos (by omega)]at ho2
  have ho2:=of_decide_eq_true ho2;rw[if_pos (by omega)]at ho3
  have hp:=hp ho3;have hpn:port.toNat<(g.ports.getD v []).length:=by omega
  have hl:=hg.yby hv hpn;have hr2:=hc.at_ (v:=(yby g v port.toNat).1.toNat) (by omega)
  unfold yby at hl hr2;refine⟨by omega,by omega,by omega,by omega,?_⟩
  simp[yqv,h12,yby]
 ·by_cases q:11<=op
  ·rw[if_pos q]at ho3;have:=hp ho3;omega
  ·omega
 ·simp only[thenO,yu,go_sem,Nat.reduceEqDiff,Nat.reduceAdd,↓reduceIte,reduceCtorEq];simp[yqv,h1,h2,h3,h4,h5,h12]

theorem yof{e:List Tm}{at_:Nat}{a b:List Tm}(h:e.drop at_=a ++ b):e.drop (at_+a.length)=b:=by
 rw[<- List.drop_drop,h,List.drop_left]
theorem ybuz{n:Nat}{gg:Nat->List SV}{l:List Int}(hn:n=l.length)(h:∀ k,k<n->gg k = [.i .i64 (l.getD k 0)]):Sim (.sl 1 n gg) (yj l):=by
 subst hn;exact sim_sl h
def ybpg(p:ProgR)(g:Gr)(nv:Nat)(c:Conf)(v:Nat)(e:List Tm)(x:Ex):Prop :=
 ∀ (bnd:Bool) (port:Int) (at_:Nat) (rest:List Tm),x.ok nv bnd=true->(bnd=true->0<=port/\port<(g.ports.getD v []).length)->InB port->e.drop at_=x.ser ++ rest ->
  Returns Tryz.prog 220 [.rf (yhg p g c v e),.i .i64 at_,.i .i64 port] (.tp [.i .i64 (yea g c v x port),.i .i64 ((at_+x.ser.length:Nat):Int)])
theorem yvn(p:ProgR){g:Gr}(hg:ybb g){nv:Nat}{c:Conf}(hc:ConfIn g.ports.length nv c){v:Nat}(hv:v<g.ports.length)(e:List Tm)(hl:e.length<=1000){op:Int}{a:Ex}(ho:(Ex.agg op a).ok nv true=true)(ih:ybpg p g nv c v e a)(at_:Nat)(rest:List Tm)(he:e.drop at_=(Ex.agg op a).ser ++ rest) :
  Returns Tryz.prog 238 [.rf (yhg p g c v e),.i .i64 op,.i .i64 at_] (.tp [.i .i64 (yea g c v (.agg op a) 0),.i .i64 ((at_+(Ex.agg op a).ser.length:Nat):Int)]):=by
 have ho':=ho;simp only[Ex.ok,Bool.and_eq_true,decide_eq_true_eq]at ho;have hd:=hg.deg_lt (v:=v);obtain⟨deg,hdeg⟩:∃ d,(g.ports.getD v []).length=d:=⟨_,rfl⟩;rw[hdeg]at hd;have hin:∀ q:Nat,q<deg->InB (yea g c v a q):=fun q hq=>ygb hg rfl hc hv a ho.2 (fun _=>by omega) (by unfold InB;omega)
 have hsh:=Ex.ok_shp _ ho';have hdrop:e.drop (at_+1)=a.ser ++ rest:=(ydy (show e.drop at_=(op,0) :: (a.ser ++ rest)from he)).2.2
 have hat:=(ydy (show e.drop at_=(op,0) :: (a.ser ++ rest)from he)).1
 have hfit:at_+1+a.ser.length<=e.length:=by
  have:=congrArg List.length hdrop;simp at this;omega
 refine Returns.of (ycqx _ _ ?_);simp only[c238,yccv,yclj,ycbs,ybzu,yhg,ybe,yei,yj,yw,yba,ycp,hdeg,go_sem,Nat.reduceEqDiff,Nat.reduceAdd,Nat.reduceLeDiff,Nat.reduceLT,↓reduceIte,reduceCtorEq];refine⟨by omega,?_⟩
 let val:Nat->Int:=fun q=>yea g c v a q
 refine ybd (σ:=Nat) (fun k=>⟨[(27,.i .i64 k),(26,.i .i64 deg),(9,.i .i64 deg),(0,.rf (yhg p g c v e)),(1,.i .i64 op),(2,.i .i64 at_),(8,.pt (8,0) 0 0),(7,.i .i64 (if k=0 then 0 else((at_+1+a.ser.length:Nat):Int)))],
   [(8,.one (some ⟨256,true,1,24,fun i=>[.i .i64 (if i<k then val i else 0)]⟩))]⟩) (fun k=>k<=deg) (fun k=>deg - k) 0 (Nat.zero_le _) ?_ ?_
 ·refine yg [] [] [] ?_;simp only[yhg,ybe,yei,yj,yw,yba,ycp,allQ,live,yc,yu,Int.natCast_zero,go_sem,Nat.reduceEqDiff,↓reduceIte,reduceCtorEq];intro i _;rw[if_neg (by omega)]
 ·intro k hk;simp only[ycml,ycjk,ycix,ycnx,ycmq,ycay,ybqy,go_sem,Nat.reduceEqDiff,Nat.reduceAdd,Nat.reduceLeDiff,↓reduceIte,reduceCtorEq];refine⟨fun hlt=>⟨ikw (by omega) (by omega),?_⟩,fun hlt=>?_⟩
  ·have hk':k<deg:=by omega
   have hv1:=ih true (k:Int) (at_+1) rest ho.2 (fun _=>by rw[hdeg];omega) (by unfold InB;omega) hdrop
   rw[show((at_+1:Nat):Int)=(at_:Int)+1 by omega]at hv1
   refine hv1.use ?_;simp only[thenO,splice,go_sem,Nat.reduceEqDiff,Nat.reduceAdd,↓reduceIte,reduceCtorEq];refine⟨by omega,by omega,ikw (by omega) (by omega),?_⟩
   refine yh (k+1) (by omega) (by omega) ?_
   refine yg [] [] [] ?_;simp only[allQ,live,yc,yu,go_sem,Nat.reduceEqDiff,↓reduceIte,reduceCtorEq];refine⟨by omega,?_⟩
   intro i hi
   by_cases q:i=k
   ·rw[if_pos q,if_pos (by omega)]
    subst q;simp only[val,live,yc,go_sem,reduceCtorEq]
   ·rw[if_neg q]
    by_cases q2:i<k
    ·rw[if_pos q2,if_pos (by omega)]
     simp only[live,yc,go_sem,reduceCtorEq]
    ·rw[if_neg q2,if_neg (by omega)]
     simp only[live,yc,go_sem,reduceCtorEq]
  ·obtain rfl:k=deg:=by omega
   have hE:=ycsz e _ at_ rest hsh he hl
   have hF:=ybzp op ((List.range k).map val) (by simp;omega) (fun x hx=>by
    obtain⟨q,hq,rfl⟩:=List.mem_map.1 hx;exact hin q (List.mem_range.1 hq))
   have hres:yea g c v (.agg op a) 0=yhn op ((List.range k).map val):=by
    show yhn op _=_;rw[hdeg]
   rw[hres];simp only[yhg,yba,go_sem,Nat.reduceEqDiff,Nat.reduceAdd,↓reduceIte,reduceCtorEq];simp only[yba]at hE
   have hsim:SimL [.i .i64 op,.sl 1 (k - 0) fun i=>[.i .i64 (if i<k then val i else 0)]] [.i .i64 op,yj ((List.range k).map val)]:=by
    refine⟨Sim.refl _,ybuz (by simp) fun i hi=>?_,trivial⟩
    rw[if_pos (by omega)]
    simp[List.getD,show i<k by omega]
   refine⟨fun h0=>hE.use ?_,fun h0=>?_⟩
   ·simp only[thenO,go_sem,Nat.reduceEqDiff,Nat.reduceAdd,Nat.reduceLeDiff,↓reduceIte,reduceCtorEq];refine⟨by simp;omega,.inl ⟨by omega,hF.useS hsim ?_⟩⟩
    simp only[go_sem];exact Sim.refl _
   ·refine⟨by simp;omega,.inl ⟨by omega,hF.useS hsim ?_⟩⟩
    simp only[thenO,if_neg (show ¬ k=0 by omega),go_sem,Nat.reduceEqDiff,Nat.reduceAdd,↓reduceIte,reduceCtorEq]
    rw[show at_+(Ex.agg op a).ser.length=at_+1+a.ser.length by simp[Ex.ser];omega]
    exact Sim.refl _
end Sh
end Go.Proofs.YtiejahgklcjhkaaGreatDoor

namespace Go.Proofs.YtiejahgklcjhkaaGreatDoor
namespace Sh
open Go Ev
set_option maxRecDepth 8000

theorem ybii(g:Gr)(v:Nat)(hv:v<g.ports.length)(u:Int)(hl:(g.ports.getD v []).length<=100000):Returns Tryz.prog 170 [grV g,.i .i64 v,.i .i64 u] (.i .i64 (yfv (g.ports.getD v []) u)):=by
 refine Returns.of (ycuu _ _ ?_);simp only[c170,ybzy,ycfb,grV,yw,yba,yj,go_sem,Nat.reduceEqDiff,Nat.reduceAdd,Nat.reduceLT,↓reduceIte,reduceCtorEq];refine⟨by omega,?_⟩
 obtain⟨ls,hls⟩:∃ ls,g.ports.getD v []=ls:=⟨_,rfl⟩;rw[hls]at hl ⊢;refine ybd (σ:=Nat) (fun k=>⟨[(15,.i .i64 k),(13,yba ls),(14,.i .i64 ls.length),(2,.i .i64 u)],[]⟩) (fun k=>k<=ls.length/\(ls.take k).findIdx? (fun l=>l.1 == u)=none) (fun k=>ls.length - k) 0 ⟨Nat.zero_le _,by simp⟩ ?_ ?_
 ·refine yg [] [] [] ?_;simp only[yba,allQ,live,yc,Int.natCast_zero,go_sem,Nat.reduceEqDiff,↓reduceIte,reduceCtorEq]
 ·intro k ⟨hk,hno⟩;simp only[ycbv,ychy,ycnh,ycdm,ycmo,ycfx,yba,yu,splice,go_sem,Nat.reduceEqDiff,Nat.reduceAdd,Nat.reduceLeDiff,Nat.reduceLT,↓reduceIte,reduceCtorEq];refine⟨fun hlt=>⟨by omega,fun he=>?_,fun he=>⟨ikw (by omega) (by omega),?_⟩⟩,fun hlt=>?_⟩
  ·have hlt:k<ls.length:=by omega
   rw[getD_at hlt]at he;rw[ysk ls u k hlt he hno]
  ·have hlt:k<ls.length:=by omega
   rw[getD_at hlt]at he;refine yh (k+1) ⟨by omega,yyg ls u k hlt he hno⟩ (by omega) ?_
   refine yg [] [] [] ?_;simp only[allQ,live,yc,yu,go_sem,Nat.reduceEqDiff,↓reduceIte,reduceCtorEq];simp
  ·obtain rfl:k=ls.length:=by omega
   rw[ybcp ls u hno]
theorem ybfu{ids:List Int}{k:Nat}(h:k<ids.length):(ids.take (k+1)).foldl max 0=max ((ids.take k).foldl max 0) (ids.getD k 0):=by
 rw[ybjj ids k h,getD_at h]
theorem yyv(p:ProgR){g:Gr}(hg:ybb g):Returns Tryz.prog 143 [.ag (ykf p),grV g] (.rf (yei p g)):=by
 refine Returns.of (yctw _ _ ?_);have h24:=hg.2.1;have hid:=hg.2.2.1;obtain⟨n,hn⟩:∃ n,g.ports.length=n:=⟨_,rfl⟩;rw[hn]at h24 hid;simp only[c143,ycbk,ycis,yciz,grV,yw,yba,yj,ykf,splice,hn,go_sem,Nat.reduceEqDiff,Nat.reduceAdd,Nat.reduceLeDiff,Nat.reduceLT,↓reduceIte,reduceCtorEq];refine⟨by omega,?_⟩
 refine ybd (σ:=Nat) (fun k=>⟨[(21,.i .i64 k),(19,yw g.ports),(20,.i .i64 n),(3,.pt (3,0) 0 0),(5,.pt (17,0) 0 0)],
   [(3,.one (some ⟨27,true,2,1,fun _=>[yj g.ids,yw g.ports]⟩)),(17,.one (some ⟨170,true,7,1,fun _=>[.a (.string p.name),ych p.vars,yca p.rules,yj g.ids,yw g.ports,.i .i64 ((g.ids.take k).foldl max 0),.os (15,0) 0 n true]⟩)),
    (15,.one (some ⟨22,false,1,n,fun i=>[if i<k then yj (yie g i)else .a (.slice none 0 0)]⟩))]⟩) (fun k=>k<=n) (fun k=>n - k) 0 (Nat.zero_le _) ?_ ?_
 ·refine yg [] [] [] ?_;simp only[yw,yba,yj,hn,allQ,live,yc,yu,Int.natCast_zero,go_sem,Nat.reduceEqDiff,↓reduceIte,reduceCtorEq];refine⟨fun i _=>by simp,fun i _=>?_⟩
  rw[if_neg (by omega)]
  simp only[yc,go_sem]
 ·intro k hk;simp only[ycjn,yckn,ycez,ycei,yw,yba,yj,splice,hn,go_sem,Nat.reduceEqDiff,Nat.reduceAdd,Nat.reduceLeDiff,↓reduceIte,reduceCtorEq];refine⟨fun hlt=>⟨by omega,by omega,by decide,?_⟩,fun hlt=>?_⟩
  ·have hk':k<n:=by omega
   obtain⟨ls,hls⟩:∃ ls,g.ports.getD k []=ls:=⟨_,rfl⟩;have hdeg:=hg.deg_lt (v:=k);rw[hls]at hdeg;rw[hls]
   have hback:∀ j,j<ls.length->(yie g k).getD j 0=yfv (g.ports.getD (ls.getD j (0,0)).1.toNat []) k:=fun j hj=>by
    unfold yie;rw[hls];simp[List.getD,hj]
   have hbl:(yie g k).length=ls.length:=by unfold yie;rw[hls,List.length_map]
   refine ybd (σ:=Nat) (fun j=>⟨[(41,.i .i64 j),(39,yba ls),(40,.i .i64 ls.length),(6,.i .i64 k),(21,.i .i64 k),(19,yw g.ports),(20,.i .i64 n),(3,.pt (3,0) 0 0),(5,.pt (17,0) 0 0)],
    [(3,.one (some ⟨27,true,2,1,fun _=>[yj g.ids,yw g.ports]⟩)),(17,.one (some ⟨170,true,7,1,fun _=>[.a (.string p.name),ych p.vars,yca p.rules,yj g.ids,yw g.ports,.i .i64 ((g.ids.take (k+1)).foldl max 0),.os (15,0) 0 n true]⟩)),
     (15,.one (some ⟨22,false,1,n,fun i=>[if i<k then yj (yie g i)else if i=k then .os (100,0) 0 j true else .a (.slice none 0 0)]⟩)),
     (100,.one (some ⟨3,false,1,j,fun q=>[.i .i64 ((yie g k).getD q 0)]⟩))]⟩) (fun j=>j<=ls.length) (fun j=>ls.length - j) 0 (Nat.zero_le _) ?_ ?_
   ·refine yg [] [100] [] ?_;simp only[yw,yba,yj,hn,ybfu (show k<g.ids.length by omega),allQ,live,yc,Int.natCast_zero,go_sem,Nat.reduceEqDiff,Nat.reduceBEq,↓reduceIte,reduceCtorEq]
    intro i hi
    by_cases q1:i<k
    ·simp only[if_pos q1];simp only[yc,go_sem,reduceCtorEq]
    ·by_cases q2:i=k
     ·simp only[if_neg q1,if_pos q2];simp only[live,go_sem,Nat.reduceEqDiff,↓reduceIte];simp
     ·simp only[if_neg q1,if_neg q2];simp only[yc,go_sem,reduceCtorEq]
   ·intro j hj;simp only[ycor,ycat,ycfm,ybrb,ybmm,yw,yba,yj,splice,hn,go_sem,Nat.reduceEqDiff,Nat.reduceAdd,Nat.reduceLeDiff,Nat.reduceLT,↓reduceIte,reduceCtorEq]
    have hP:=fun hlt:j<ls.length=>ybii g (ls.getD j (0,0)).1.toNat (by
     have:=hg.yby (v:=k) (p:=j) (by omega) (by rw[hls];omega)
     unfold yby at this;rw[hls]at this;omega) (k:Int) (by have:=hg.deg_lt (v:=(ls.getD j (0,0)).1.toNat);omega)
    have hto:j<ls.length->((ls.getD j (0,0)).1.toNat:Int)=(ls.getD j (0,0)).1:=fun hlt=>by
     have:=hg.yby (v:=k) (p:=j) (by omega) (by rw[hls];omega)
     unfold yby at this;rw[hls]at this;omega
    refine⟨fun hlt=>⟨by omega,by omega,by omega,?_⟩,fun hlt=>?_⟩
    ·have hj':j<ls.length:=by omega
     have hP:=hP hj';rw[hto hj']at hP;simp only[grV,yw,yba,yj,hn]at hP;refine hP.use ?_;simp only[thenO,splice,go_sem,Nat.reduceEqDiff,Nat.reduceAdd,Nat.reduceLeDiff,Nat.reduceLT,↓reduceIte,reduceCtorEq];refine⟨by decide,by omega,by decide,by omega,by omega,by decide,ikw (by omega) (by omega),?_⟩
     refine yh (j+1) (by omega) (by omega) ?_
     refine yg [(100,fun _=>(63,0))] [] [] ?_;simp only[allQ,live,yc,yu,go_sem,Nat.reduceEqDiff,↓reduceIte,reduceCtorEq];refine⟨by omega,fun i hi=>?_,fun i hi=>?_⟩
     ·by_cases q2:i=k
      ·simp only[if_pos q2,if_neg (show ¬ i<k by omega)]
       simp only[live,yc,go_sem,Nat.reduceEqDiff,↓reduceIte,reduceCtorEq]
      ·simp only[if_neg q2]
       by_cases q1:i<k
       ·simp only[if_pos q1];simp only[live,yc,go_sem,reduceCtorEq]
       ·simp only[if_neg q1];simp only[live,yc,go_sem,reduceCtorEq]
     ·by_cases q2:i<j
      ·simp only[if_pos q2];simp only[live,yc,go_sem,reduceCtorEq]
      ·obtain rfl:i=j:=by omega
       simp only[if_neg q2,Nat.sub_self,Nat.zero_mul];simp only[live,yu,go_sem,reduceCtorEq];rw[hback i hj']
    ·obtain rfl:j=ls.length:=by omega
     refine⟨ikw (by omega) (by omega),?_⟩
     refine yh (k+1) (by omega) (by omega) ?_
     refine yg [] [] [(100,0)] ?_;simp only[allQ,live,yc,yu,go_sem,Nat.reduceEqDiff,Nat.reduceLeDiff,↓reduceIte,reduceCtorEq];refine⟨by omega,fun i hi=>?_⟩
     by_cases q1:i<k
     ·simp only[if_pos q1,if_pos (show i<k+1 by omega)]
      simp only[yc,go_sem]
     ·by_cases q2:i=k
      ·simp only[if_neg q1,if_pos q2,if_pos (show i<k+1 by omega)]
       subst q2;simp only[hbl,yc,go_sem,Nat.reduceEqDiff,↓reduceIte]
      ·simp only[if_neg q1,if_neg q2,if_neg (show ¬ i<k+1 by omega)]
       simp only[yc,go_sem]
  ·obtain rfl:k=n:=by omega
   simp only[yblq,go_sem,Nat.reduceEqDiff,Nat.reduceAdd,Nat.reduceLeDiff,↓reduceIte,reduceCtorEq];refine⟨fun q hq=>by simp only[if_pos hq];simp only[go_sem],?_⟩
   refine ycwk ?_ (by simp only[yei,go_sem])
   simp only[SimL,yei,yj,yw,yba,ycp,hn,yc,true_and,and_true];refine⟨?_,?_⟩
   ·rw[yu];refine⟨rfl,?_⟩;unfold ybcu;rw[List.take_of_length_le (by omega)]
   ·refine ygm fun q hq=>?_;simp only[if_pos hq];simp only[SimL,yc,go_sem]
end Sh
end Go.Proofs.YtiejahgklcjhkaaGreatDoor

namespace Go.Proofs.YtiejahgklcjhkaaGreatDoor

def yhx(f:Nat->Bool):Nat->Nat
 | 0=>0
 | n+1=>if f n then yhx f n ||| 2 ^ n else yhx f n
theorem yig(f:Nat->Bool):∀ (n i:Nat),(yhx f n).testBit i=(decide (i<n) && f i)
 | 0,i=>by simp[yhx]
 | n+1,i=>by
  unfold yhx;have ih:=yig f n i
  by_cases h:f n=true
  ·rw[if_pos h,Nat.testBit_or,ih,Nat.testBit_two_pow]
   by_cases e:n=i
   ·subst e;simp[h]
   ·have:(i<n+1)=(i<n):=propext (by omega)
    simp[e,this]
  ·rw[if_neg h,ih]
   by_cases e:n=i
   ·subst e;simp[h]
   ·have:(i<n+1)=(i<n):=propext (by omega)
    simp[this]
theorem ybdv(f:Nat->Bool)(n:Nat):yhx f n<2 ^ n:=by
 refine Nat.lt_pow_two_of_testBit _ fun i hi=>?_;rw[yig];simp;omega
def difB(a b:Nat):Nat:=a ^^^ (a &&& b)
theorem yhk(a b i:Nat):(difB a b).testBit i=(a.testBit i && !(b.testBit i)):=by
 unfold difB;rw[Nat.testBit_xor,Nat.testBit_and];cases a.testBit i<;>cases b.testBit i<;>rfl
theorem ydj(a:Nat):a=0 ↔ ∀ i,a.testBit i=false:=by
 constructor
 ·rintro rfl i;simp
 ·intro h;exact Nat.eq_of_testBit_eq fun i=>by rw[h i];simp
theorem ycwq{a b n:Nat}(h:a<2 ^ n):a &&& b<2 ^ n:=by
 have:=Nat.and_le_left (n:=a) (m:=b);omega
theorem yvf{a b n:Nat}(h:a<2 ^ n):difB a b<2 ^ n:=by
 refine Nat.lt_pow_two_of_testBit _ fun i hi=>?_;rw[yhk,Nat.testBit_lt_two_pow (Nat.lt_of_lt_of_le h (Nat.pow_le_pow_right (by omega) hi))]
 rfl
structure Cnt where
 steps:Nat
 moves:Nat
 rounds:Nat
 begun:Nat
 pend:Nat
def yfb(s:Nat):Nat->Nat
 | 0=>0
 | n+1=>yfb s n+(s.testBit n).toNat
def popP(s:Nat):Nat:=yfb s 32
def ycj(e:Nat):Cnt:=⟨0,0,0,0,e⟩
def addP(k:Cnt)(chosen after:Nat):Cnt :=
 let p:=difB k.pend chosen &&& after
 ⟨k.steps+1,k.moves+popP chosen,if p=0 then k.rounds+1 else k.rounds,k.rounds+1,if p=0 then after else p⟩
def Cnt.ok(k:Cnt):Prop:=k.rounds<=k.begun/\k.begun<=k.rounds+1/\k.begun<=k.steps/\k.steps<=k.moves/\k.moves<=24 * k.steps/\k.pend<2 ^ 24
theorem yio(s:Nat):∀ n,yfb s n<=n
 | 0=>Nat.le_refl _
 | n+1=>by
  have:=yio s n;unfold yfb;cases s.testBit n<;>simp[Bool.toNat]<;>omega
theorem yrr(s:Nat)(h:s<2 ^ 24):∀ k,yfb s (24+k)=yfb s 24
 | 0=>rfl
 | k+1=>by
  have e:s.testBit (24+k)=false:=Nat.testBit_lt_two_pow (Nat.lt_of_lt_of_le h (Nat.pow_le_pow_right (by omega) (by omega)))
  show yfb s (24+k)+(s.testBit (24+k)).toNat=_;rw[yrr s h k,e];rfl
theorem ybrf(s:Nat)(h:s<2 ^ 24):popP s<=24:=by
 have:=yrr s h 8;unfold popP;rw[this];exact yio s 24
theorem yvp{s i:Nat}(hs:s.testBit i=true):∀ n,i<n->1<=yfb s n
 | 0,h=>by omega
 | n+1,h=>by
  unfold yfb
  by_cases e:i=n
  ·subst e;rw[hs];simp
  ·have:=yvp hs n (by omega);omega
theorem ybyj(s:Nat)(h:s<2 ^ 32)(h0:s ≠ 0):1<=popP s:=by
 refine Classical.byContradiction fun hc=>h0 ?_;rw[ydj];intro i;cases hb:s.testBit i with
 | false=>rfl
 | true =>
  exfalso
  have hi:i<32:=by
   refine Classical.byContradiction fun hi=>?_;rw[Nat.testBit_lt_two_pow (Nat.lt_of_lt_of_le h (Nat.pow_le_pow_right (by omega) (by omega)))]at hb
   cases hb
  exact hc (yvp hb 32 hi)
theorem ybos{e:Nat}(h:e<2 ^ 24):(ycj e).ok:=⟨Nat.le_refl _,by simp[ycj],Nat.le_refl _,Nat.le_refl _,by simp[ycj],h⟩
theorem ycsw{k:Cnt}{s e:Nat}(hk:k.ok)(hs:s<2 ^ 24)(h0:s ≠ 0)(he:e<2 ^ 24):(addP k s e).ok:=by
 obtain⟨h1,h2,h3,h4,h5,h6⟩:=hk;have p1:=ybrf s hs;have p2:=ybyj s (by omega) h0
 have hp:difB k.pend s &&& e<2 ^ 24:=ycwq (yvf h6);unfold addP Cnt.ok;simp only;refine⟨by split<;>omega,by split<;>omega,by omega,by omega,by omega,by split<;>omega⟩

structure Sys where
 n:Nat
 en:Conf->Nat
 mv:Conf->Nat->Conf
def Sys.run(S:Sys)(res:Nat->Nat->Nat):List Nat->Conf->Cnt->List (Conf × Cnt)
 | [],_,_=>[]
 | w :: ws,c,k=>if S.en c=0 then[]else(let s:=res (S.en c) w
  let d:=S.mv c s
  (d,addP k s (S.en d)) :: S.run res ws d (addP k s (S.en d)))
def Sys.runs(S:Sys)(res:Nat->Nat->Nat)(ws:List Nat)(c:Conf):List (Conf × Cnt):=(c,ycj (S.en c)) :: S.run res ws c (ycj (S.en c))
def subB(a b:Nat):Prop:=∀ i,a.testBit i=true->b.testBit i=true
def ybhg(res:Nat->Nat->Nat):Prop:=∀ e w,e ≠ 0->res e w ≠ 0/\subB (res e w) e
theorem Sys.run_all{S:Sys}{res:Nat->Nat->Nat}(hr:ybhg res){J:Conf->Cnt->Prop}(hstep:∀ c k s,J c k->s ≠ 0->subB s (S.en c)->J (S.mv c s) (addP k s (S.en (S.mv c s)))) :
  ∀ (ws:List Nat) (c:Conf) (k:Cnt),J c k -> ∀ p ∈ S.run res ws c k,J p.1 p.2
 | [],_,_,_,p,hp=>by cases hp
 | w :: ws,c,k,hJ,p,hp=>by
  unfold Sys.run at hp;split at hp
  ·cases hp
  ·rename_i h0
   obtain⟨r1,r2⟩:=hr _ w h0;have hJ':=hstep c k _ hJ r1 r2;rcases List.mem_cons.1 hp with e | e
   ·rw[e];exact hJ'
   ·exact Sys.run_all hr hstep ws _ _ hJ' p e
theorem Sys.runs_all{S:Sys}{res:Nat->Nat->Nat}(hr:ybhg res){J:Conf->Cnt->Prop}(hstep:∀ c k s,J c k->s ≠ 0->subB s (S.en c)->J (S.mv c s) (addP k s (S.en (S.mv c s)))){ws:List Nat}{c:Conf}(h:J c (ycj (S.en c))):∀ p ∈ S.runs res ws c,J p.1 p.2:=fun p hp=>by
 rcases List.mem_cons.1 hp with e | e
 ·rw[e];exact h
 ·exact Sys.run_all hr hstep ws _ _ h p e

structure ByRounds(S:Sys)(V:Conf->Prop)(P:Nat->Nat->List Int->Prop):Prop where
 valid:∀ c s,V c->s ≠ 0->subB s (S.en c)->V (S.mv c s)
 stay:∀ c s v,V c->v<S.n->s.testBit v=false->(S.mv c s).getD v []=c.getD v []
 move:∀ c s v r,V c->v<S.n->s.testBit v=true->subB s (S.en c)->(∀ u,u<S.n->P r u (c.getD u []))->P (r+1) v ((S.mv c s).getD v [])
 rest:∀ c v r,V c->v<S.n->(S.en c).testBit v=false->(∀ u,u<S.n->P r u (c.getD u []))->P (r+1) v (c.getD v [])
 less:∀ r v s,P (r+1) v s->P r v s
structure RInv(S:Sys)(V:Conf->Prop)(P:Nat->Nat->List Int->Prop)(c:Conf)(k:Cnt):Prop where
 valid:V c
 all:∀ v,v<S.n->P k.rounds v (c.getD v [])
 done:∀ v,v<S.n->k.pend.testBit v=false->P (k.rounds+1) v (c.getD v [])
 begun:k.begun<=k.rounds+1
theorem ByRounds.start{S:Sys}{V:Conf->Prop}{P:Nat->Nat->List Int->Prop}(h:ByRounds S V P){c:Conf}(hv:V c)(h0:∀ v,v<S.n->P 0 v (c.getD v [])):RInv S V P c (ycj (S.en c)) :=
 ⟨hv,h0,fun v hn hb=>h.rest c v 0 hv hn hb h0,by simp[ycj]⟩
theorem ByRounds.step{S:Sys}{V:Conf->Prop}{P:Nat->Nat->List Int->Prop}(h:ByRounds S V P)(c:Conf)(k:Cnt)(s:Nat)(hi:RInv S V P c k)(h0:s ≠ 0)(hs:subB s (S.en c)):RInv S V P (S.mv c s) (addP k s (S.en (S.mv c s))):=by
 obtain⟨i1,i2,i3,i4⟩:=hi;have hv:=h.valid c s i1 h0 hs
 have hall:∀ v,v<S.n->P k.rounds v ((S.mv c s).getD v []):=fun v hn=>by
  cases hb:s.testBit v with
  | true=>exact h.less _ _ _ (h.move c s v _ i1 hn hb hs i2)
  | false=>rw[h.stay c s v i1 hn hb];exact i2 v hn
 have hnext:∀ v,v<S.n->(difB k.pend s &&& S.en (S.mv c s)).testBit v=false->P (k.rounds+1) v ((S.mv c s).getD v []):=fun v hn hb=>by
  rw[Nat.testBit_and,yhk]at hb;cases hb1:s.testBit v with
  | true=>exact h.move c s v _ i1 hn hb1 hs i2
  | false =>
   cases hb2:k.pend.testBit v with
   | false=>rw[h.stay c s v i1 hn hb1];exact i3 v hn hb2
   | true =>
    rw[hb1,hb2]at hb;exact h.rest _ v _ hv hn (by simpa using hb) hall
 unfold addP;simp only
 by_cases hp:difB k.pend s &&& S.en (S.mv c s)=0
 ·simp only[if_pos hp];have hall':∀ v,v<S.n->P (k.rounds+1) v ((S.mv c s).getD v []):=fun v hn=>hnext v hn (by rw[hp];simp)
  exact⟨hv,hall',fun v hn hb=>h.rest _ v _ hv hn hb hall',by show k.rounds+1<=_;simp⟩
 ·simp only[if_neg hp];exact⟨hv,hall,hnext,Nat.le_refl _⟩
theorem ByRounds.runs{S:Sys}{V:Conf->Prop}{P:Nat->Nat->List Int->Prop}(h:ByRounds S V P){res:Nat->Nat->Nat}(hr:ybhg res){ws:List Nat}{c:Conf}(hv:V c)(h0:∀ v,v<S.n->P 0 v (c.getD v [])):∀ p ∈ S.runs res ws c,RInv S V P p.1 p.2 :=
 Sys.runs_all hr h.step (h.start hv h0)
end Go.Proofs.YtiejahgklcjhkaaGreatDoor

namespace Go.Proofs.YtiejahgklcjhkaaGreatDoor

structure RuleT where
 name:ByteArray
 guard:Ex
 sets:List (Int × Ex)
structure ProgT where
 name:ByteArray
 vars:List VarR
 rules:List RuleT
instance:Inhabited Ex:=⟨.leaf 0 0⟩
instance:Inhabited RuleT:=⟨⟨.empty,default,[]⟩⟩
def RuleT.raw(r:RuleT):RuleR:=⟨r.name,r.guard.ser,r.sets.map fun s=>⟨s.1,s.2.ser⟩⟩
def ProgT.raw(p:ProgT):ProgR:=⟨p.name,p.vars,p.rules.map RuleT.raw⟩
def RuleT.ok(nv:Nat)(r:RuleT):Bool:=r.guard.ok nv false && decide (r.guard.ser.length<=1000) && decide (r.sets.length<=100) && r.sets.all fun s=>decide (0<=s.1/\s.1<nv) && s.2.ok nv false && decide (s.2.ser.length<=1000)
def VarR.ok(x:VarR):Bool:=decide (x.kind=1\/x.kind=2\/x.kind=3) && decide (0<=x.lo/\x.lo<=4096) && decide (-4096<=x.hi/\x.hi<=4096) && decide (0<=x.perNode/\x.perNode<=255) && decide (0<=x.perID/\x.perID<=255)
def ProgT.ok(p:ProgT):Bool:=decide (1<=p.vars.length/\p.vars.length<=6) && p.vars.all VarR.ok && decide (p.rules.length<=12) && p.rules.all (RuleT.ok p.vars.length)

def ykp(g:Gr)(c:Conf)(v:Nat)(r:RuleT):Bool:=yea g c v r.guard (-1) != 0
def ygg(p:ProgT)(g:Gr)(c:Conf)(v:Nat):Int:=match p.rules.findIdx? (ykp g c v)with | some i=>i | none=>-1
def ybc(g:Gr)(v:Nat)(x:VarR):Int × Int :=
 if x.kind=1 then(x.lo,x.hi+x.perNode * (g.ids.length:Int)+x.perID * maxI g.ids)else if x.kind=2 then(0,1)else if x.kind=3 then(-1,((g.ports.getD v []).length:Int) - 1)else(0,-1)
def yji(kind:Int)(b:Int × Int)(x:Int):Int:=if x >= b.1/\x<=b.2 then x else if kind=3 then -1 else if x<b.1 then b.1 else b.2
def ylp(p:ProgT)(g:Gr)(c:Conf)(v:Nat)(s0:List Int)(sets:List (Int × Ex)):List Int :=
 sets.foldl (fun s a=>s.set a.1.toNat (yji (p.vars.getD a.1.toNat default).kind (ybc g v (p.vars.getD a.1.toNat default)) (yea g c v a.2 (-1)))) s0
def ybcl(p:ProgT)(g:Gr)(c:Conf)(v:Nat)(r:Nat):List Int:=ylp p g c v (c.getD v []) (p.rules.getD r default).sets
def ybp(p:ProgT)(g:Gr)(c:Conf):Nat:=yhx (fun v=>decide (ygg p g c v >= 0)) g.ids.length
def ykj(p:ProgT)(g:Gr)(c:Conf)(s:Nat):Conf:=c.zipIdx.map fun q=>if s.testBit q.2 then ybcl p g c q.2 (ygg p g c q.2).toNat else q.1
def ybl(p:ProgT)(g:Gr):Sys:=⟨g.ids.length,ybp p g,ykj p g⟩
def yfp(p:ProgT)(g:Gr)(c:Conf):Bool:=ynw g.ids.length (fun v=>p.vars.map (ybc g v)) c
end Go.Proofs.YtiejahgklcjhkaaGreatDoor

namespace Go.Proofs.YtiejahgklcjhkaaGreatDoor
namespace Sh
open Go Ev
set_option maxRecDepth 8000

theorem ycuh{g:Gr}(hg:ybb g):0<=maxI g.ids/\maxI g.ids<=255:=by
 have h1:=hg.1;have h2:=hg.2.2.1;rw[ybew (by omega) fun x hx=>(hg.2.2.2.1 x hx).1]
 exact ypa hg
theorem yzv{x:VarR}(h:x.ok=true):(x.kind=1\/x.kind=2\/x.kind=3)/\(0<=x.lo/\x.lo<=4096)/\(-4096<=x.hi/\x.hi<=4096)/\(0<=x.perNode/\x.perNode<=255)/\(0<=x.perID/\x.perID<=255):=by
 unfold VarR.ok at h;simp only[Bool.and_eq_true,decide_eq_true_eq]at h;obtain⟨⟨⟨⟨a,b⟩,c⟩,d⟩,e⟩:=h;exact⟨a,b,c,d,e⟩
theorem mulN{a b A B:Int}(h1:0<=a)(h2:a<=A)(h3:0<=b)(h4:b<=B):0<=a * b/\a * b<=A * B:=⟨Int.mul_nonneg h1 h3,Int.mul_le_mul h2 h4 h3 (by omega)⟩
theorem ylc{g:Gr}(hg:ybb g){x:VarR}(hx:x.ok=true):(0<=x.perNode * (g.ids.length:Int)/\x.perNode * (g.ids.length:Int)<=255 * 24)/\(0<=x.perID * maxI g.ids/\x.perID * maxI g.ids<=255 * 255):=by
 obtain⟨_,_,_,h4,h5⟩:=yzv hx;have h6:=ycuh hg;have h7:=hg.2.1;have h8:=hg.2.2.1;exact⟨mulN h4.1 h4.2 (by omega) (by omega),mulN h5.1 h5.2 h6.1 h6.2⟩
theorem yzo{g:Gr}(hg:ybb g){x:VarR}(hx:x.ok=true)(v:Int):Returns Tryz.prog 198 [.ag (varC x),grV g,.i .i64 v] (.tp [.i .i64 x.lo,.i .i64 (x.hi+x.perNode * (g.ids.length:Int)+x.perID * maxI g.ids)]):=by
 refine Returns.of (ycrh _ _ ?_);have h1:=hg.1;have h7:=hg.2.1;have h8:=hg.2.2.1;have hM:=ycpo g.ids (by omega) (by omega)
 obtain⟨hb1,hb2⟩:=ylc hg hx;obtain⟨_,_,hv3,_,_⟩:=yzv hx;simp only[yj]at hM;simp only[c198,ycja,ycon,grV,varC,yj,go_sem,Nat.reduceEqDiff,Nat.reduceAdd,Nat.reduceLeDiff,Nat.reduceLT,↓reduceIte,reduceCtorEq];refine⟨ikw (by omega) (by omega),ikw (by omega) (by omega),hM.use ?_⟩
 simp only[thenO,go_sem,Nat.reduceEqDiff,Nat.reduceAdd,↓reduceIte,reduceCtorEq];refine⟨ikw (by omega) (by omega),ikw (by omega) (by omega),?_⟩
 exact Sim.refl _
theorem ybcr(g:Gr)(x:VarR)(v:Int):Returns Tryz.prog 199 [.ag (varC x),grV g,.i .i64 v] (.tp [.i .i64 0,.i .i64 1]):=by
 refine Returns.of (ycta _ _ ?_);simp only[c199,ycfg,yckw,grV,varC,go_sem,Nat.reduceEqDiff,Nat.reduceAdd,Nat.reduceLT,↓reduceIte,reduceCtorEq];exact Sim.refl _
theorem yzz{g:Gr}(hg:ybb g)(x:VarR){v:Nat}(hv:v<g.ports.length):Returns Tryz.prog 200 [.ag (varC x),grV g,.i .i64 v] (.tp [.i .i64 (-1),.i .i64 (((g.ports.getD v []).length:Int) - 1)]):=by
 refine Returns.of (ycru _ _ ?_);have hd:=hg.deg_lt (v:=v);simp only[c200,ycnp,ycab,grV,yw,yba,varC,go_sem,Nat.reduceEqDiff,Nat.reduceAdd,Nat.reduceLT,↓reduceIte,reduceCtorEq];refine⟨by omega,ikw (by omega) (by omega),?_⟩
 exact Sim.refl _
theorem ybkr(kind:Int)(b:Int × Int)(x:Int):Returns Tryz.prog 194 [.i .i64 kind,.ag [.i .i64 b.1,.i .i64 b.2],.i .i64 x] (.i .i64 (yji kind b x)):=by
 refine Returns.of (ycuz _ _ ?_);simp only[c194,ycdi,ycai,ycnl,ychu,ychn,ycbz,yccj,ycow,yu,yji,go_sem,Int.reduceToNat,Nat.reduceEqDiff,Nat.reduceAdd,Nat.reduceLeDiff,Nat.reduceLT,Nat.reduceMul,↓reduceIte,reduceCtorEq];refine⟨by omega,fun h1=>⟨by omega,fun h2=>by rw[if_pos ⟨h1,h2⟩],fun h2=>⟨fun h3=>by rw[if_neg (fun q=>h2 q.2),if_pos h3],fun h3=>⟨by omega,fun h4=>⟨by omega,by rw[if_neg (fun q=>h2 q.2),if_neg h3,if_pos h4]⟩,fun h4=>⟨by omega,by rw[if_neg (fun q=>h2 q.2),if_neg h3,if_neg h4]⟩⟩⟩⟩,fun h1=>⟨fun h3=>by rw[if_neg (fun q=>h1 q.1),if_pos h3],fun h3=>⟨by omega,fun h4=>⟨by omega,by rw[if_neg (fun q=>h1 q.1),if_neg h3,if_pos h4]⟩,fun h4=>⟨by omega,by rw[if_neg (fun q=>h1 q.1),if_neg h3,if_neg h4]⟩⟩⟩⟩
theorem ytf{g:Gr}(hg:ybb g){x:VarR}(hx:x.ok=true){v:Nat}(hv:v<g.ports.length):Returns Tryz.prog 171 [.ag (varC x),grV g,.i .i64 v] (.tp [.i .i64 (ybc g v x).1,.i .i64 (ybc g v x).2]):=by
 refine Returns.of (ycqy _ _ ?_);have h1:=yzo hg hx v;have h2:=ybcr g x v;have h3:=yzz hg x hv;obtain⟨hk,_⟩:=yzv hx;simp only[varC,grV]at h1 h2 h3;simp only[c171,yces,ycbe,ycaf,varC,grV,splice,go_sem,Nat.reduceEqDiff,Nat.reduceAdd,Nat.reduceLeDiff,Nat.reduceLT,↓reduceIte,reduceCtorEq]
 refine ybd (σ:=Nat) (fun k=>⟨[(17,.i .i64 k),(15,.os (14,0) 0 3 true),(16,.i .i64 3),(2,.i .i64 v),(3,.pt (3,0) 0 0),(4,.pt (4,0) 0 0)],
   [(3,.one (some ⟨87,true,6,1,fun _=>varC x⟩)),(4,.one (some ⟨27,true,2,1,fun _=>[yj g.ids,yw g.ports]⟩)),
    (14,.one (some ⟨209,false,2,3,fun k=>if k=0 then[.i .i64 1,.fn 198 [] []]else if k=1 then[.i .i64 2,.fn 199 [] []]else[.i .i64 3,.fn 200 [] []]⟩))]⟩)
  (fun k=>k<=2/\(1<=k->x.kind ≠ 1)/\(2<=k->x.kind ≠ 2)) (fun k=>3 - k) 0 ⟨by omega,by omega,by omega⟩ ?_ ?_
 ·refine yg [] [] [] ?_;simp only[varC,allQ,live,yc,yu,Int.natCast_zero,go_sem,Nat.reduceEqDiff,↓reduceIte,reduceCtorEq];refine⟨rfl,fun i hi=>?_⟩;rcases(show i=0\/i=1\/i=2 by omega)with rfl | rfl | rfl
  ·simp only[live,yc,go_sem,↓reduceIte,reduceCtorEq]
  ·simp only[if_neg (show ¬ (1:Nat)=0 by omega),live,yc,go_sem,↓reduceIte,reduceCtorEq]
  ·simp only[if_neg (show ¬ (2:Nat)=0 by omega),if_neg (show ¬ (2:Nat)=1 by omega),live,yc,go_sem,Nat.reduceEqDiff,↓reduceIte,reduceCtorEq]
 ·rintro k ⟨hk2,hk3,hk4⟩;rcases(show k=0\/k=1\/k=2 by omega)with rfl | rfl | rfl
  ·simp only[ybff,ybcz,ybec,ybdz,ybem,yben,varC,splice,go_sem,Nat.reduceEqDiff,Nat.reduceAdd,Nat.reduceLeDiff,Nat.reduceLT,↓reduceIte,reduceCtorEq];refine⟨fun _=>⟨by omega,fun he=>h1.use ?_,fun he=>⟨ikw (by omega) (by omega),?_⟩⟩,fun h=>by omega⟩
   ·simp only[thenO,go_sem,Nat.reduceEqDiff,Nat.reduceAdd,↓reduceIte,reduceCtorEq];have e:ybc g v x=(x.lo,x.hi+x.perNode * (g.ids.length:Int)+x.perID * maxI g.ids):=by unfold ybc;rw[if_pos he.symm]
    rw[e];exact Sim.refl _
   ·refine yh 1 ⟨by omega,fun _ q=>he q.symm,by omega⟩ (by omega) ?_
    refine yg [] [] [] ?_;simp only[allQ,live,yc,yu,Int.natCast_zero,go_sem,Nat.reduceEqDiff,↓reduceIte,reduceCtorEq];refine⟨by omega,fun i hi=>?_⟩
    rcases(show i=0\/i=1\/i=2 by omega)with rfl | rfl | rfl
    ·simp only[live,yc,go_sem,↓reduceIte,reduceCtorEq]
    ·simp only[if_neg (show ¬ (1:Nat)=0 by omega),live,yc,go_sem,↓reduceIte,reduceCtorEq]
    ·simp only[if_neg (show ¬ (2:Nat)=0 by omega),if_neg (show ¬ (2:Nat)=1 by omega),live,yc,go_sem,Nat.reduceEqDiff,↓reduceIte,reduceCtorEq]
  ·simp only[ybff,ybcz,ybec,ybdz,ybem,yben,varC,splice,go_sem,Nat.reduceEqDiff,Nat.reduceAdd,Nat.reduceLeDiff,Nat.reduceLT,↓reduceIte,reduceCtorEq];refine⟨fun _=>⟨by omega,fun he=>h2.use ?_,fun he=>⟨ikw (by omega) (by omega),?_⟩⟩,fun h=>by omega⟩
   ·simp only[thenO,go_sem,Nat.reduceEqDiff,Nat.reduceAdd,↓reduceIte,reduceCtorEq];have e:ybc g v x=(0,1):=by unfold ybc;rw[if_neg (by omega),if_pos he.symm]
    rw[e];exact Sim.refl _
   ·refine yh 2 ⟨by omega,fun _=>by omega,fun _ q=>he q.symm⟩ (by omega) ?_
    refine yg [] [] [] ?_;simp only[allQ,live,yc,yu,go_sem,Nat.reduceEqDiff,↓reduceIte,reduceCtorEq];refine⟨by omega,fun i hi=>?_⟩
    rcases(show i=0\/i=1\/i=2 by omega)with rfl | rfl | rfl
    ·simp only[live,yc,go_sem,↓reduceIte,reduceCtorEq]
    ·simp only[if_neg (show ¬ (1:Nat)=0 by omega),live,yc,go_sem,↓reduceIte,reduceCtorEq]
    ·simp only[if_neg (show ¬ (2:Nat)=0 by omega),if_neg (show ¬ (2:Nat)=1 by omega),live,yc,go_sem,Nat.reduceEqDiff,↓reduceIte,reduceCtorEq]
  ·simp only[ybff,ybcz,ybec,ybdz,ybem,yben,varC,splice,go_sem,Nat.reduceEqDiff,Nat.reduceAdd,Nat.reduceLeDiff,Nat.reduceLT,↓reduceIte,reduceCtorEq];refine⟨fun _=>⟨by omega,fun he=>h3.use ?_,fun he=>by omega⟩,fun h=>by omega⟩
   simp only[thenO,go_sem,Nat.reduceEqDiff,Nat.reduceAdd,↓reduceIte,reduceCtorEq];have e:ybc g v x=(-1,((g.ports.getD v []).length:Int) - 1):=by unfold ybc;rw[if_neg (by omega),if_neg (by omega),if_pos he.symm]
   rw[e];exact Sim.refl _
def yhr(n:Nat)(vars:List VarR)(b:Nat->VarR->Int × Int):SV:=.sl 1 n (fun v=>[.sl 2 vars.length (fun i=>[.i .i64 (b v (vars.getD i default)).1,.i .i64 (b v (vars.getD i default)).2])])
def rowT(vars:List VarR)(b:VarR->Int × Int):SV:=.sl 2 vars.length (fun i=>[.i .i64 (b (vars.getD i default)).1,.i .i64 (b (vars.getD i default)).2])
theorem yzc(p:ProgR){g:Gr}(hg:ybb g)(hp:p.vars.all VarR.ok=true)(hl:p.vars.length<=6):Returns Tryz.prog 144 [.ag (ykf p),grV g] (yhr g.ids.length p.vars (ybc g)):=by
 refine Returns.of (ycvh _ _ ?_);have h24:=hg.2.1;have hid:=hg.2.2.1;obtain⟨n,hn⟩:∃ n,g.ids.length=n:=⟨_,rfl⟩;obtain⟨nv,hnv⟩:∃ k,p.vars.length=k:=⟨_,rfl⟩;rw[hn];rw[hnv]at hl;simp only[c144,yccm,ycbt,ychg,grV,yj,ykf,hn,go_sem,Nat.reduceEqDiff,Nat.reduceAdd,Nat.reduceLeDiff,Nat.reduceLT,↓reduceIte,reduceCtorEq];refine⟨by omega,?_⟩
 refine ybd (σ:=Nat) (fun k=>⟨[(15,.i .i64 k),(14,.i .i64 n),(5,.os (12,0) 0 n true),(2,.pt (2,0) 0 0),(3,.pt (3,0) 0 0)],
   [(2,.one (some ⟨58,true,3,1,fun _=>ykf p⟩)),(3,.one (some ⟨27,true,2,1,fun _=>[yj g.ids,yw g.ports]⟩)),
    (12,.one (some ⟨73,false,1,n,fun i=>[if i<k then rowT p.vars (ybc g i)else .a (.slice none 0 0)]⟩))]⟩) (fun k=>k<=n) (fun k=>n - k) 0 (Nat.zero_le _) ?_ ?_
 ·refine yg [] [] [] ?_;simp only[ykf,yj,hn,allQ,live,yc,Int.natCast_zero,go_sem,Nat.reduceEqDiff,↓reduceIte,reduceCtorEq];intro i _;rw[if_neg (by omega)]
  simp only[yc,go_sem]
 ·intro k hk;simp only[yclc,ycce,ycdf,ycky,ykf,ych,splice,hnv,go_sem,Nat.reduceEqDiff,Nat.reduceAdd,Nat.reduceLeDiff,Nat.reduceLT,↓reduceIte,reduceCtorEq];refine⟨fun hlt=>⟨by omega,by omega,by omega,?_⟩,fun hlt=>?_⟩
  ·have hk':k<n:=by omega
   let b:Nat->Int × Int:=fun i=>ybc g k (p.vars.getD i default)
   refine ybd (σ:=Nat) (fun j=>⟨[(28,.i .i64 j),(26,ych p.vars),(27,.i .i64 nv),(6,.i .i64 k),(15,.i .i64 k),(14,.i .i64 n),(5,.os (12,0) 0 n true),(2,.pt (2,0) 0 0),(3,.pt (3,0) 0 0)],
    [(2,.one (some ⟨58,true,3,1,fun _=>ykf p⟩)),(3,.one (some ⟨27,true,2,1,fun _=>[yj g.ids,yw g.ports]⟩)),
     (12,.one (some ⟨73,false,1,n,fun i=>[if i<k then rowT p.vars (ybc g i)else if i=k then .os (23,0) 0 nv true else .a (.slice none 0 0)]⟩)),
     (23,.one (some ⟨75,false,2,nv,fun i=>[.i .i64 (if i<j then(b i).1 else 0),.i .i64 (if i<j then(b i).2 else 0)]⟩))]⟩) (fun j=>j<=nv) (fun j=>nv - j) 0 (Nat.zero_le _) ?_ ?_
   ·refine yg [] [] [] ?_;simp only[ykf,ych,hnv,allQ,live,yc,yu,Int.natCast_zero,go_sem,Nat.reduceEqDiff,↓reduceIte,reduceCtorEq];refine⟨fun i hi=>?_,fun i hi=>?_⟩
    ·by_cases q2:i=k
     ·simp only[if_pos q2,if_neg (show ¬ i<k by omega)]
      simp only[live,yc,go_sem,Nat.reduceEqDiff,↓reduceIte,reduceCtorEq]
     ·simp only[if_neg q2]
      by_cases q1:i<k
      ·simp only[if_pos q1];simp only[rowT,live,yc,go_sem,reduceCtorEq]
      ·simp only[if_neg q1];simp only[live,yc,go_sem,reduceCtorEq]
    ·simp only[if_neg (Nat.not_lt_zero i),and_self]
   ·intro j hj;simp only[ycio,ychw,ycgt,ybmo,ybqz,ykf,ych,varC,splice,hnv,go_sem,Nat.reduceEqDiff,Nat.reduceAdd,Nat.reduceLT,↓reduceIte,reduceCtorEq];refine⟨fun hlt=>?_,fun hlt=>?_⟩
    ·have hj':j<nv:=by omega
     have hB:=ytf hg (x:=p.vars.getD j default) (by
      rw[getD_at (by omega)]
      exact List.all_eq_true.1 hp _ (List.getElem_mem _)) (v:=k) (by omega)
     simp only[varC,grV]at hB;refine⟨by omega,by omega,by omega,by omega,by omega,hB.use ?_⟩
     simp only[thenO,splice,go_sem,Int.reduceToNat,Nat.reduceEqDiff,Nat.reduceAdd,Nat.reduceLeDiff,Nat.reduceMul,↓reduceIte,reduceCtorEq];refine⟨by omega,by omega,by omega,by decide,by omega,by omega,by omega,by decide,ikw (by omega) (by omega),?_⟩
     refine yh (j+1) (by omega) (by omega) ?_
     refine yg [] [] [] ?_;simp only[allQ,live,yc,yu,go_sem,Nat.reduceEqDiff,↓reduceIte,reduceCtorEq];refine⟨by omega,fun i hi=>?_,fun i hi=>?_⟩
     ·by_cases q1:i<k
      ·simp only[if_pos q1];simp only[rowT,yc,go_sem]
      ·simp only[if_neg q1]
       by_cases q2:i=k
       ·simp only[if_pos q2];simp only[live,yc,go_sem,Nat.reduceEqDiff,↓reduceIte]
       ·simp only[if_neg q2];simp only[yc,go_sem]
     ·by_cases q2:i=j
      ·subst q2;simp only[if_pos (Nat.lt_succ_self i),↓reduceIte];simp only[live,yu,go_sem,reduceCtorEq];exact⟨rfl,rfl⟩
      ·simp only[if_neg q2]
       by_cases q1:i<j
       ·simp only[if_pos q1,if_pos (show i<j+1 by omega)]
        simp only[live,yc,go_sem,reduceCtorEq]
       ·simp only[if_neg q1,if_neg (show ¬ i<j+1 by omega)]
        simp only[live,yc,go_sem,reduceCtorEq]
    ·obtain rfl:j=nv:=by omega
     refine⟨ikw (by omega) (by omega),?_⟩
     refine yh (k+1) (by omega) (by omega) ?_
     refine yg [] [] [(23,0)] ?_;simp only[allQ,live,yc,yu,go_sem,Nat.reduceEqDiff,Nat.reduceLeDiff,↓reduceIte,reduceCtorEq];refine⟨by omega,fun i hi=>?_⟩
     by_cases q1:i<k
     ·simp only[if_pos q1,if_pos (show i<k+1 by omega)]
      simp only[rowT,yc,go_sem]
     ·by_cases q2:i=k
      ·simp only[if_neg q1,if_pos q2,if_pos (show i<k+1 by omega)]
       subst q2;simp only[rowT,hnv,go_sem,Nat.reduceEqDiff,↓reduceIte];refine ygm fun q hq=>?_;simp only[if_pos hq];simp only[SimL,go_sem];exact⟨Sim.refl _,Sim.refl _⟩
      ·simp only[if_neg q1,if_neg q2,if_neg (show ¬ i<k+1 by omega)]
       simp only[yc,go_sem]
  ·obtain rfl:k=n:=by omega
   simp only[ybtj,go_sem,Nat.reduceEqDiff,Nat.reduceAdd,↓reduceIte,reduceCtorEq];refine⟨fun q hq=>by simp only[if_pos hq];simp only[rowT,go_sem],?_⟩
   refine ygm fun q hq=>?_;simp only[if_pos hq];simp only[SimL,yc,rowT,hnv,go_sem]
end Sh
end Go.Proofs.YtiejahgklcjhkaaGreatDoor

namespace Go.Proofs.YtiejahgklcjhkaaGreatDoor
namespace Sh
open Go Ev
set_option maxRecDepth 8000

theorem ybuf(bs:Bounds)(s:List Int)(hl:bs.length<=1000):Returns Tryz.prog 192 [yba bs,yj s] (.b (yqa bs s)):=by
 refine Returns.of (ycre _ _ ?_);simp only[c192,yckv,ycca,yclb,ycnv,yba,yj,sim_b,go_sem,Nat.reduceEqDiff,Nat.reduceAdd,↓reduceIte,reduceCtorEq];refine⟨fun h=>?_,fun h=>?_⟩
 ·have:¬ yqa bs s=true:=fun q=>h (by rw[((yef bs s).1 q).1])
  simpa using this
 have hlen:s.length=bs.length:=by omega
 refine ybd (σ:=Nat) (fun k=>⟨[(14,.i .i64 k),(13,.i .i64 s.length),(12,yj s),(0,yba bs)],[]⟩) (fun k=>k<=s.length /\ ∀ i,i<k->(bs.getD i (0,0)).1<=s.getD i 0/\s.getD i 0<=(bs.getD i (0,0)).2) (fun k=>s.length - k) 0 ⟨Nat.zero_le _,fun i h=>absurd h (Nat.not_lt_zero _)⟩ ?_ ?_
 ·refine yg [] [] [] ?_;simp only[yba,yj,allQ,live,yc,Int.natCast_zero,go_sem,Nat.reduceEqDiff,↓reduceIte,reduceCtorEq]
 ·intro k ⟨hk,hall⟩;simp only[yclo,yccq,ycop,ycom,ycea,ycfl,yba,yj,sim_b,go_sem,Int.reduceToNat,Nat.reduceEqDiff,Nat.reduceAdd,Nat.reduceLeDiff,Nat.reduceMul,↓reduceIte,reduceCtorEq]
  have hno:k<s.length -> ¬ ((bs.getD k (0,0)).1<=s.getD k 0/\s.getD k 0<=(bs.getD k (0,0)).2)->yqa bs s=false:=fun hlt hn=>by
   have:¬ yqa bs s=true:=fun q=>hn (by
    have hb:k<bs.length:=by omega
    have:=((yef bs s).1 q).2 k bs[k] s[k] (List.getElem?_eq_getElem hb) (List.getElem?_eq_getElem hlt);rw[getD_at hlt,getD_at hb];exact this)
   simpa using this
  refine⟨fun hlt=>⟨by omega,by omega,by omega,fun h1=>⟨by omega,by omega,fun h2=>?_,fun h2=>⟨ikw (by omega) (by omega),?_⟩⟩,fun h1=>?_⟩,fun hlt=>?_⟩
  ·rw[hno (by omega) (by omega)]
  ·refine yh (k+1) ⟨by omega,fun i hi=>?_⟩ (by omega) ?_
   ·by_cases q:i<k
    ·exact hall i q
    ·obtain rfl:i=k:=by omega
     omega
   ·refine yg [] [] [] ?_;simp only[allQ,live,yc,yu,go_sem,Nat.reduceEqDiff,↓reduceIte,reduceCtorEq];simp
  ·rw[hno (by omega) (by omega)]
  ·obtain rfl:k=s.length:=by omega
   rw[(yef bs s).2 ⟨hlen,fun i b x hb hx=>by
    have h1:=(List.getElem?_eq_some_iff.1 hx).1;have:=hall i h1;simp only[List.getD,hb,hx,Option.getD_some]at this;exact this⟩]
theorem ybif{n:Nat}(vars:List VarR)(hv:vars.length<=1000)(b:Nat->VarR->Int × Int)(c:Conf)(hn:n<=1000):Returns Tryz.prog 156 [yhr n vars b,ybe c] (.b (ynw n (fun v=>vars.map (b v)) c)):=by
 refine Returns.of (yctg _ _ ?_);simp only[c156,ycee,ycgi,ychd,yccr,yhr,ybe,sim_b,go_sem,Nat.reduceEqDiff,Nat.reduceAdd,↓reduceIte,reduceCtorEq];refine⟨fun h=>?_,fun h=>?_⟩
 ·rw[yhi fun q=>h (by rw[q.1])]
 have hlen:c.length=n:=by omega
 refine ybd (σ:=Nat) (fun k=>⟨[(14,.i .i64 k),(13,.i .i64 n),(12,yhr n vars b),(1,ybe c)],[]⟩) (fun k=>k<=n /\ ∀ (i:Nat) s,i<k->c[i]? = some s->ydp (vars.map (b i)) s) (fun k=>n - k) 0 ⟨Nat.zero_le _,fun i s h=>absurd h (Nat.not_lt_zero _)⟩ ?_ ?_
 ·refine yg [] [] [] ?_;simp only[yhr,ybe,allQ,live,yc,Int.natCast_zero,go_sem,Nat.reduceEqDiff,↓reduceIte,reduceCtorEq]
 ·intro k ⟨hk,hall⟩;simp only[ycap,ycoh,ycim,ycau,ycmt,ycnc,yhr,ybe,yj,sim_b,go_sem,Nat.reduceEqDiff,Nat.reduceAdd,↓reduceIte,reduceCtorEq];refine⟨fun hlt=>⟨by omega,by omega,?_⟩,fun hlt=>?_⟩
  ·have hS:=ybuf (vars.map (b k)) (c.getD k []) (by simpa using hv)
   refine hS.useS ⟨?_,Sim.refl _,trivial⟩ ?_
   ·show Sim (.sl 2 vars.length _) (yba (vars.map (b k)));unfold yba;rw[List.length_map];refine sim_sl fun i hi=>?_;simp[List.getD,hi]
   ·simp only[thenO,sim_b,go_sem,Nat.reduceEqDiff,Nat.reduceAdd,↓reduceIte,reduceCtorEq];have hk':k<c.length:=by omega
    rw[getD_at hk'];refine⟨fun h1=>?_,fun h1=>⟨ikw (by omega) (by omega),?_⟩⟩
    ·rw[yhi fun q=>by
      have:=(yef _ _).2 (q.2 k c[k] (List.getElem?_eq_getElem hk'));rw[this]at h1;cases h1]
    ·refine yh (k+1) ⟨by omega,fun i s hi hs=>?_⟩ (by omega) ?_
     ·by_cases q:i<k
      ·exact hall i s q hs
      ·obtain rfl:i=k:=by omega
       rw[List.getElem?_eq_getElem hk']at hs;cases hs
       exact(yef _ _).1 h1
     ·refine yg [] [] [] ?_;simp only[allQ,live,yc,yu,go_sem,Nat.reduceEqDiff,↓reduceIte,reduceCtorEq];simp
  ·obtain rfl:k=n:=by omega
   rw[ysy ⟨hlen,fun v s hs=>hall v s (by have:=(List.getElem?_eq_some_iff.1 hs).1;omega) hs⟩]
theorem yuw(c:Conf)(hc:∀ s ∈ c,0<s.length/\s.length<=1000)(hl:c.length<=1000):Returns Tryz.prog 132 [ybe c] (ybe c):=by
 refine Returns.of (ycty _ _ ?_);obtain⟨n,hn⟩:∃ n,c.length=n:=⟨_,rfl⟩;rw[hn]at hl;simp only[c132,ybud,ybkf,yboz,ybe,hn,go_sem,Nat.reduceEqDiff,Nat.reduceAdd,Nat.reduceLT,↓reduceIte,reduceCtorEq];refine⟨by omega,?_⟩
 refine ybd (σ:=Nat) (fun k=>⟨[(11,.i .i64 k),(10,.i .i64 n),(9,ybe c),(3,.os (8,0) 0 n true)],[(8,.one (some ⟨22,false,1,n,fun i=>[if i<k then yj (c.getD i [])else .a (.slice none 0 0)]⟩))]⟩) (fun k=>k<=n) (fun k=>n - k) 0 (Nat.zero_le _) ?_ ?_
 ·refine yg [] [] [] ?_;simp only[ybe,hn,allQ,live,yc,Int.natCast_zero,go_sem,Nat.reduceEqDiff,↓reduceIte,reduceCtorEq];intro i _;rw[if_neg (by omega)]
  simp only[yc,go_sem]
 ·intro k hk
  have hrow:k<n->0<(c.getD k []).length/\(c.getD k []).length<=1000:=fun h=>by
   have:=hc (c.getD k []) (by rw[getD_at (show k<c.length by omega)];exact List.getElem_mem _)
   exact this
  by_cases hlt:k<n
  ·have hr:=hrow (by omega)
   have hr0:¬ (c.getD k []).length=0:=by omega
   have ht:decide ((k:Int)<(n:Int))=true:=decide_eq_true (by omega)
   simp only[yxx,ywh,yxz,yvt,ywq,ybe,yj,splice,hn,hr0,ht,go_sem,Nat.reduceEqDiff,Nat.reduceAdd,Nat.reduceLT,↓reduceIte,reduceCtorEq];refine⟨by omega,by omega,by omega,by omega,ikw (by omega) (by omega),?_⟩
   refine yh (k+1) (by omega) (by omega) ?_
   refine yg [] [] [(19,0)] ?_;simp only[allQ,live,yc,yu,go_sem,Nat.reduceEqDiff,↓reduceIte,reduceCtorEq];refine⟨by omega,fun i hi=>?_⟩
   by_cases q2:i=k
   ·subst q2;simp only[if_pos (Nat.lt_succ_self i),↓reduceIte];simp only[live,yc,go_sem,Nat.reduceEqDiff,↓reduceIte,reduceCtorEq]
   ·simp only[if_neg q2]
    by_cases q1:i<k
    ·simp only[if_pos q1,if_pos (show i<k+1 by omega)]
     simp only[live,yc,go_sem,reduceCtorEq]
    ·simp only[if_neg q1,if_neg (show ¬ i<k+1 by omega)]
     simp only[live,yc,go_sem,reduceCtorEq]
  ·obtain rfl:k=n:=by omega
   have ht:decide ((k:Int)<(k:Int))=false:=decide_eq_false (by omega)
   simp only[yxx,ywh,yxz,yvt,ywq,ybe,yj,hn,ht,go_sem,Nat.reduceEqDiff,Nat.reduceAdd,↓reduceIte,reduceCtorEq];refine⟨fun q hq=>by simp only[if_pos hq];simp only[go_sem],?_⟩
   refine ygm fun q hq=>?_;simp only[if_pos hq];simp only[SimL,yc,go_sem]
theorem ybvt(c:Conf)(hc:∀ s ∈ c,0<s.length/\s.length<=1000)(hl:c.length<=1000):Cm Tryz.prog 132 [] [] [ybe c] fun r o=>r = .os (8,0) 0 c.length true/\o = [(8,.one (some ⟨22,false,1,c.length,fun i=>[yj (c.getD i [])]⟩))]:=by
 refine ybvu [] [] _ _ _ ?_;obtain⟨n,hn⟩:∃ n,c.length=n:=⟨_,rfl⟩;rw[hn]at hl ⊢;simp only[c132,ybud,ybkf,yboz,ybe,hn,go_sem,Nat.reduceEqDiff,Nat.reduceAdd,Nat.reduceLT,↓reduceIte,reduceCtorEq];refine⟨by omega,?_⟩
 refine ybd (σ:=Nat) (fun k=>⟨[(11,.i .i64 k),(10,.i .i64 n),(9,ybe c),(3,.os (8,0) 0 n true)],[(8,.one (some ⟨22,false,1,n,fun i=>[if i<k then yj (c.getD i [])else .a (.slice none 0 0)]⟩))]⟩) (fun k=>k<=n) (fun k=>n - k) 0 (Nat.zero_le _) ?_ ?_
 ·refine yg [] [] [] ?_;simp only[ybe,hn,allQ,live,yc,Int.natCast_zero,go_sem,Nat.reduceEqDiff,↓reduceIte,reduceCtorEq];intro i _;rw[if_neg (by omega)]
  simp only[yc,go_sem]
 ·intro k hk
  have hrow:k<n->0<(c.getD k []).length/\(c.getD k []).length<=1000:=fun h=>by
   have:=hc (c.getD k []) (by rw[getD_at (show k<c.length by omega)];exact List.getElem_mem _)
   exact this
  by_cases hlt:k<n
  ·have hr:=hrow (by omega)
   have hr0:¬ (c.getD k []).length=0:=by omega
   have ht:decide ((k:Int)<(n:Int))=true:=decide_eq_true (by omega)
   simp only[yxx,ywh,yxz,yvt,ywq,ybe,yj,splice,hn,hr0,ht,go_sem,Nat.reduceEqDiff,Nat.reduceAdd,Nat.reduceLT,↓reduceIte,reduceCtorEq];refine⟨by omega,by omega,by omega,by omega,ikw (by omega) (by omega),?_⟩
   refine yh (k+1) (by omega) (by omega) ?_
   refine yg [] [] [(19,0)] ?_;simp only[allQ,live,yc,yu,go_sem,Nat.reduceEqDiff,↓reduceIte,reduceCtorEq];refine⟨by omega,fun i hi=>?_⟩
   by_cases q2:i=k
   ·subst q2;simp only[if_pos (Nat.lt_succ_self i),↓reduceIte];simp only[live,yc,go_sem,Nat.reduceEqDiff,↓reduceIte,reduceCtorEq]
   ·simp only[if_neg q2]
    by_cases q1:i<k
    ·simp only[if_pos q1,if_pos (show i<k+1 by omega)]
     simp only[live,yc,go_sem,reduceCtorEq]
    ·simp only[if_neg q1,if_neg (show ¬ i<k+1 by omega)]
     simp only[live,yc,go_sem,reduceCtorEq]
  ·obtain rfl:k=n:=by omega
   have ht:decide ((k:Int)<(k:Int))=false:=decide_eq_false (by omega)
   simp only[yxx,ywh,yxz,yvt,ywq,ybe,yj,hn,ht,yfu,go_sem,Nat.reduceEqDiff,Nat.reduceAdd,↓reduceIte,reduceCtorEq];refine⟨.os (8,0) 0 k true,[(8,.one (some ⟨22,false,1,k,fun i=>[yj (c.getD i [])]⟩))],?_,?_,rfl,rfl⟩
   ·refine yg [] [] [] ?_;simp only[yj,allQ,live,yc,go_sem,↓reduceIte,reduceCtorEq];intro i hi;simp only[if_pos hi];simp only[yc,go_sem]
   ·simp only[famCln,yfn,allQ,live,go_sem,↓reduceIte]
end Sh
end Go.Proofs.YtiejahgklcjhkaaGreatDoor

namespace Go.Proofs.YtiejahgklcjhkaaGreatDoor
namespace Sh
open Go Ev
set_option maxRecDepth 8000

theorem yfy(p:ProgR){g:Gr}(hg:ybb g){nv:Nat}{c:Conf}(hc:ConfIn g.ports.length nv c){v:Nat}(hv:v<g.ports.length)(e:List Tm)(hl:e.length<=1000):∀ x:Ex,ybpg p g nv c v e x
 | .leaf op arg=>by
  intro bnd port at_ rest ho hp hpi he;obtain⟨d1,d2,d3⟩:=ydy (show e.drop at_=(op,arg) :: rest from he)
  have hL:=ybwt p hg hc hv e ho port hp;have hr:=ho;simp only[Ex.ok,Bool.and_eq_true,decide_eq_true_eq]at hr;simp only[yhg,yba]at hL;refine Returns.of (ypo _ _ ?_);simp only[c220,yta,yrs,ysw,ysj,yst,ytl,yti,ysm,ysi,yrv,ylu,ylw,ylq,yll,ymc,ymr,ymd,ymk,ylz,yhg,yba,d2,splice,go_sem,Nat.reduceEqDiff,Nat.reduceAdd,Nat.reduceLeDiff,Nat.reduceLT,↓reduceIte,reduceCtorEq]
  refine⟨by omega,fun h=>hL.use ?_,fun h=>by omega⟩
  simp only[thenO,go_sem,Nat.reduceEqDiff,Nat.reduceAdd,↓reduceIte,reduceCtorEq];refine⟨ikw (by omega) (by omega),?_⟩
  exact Sim.refl _
 | .un op a=>by
  intro bnd port at_ rest ho hp hpi he;obtain⟨d1,d2,d3⟩:=ydy (show e.drop at_=(op,0) :: (a.ser ++ rest)from he)
  have hr:=ho;simp only[Ex.ok,Bool.and_eq_true,decide_eq_true_eq]at hr;have hV:=yfy p hg hc hv e hl a bnd port (at_+1) rest hr.2 hp hpi d3;rw[show((at_+1:Nat):Int)=(at_:Int)+1 by omega]at hV
  have hU:=ybqh op (yea g c v a port) (ygb hg rfl hc hv a hr.2 hp hpi);simp only[yhg,yba]at hV;refine Returns.of (ypo _ _ ?_);simp only[c220,yta,yrs,ysw,ysj,yst,ytl,yti,ysm,ysi,yrv,ylu,ylw,ylq,yll,ymc,ymr,ymd,ymk,ylz,yhg,yba,d2,splice,go_sem,Nat.reduceEqDiff,Nat.reduceAdd,Nat.reduceLeDiff,Nat.reduceLT,↓reduceIte,reduceCtorEq]
  refine⟨by omega,fun h=>by omega,fun h=>⟨fun h=>⟨ikw (by omega) (by omega),hV.use ?_⟩,fun h=>by omega⟩⟩
  simp only[thenO,go_sem,Nat.reduceEqDiff,Nat.reduceAdd,Nat.reduceLeDiff,↓reduceIte,reduceCtorEq];refine hU.use ?_;simp only[go_sem];rw[show at_+(Ex.un op a).ser.length=at_+1+a.ser.length by simp[Ex.ser];omega]
  exact Sim.refl _
 | .agg op a=>by
  intro bnd port at_ rest ho hp hpi he;obtain⟨d1,d2,d3⟩:=ydy (show e.drop at_=(op,0) :: (a.ser ++ rest)from he)
  have hr:=ho;simp only[Ex.ok,Bool.and_eq_true,decide_eq_true_eq]at hr;have ho2:(Ex.agg op a).ok nv true=true:=by simp only[Ex.ok,Bool.and_eq_true,decide_eq_true_eq];exact hr
  have hA:=yvn p hg hc hv e hl ho2 (yfy p hg hc hv e hl a) at_ rest he;simp only[yhg,yba]at hA;refine Returns.of (ypo _ _ ?_);simp only[c220,yta,yrs,ysw,ysj,yst,ytl,yti,ysm,ysi,yrv,ylu,ylw,ylq,yll,ymc,ymr,ymd,ymk,ylz,yhg,yba,d2,splice,go_sem,Nat.reduceEqDiff,Nat.reduceAdd,Nat.reduceLeDiff,Nat.reduceLT,↓reduceIte,reduceCtorEq]
  refine⟨by omega,fun h=>by omega,fun h=>⟨fun h=>by omega,fun h=>⟨fun h=>hA.use ?_,fun h=>by omega⟩⟩⟩
  simp only[thenO,go_sem,Nat.reduceEqDiff,Nat.reduceAdd,↓reduceIte,reduceCtorEq];exact Sim.refl _
 | .bin op a b=>by
  intro bnd port at_ rest ho hp hpi he;obtain⟨d1,d2,d3⟩:=ydy (show e.drop at_=(op,0) :: ((a.ser ++ b.ser) ++ rest)from he)
  have hr:=ho;simp only[Ex.ok,Bool.and_eq_true,decide_eq_true_eq]at hr;rw[List.append_assoc]at d3
  have hfit:at_+1+a.ser.length<=e.length:=by
   have:=congrArg List.length d3;simp at this;omega
  have hV1:=yfy p hg hc hv e hl a bnd port (at_+1) _ hr.1.2 hp hpi d3;have hV2:=yfy p hg hc hv e hl b bnd port (at_+1+a.ser.length) _ hr.2 hp hpi (yof d3);rw[show((at_+1:Nat):Int)=(at_:Int)+1 by omega]at hV1
  have hB:=ybhv op (yea g c v a port) (yea g c v b port) (ygb hg rfl hc hv a hr.1.2 hp hpi) (ygb hg rfl hc hv b hr.2 hp hpi);simp only[yhg,yba]at hV1 hV2;refine Returns.of (ypo _ _ ?_);simp only[c220,yta,yrs,ysw,ysj,yst,ytl,yti,ysm,ysi,yrv,ylu,ylw,ylq,yll,ymc,ymr,ymd,ymk,ylz,yhg,yba,d2,splice,go_sem,Nat.reduceEqDiff,Nat.reduceAdd,Nat.reduceLeDiff,Nat.reduceLT,↓reduceIte,reduceCtorEq]
  refine⟨by omega,fun h=>by omega,fun h=>⟨fun h=>by omega,fun h=>⟨fun h=>by omega,fun h=>⟨fun h=>⟨ikw (by omega) (by omega),hV1.use ?_⟩,fun h=>by omega⟩⟩⟩⟩
  simp only[thenO,go_sem,Nat.reduceEqDiff,Nat.reduceAdd,↓reduceIte,reduceCtorEq];refine hV2.use ?_;simp only[go_sem,Nat.reduceEqDiff,Nat.reduceAdd,Nat.reduceLeDiff,↓reduceIte];refine hB.use ?_;simp only[go_sem];rw[show at_+(Ex.bin op a b).ser.length=at_+1+a.ser.length+b.ser.length by simp[Ex.ser];omega]
  exact Sim.refl _
 | .ite x a b=>by
  intro bnd port at_ rest ho hp hpi he;obtain⟨d1,d2,d3⟩:=ydy (show e.drop at_=(43,0) :: ((x.ser ++ (a.ser ++ b.ser)) ++ rest)from he)
  have hr:=ho;simp only[Ex.ok,Bool.and_eq_true]at hr;rw[List.append_assoc,List.append_assoc]at d3
  have hfit:at_+1+x.ser.length+a.ser.length<=e.length:=by
   have:=congrArg List.length d3;simp at this;omega
  have hV1:=yfy p hg hc hv e hl x bnd port (at_+1) _ hr.1.1 hp hpi d3;have hV2:=yfy p hg hc hv e hl a bnd port (at_+1+x.ser.length) _ hr.1.2 hp hpi (yof d3);have hV3:=yfy p hg hc hv e hl b bnd port (at_+1+x.ser.length+a.ser.length) _ hr.2 hp hpi (yof (yof d3));rw[show((at_+1:Nat):Int)=(at_:Int)+1 by omega]at hV1
  simp only[yhg,yba]at hV1 hV2 hV3;refine Returns.of (ypo _ _ ?_);simp only[c220,yta,yrs,ysw,ysj,yst,ytl,yti,ysm,ysi,yrv,ylu,ylw,ylq,yll,ymc,ymr,ymd,ymk,ylz,yhg,yba,d2,splice,go_sem,Nat.reduceEqDiff,Nat.reduceAdd,Nat.reduceLeDiff,Nat.reduceLT,↓reduceIte,reduceCtorEq];refine⟨by omega,fun h=>by omega,fun h=>⟨fun h=>by omega,fun h=>⟨fun h=>by omega,fun h=>⟨fun h=>by omega,fun h=>⟨ikw (by omega) (by omega),hV1.use ?_⟩⟩⟩⟩⟩
  simp only[thenO,go_sem,Nat.reduceEqDiff,Nat.reduceAdd,↓reduceIte,reduceCtorEq];refine hV2.use ?_;simp only[go_sem,Nat.reduceEqDiff,↓reduceIte,reduceCtorEq];refine hV3.use ?_;simp only[go_sem,Nat.reduceEqDiff,Nat.reduceAdd,↓reduceIte,reduceCtorEq];rw[show at_+(Ex.ite x a b).ser.length=at_+1+x.ser.length+a.ser.length+b.ser.length by simp[Ex.ser];omega]
  refine⟨fun h0=>?_,fun h0=>?_⟩
  ·show Sim _ (.tp [.i .i64 (if _ then _ else _),_])
   rw[if_pos h0];exact Sim.refl _
  ·show Sim _ (.tp [.i .i64 (if _ then _ else _),_])
   rw[if_neg (not_not_intro h0)];exact Sim.refl _
theorem ywo(p:ProgR){g:Gr}(hg:ybb g){nv:Nat}{c:Conf}(hc:ConfIn g.ports.length nv c){v:Nat}(hv:v<g.ports.length)(x:Ex)(hx:x.ok nv false=true)(hl:x.ser.length<=1000) :
  Returns Tryz.prog 193 [.rf (yei p g),ybe c,.i .i64 v,yba x.ser] (.i .i64 (yea g c v x (-1))):=by
 have hV:=yfy p hg hc hv x.ser hl x false (-1) 0 [] hx (fun q=>by cases q) (by unfold InB;omega) (by simp)
 refine Returns.of (ycvi _ _ ?_);simp only[yhg,yei,ybe,yj,yba,yw,ycp,Int.natCast_zero]at hV;simp only[c193,ychk,ybzw,ycmg,yckp,yei,ybe,yj,yba,yw,ycp,splice,go_sem,Nat.reduceEqDiff,Nat.reduceAdd,Nat.reduceLeDiff,Nat.reduceLT,↓reduceIte,reduceCtorEq];refine .inl (hV.use ?_);simp only[thenO,yu,go_sem,Nat.reduceEqDiff,Nat.reduceAdd,↓reduceIte,reduceCtorEq]
end Sh
end Go.Proofs.YtiejahgklcjhkaaGreatDoor

namespace Go.Proofs.YtiejahgklcjhkaaGreatDoor
open Go

theorem yos{a:Nat}(h:a<2 ^ 32):IntKind.wrap .u32 (a:Int)=a:=by
 unfold IntKind.wrap;simp[IntKind.bits,IntKind.signed];omega
theorem u32_and{a b:Nat}(ha:a<2 ^ 32)(hb:b<2 ^ 32):IntKind.wrap .u32 (((BitVec.ofInt (IntKind.bits .u32) (a:Int)) &&& BitVec.ofInt (IntKind.bits .u32) (b:Int)).toNat:Int)=((a &&& b:Nat):Int):=by
 show IntKind.wrap .u32 (((BitVec.ofInt 32 (a:Int)) &&& BitVec.ofInt 32 (b:Int)).toNat:Int)=_;rw[BitVec.ofInt_natCast,BitVec.ofInt_natCast,BitVec.toNat_and,BitVec.toNat_ofNat,BitVec.toNat_ofNat,Nat.mod_eq_of_lt ha,Nat.mod_eq_of_lt hb];exact yos (Nat.lt_of_le_of_lt Nat.and_le_left ha)
theorem u32_or{a b:Nat}(ha:a<2 ^ 32)(hb:b<2 ^ 32):IntKind.wrap .u32 (((BitVec.ofInt (IntKind.bits .u32) (a:Int)) ||| BitVec.ofInt (IntKind.bits .u32) (b:Int)).toNat:Int)=((a ||| b:Nat):Int):=by
 show IntKind.wrap .u32 (((BitVec.ofInt 32 (a:Int)) ||| BitVec.ofInt 32 (b:Int)).toNat:Int)=_;rw[BitVec.ofInt_natCast,BitVec.ofInt_natCast,BitVec.toNat_or,BitVec.toNat_ofNat,BitVec.toNat_ofNat,Nat.mod_eq_of_lt ha,Nat.mod_eq_of_lt hb];exact yos (Nat.or_lt_two_pow ha hb)
theorem u32_andNot{a b:Nat}(ha:a<2 ^ 32)(hb:b<2 ^ 32):IntKind.wrap .u32 (((BitVec.ofInt (IntKind.bits .u32) (a:Int)) &&& ~~~BitVec.ofInt (IntKind.bits .u32) (b:Int)).toNat:Int)=((difB a b:Nat):Int):=by
 show IntKind.wrap .u32 (((BitVec.ofInt 32 (a:Int)) &&& ~~~BitVec.ofInt 32 (b:Int)).toNat:Int)=_
 have e:((BitVec.ofInt 32 (a:Int)) &&& ~~~BitVec.ofInt 32 (b:Int)).toNat=difB a b:=by
  rw[BitVec.ofInt_natCast,BitVec.ofInt_natCast];refine Nat.eq_of_testBit_eq fun i=>?_;rw[yhk,BitVec.testBit_toNat,BitVec.getLsbD_and,BitVec.getLsbD_not,BitVec.getLsbD_ofNat,BitVec.getLsbD_ofNat]
  by_cases hi:i<32
  ·simp[hi]
  ·rw[Nat.testBit_lt_two_pow (Nat.lt_of_lt_of_le ha (Nat.pow_le_pow_right (by omega) (by omega)))]
   simp
 rw[e];exact yos (yvf ha)
theorem u32_neg{a:Nat}(h0:0<a)(ha:a<2 ^ 32):IntKind.wrap .u32 (0 - (a:Int))=((2 ^ 32 - a:Nat):Int):=by
 unfold IntKind.wrap;simp[IntKind.bits,IntKind.signed];omega
theorem yoa{v:Nat}(hv:v<32):IntKind.wrap .u32 (1 * 2 ^ (v:Int).toNat)=((2 ^ v:Nat):Int):=by
 have h:2 ^ v<2 ^ 32:=Nat.pow_lt_pow_right (by omega) hv
 have:=yos h;rw[Int.toNat_natCast,Int.one_mul];rw[<- this]
 norm_cast
theorem ybqn{a v:Nat}:(a:Int).fdiv (2 ^ (v:Int).toNat)=((a >>> v:Nat):Int):=by
 rw[Int.toNat_natCast,Nat.shiftRight_eq_div_pow];rw[Int.fdiv_eq_ediv_of_nonneg _ (Int.pow_nonneg (by omega))]
 simp
theorem ycqo(a v:Nat):((a >>> v) &&& 1=1) ↔ a.testBit v=true:=by
 rw[Nat.testBit,bne_iff_ne];rw[Nat.and_comm 1 (a >>> v)];rw[Nat.and_one_is_mod];omega
theorem ybfg{s v:Nat}(hs:s<2 ^ 32):IntKind.wrap .u32 (((BitVec.ofInt (IntKind.bits .u32) ((s:Int).fdiv (2 ^ v))) &&& BitVec.ofInt (IntKind.bits .u32) 1).toNat:Int)=(((s >>> v) &&& 1:Nat):Int):=by
 have h:=ybqn (a:=s) (v:=v);rw[Int.toNat_natCast]at h;rw[h];have h2:s >>> v<2 ^ 32:=by rw[Nat.shiftRight_eq_div_pow];exact Nat.lt_of_le_of_lt (Nat.div_le_self _ _) hs
 exact u32_and (a:=s >>> v) (b:=1) h2 (by decide)
theorem ypc{s v:Nat}:((((s >>> v) &&& 1:Nat):Int)=1) ↔ s.testBit v=true:=by
 rw[<- ycqo s v];omega
def resS(e _w:Nat):Nat:=e
end Go.Proofs.YtiejahgklcjhkaaGreatDoor

