/- Lemmas, joined: SgE SgF SgG SgH SgI SgK Pr Pt SgL SgM SgJ U32. -/
import Derived.Test.YtiejahgklcjhkaaGreatDoorPkE11
import Derived.Test.YtiejahgklcjhkaaGreatDoorPkE12
import Derived.Test.YtiejahgklcjhkaaGreatDoorPkE3
set_option linter.unusedSimpArgs false
set_option linter.unusedVariables false
namespace Go.Proofs.YtiejahgklcjhkaaGreatDoor
namespace Sh
open Go Ev
theorem mulB{a b:Int}(ha:InB a)(hb:InB b):-1152921504606846976<=a * b/\a * b<=1152921504606846976:=by
 unfold InB at *
 have h:(a * b).natAbs<=1073741824 * 1073741824:=by
  rw[Int.natAbs_mul];exact Nat.mul_le_mul (by omega) (by omega)
 omega
set_option maxRecDepth 8000

theorem ydi(b:Bool):Returns Tryz.prog 256 [.b b] (.i .i64 (ydz b)):=by
 refine Returns.of (ycvd _ _ ?_);simp only[c256,ycje,yclz,yciv,ycon,yh,ydz,go_sem,↓reduceIte,reduceCtorEq];cases b<;>simp
theorem ycs(a:Int):Returns Tryz.prog 258 [.i .i64 a] (.i .i64 (satP a)):=by
 refine Returns.of (ycvs _ _ ?_);simp only[c258,ycnk,ycey,yh,satP,go_sem,Nat.reduceEqDiff,Nat.reduceAdd,↓reduceIte,reduceCtorEq]
theorem yddd{a b:Int}(ha:InB a):-1073741824<=a.tdiv b/\a.tdiv b<=1073741824:=by
 have h1:(a.tdiv b).natAbs=a.natAbs / b.natAbs:=Int.natAbs_tdiv a b;have h2:a.natAbs / b.natAbs<=a.natAbs:=Nat.div_le_self _ _;rw[<- h1]at h2;unfold InB at ha;omega
theorem ybxf{a b:Int}(ha:InB a):-1073741825<=ysq a b/\ysq a b<=1073741824:=by
 have:=yddd (b:=b) ha;unfold ysq;split
 ·omega
 ·split<;>omega
theorem ybra{a b:Int}(ha:InB a)(hb:InB b):-1152921505680588800<=b * ysq a b/\b * ysq a b<=1152921505680588800:=by
 have h1:=ybxf (b:=b) ha
 have h:(b * ysq a b).natAbs<=1073741824 * 1073741825:=by
  unfold InB at *;rw[Int.natAbs_mul];exact Nat.mul_le_mul (by omega) (by omega)
 omega
theorem ybps(op a:Int)(ha:InB a):Returns Tryz.prog 237 [.i .i64 op,.i .i64 a] (.i .i64 (unP op a)):=by
 refine Returns.of (ycqh _ _ ?_);simp only[c237,ycmm,ycff,ycjm,ycli,yh,unP,IntKind.signed,go_sem,Nat.reduceEqDiff,Nat.reduceAdd,↓reduceIte,reduceCtorEq];unfold InB at ha;refine⟨fun h=>⟨ikw (by omega) (by omega),by rw[if_pos h];omega⟩,fun h=>(ydi _).use ?_⟩
 simp only[thenO,yh,go_sem,Nat.reduceEqDiff,Nat.reduceAdd,↓reduceIte,reduceCtorEq];rw[if_neg h]
theorem yow(a b:Int)(ha:InB a):Returns Tryz.prog 259 [.i .i64 a,.i .i64 b] (.i .i64 (ysq a b)):=by
 refine Returns.of (ycth _ _ ?_);simp only[c259,ycow,yccv,ycdj,ycoj,ycen,ycib,ycie,yh,ysq,go_sem,Nat.reduceEqDiff,Nat.reduceAdd,↓reduceIte,reduceCtorEq];have:=yddd (b:=b) ha;refine⟨fun h=>by rw[if_pos h],fun h=>⟨⟨h,ikw (by omega) (by omega)⟩,h,fun h1=>⟨fun h2=>⟨ikw (by omega) (by omega),?_⟩,fun h2=>?_⟩,fun h1=>?_⟩⟩
 ·rw[if_neg h,if_pos ⟨h1,h2⟩]
 ·rw[if_neg h,if_neg (fun q=>q.2 h2)]
 ·rw[if_neg h,if_neg (fun q=>q.1 h1)]
theorem yzb(op a b:Int):Returns Tryz.prog 260 [.i .i64 op,.i .i64 a,.i .i64 b] (.b (cmpP op a b)):=by
 refine Returns.of (ycvn _ _ ?_);simp only[c260,ycjx,ycch,ycem,ycbh,ycbb,ycgc,ycij,yclx,ycep,ycpz,ybsn,ybuw,ybsd,sim_b,cmpP,go_sem,Nat.reduceEqDiff,Nat.reduceAdd,↓reduceIte,reduceCtorEq];refine⟨fun h=>by rw[if_pos h],fun h35=>⟨fun h=>by rw[if_neg h35,if_pos h],fun h36=>⟨fun h=>by rw[if_neg h35,if_neg h36,if_pos h],fun h37=>⟨fun h=>by rw[if_neg h35,if_neg h36,if_neg h37,if_pos h],fun h38=>⟨fun h=>by rw[if_neg h35,if_neg h36,if_neg h37,if_neg h38,if_pos h],fun h39=>by rw[if_neg h35,if_neg h36,if_neg h37,if_neg h38,if_neg h39]⟩⟩⟩⟩⟩
theorem ybki(op a b:Int)(ha:InB a)(hb:InB b):Returns Tryz.prog 239 [.i .i64 op,.i .i64 a,.i .i64 b] (.i .i64 (binP op a b)):=by
 refine Returns.of (yctg _ _ ?_);simp only[c239,ycgd,ycco,ycmn,ycfl,ycgm,ycdc,ycft,ycbv,ycoi,ycom,ybqp,ybpd,ybue,yblp,ybqa,ybrx,ybop,ybsg,ybky,yh,go_sem,Nat.reduceEqDiff,Nat.reduceAdd,↓reduceIte,reduceCtorEq];have hm:=mulB ha hb;have hq:=ybra ha hb;have hA:=ha;have hB:=hb;unfold InB at hA hB;refine⟨fun h=>⟨ikw (by omega) (by omega),(ycs _).use ?_⟩,fun h30=>⟨fun h=>(yow a b ha).use ?_,fun h31=>⟨fun h=>⟨fun h0=>?_,fun h0=>(yow a b ha).use ?_⟩,fun h32=>⟨fun h=>⟨ikw (by omega) (by omega),(ycs _).use ?_⟩,fun h33=>⟨fun h=>⟨ikw (by omega) (by omega),(ycs _).use ?_⟩,fun h34=>?_⟩⟩⟩⟩⟩
 ·simp only[thenO,yh,go_sem,Nat.reduceEqDiff,Nat.reduceAdd,↓reduceIte,reduceCtorEq];simp[binP,h]
 ·simp only[thenO,go_sem,Nat.reduceEqDiff,Nat.reduceAdd,↓reduceIte,reduceCtorEq];refine(ycs _).use ?_;simp only[yh,go_sem];simp[binP,h]
 ·simp[binP,h,h0]
 ·simp only[thenO,go_sem,Nat.reduceEqDiff,Nat.reduceAdd,↓reduceIte,reduceCtorEq];refine⟨ikw (by omega) (by omega),ikw (by omega) (by omega),(ycs _).use ?_⟩
  simp only[yh,go_sem];simp[binP,h,h0]
 ·simp only[thenO,yh,go_sem,Nat.reduceEqDiff,Nat.reduceAdd,↓reduceIte,reduceCtorEq];simp[binP,h]
 ·simp only[thenO,yh,go_sem,Nat.reduceEqDiff,Nat.reduceAdd,↓reduceIte,reduceCtorEq];simp[binP,h]
 ·refine⟨fun h=>?_,fun h41=>⟨fun h=>?_,fun h42=>?_⟩⟩
  ·refine⟨fun h1=>(ydi _).use ?_,fun h1=>(ydi _).use ?_⟩
   ·simp only[thenO,yh,go_sem,Nat.reduceEqDiff,Nat.reduceAdd,↓reduceIte,reduceCtorEq];simp[binP,h];rw[show(a != 0)=true by simpa using h1];simp
   ·simp only[thenO,yh,go_sem,Nat.reduceEqDiff,Nat.reduceAdd,↓reduceIte,reduceCtorEq];simp[binP,h,h1]
  ·refine⟨fun h1=>(ydi _).use ?_,fun h1=>(ydi _).use ?_⟩
   ·simp only[thenO,yh,go_sem,Nat.reduceEqDiff,Nat.reduceAdd,↓reduceIte,reduceCtorEq];simp[binP,h,h1]
   ·simp only[thenO,yh,go_sem,Nat.reduceEqDiff,Nat.reduceAdd,↓reduceIte,reduceCtorEq];simp[binP,h];rw[show(a != 0)=true by simpa using h1];simp
  ·refine(yzb op a b).use ?_;simp only[thenO,go_sem,Nat.reduceEqDiff,Nat.reduceAdd,↓reduceIte,reduceCtorEq];refine(ydi _).use ?_;simp only[yh,go_sem];simp[binP,h30,h31,h32,h33,h34,h41,h42]
end Sh
end Go.Proofs.YtiejahgklcjhkaaGreatDoor

namespace Go.Proofs.YtiejahgklcjhkaaGreatDoor
namespace Sh
open Go Ev
set_option maxRecDepth 8000

theorem ysd{l:List Int}{k:Nat}(h:k<l.length):countP (l.take (k+1))=countP (l.take k)+(if l.getD k 0 ≠ 0 then 1 else 0):=by
 unfold countP;rw[List.take_succ_eq_append_getElem h,List.filter_append,List.length_append,getD_at h]
 by_cases q:l[k]=0
 ·simp[q]
 ·simp[q]
theorem yben{l:List Int}(k:Nat):0<=countP (l.take k)/\countP (l.take k)<=k:=by
 have:=countP_le (l.take k);simp only[List.length_take]at this;omega
theorem ybtx(l:List Int)(hl:l.length<=1000):Returns Tryz.prog 266 [yg l] (.i .i64 (countP l)):=by
 refine Returns.of (ycvf _ _ ?_);simp only[c266,ycjb,ycby,ycjn,yg,go_sem,Nat.reduceAdd,↓reduceIte,reduceCtorEq];refine ybd (σ:=Nat) (fun k=>⟨[(8,.i .i64 k),(3,.i .i64 (countP (l.take k))),(6,yg l),(7,.i .i64 l.length)],[]⟩) (fun k=>k<=l.length) (fun k=>l.length - k) 0 (Nat.zero_le _) ?_ ?_
 ·refine weak_all [] [] [] ?_;simp only[yg,allQ,live,sim_self,yh,Int.natCast_zero,go_sem,Nat.reduceEqDiff,↓reduceIte,reduceCtorEq];simp[countP]
 ·intro k hk;simp only[ycoo,ycpx,ycmj,ycjs,ychl,ycde,yg,yh,go_sem,Nat.reduceEqDiff,Nat.reduceAdd,↓reduceIte,reduceCtorEq];have hb:=yben (l:=l) k;refine⟨fun hlt=>⟨by omega,fun h0=>⟨ikw (by omega) (by omega),ikw (by omega) (by omega),?_⟩,fun h0=>⟨ikw (by omega) (by omega),?_⟩⟩,fun hlt=>?_⟩
  ·have hk':k<l.length:=by omega
   refine yc (k+1) (by omega) (by omega) ?_
   refine weak_all [] [] [] ?_;simp only[ysd hk',if_pos h0,allQ,live,sim_self,yh,go_sem,Nat.reduceEqDiff,↓reduceIte,reduceCtorEq];simp
  ·have hk':k<l.length:=by omega
   refine yc (k+1) (by omega) (by omega) ?_
   refine weak_all [] [] [] ?_;simp only[ysd hk',if_neg (not_not_intro h0),allQ,live,sim_self,yh,go_sem,Nat.reduceEqDiff,↓reduceIte,reduceCtorEq];simp
  ·rw[List.take_of_length_le (by omega)]
theorem yoy{l:List Int}{k:Nat}(h:k<l.length):yda (l.take (k+1))=(if l.getD k 0 > (yda (l.take k)).1 then(l.getD k 0,(yda (l.take k)).1)else((yda (l.take k)).1,max (yda (l.take k)).2 (l.getD k 0))):=by
 unfold yda;rw[List.take_succ_eq_append_getElem h,List.foldl_append,getD_at h];rfl
theorem yri(l:List Int)(hl:l.length<=1000):Returns Tryz.prog 269 [yg l] (.tp [.i .i64 (yda l).1,.i .i64 (yda l).2]):=by
 refine Returns.of (ycuq _ _ ?_);simp only[c269,ycbn,ycml,ycbe,yg,go_sem,Nat.reduceAdd,↓reduceIte,reduceCtorEq];refine ybd (σ:=Nat) (fun k=>⟨[(8,.i .i64 k),(2,.i .i64 (yda (l.take k)).1),(3,.i .i64 (yda (l.take k)).2),(6,yg l),(7,.i .i64 l.length)],[]⟩) (fun k=>k<=l.length) (fun k=>l.length - k) 0 (Nat.zero_le _) ?_ ?_
 ·refine weak_all [] [] [] ?_;simp only[yg,allQ,live,sim_self,yh,Int.natCast_zero,go_sem,Nat.reduceEqDiff,↓reduceIte,reduceCtorEq];simp[yda]
 ·intro k hk;simp only[yciw,ycdy,yckk,ychz,ycds,yclg,ycbf,yg,go_sem,Nat.reduceEqDiff,Nat.reduceAdd,↓reduceIte,reduceCtorEq];refine⟨fun hlt=>⟨by omega,fun h0=>⟨ikw (by omega) (by omega),?_⟩,fun h0=>⟨ikw (by omega) (by omega),?_⟩⟩,fun hlt=>?_⟩
  ·have hk':k<l.length:=by omega
   refine yc (k+1) (by omega) (by omega) ?_
   refine weak_all [] [] [] ?_;simp only[yoy hk',if_pos h0,allQ,live,sim_self,yh,go_sem,Nat.reduceEqDiff,↓reduceIte,reduceCtorEq];simp
  ·have hk':k<l.length:=by omega
   refine yc (k+1) (by omega) (by omega) ?_
   refine weak_all [] [] [] ?_;simp only[yoy hk',if_neg h0,allQ,live,sim_self,yh,go_sem,Nat.reduceEqDiff,↓reduceIte,reduceCtorEq];simp
  ·rw[List.take_of_length_le (by omega)]
   exact Sim.refl _
theorem yyl(l:List Int)(x:Int)(hl:l.length<=100000):Returns Tryz.prog 274 [yg l,.i .i64 x] (.b (l.elem x)):=by
 refine Returns.of (ycrt _ _ ?_);simp only[c274,ycgw,ycio,yg,go_sem,Nat.reduceEqDiff,Nat.reduceAdd,↓reduceIte,reduceCtorEq];refine(ybli l x hl).use ?_;simp only[thenO,sim_b,go_sem,Nat.reduceEqDiff,Nat.reduceAdd,↓reduceIte,reduceCtorEq];unfold idxP;cases h:l.findIdx? (fun y=>x == y)with
 | none =>
  rw[List.findIdx?_eq_none_iff]at h
  have:l.elem x=false:=by
   rw[List.elem_eq_mem,decide_eq_false_iff_not];intro hm;have:=h x hm;simp at this
  rw[this];simp
 | some i =>
  obtain⟨h1,h2,_⟩:=List.findIdx?_eq_some_iff_getElem.1 h
  have:l.elem x=true:=by
   rw[List.elem_eq_mem,decide_eq_true_eq];have:x=l[i]:=by simpa using h2
   rw[this];exact List.getElem_mem h1
  rw[this];simp
theorem ybjn{l:List Int}{n:Nat}{r:Int}(h:l.elem r=true):ypj l (n+1) r=ypj l n (r+1):=by
 show(if l.elem r then _ else _)=_;rw[if_pos h]
theorem ybjx{l:List Int}{n:Nat}{r:Int}(h:l.elem r=false):ypj l n r=r:=by
 cases n with
 | zero=>rfl
 | succ n=>show(if l.elem r then _ else _)=_;rw[if_neg (by rw[h];simp)]
theorem yyu{l:List Int}{k:Nat}(h:∀ j:Nat,j<k->l.elem (j:Int)=true):k<=l.length:=by
 have h1:((List.range k).map fun(j:Nat)=>(j:Int)).Nodup:=by
  rw[List.Nodup,List.pairwise_map];exact List.nodup_range.imp fun {a b} hab e=>hab (by omega)
 have h2:((List.range k).map fun(j:Nat)=>(j:Int)) ⊆ l:=fun x hx=>by
  obtain⟨j,hj,rfl⟩:=List.mem_map.1 hx;have:=h j (List.mem_range.1 hj)
  simpa using this
 have:=List.Nodup.length_le_of_subset h1 h2
 simpa using this
theorem ycux(l:List Int)(hl:l.length<=1000):Returns Tryz.prog 270 [yg l] (.i .i64 (mexP l)):=by
 refine Returns.of (ycru _ _ ?_);simp only[c270,ycof,yckg,yg,go_sem];refine ybd (σ:=Nat) (fun k=>⟨[(3,.i .i64 k),(0,yg l)],[]⟩) (fun k=>(∀ j:Nat,j<k->l.elem (j:Int)=true)/\mexP l=ypj l (l.length+1 - k) k) (fun k=>l.length+1 - k) 0 ⟨fun j h=>absurd h (Nat.not_lt_zero _),rfl⟩ ?_ ?_
 ·refine weak_all [] [] [] ?_;simp only[yg,allQ,live,sim_self,Int.natCast_zero,go_sem,↓reduceIte,reduceCtorEq]
 ·intro k ⟨hk,he⟩;have hb:=yyu hk;simp only[ycgb,ychq,ycnr,yg,go_sem,Nat.reduceEqDiff,Nat.reduceAdd,↓reduceIte,reduceCtorEq];refine(yyl l k (by omega)).use ?_
  simp only[thenO,yh,go_sem,Nat.reduceEqDiff,Nat.reduceAdd,↓reduceIte,reduceCtorEq];refine⟨fun h=>⟨ikw (by omega) (by omega),?_⟩,fun h=>?_⟩
  ·have hk2:∀ j:Nat,j<k+1->l.elem (j:Int)=true:=fun j hj=>by
    by_cases q:j<k
    ·exact hk j q
    ·obtain rfl:j=k:=by omega
     exact h
   have hb2:=yyu hk2;refine yc (k+1) ⟨hk2,?_⟩ (by omega) ?_
   ·rw[he,show l.length+1 - k=(l.length+1 - (k+1))+1 by omega,ybjn h];simp
   ·refine weak_all [] [] [] ?_;simp only[allQ,live,sim_self,yh,go_sem,↓reduceIte,reduceCtorEq];simp
  ·rw[he,ybjx h]
theorem ybux(x:Int):Returns Tryz.prog 268 [.i .i64 x] (.b (x != 0)):=by
 refine Returns.of (ycwq _ _ ?_);simp only[c268,yciq,ycfw,sim_b,go_sem,Nat.reduceEqDiff,Nat.reduceAdd,↓reduceIte,reduceCtorEq]
theorem yvt(l:List Int)(hl:l.length<=1000):Returns Tryz.prog 267 [yg l,.fn 268 [] []] (.i .i64 (yem l)):=by
 refine Returns.of (ycqk _ _ ?_);simp only[c267,ycga,ycel,yg,go_sem,Nat.reduceAdd,↓reduceIte,reduceCtorEq];refine ybd (σ:=Nat) (fun k=>⟨[(8,.i .i64 k),(0,yg l),(1,.fn 268 [] []),(7,.i .i64 l.length)],[]⟩) (fun k=>k<=l.length/\(l.take k).findIdx? (· != 0)=none) (fun k=>l.length - k) 0 ⟨Nat.zero_le _,by simp⟩ ?_ ?_
 ·refine weak_all [] [] [] ?_;simp only[yg,allQ,live,sim_self,Int.natCast_zero,go_sem,Nat.reduceEqDiff,↓reduceIte,reduceCtorEq]
 ·intro k ⟨hk,hno⟩;simp only[ycjw,ycim,ycau,ycbg,ycnm,ychf,yg,yh,go_sem,Nat.reduceEqDiff,Nat.reduceAdd,↓reduceIte,reduceCtorEq];refine⟨fun hlt=>⟨by omega,(ybux _).use ?_⟩,fun hlt=>?_⟩
  ·have hlt:k<l.length:=by omega
   simp only[thenO,yh,go_sem,Nat.reduceEqDiff,Nat.reduceAdd,↓reduceIte,reduceCtorEq];rw[getD_at hlt];refine⟨fun ha=>?_,fun ha=>⟨ikw (by omega) (by omega),?_⟩⟩
   ·have:l.findIdx? (· != 0)=some k:=by
     rw[List.findIdx?_eq_some_iff_getElem];refine⟨hlt,by simpa using ha,fun j hj=>?_⟩
     rw[List.findIdx?_eq_none_iff]at hno;have:=hno l[j] (List.mem_take_iff_getElem.2 ⟨j,by omega,rfl⟩)
     simpa using this
    unfold yem;rw[this]
   ·refine yc (k+1) ⟨by omega,?_⟩ (by omega) ?_
    ·rw[List.take_succ_eq_append_getElem hlt,List.findIdx?_append,hno];simp[ha]
    ·refine weak_all [] [] [] ?_;simp only[allQ,live,sim_self,yh,go_sem,Nat.reduceEqDiff,↓reduceIte,reduceCtorEq];simp
  ·obtain rfl:k=l.length:=by omega
   rw[List.take_length]at hno;unfold yem;rw[hno]
end Sh
end Go.Proofs.YtiejahgklcjhkaaGreatDoor

namespace Go.Proofs.YtiejahgklcjhkaaGreatDoor
namespace Sh
open Go Ev
set_option maxRecDepth 8000

theorem ybdo{l:List Int}{k:Nat}(h:k<l.length):yod (l.take (k+1))=min (yod (l.take k)) (l.getD k 0):=by
 unfold yod;rw[List.take_succ_eq_append_getElem h,List.foldl_append,getD_at h];rfl
theorem yxg{l:List Int}{k:Nat}(h:k<l.length):(l.take (k+1)).sum=(l.take k).sum+l.getD k 0:=by
 rw[List.take_succ_eq_append_getElem h,List.sum_append,getD_at h];simp
theorem ybmh{l:List Int}(h:∀ x ∈ l,InB x):∀ k,k<=l.length -> -1073741824 * (k:Int)<=(l.take k).sum/\(l.take k).sum<=1073741824 * (k:Int)
 | 0,_=>by simp
 | k+1,hk=>by
  have ih:=ybmh h k (by omega)
  rw[yxg (by omega)]
  have:=h l[k] (List.getElem_mem (by omega))
  rw[<- getD_at (d:=0) (show k<l.length by omega)]at this
  unfold InB at this;omega
theorem ybzw(op:Int)(l:List Int)(hl:l.length<=24)(hb:∀ x ∈ l,InB x):Returns Tryz.prog 257 [.i .i64 op,yg l] (.i .i64 (yge op l)):=by
 refine Returns.of (ycrj _ _ ?_);have hin:∀ k,k<l.length->InB (l.getD k 0):=fun k hk=>by rw[getD_at hk];exact hb _ (List.getElem_mem hk)
 obtain⟨L,hL⟩:∃ L,yg l=L:=⟨_,rfl⟩;have hLs:L = .sl 1 l.length (fun k=>[.i .i64 (l.getD k 0)]):=hL.symm;simp only[c257,ycpk,yckm,yccy,ycev,ycpg,yckf,ycgv,ycgu,ycpc,ycop,ybqg,ybno,ybly,ybva,ybqi,ybmp,ybus,ybuy,ybrp,ybot,ybtu,yboj,yblw,ybni,ybqr,ybnl,yboz,ybpx,ybrk,ybrt,ybsw,yblq,ybnn,ybsa,ybsl,ybol,ybsx,yg,go_sem,Int.reduceToNat,Nat.reduceEqDiff,Nat.reduceAdd,↓reduceIte,reduceCtorEq]
 have hcount:=ybtx l (by omega)
 have htwo:=yri l (by omega)
 simp only[yg]at hcount htwo;refine⟨fun h20=>hcount.use ?_,fun h20=>⟨fun h21=>hcount.use ?_,fun h21=>⟨fun h22=>hcount.use ?_,fun h22=>⟨fun h23=>?_,fun h23=>⟨fun h24=>?_,fun h24=>⟨fun h25=>htwo.use ?_,fun h25=>⟨fun h26=>?_,fun h26=>⟨fun h27=>?_,fun h27=>⟨fun h28=>htwo.use ?_,fun h28=>?_⟩⟩⟩⟩⟩⟩⟩⟩⟩
 ·simp only[thenO,go_sem,Nat.reduceEqDiff,Nat.reduceAdd,↓reduceIte,reduceCtorEq];refine(ydi _).use ?_;simp only[yh,go_sem];simp[yge,h20]
 ·simp only[thenO,go_sem,Nat.reduceEqDiff,Nat.reduceAdd,↓reduceIte,reduceCtorEq];refine(ydi _).use ?_;simp only[yh,go_sem];simp[yge,h21]
 ·simp only[thenO,yh,go_sem,Nat.reduceEqDiff,Nat.reduceAdd,↓reduceIte,reduceCtorEq];simp[yge,h22]
 ·have:=yvt l (by omega)
  simp only[yg]at this;refine this.use ?_;simp only[thenO,yh,go_sem,Nat.reduceEqDiff,Nat.reduceAdd,↓reduceIte,reduceCtorEq];simp[yge,h23]
 ·refine ybd (σ:=Nat) (fun k=>⟨[(42,.i .i64 k),(5,.i .i64 (yod (l.take k))),(40,yg l),(41,.i .i64 l.length)],[]⟩) (fun k=>k<=l.length) (fun k=>l.length - k) 0 (Nat.zero_le _) ?_ ?_
  ·refine weak_all [] [] [] ?_;simp only[yg,allQ,live,sim_self,yh,Int.natCast_zero,go_sem,Nat.reduceEqDiff,↓reduceIte,reduceCtorEq];simp[yod]
  ·intro k hk;simp only[yg,yh,go_sem,Nat.reduceEqDiff,Nat.reduceAdd,↓reduceIte,reduceCtorEq];refine⟨fun hlt=>⟨by omega,ikw (by omega) (by omega),?_⟩,fun hlt=>?_⟩
   ·have hk':k<l.length:=by omega
    refine yc (k+1) (by omega) (by omega) ?_
    refine weak_all [] [] [] ?_;simp only[ybdo hk',allQ,live,sim_self,yh,go_sem,Nat.reduceEqDiff,↓reduceIte,reduceCtorEq];simp
   ·rw[List.take_of_length_le (by omega)]
    simp[yge,h24]
 ·simp only[thenO,yh,go_sem,Nat.reduceEqDiff,Nat.reduceAdd,↓reduceIte,reduceCtorEq];simp[yge,h25]
 ·refine ybd (σ:=Nat) (fun k=>⟨[(63,.i .i64 k),(10,.i .i64 (l.take k).sum),(61,yg l),(62,.i .i64 l.length)],[]⟩) (fun k=>k<=l.length) (fun k=>l.length - k) 0 (Nat.zero_le _) ?_ ?_
  ·refine weak_all [] [] [] ?_;simp only[yg,allQ,live,sim_self,yh,Int.natCast_zero,go_sem,Nat.reduceEqDiff,↓reduceIte,reduceCtorEq];simp
  ·intro k hk;simp only[yg,go_sem,Nat.reduceEqDiff,Nat.reduceAdd,↓reduceIte,reduceCtorEq];have hs:=ybmh hb k hk;refine⟨fun hlt=>?_,fun hlt=>(ycs _).use ?_⟩
   ·have hk':k<l.length:=by omega
    have hs2:=ybmh hb (k+1) hk';rw[yxg hk']at hs2;refine⟨by omega,ikw (by omega) (by omega),ikw (by omega) (by omega),?_⟩
    refine yc (k+1) (by omega) (by omega) ?_
    refine weak_all [] [] [] ?_;simp only[yxg hk',allQ,live,sim_self,yh,go_sem,Nat.reduceEqDiff,↓reduceIte,reduceCtorEq];simp
   ·simp only[thenO,yh,go_sem,Nat.reduceEqDiff,Nat.reduceAdd,↓reduceIte,reduceCtorEq];rw[List.take_of_length_le (by omega)]
    simp[yge,h26]
 ·have:=ycux l (by omega)
  simp only[yg]at this;refine this.use ?_;simp only[thenO,yh,go_sem,Nat.reduceEqDiff,Nat.reduceAdd,↓reduceIte,reduceCtorEq];simp[yge,h27]
 ·simp only[thenO,yh,go_sem,Nat.reduceEqDiff,Nat.reduceAdd,↓reduceIte,reduceCtorEq];simp[yge,h28]
 ·refine⟨fun h0=>?_,fun h0=>⟨by omega,?_⟩⟩
  ·simp only[yh,go_sem];have:l = []:=List.eq_nil_of_length_eq_zero (by omega)
   simp[yge,h20,h21,h22,h23,h24,h25,h26,h27,h28,this]
  ·cases l with
   | nil=>simp at h0
   | cons x l=>
    simp only[yh,go_sem];simp[yge,h20,h21,h22,h23,h24,h25,h26,h27,h28]
end Sh
end Go.Proofs.YtiejahgklcjhkaaGreatDoor

namespace Go.Proofs.YtiejahgklcjhkaaGreatDoor
def Ex.shp:Ex->Bool
 | .leaf op _=>decide (1<=op/\op<=17)
 | .un op a=>decide (18<=op/\op<=29) && a.shp
 | .agg op a=>decide (18<=op/\op<=29) && a.shp
 | .bin op a b=>decide (30<=op/\op<=42) && a.shp && b.shp
 | .ite x a b=>x.shp && a.shp && b.shp
theorem Ex.ok_shp{nv:Int}:∀ (x:Ex) {bnd:Bool},x.ok nv bnd=true->x.shp=true
 | .leaf op arg,bnd,h=>by
  simp only[Ex.ok,Bool.and_eq_true]at h;exact h.1.1
 | .un op a,bnd,h=>by
  simp only[Ex.ok,Bool.and_eq_true,decide_eq_true_eq]at h;simp only[Ex.shp,Bool.and_eq_true,decide_eq_true_eq];exact⟨by omega,Ex.ok_shp a h.2⟩
 | .agg op a,bnd,h=>by
  simp only[Ex.ok,Bool.and_eq_true,decide_eq_true_eq]at h;simp only[Ex.shp,Bool.and_eq_true,decide_eq_true_eq];exact⟨by omega,Ex.ok_shp a h.2⟩
 | .bin op a b,bnd,h=>by
  simp only[Ex.ok,Bool.and_eq_true,decide_eq_true_eq]at h;simp only[Ex.shp,Bool.and_eq_true,decide_eq_true_eq];exact⟨⟨h.1.1,Ex.ok_shp a h.1.2⟩,Ex.ok_shp b h.2⟩
 | .ite x a b,bnd,h=>by
  simp only[Ex.ok,Bool.and_eq_true]at h;simp only[Ex.shp,Bool.and_eq_true];exact⟨⟨Ex.ok_shp x h.1.1,Ex.ok_shp a h.1.2⟩,Ex.ok_shp b h.2⟩
def yjf(op:Int):Int:=if op<1\/op > 43 then -1 else if op<=17 then 0 else if op<=29 then 1 else if op<=42 then 2 else 3
def serL(ts:List Ex):List Tm:=(ts.map Ex.ser).flatten
def Ex.head:Ex->Tm
 | .leaf op arg=>(op,arg)
 | .un op _=>(op,0)
 | .agg op _=>(op,0)
 | .bin op _ _=>(op,0)
 | .ite _ _ _=>(43,0)
def Ex.subs:Ex->List Ex
 | .leaf _ _=>[]
 | .un _ a=>[a]
 | .agg _ a=>[a]
 | .bin _ a b=>[a,b]
 | .ite x a b=>[x,a,b]
theorem Ex.ser_eq(x:Ex):x.ser=x.head :: serL x.subs:=by
 cases x<;>simp[Ex.ser,Ex.head,Ex.subs,serL]
theorem ycac{op:Int}(h:1<=op/\op<=17):yjf op=0:=by
 unfold yjf;rw[if_neg (by omega),if_pos (by omega)]
theorem ybgf{op:Int}(h:18<=op/\op<=29):yjf op=1:=by
 unfold yjf;rw[if_neg (by omega),if_neg (by omega),if_pos (by omega)]
theorem ybyd{op:Int}(h:30<=op/\op<=42):yjf op=2:=by
 unfold yjf;rw[if_neg (by omega),if_neg (by omega),if_neg (by omega),if_pos (by omega)]
theorem Ex.arity(x:Ex)(h:x.shp=true):yjf x.head.1=x.subs.length:=by
 cases x with
 | leaf op arg=>simp only[Ex.shp,decide_eq_true_eq]at h;exact ycac h
 | un op a=>simp only[Ex.shp,Bool.and_eq_true,decide_eq_true_eq]at h;exact ybgf h.1
 | agg op a=>simp only[Ex.shp,Bool.and_eq_true,decide_eq_true_eq]at h;exact ybgf h.1
 | bin op a b=>simp only[Ex.shp,Bool.and_eq_true,decide_eq_true_eq]at h;exact ybyd h.1.1
 | ite x a b=>simp[Ex.head,Ex.subs,yjf]
theorem Ex.subs_shp(x:Ex)(h:x.shp=true):∀ y ∈ x.subs,y.shp=true:=by
 cases x with
 | leaf op arg=>intro y hy;cases hy
 | un op a=>simp only[Ex.shp,Bool.and_eq_true]at h;intro y hy;simp[Ex.subs]at hy;subst hy;exact h.2
 | agg op a=>simp only[Ex.shp,Bool.and_eq_true]at h;intro y hy;simp[Ex.subs]at hy;subst hy;exact h.2
 | bin op a b=>simp only[Ex.shp,Bool.and_eq_true]at h;intro y hy;simp[Ex.subs]at hy;rcases hy with rfl | rfl<;>first | exact h.1.2 | exact h.2
 | ite x a b=>simp only[Ex.shp,Bool.and_eq_true]at h;intro y hy;simp[Ex.subs]at hy;rcases hy with rfl | rfl | rfl<;>first | exact h.1.1 | exact h.1.2 | exact h.2
theorem ydu{e:List Tm}{at_:Nat}{t:Tm}{r:List Tm}(h:e.drop at_=t :: r):at_<e.length/\e.getD at_ (0,0)=t/\e.drop (at_+1)=r:=by
 have hlt:at_<e.length:=by
  refine Classical.byContradiction fun hc=>?_;rw[List.drop_of_length_le (by omega)]at h;cases h
 refine⟨hlt,?_,?_⟩
 ·rw[List.drop_eq_getElem_cons hlt]at h;simp only[List.cons.injEq]at h;simp[List.getD,hlt,h.1]
 ·rw[List.drop_eq_getElem_cons hlt]at h;simp only[List.cons.injEq]at h;exact h.2
namespace Sh
open Go Ev
set_option maxRecDepth 8000

theorem yboo(op:Int):Returns Tryz.prog 247 [.i .i64 op] (.i .i64 (yjf op)):=by
 refine Returns.of (ycqz _ _ ?_);simp only[c247,ycce,yccq,yckq,ycdp,yckj,ycin,ychj,ycdx,ycos,yckp,yh,yjf,go_sem,Nat.reduceEqDiff,Nat.reduceAdd,↓reduceIte,reduceCtorEq];refine⟨fun h1=>⟨fun h=>by rw[if_pos (.inr h)],fun h2=>⟨fun h=>by rw[if_neg (by omega),if_pos h],fun h3=>⟨fun h=>by rw[if_neg (by omega),if_neg h3,if_pos h],fun h4=>⟨fun h=>by rw[if_neg (by omega),if_neg h3,if_neg h4,if_pos h],fun h5=>by rw[if_neg (by omega),if_neg h3,if_neg h4,if_neg h5]⟩⟩⟩⟩,fun h=>by rw[if_pos (.inl h)]⟩
theorem ycwh(e:List Tm)(x:Ex)(at_:Nat)(rest:List Tm)(hx:x.shp=true)(he:e.drop at_=x.ser ++ rest)(hl:e.length<=1000):Returns Tryz.prog 231 [yu e,.i .i64 at_] (.i .i64 ((at_+x.ser.length:Nat):Int)):=by
 refine Returns.of (ycwr _ _ ?_)
 have h0:at_<e.length:=by
  rw[x.ser_eq]at he;exact(ydu he).1
 simp only[c231,ycqa,ycek,yclq,ycfx,yu,yh,go_sem,Nat.reduceEqDiff,Nat.reduceAdd,↓reduceIte,reduceCtorEq];refine⟨fun _=>⟨fun h=>by omega,fun _=>?_⟩,fun h=>by omega⟩
 refine ybd (σ:=Nat × List Ex) (fun p=>⟨[(1,.i .i64 p.1),(5,.i .i64 p.2.length),(0,yu e)],[]⟩)
  (fun p=>e.drop p.1=serL p.2 ++ rest/\p.2 ≠ []/\(∀ y ∈ p.2,y.shp=true)/\p.1+(serL p.2).length=at_+x.ser.length/\p.2.length<=3 * p.1+1) (fun p=>e.length - p.1) (at_,[x]) ⟨by simpa [serL]using he,by simp,by simpa using hx,by simp[serL],by simp⟩ ?_ ?_
 ·refine weak_all [] [] [] ?_;simp only[yu,allQ,live,sim_self,yh,go_sem,Nat.reduceEqDiff,↓reduceIte,reduceCtorEq];simp
 ·rintro⟨k,ts⟩ ⟨hk,hne,hsh,hlen,hb⟩;cases ts with
  | nil=>exact absurd rfl hne
  | cons y ts =>
   dsimp only at hk hlen hb ⊢
   have hser:serL (y :: ts)=y.head :: (serL y.subs ++ serL ts):=by
    show(y.ser ++ serL ts)=_;rw[y.ser_eq];rfl
   rw[hser]at hk hlen;obtain⟨d1,d2,d3⟩:=ydu hk;have hy:=hsh y List.mem_cons_self;have har:=y.arity hy;have hsub:y.subs.length<=3:=by cases y<;>simp[Ex.subs]
   simp only[List.length_cons]at hb hlen;simp only[ycmr,ycol,ycaq,ycdn,ycnj,ycei,ybsb,ybtd,ybug,yu,yh,go_sem,Nat.reduceEqDiff,Nat.reduceAdd,Nat.reduceLeDiff,↓reduceIte,reduceCtorEq];refine⟨fun hlt=>⟨by omega,(yboo _).use ?_⟩,fun hlt=>by omega⟩
   rw[d2,har];simp only[thenO,yh,go_sem,Nat.reduceEqDiff,Nat.reduceAdd,↓reduceIte,reduceCtorEq];refine⟨fun h=>by omega,fun _=>⟨ikw (by omega) (by omega),ikw (by simp;omega) (by simp;omega),fun h=>⟨ikw (by omega) (by omega),?_⟩,fun h=>⟨ikw (by omega) (by omega),?_⟩⟩⟩
   ·have h1:ts = []:=List.eq_nil_of_length_eq_zero (by omega)
    have h2:y.subs = []:=List.eq_nil_of_length_eq_zero (by omega)
    subst h1;rw[h2]at hlen;simp[serL]at hlen;omega
   ·have hpos:y.subs ++ ts ≠ []:=fun q=>by
     have q1:=congrArg List.length q;simp only[List.length_append,List.length_nil]at q1;omega
    refine yc (k+1,y.subs ++ ts) ⟨?_,hpos,?_,?_,?_⟩ (by dsimp only;omega) ?_
    ·dsimp only
     rw[d3];simp[serL]
    ·intro z hz;rcases List.mem_append.1 hz with q | q
     ·exact y.subs_shp hy z q
     ·exact hsh z (List.mem_cons_of_mem _ q)
    ·dsimp only
     have:(serL (y.subs ++ ts)).length=(serL y.subs ++ serL ts).length:=by simp[serL]
     rw[this];omega
    ·dsimp only
     simp only[List.length_append];omega
    ·refine weak_all [] [] [] ?_;simp only[allQ,live,sim_self,yh,go_sem,Nat.reduceEqDiff,↓reduceIte,reduceCtorEq];simp;omega
end Sh
end Go.Proofs.YtiejahgklcjhkaaGreatDoor

namespace Go.Proofs.YtiejahgklcjhkaaGreatDoor
namespace Sh
open Go Ev
set_option maxRecDepth 8000

theorem ybyb(p:ProgR){g:Gr}(hg:GoodG g)(op:Int){v:Nat}(hv:v<g.ports.length)(port:Int)(hp:op=6\/op=7\/op=8\/op=9\/op=10\/op=11\/(0<=port/\port<(g.ports.getD v []).length)) :
  Returns Tryz.prog 255 [.rf (yek p g),.i .i64 op,.i .i64 v,.i .i64 port] (.i .i64 (yma g op v port)):=by
 refine Returns.of (ycua _ _ ?_);have hlen:=hg.2.2.1;simp only[c255,ycgg,ycdu,ycnh,yclr,ycef,yclh,ycmf,ychc,ycno,ycnd,ybvf,ybog,ybqt,ybty,yblh,ybqo,ybuq,ybou,ybqm,yblm,ybod,ybsz,ybud,ybnf,ybqz,yek,yg,yx,yu,ycr,yh,go_sem,Nat.reduceEqDiff,Nat.reduceAdd,Nat.reduceLeDiff,Nat.reduceLT,↓reduceIte,reduceCtorEq];refine⟨fun h6=>?_,fun h6=>⟨fun h7=>?_,fun h7=>⟨fun h8=>⟨by omega,?_⟩,fun h8=>⟨fun h9=>⟨by omega,?_⟩,fun h9=>⟨fun h10=>(ydi _).use ?_,fun h10=>⟨fun h11=>?_,fun h11=>?_⟩⟩⟩⟩⟩⟩
 ·simp[yma,h6]
 ·simp[yma,h7]
 ·simp[yma,h8]
 ·simp[yma,h9]
 ·simp only[thenO,yh,go_sem,Nat.reduceEqDiff,Nat.reduceAdd,↓reduceIte,reduceCtorEq];simp[yma,h10]
 ·simp[yma,h11]
 ·have hp:0<=port/\port<(g.ports.getD v []).length:=by omega
  have hpn:port.toNat<(g.ports.getD v []).length:=by omega
  have hl:=hg.ybw hv hpn;unfold ybw at hl;refine⟨by omega,by omega,fun h13=>⟨by omega,?_⟩,fun h13=>⟨fun h14=>⟨by omega,?_⟩,fun h14=>⟨fun h15=>(ydi _).use ?_,fun h15=>⟨fun h16=>?_,fun h16=>⟨by omega,?_⟩⟩⟩⟩⟩
  ·simp[yma,h13,ybw]
  ·simp[yma,h14,ybw]
  ·simp only[thenO,yh,go_sem,Nat.reduceEqDiff,Nat.reduceAdd,↓reduceIte,reduceCtorEq];simp[yma,h15,ybw]
  ·simp[yma,h16,ybw]
  ·refine⟨by rw[show(yhw g v).length=(g.ports.getD v []).length from List.length_map _];omega,?_⟩
   simp[yma,h6,h7,h8,h9,h10,h11,h13,h14,h15,h16]
theorem ybvi(p:ProgR){g:Gr}(hg:GoodG g){nv:Nat}{c:Conf}(hc:ConfIn g.ports.length nv c){v:Nat}(hv:v<g.ports.length)(e:List Tm){op arg:Int}{bnd:Bool}(ho:(Ex.leaf op arg).ok nv bnd=true)(port:Int)(hp:bnd=true->0<=port/\port<(g.ports.getD v []).length) :
  Returns Tryz.prog 236 [.rf (yhj p g c v e),.ag [.i .i64 op,.i .i64 arg],.i .i64 port] (.i .i64 (yrg g c op arg v port)):=by
 refine Returns.of (yctv _ _ ?_);simp only[Ex.ok,Bool.and_eq_true,decide_eq_true_eq]at ho;obtain⟨⟨ho1,ho2⟩,ho3⟩:=ho;have hlen:=hc.len;have hrow:=hc.at_ hv;have hF:=ybyb p hg op hv port;simp only[yek,yg,yx,yu,ycr]at hF;simp only[c236,ycns,yckc,yclf,ycbw,ycej,ycdl,ycez,ycfi,ycoa,ycjk,ybpw,ybrj,ybpt,ybnk,ybvg,yhj,yba,yek,yg,yx,yu,ycr,yh,go_sem,Nat.reduceEqDiff,Nat.reduceAdd,Nat.reduceLeDiff,Nat.reduceLT,↓reduceIte,reduceCtorEq]
 refine⟨fun h1=>?_,fun h1=>⟨fun h2=>?_,fun h2=>⟨fun h3=>?_,fun h3=>⟨fun h4=>?_,fun h4=>⟨fun h5=>?_,fun h5=>⟨fun h12=>?_,fun h12=>(hF ?_).use ?_⟩⟩⟩⟩⟩⟩
 ·simp[yrg,h1]
 ·simp[yrg,h2]
 ·simp[yrg,h3]
 ·simp[yrg,h4]
 ·rw[if_neg (by omega),if_pos (by omega)]at ho2
  have ho2:=of_decide_eq_true ho2;refine⟨by omega,by omega,?_⟩
  simp[yrg,h5]
 ·rw[if_neg (by omega),if_pos (by omega)]at ho2
  have ho2:=of_decide_eq_true ho2;rw[if_pos (by omega)]at ho3
  have hp:=hp ho3;have hpn:port.toNat<(g.ports.getD v []).length:=by omega
  have hl:=hg.ybw hv hpn;have hr2:=hc.at_ (v:=(ybw g v port.toNat).1.toNat) (by omega)
  unfold ybw at hl hr2;refine⟨by omega,by omega,by omega,by omega,?_⟩
  simp[yrg,h12,ybw]
 ·by_cases q:11<=op
  ·rw[if_pos q]at ho3;have:=hp ho3;omega
  ·omega
 ·simp only[thenO,yh,go_sem,Nat.reduceEqDiff,Nat.reduceAdd,↓reduceIte,reduceCtorEq];simp[yrg,h1,h2,h3,h4,h5,h12]

theorem ypm{e:List Tm}{at_:Nat}{a b:List Tm}(h:e.drop at_=a ++ b):e.drop (at_+a.length)=b:=by
 rw[<- List.drop_drop,h,List.drop_left]
theorem ybwg{n:Nat}{gg:Nat->List SV}{l:List Int}(hn:n=l.length)(h:∀ k,k<n->gg k = [.i .i64 (l.getD k 0)]):Sim (.sl 1 n gg) (yg l):=by
 subst hn;exact sim_sl h
def ybml(p:ProgR)(g:Gr)(nv:Nat)(c:Conf)(v:Nat)(e:List Tm)(x:Ex):Prop :=
 ∀ (bnd:Bool) (port:Int) (at_:Nat) (rest:List Tm),x.ok nv bnd=true->(bnd=true->0<=port/\port<(g.ports.getD v []).length)->InB port->e.drop at_=x.ser ++ rest ->
  Returns Tryz.prog 220 [.rf (yhj p g c v e),.i .i64 at_,.i .i64 port] (.tp [.i .i64 (yep g c v x port),.i .i64 ((at_+x.ser.length:Nat):Int)])
theorem yxe(p:ProgR){g:Gr}(hg:GoodG g){nv:Nat}{c:Conf}(hc:ConfIn g.ports.length nv c){v:Nat}(hv:v<g.ports.length)(e:List Tm)(hl:e.length<=1000){op:Int}{a:Ex}(ho:(Ex.agg op a).ok nv true=true)(ih:ybml p g nv c v e a)(at_:Nat)(rest:List Tm)(he:e.drop at_=(Ex.agg op a).ser ++ rest) :
  Returns Tryz.prog 238 [.rf (yhj p g c v e),.i .i64 op,.i .i64 at_] (.tp [.i .i64 (yep g c v (.agg op a) 0),.i .i64 ((at_+(Ex.agg op a).ser.length:Nat):Int)]):=by
 have ho':=ho;simp only[Ex.ok,Bool.and_eq_true,decide_eq_true_eq]at ho;have hd:=hg.deg_lt (v:=v);obtain⟨deg,hdeg⟩:∃ d,(g.ports.getD v []).length=d:=⟨_,rfl⟩;rw[hdeg]at hd;have hin:∀ q:Nat,q<deg->InB (yep g c v a q):=fun q hq=>yfq hg rfl hc hv a ho.2 (fun _=>by omega) (by unfold InB;omega)
 have hsh:=Ex.ok_shp _ ho';have hdrop:e.drop (at_+1)=a.ser ++ rest:=(ydu (show e.drop at_=(op,0) :: (a.ser ++ rest)from he)).2.2
 have hat:=(ydu (show e.drop at_=(op,0) :: (a.ser ++ rest)from he)).1
 have hfit:at_+1+a.ser.length<=e.length:=by
  have:=congrArg List.length hdrop;simp at this;omega
 refine Returns.of (ycrc _ _ ?_);simp only[c238,ycfh,ycfn,yccf,ycgf,yhj,yba,yek,yg,yx,yu,ycr,hdeg,go_sem,Nat.reduceEqDiff,Nat.reduceAdd,Nat.reduceLeDiff,Nat.reduceLT,↓reduceIte,reduceCtorEq];refine⟨by omega,?_⟩
 let val:Nat->Int:=fun q=>yep g c v a q
 refine ybd (σ:=Nat) (fun k=>⟨[(27,.i .i64 k),(26,.i .i64 deg),(9,.i .i64 deg),(0,.rf (yhj p g c v e)),(1,.i .i64 op),(2,.i .i64 at_),(8,.pt (8,0) 0 0),(7,.i .i64 (if k=0 then 0 else((at_+1+a.ser.length:Nat):Int)))],
   [(8,.one (some ⟨256,true,1,24,fun i=>[.i .i64 (if i<k then val i else 0)]⟩))]⟩) (fun k=>k<=deg) (fun k=>deg - k) 0 (Nat.zero_le _) ?_ ?_
 ·refine weak_all [] [] [] ?_;simp only[yhj,yba,yek,yg,yx,yu,ycr,allQ,live,sim_self,yh,Int.natCast_zero,go_sem,Nat.reduceEqDiff,↓reduceIte,reduceCtorEq];intro i _;rw[if_neg (by omega)]
 ·intro k hk;simp only[yckv,ycjf,ycmh,ycke,ycpb,ycoc,ybri,go_sem,Nat.reduceEqDiff,Nat.reduceAdd,Nat.reduceLeDiff,↓reduceIte,reduceCtorEq];refine⟨fun hlt=>⟨ikw (by omega) (by omega),?_⟩,fun hlt=>?_⟩
  ·have hk':k<deg:=by omega
   have hv1:=ih true (k:Int) (at_+1) rest ho.2 (fun _=>by rw[hdeg];omega) (by unfold InB;omega) hdrop
   rw[show((at_+1:Nat):Int)=(at_:Int)+1 by omega]at hv1
   refine hv1.use ?_;simp only[thenO,splice,go_sem,Nat.reduceEqDiff,Nat.reduceAdd,↓reduceIte,reduceCtorEq];refine⟨by omega,by omega,ikw (by omega) (by omega),?_⟩
   refine yc (k+1) (by omega) (by omega) ?_
   refine weak_all [] [] [] ?_;simp only[allQ,live,sim_self,yh,go_sem,Nat.reduceEqDiff,↓reduceIte,reduceCtorEq];refine⟨by omega,?_⟩
   intro i hi
   by_cases q:i=k
   ·rw[if_pos q,if_pos (by omega)]
    subst q;simp only[val,live,sim_self,go_sem,reduceCtorEq]
   ·rw[if_neg q]
    by_cases q2:i<k
    ·rw[if_pos q2,if_pos (by omega)]
     simp only[live,sim_self,go_sem,reduceCtorEq]
    ·rw[if_neg q2,if_neg (by omega)]
     simp only[live,sim_self,go_sem,reduceCtorEq]
  ·obtain rfl:k=deg:=by omega
   have hE:=ycwh e _ at_ rest hsh he hl
   have hF:=ybzw op ((List.range k).map val) (by simp;omega) (fun x hx=>by
    obtain⟨q,hq,rfl⟩:=List.mem_map.1 hx;exact hin q (List.mem_range.1 hq))
   have hres:yep g c v (.agg op a) 0=yge op ((List.range k).map val):=by
    show yge op _=_;rw[hdeg]
   rw[hres];simp only[yhj,yu,go_sem,Nat.reduceEqDiff,Nat.reduceAdd,↓reduceIte,reduceCtorEq];simp only[yu]at hE
   have hsim:SimL [.i .i64 op,.sl 1 (k - 0) fun i=>[.i .i64 (if i<k then val i else 0)]] [.i .i64 op,yg ((List.range k).map val)]:=by
    refine⟨Sim.refl _,ybwg (by simp) fun i hi=>?_,trivial⟩
    rw[if_pos (by omega)]
    simp[List.getD,show i<k by omega]
   refine⟨fun h0=>hE.use ?_,fun h0=>?_⟩
   ·simp only[thenO,go_sem,Nat.reduceEqDiff,Nat.reduceAdd,Nat.reduceLeDiff,↓reduceIte,reduceCtorEq];refine⟨by simp;omega,.inl ⟨by omega,hF.useS hsim ?_⟩⟩
    simp only[go_sem];exact Sim.refl _
   ·refine⟨by simp;omega,.inl ⟨by omega,hF.useS hsim ?_⟩⟩
    simp only[thenO,if_neg (show ¬ k=0 by omega),go_sem,Nat.reduceEqDiff,Nat.reduceAdd,↓reduceIte,reduceCtorEq]
    rw[show at_+(Ex.agg op a).ser.length=at_+1+a.ser.length by simp[Ex.ser];omega]
    exact Sim.refl _
end Sh
end Go.Proofs.YtiejahgklcjhkaaGreatDoor

namespace Go.Proofs.YtiejahgklcjhkaaGreatDoor
namespace Sh
open Go Ev
set_option maxRecDepth 8000

theorem ybjb(g:Gr)(v:Nat)(hv:v<g.ports.length)(u:Int)(hl:(g.ports.getD v []).length<=100000):Returns Tryz.prog 170 [grV g,.i .i64 v,.i .i64 u] (.i .i64 (yfh (g.ports.getD v []) u)):=by
 refine Returns.of (ycva _ _ ?_);simp only[c170,ycat,ycqd,grV,yx,yu,yg,go_sem,Nat.reduceEqDiff,Nat.reduceAdd,Nat.reduceLT,↓reduceIte,reduceCtorEq];refine⟨by omega,?_⟩
 obtain⟨ls,hls⟩:∃ ls,g.ports.getD v []=ls:=⟨_,rfl⟩;rw[hls]at hl ⊢;refine ybd (σ:=Nat) (fun k=>⟨[(15,.i .i64 k),(13,yu ls),(14,.i .i64 ls.length),(2,.i .i64 u)],[]⟩) (fun k=>k<=ls.length/\(ls.take k).findIdx? (fun l=>l.1 == u)=none) (fun k=>ls.length - k) 0 ⟨Nat.zero_le _,by simp⟩ ?_ ?_
 ·refine weak_all [] [] [] ?_;simp only[yu,allQ,live,sim_self,Int.natCast_zero,go_sem,Nat.reduceEqDiff,↓reduceIte,reduceCtorEq]
 ·intro k ⟨hk,hno⟩;simp only[ycng,ycpo,ycih,ycap,yclp,ychx,yu,yh,splice,go_sem,Nat.reduceEqDiff,Nat.reduceAdd,Nat.reduceLeDiff,Nat.reduceLT,↓reduceIte,reduceCtorEq];refine⟨fun hlt=>⟨by omega,fun he=>?_,fun he=>⟨ikw (by omega) (by omega),?_⟩⟩,fun hlt=>?_⟩
  ·have hlt:k<ls.length:=by omega
   rw[getD_at hlt]at he;rw[ymv ls u k hlt he hno]
  ·have hlt:k<ls.length:=by omega
   rw[getD_at hlt]at he;refine yc (k+1) ⟨by omega,yok ls u k hlt he hno⟩ (by omega) ?_
   refine weak_all [] [] [] ?_;simp only[allQ,live,sim_self,yh,go_sem,Nat.reduceEqDiff,↓reduceIte,reduceCtorEq];simp
  ·obtain rfl:k=ls.length:=by omega
   rw[yrc ls u hno]
theorem ybjv{ids:List Int}{k:Nat}(h:k<ids.length):(ids.take (k+1)).foldl max 0=max ((ids.take k).foldl max 0) (ids.getD k 0):=by
 rw[ybkv ids k h,getD_at h]
theorem ybak(p:ProgR){g:Gr}(hg:GoodG g):Returns Tryz.prog 143 [.ag (ymb p),grV g] (.rf (yek p g)):=by
 refine Returns.of (ycsw _ _ ?_);have h24:=hg.2.1;have hid:=hg.2.2.1;obtain⟨n,hn⟩:∃ n,g.ports.length=n:=⟨_,rfl⟩;rw[hn]at h24 hid;simp only[c143,ycmq,ycic,ycew,grV,yx,yu,yg,ymb,splice,hn,go_sem,Nat.reduceEqDiff,Nat.reduceAdd,Nat.reduceLeDiff,Nat.reduceLT,↓reduceIte,reduceCtorEq];refine⟨by omega,?_⟩
 refine ybd (σ:=Nat) (fun k=>⟨[(21,.i .i64 k),(19,yx g.ports),(20,.i .i64 n),(3,.pt (3,0) 0 0),(5,.pt (17,0) 0 0)],
   [(3,.one (some ⟨27,true,2,1,fun _=>[yg g.ids,yx g.ports]⟩)),(17,.one (some ⟨170,true,7,1,fun _=>[.a (.string p.name),ycn p.vars,yca p.rules,yg g.ids,yx g.ports,.i .i64 ((g.ids.take k).foldl max 0),.os (15,0) 0 n true]⟩)),
    (15,.one (some ⟨22,false,1,n,fun i=>[if i<k then yg (yhw g i)else .a (.slice none 0 0)]⟩))]⟩) (fun k=>k<=n) (fun k=>n - k) 0 (Nat.zero_le _) ?_ ?_
 ·refine weak_all [] [] [] ?_;simp only[yx,yu,yg,hn,allQ,live,sim_self,yh,Int.natCast_zero,go_sem,Nat.reduceEqDiff,↓reduceIte,reduceCtorEq];refine⟨fun i _=>by simp,fun i _=>?_⟩
  rw[if_neg (by omega)]
  simp only[sim_self,go_sem]
 ·intro k hk;simp only[ycbq,ycoe,yche,ycda,yx,yu,yg,splice,hn,go_sem,Nat.reduceEqDiff,Nat.reduceAdd,Nat.reduceLeDiff,↓reduceIte,reduceCtorEq];refine⟨fun hlt=>⟨by omega,by omega,by decide,?_⟩,fun hlt=>?_⟩
  ·have hk':k<n:=by omega
   obtain⟨ls,hls⟩:∃ ls,g.ports.getD k []=ls:=⟨_,rfl⟩;have hdeg:=hg.deg_lt (v:=k);rw[hls]at hdeg;rw[hls]
   have hback:∀ j,j<ls.length->(yhw g k).getD j 0=yfh (g.ports.getD (ls.getD j (0,0)).1.toNat []) k:=fun j hj=>by
    unfold yhw;rw[hls];simp[List.getD,hj]
   have hbl:(yhw g k).length=ls.length:=by unfold yhw;rw[hls,List.length_map]
   refine ybd (σ:=Nat) (fun j=>⟨[(41,.i .i64 j),(39,yu ls),(40,.i .i64 ls.length),(6,.i .i64 k),(21,.i .i64 k),(19,yx g.ports),(20,.i .i64 n),(3,.pt (3,0) 0 0),(5,.pt (17,0) 0 0)],
    [(3,.one (some ⟨27,true,2,1,fun _=>[yg g.ids,yx g.ports]⟩)),(17,.one (some ⟨170,true,7,1,fun _=>[.a (.string p.name),ycn p.vars,yca p.rules,yg g.ids,yx g.ports,.i .i64 ((g.ids.take (k+1)).foldl max 0),.os (15,0) 0 n true]⟩)),
     (15,.one (some ⟨22,false,1,n,fun i=>[if i<k then yg (yhw g i)else if i=k then .os (100,0) 0 j true else .a (.slice none 0 0)]⟩)),
     (100,.one (some ⟨3,false,1,j,fun q=>[.i .i64 ((yhw g k).getD q 0)]⟩))]⟩) (fun j=>j<=ls.length) (fun j=>ls.length - j) 0 (Nat.zero_le _) ?_ ?_
   ·refine weak_all [] [100] [] ?_;simp only[yx,yu,yg,hn,ybjv (show k<g.ids.length by omega),allQ,live,sim_self,Int.natCast_zero,go_sem,Nat.reduceEqDiff,Nat.reduceBEq,↓reduceIte,reduceCtorEq]
    intro i hi
    by_cases q1:i<k
    ·simp only[if_pos q1];simp only[sim_self,go_sem,reduceCtorEq]
    ·by_cases q2:i=k
     ·simp only[if_neg q1,if_pos q2];simp only[live,go_sem,Nat.reduceEqDiff,↓reduceIte];simp
     ·simp only[if_neg q1,if_neg q2];simp only[sim_self,go_sem,reduceCtorEq]
   ·intro j hj;simp only[ycif,yckw,ycpe,ybqx,ybll,yx,yu,yg,splice,hn,go_sem,Nat.reduceEqDiff,Nat.reduceAdd,Nat.reduceLeDiff,Nat.reduceLT,↓reduceIte,reduceCtorEq]
    have hP:=fun hlt:j<ls.length=>ybjb g (ls.getD j (0,0)).1.toNat (by
     have:=hg.ybw (v:=k) (p:=j) (by omega) (by rw[hls];omega)
     unfold ybw at this;rw[hls]at this;omega) (k:Int) (by have:=hg.deg_lt (v:=(ls.getD j (0,0)).1.toNat);omega)
    have hto:j<ls.length->((ls.getD j (0,0)).1.toNat:Int)=(ls.getD j (0,0)).1:=fun hlt=>by
     have:=hg.ybw (v:=k) (p:=j) (by omega) (by rw[hls];omega)
     unfold ybw at this;rw[hls]at this;omega
    refine⟨fun hlt=>⟨by omega,by omega,by omega,?_⟩,fun hlt=>?_⟩
    ·have hj':j<ls.length:=by omega
     have hP:=hP hj';rw[hto hj']at hP;simp only[grV,yx,yu,yg,hn]at hP;refine hP.use ?_;simp only[thenO,splice,go_sem,Nat.reduceEqDiff,Nat.reduceAdd,Nat.reduceLeDiff,Nat.reduceLT,↓reduceIte,reduceCtorEq];refine⟨by decide,by omega,by decide,by omega,by omega,by decide,ikw (by omega) (by omega),?_⟩
     refine yc (j+1) (by omega) (by omega) ?_
     refine weak_all [(100,fun _=>(63,0))] [] [] ?_;simp only[allQ,live,sim_self,yh,go_sem,Nat.reduceEqDiff,↓reduceIte,reduceCtorEq];refine⟨by omega,fun i hi=>?_,fun i hi=>?_⟩
     ·by_cases q2:i=k
      ·simp only[if_pos q2,if_neg (show ¬ i<k by omega)]
       simp only[live,sim_self,go_sem,Nat.reduceEqDiff,↓reduceIte,reduceCtorEq]
      ·simp only[if_neg q2]
       by_cases q1:i<k
       ·simp only[if_pos q1];simp only[live,sim_self,go_sem,reduceCtorEq]
       ·simp only[if_neg q1];simp only[live,sim_self,go_sem,reduceCtorEq]
     ·by_cases q2:i<j
      ·simp only[if_pos q2];simp only[live,sim_self,go_sem,reduceCtorEq]
      ·obtain rfl:i=j:=by omega
       simp only[if_neg q2,Nat.sub_self,Nat.zero_mul];simp only[live,yh,go_sem,reduceCtorEq];rw[hback i hj']
    ·obtain rfl:j=ls.length:=by omega
     refine⟨ikw (by omega) (by omega),?_⟩
     refine yc (k+1) (by omega) (by omega) ?_
     refine weak_all [] [] [(100,0)] ?_;simp only[allQ,live,sim_self,yh,go_sem,Nat.reduceEqDiff,Nat.reduceLeDiff,↓reduceIte,reduceCtorEq];refine⟨by omega,fun i hi=>?_⟩
     by_cases q1:i<k
     ·simp only[if_pos q1,if_pos (show i<k+1 by omega)]
      simp only[sim_self,go_sem]
     ·by_cases q2:i=k
      ·simp only[if_neg q1,if_pos q2,if_pos (show i<k+1 by omega)]
       subst q2;simp only[hbl,sim_self,go_sem,Nat.reduceEqDiff,↓reduceIte]
      ·simp only[if_neg q1,if_neg q2,if_neg (show ¬ i<k+1 by omega)]
       simp only[sim_self,go_sem]
  ·obtain rfl:k=n:=by omega
   simp only[ybul,go_sem,Nat.reduceEqDiff,Nat.reduceAdd,Nat.reduceLeDiff,↓reduceIte,reduceCtorEq];refine⟨fun q hq=>by simp only[if_pos hq];simp only[go_sem],?_⟩
   refine ydfz ?_ (by simp only[yek,go_sem])
   simp only[SimL,yek,yg,yx,yu,ycr,hn,sim_self,true_and,and_true];refine⟨?_,?_⟩
   ·rw[yh];refine⟨rfl,?_⟩;unfold ybeg;rw[List.take_of_length_le (by omega)]
   ·refine ygb fun q hq=>?_;simp only[if_pos hq];simp only[SimL,sim_self,go_sem]
end Sh
end Go.Proofs.YtiejahgklcjhkaaGreatDoor

namespace Go.Proofs.YtiejahgklcjhkaaGreatDoor

def ykl(f:Nat->Bool):Nat->Nat
 | 0=>0
 | n+1=>if f n then ykl f n ||| 2 ^ n else ykl f n
theorem ylj(f:Nat->Bool):∀ (n i:Nat),(ykl f n).testBit i=(decide (i<n) && f i)
 | 0,i=>by simp[ykl]
 | n+1,i=>by
  unfold ykl;have ih:=ylj f n i
  by_cases h:f n=true
  ·rw[if_pos h,Nat.testBit_or,ih,Nat.testBit_two_pow]
   by_cases e:n=i
   ·subst e;simp[h]
   ·have:(i<n+1)=(i<n):=propext (by omega)
    simp[e,this]
  ·rw[if_neg h,ih]
   by_cases e:n=i
   ·subst e;simp[h]
   ·have:(i<n+1)=(i<n):=propext (by omega)
    simp[this]
theorem ybfr(f:Nat->Bool)(n:Nat):ykl f n<2 ^ n:=by
 refine Nat.lt_pow_two_of_testBit _ fun i hi=>?_;rw[ylj];simp;omega
def difB(a b:Nat):Nat:=a ^^^ (a &&& b)
theorem yhh(a b i:Nat):(difB a b).testBit i=(a.testBit i && !(b.testBit i)):=by
 unfold difB;rw[Nat.testBit_xor,Nat.testBit_and];cases a.testBit i<;>cases b.testBit i<;>rfl
theorem ybg(a:Nat):a=0 ↔ ∀ i,a.testBit i=false:=by
 constructor
 ·rintro rfl i;simp
 ·intro h;exact Nat.eq_of_testBit_eq fun i=>by rw[h i];simp
theorem ydff{a b n:Nat}(h:a<2 ^ n):a &&& b<2 ^ n:=by
 have:=Nat.and_le_left (n:=a) (m:=b);omega
theorem ybdt{a b n:Nat}(h:a<2 ^ n):difB a b<2 ^ n:=by
 refine Nat.lt_pow_two_of_testBit _ fun i hi=>?_;rw[yhh,Nat.testBit_lt_two_pow (Nat.lt_of_lt_of_le h (Nat.pow_le_pow_right (by omega) hi))]
 rfl
structure Cnt where
 steps:Nat
 moves:Nat
 rounds:Nat
 begun:Nat
 pend:Nat
def ydj(s:Nat):Nat->Nat
 | 0=>0
 | n+1=>ydj s n+(s.testBit n).toNat
def popP(s:Nat):Nat:=ydj s 32
def yei(e:Nat):Cnt:=⟨0,0,0,0,e⟩
def addP(k:Cnt)(chosen after:Nat):Cnt :=
 let p:=difB k.pend chosen &&& after
 ⟨k.steps+1,k.moves+popP chosen,if p=0 then k.rounds+1 else k.rounds,k.rounds+1,if p=0 then after else p⟩
def Cnt.ok(k:Cnt):Prop:=k.rounds<=k.begun/\k.begun<=k.rounds+1/\k.begun<=k.steps/\k.steps<=k.moves/\k.moves<=24 * k.steps/\k.pend<2 ^ 24
theorem ygv(s:Nat):∀ n,ydj s n<=n
 | 0=>Nat.le_refl _
 | n+1=>by
  have:=ygv s n;unfold ydj;cases s.testBit n<;>simp[Bool.toNat]<;>omega
theorem ytj(s:Nat)(h:s<2 ^ 24):∀ k,ydj s (24+k)=ydj s 24
 | 0=>rfl
 | k+1=>by
  have e:s.testBit (24+k)=false:=Nat.testBit_lt_two_pow (Nat.lt_of_lt_of_le h (Nat.pow_le_pow_right (by omega) (by omega)))
  show ydj s (24+k)+(s.testBit (24+k)).toNat=_;rw[ytj s h k,e];rfl
theorem ybnv(s:Nat)(h:s<2 ^ 24):popP s<=24:=by
 have:=ytj s h 8;unfold popP;rw[this];exact ygv s 24
theorem yxl{s i:Nat}(hs:s.testBit i=true):∀ n,i<n->1<=ydj s n
 | 0,h=>by omega
 | n+1,h=>by
  unfold ydj
  by_cases e:i=n
  ·subst e;rw[hs];simp
  ·have:=yxl hs n (by omega);omega
theorem ybyh(s:Nat)(h:s<2 ^ 32)(h0:s ≠ 0):1<=popP s:=by
 refine Classical.byContradiction fun hc=>h0 ?_;rw[ybg];intro i;cases hb:s.testBit i with
 | false=>rfl
 | true =>
  exfalso
  have hi:i<32:=by
   refine Classical.byContradiction fun hi=>?_;rw[Nat.testBit_lt_two_pow (Nat.lt_of_lt_of_le h (Nat.pow_le_pow_right (by omega) (by omega)))]at hb
   cases hb
  exact hc (yxl hb 32 hi)
theorem ybsf{e:Nat}(h:e<2 ^ 24):(yei e).ok:=⟨Nat.le_refl _,by simp[yei],Nat.le_refl _,Nat.le_refl _,by simp[yei],h⟩
theorem yctk{k:Cnt}{s e:Nat}(hk:k.ok)(hs:s<2 ^ 24)(h0:s ≠ 0)(he:e<2 ^ 24):(addP k s e).ok:=by
 obtain⟨h1,h2,h3,h4,h5,h6⟩:=hk;have p1:=ybnv s hs;have p2:=ybyh s (by omega) h0
 have hp:difB k.pend s &&& e<2 ^ 24:=ydff (ybdt h6);unfold addP Cnt.ok;simp only;refine⟨by split<;>omega,by split<;>omega,by omega,by omega,by omega,by split<;>omega⟩

structure Sys where
 n:Nat
 en:Conf->Nat
 mv:Conf->Nat->Conf
def Sys.run(S:Sys)(res:Nat->Nat->Nat):List Nat->Conf->Cnt->List (Conf × Cnt)
 | [],_,_=>[]
 | w :: ws,c,k=>if S.en c=0 then[]else(let s:=res (S.en c) w
  let d:=S.mv c s
  (d,addP k s (S.en d)) :: S.run res ws d (addP k s (S.en d)))
def Sys.runs(S:Sys)(res:Nat->Nat->Nat)(ws:List Nat)(c:Conf):List (Conf × Cnt):=(c,yei (S.en c)) :: S.run res ws c (yei (S.en c))
def subB(a b:Nat):Prop:=∀ i,a.testBit i=true->b.testBit i=true
def ybzp(res:Nat->Nat->Nat):Prop:=∀ e w,e ≠ 0->res e w ≠ 0/\subB (res e w) e
theorem Sys.run_all{S:Sys}{res:Nat->Nat->Nat}(hr:ybzp res){J:Conf->Cnt->Prop}(hstep:∀ c k s,J c k->s ≠ 0->subB s (S.en c)->J (S.mv c s) (addP k s (S.en (S.mv c s)))) :
  ∀ (ws:List Nat) (c:Conf) (k:Cnt),J c k -> ∀ p ∈ S.run res ws c k,J p.1 p.2
 | [],_,_,_,p,hp=>by cases hp
 | w :: ws,c,k,hJ,p,hp=>by
  unfold Sys.run at hp;split at hp
  ·cases hp
  ·rename_i h0
   obtain⟨r1,r2⟩:=hr _ w h0;have hJ':=hstep c k _ hJ r1 r2;rcases List.mem_cons.1 hp with e | e
   ·rw[e];exact hJ'
   ·exact Sys.run_all hr hstep ws _ _ hJ' p e
theorem Sys.runs_all{S:Sys}{res:Nat->Nat->Nat}(hr:ybzp res){J:Conf->Cnt->Prop}(hstep:∀ c k s,J c k->s ≠ 0->subB s (S.en c)->J (S.mv c s) (addP k s (S.en (S.mv c s)))){ws:List Nat}{c:Conf}(h:J c (yei (S.en c))):∀ p ∈ S.runs res ws c,J p.1 p.2:=fun p hp=>by
 rcases List.mem_cons.1 hp with e | e
 ·rw[e];exact h
 ·exact Sys.run_all hr hstep ws _ _ h p e

structure ByRounds(S:Sys)(V:Conf->Prop)(P:Nat->Nat->List Int->Prop):Prop where
 valid:∀ c s,V c->s ≠ 0->subB s (S.en c)->V (S.mv c s)
 stay:∀ c s v,V c->v<S.n->s.testBit v=false->(S.mv c s).getD v []=c.getD v []
 move:∀ c s v r,V c->v<S.n->s.testBit v=true->subB s (S.en c)->(∀ u,u<S.n->P r u (c.getD u []))->P (r+1) v ((S.mv c s).getD v [])
 rest:∀ c v r,V c->v<S.n->(S.en c).testBit v=false->(∀ u,u<S.n->P r u (c.getD u []))->P (r+1) v (c.getD v [])
 less:∀ r v s,P (r+1) v s->P r v s
structure RInv(S:Sys)(V:Conf->Prop)(P:Nat->Nat->List Int->Prop)(c:Conf)(k:Cnt):Prop where
 valid:V c
 all:∀ v,v<S.n->P k.rounds v (c.getD v [])
 done:∀ v,v<S.n->k.pend.testBit v=false->P (k.rounds+1) v (c.getD v [])
 begun:k.begun<=k.rounds+1
theorem ByRounds.start{S:Sys}{V:Conf->Prop}{P:Nat->Nat->List Int->Prop}(h:ByRounds S V P){c:Conf}(hv:V c)(h0:∀ v,v<S.n->P 0 v (c.getD v [])):RInv S V P c (yei (S.en c)) :=
 ⟨hv,h0,fun v hn hb=>h.rest c v 0 hv hn hb h0,by simp[yei]⟩
theorem ByRounds.step{S:Sys}{V:Conf->Prop}{P:Nat->Nat->List Int->Prop}(h:ByRounds S V P)(c:Conf)(k:Cnt)(s:Nat)(hi:RInv S V P c k)(h0:s ≠ 0)(hs:subB s (S.en c)):RInv S V P (S.mv c s) (addP k s (S.en (S.mv c s))):=by
 obtain⟨i1,i2,i3,i4⟩:=hi;have hv:=h.valid c s i1 h0 hs
 have hall:∀ v,v<S.n->P k.rounds v ((S.mv c s).getD v []):=fun v hn=>by
  cases hb:s.testBit v with
  | true=>exact h.less _ _ _ (h.move c s v _ i1 hn hb hs i2)
  | false=>rw[h.stay c s v i1 hn hb];exact i2 v hn
 have hnext:∀ v,v<S.n->(difB k.pend s &&& S.en (S.mv c s)).testBit v=false->P (k.rounds+1) v ((S.mv c s).getD v []):=fun v hn hb=>by
  rw[Nat.testBit_and,yhh]at hb;cases hb1:s.testBit v with
  | true=>exact h.move c s v _ i1 hn hb1 hs i2
  | false =>
   cases hb2:k.pend.testBit v with
   | false=>rw[h.stay c s v i1 hn hb1];exact i3 v hn hb2
   | true =>
    rw[hb1,hb2]at hb;exact h.rest _ v _ hv hn (by simpa using hb) hall
 unfold addP;simp only
 by_cases hp:difB k.pend s &&& S.en (S.mv c s)=0
 ·simp only[if_pos hp];have hall':∀ v,v<S.n->P (k.rounds+1) v ((S.mv c s).getD v []):=fun v hn=>hnext v hn (by rw[hp];simp)
  exact⟨hv,hall',fun v hn hb=>h.rest _ v _ hv hn hb hall',by show k.rounds+1<=_;simp⟩
 ·simp only[if_neg hp];exact⟨hv,hall,hnext,Nat.le_refl _⟩
theorem ByRounds.runs{S:Sys}{V:Conf->Prop}{P:Nat->Nat->List Int->Prop}(h:ByRounds S V P){res:Nat->Nat->Nat}(hr:ybzp res){ws:List Nat}{c:Conf}(hv:V c)(h0:∀ v,v<S.n->P 0 v (c.getD v [])):∀ p ∈ S.runs res ws c,RInv S V P p.1 p.2 :=
 Sys.runs_all hr h.step (h.start hv h0)
end Go.Proofs.YtiejahgklcjhkaaGreatDoor

namespace Go.Proofs.YtiejahgklcjhkaaGreatDoor

structure RuleT where
 name:ByteArray
 guard:Ex
 sets:List (Int × Ex)
structure ProgT where
 name:ByteArray
 vars:List VarR
 rules:List RuleT
instance:Inhabited Ex:=⟨.leaf 0 0⟩
instance:Inhabited RuleT:=⟨⟨.empty,default,[]⟩⟩
def RuleT.raw(r:RuleT):RuleR:=⟨r.name,r.guard.ser,r.sets.map fun s=>⟨s.1,s.2.ser⟩⟩
def ProgT.raw(p:ProgT):ProgR:=⟨p.name,p.vars,p.rules.map RuleT.raw⟩
def RuleT.ok(nv:Nat)(r:RuleT):Bool:=r.guard.ok nv false && decide (r.guard.ser.length<=1000) && decide (r.sets.length<=100) && r.sets.all fun s=>decide (0<=s.1/\s.1<nv) && s.2.ok nv false && decide (s.2.ser.length<=1000)
def VarR.ok(x:VarR):Bool:=decide (x.kind=1\/x.kind=2\/x.kind=3) && decide (0<=x.lo/\x.lo<=4096) && decide (-4096<=x.hi/\x.hi<=4096) && decide (0<=x.perNode/\x.perNode<=255) && decide (0<=x.perID/\x.perID<=255)
def ProgT.ok(p:ProgT):Bool:=decide (1<=p.vars.length/\p.vars.length<=6) && p.vars.all VarR.ok && decide (p.rules.length<=12) && p.rules.all (RuleT.ok p.vars.length)

def ylg(g:Gr)(c:Conf)(v:Nat)(r:RuleT):Bool:=yep g c v r.guard (-1) != 0
def yfm(p:ProgT)(g:Gr)(c:Conf)(v:Nat):Int:=match p.rules.findIdx? (ylg g c v)with | some i=>i | none=>-1
def ybc(g:Gr)(v:Nat)(x:VarR):Int × Int :=
 if x.kind=1 then(x.lo,x.hi+x.perNode * (g.ids.length:Int)+x.perID * maxI g.ids)else if x.kind=2 then(0,1)else if x.kind=3 then(-1,((g.ports.getD v []).length:Int) - 1)else(0,-1)
def yjl(kind:Int)(b:Int × Int)(x:Int):Int:=if x >= b.1/\x<=b.2 then x else if kind=3 then -1 else if x<b.1 then b.1 else b.2
def ynm(p:ProgT)(g:Gr)(c:Conf)(v:Nat)(s0:List Int)(sets:List (Int × Ex)):List Int :=
 sets.foldl (fun s a=>s.set a.1.toNat (yjl (p.vars.getD a.1.toNat default).kind (ybc g v (p.vars.getD a.1.toNat default)) (yep g c v a.2 (-1)))) s0
def ybbj(p:ProgT)(g:Gr)(c:Conf)(v:Nat)(r:Nat):List Int:=ynm p g c v (c.getD v []) (p.rules.getD r default).sets
def yw(p:ProgT)(g:Gr)(c:Conf):Nat:=ykl (fun v=>decide (yfm p g c v >= 0)) g.ids.length
def ydb(p:ProgT)(g:Gr)(c:Conf)(s:Nat):Conf:=c.zipIdx.map fun q=>if s.testBit q.2 then ybbj p g c q.2 (yfm p g c q.2).toNat else q.1
def ybj(p:ProgT)(g:Gr):Sys:=⟨g.ids.length,yw p g,ydb p g⟩
def ydn(p:ProgT)(g:Gr)(c:Conf):Bool:=yph g.ids.length (fun v=>p.vars.map (ybc g v)) c
end Go.Proofs.YtiejahgklcjhkaaGreatDoor

namespace Go.Proofs.YtiejahgklcjhkaaGreatDoor
namespace Sh
open Go Ev
set_option maxRecDepth 8000

theorem ycvw{g:Gr}(hg:GoodG g):0<=maxI g.ids/\maxI g.ids<=255:=by
 have h1:=hg.1;have h2:=hg.2.2.1;rw[ybgm (by omega) fun x hx=>(hg.2.2.2.1 x hx).1]
 exact yqy hg
theorem ybbx{x:VarR}(h:x.ok=true):(x.kind=1\/x.kind=2\/x.kind=3)/\(0<=x.lo/\x.lo<=4096)/\(-4096<=x.hi/\x.hi<=4096)/\(0<=x.perNode/\x.perNode<=255)/\(0<=x.perID/\x.perID<=255):=by
 unfold VarR.ok at h;simp only[Bool.and_eq_true,decide_eq_true_eq]at h;obtain⟨⟨⟨⟨a,b⟩,c⟩,d⟩,e⟩:=h;exact⟨a,b,c,d,e⟩
theorem mulN{a b A B:Int}(h1:0<=a)(h2:a<=A)(h3:0<=b)(h4:b<=B):0<=a * b/\a * b<=A * B:=⟨Int.mul_nonneg h1 h3,Int.mul_le_mul h2 h4 h3 (by omega)⟩
theorem ylo{g:Gr}(hg:GoodG g){x:VarR}(hx:x.ok=true):(0<=x.perNode * (g.ids.length:Int)/\x.perNode * (g.ids.length:Int)<=255 * 24)/\(0<=x.perID * maxI g.ids/\x.perID * maxI g.ids<=255 * 255):=by
 obtain⟨_,_,_,h4,h5⟩:=ybbx hx;have h6:=ycvw hg;have h7:=hg.2.1;have h8:=hg.2.2.1;exact⟨mulN h4.1 h4.2 (by omega) (by omega),mulN h5.1 h5.2 h6.1 h6.2⟩
theorem ybcs{g:Gr}(hg:GoodG g){x:VarR}(hx:x.ok=true)(v:Int):Returns Tryz.prog 198 [.ag (varC x),grV g,.i .i64 v] (.tp [.i .i64 x.lo,.i .i64 (x.hi+x.perNode * (g.ids.length:Int)+x.perID * maxI g.ids)]):=by
 refine Returns.of (ycqt _ _ ?_);have h1:=hg.1;have h7:=hg.2.1;have h8:=hg.2.2.1;have hM:=ycvg g.ids (by omega) (by omega)
 obtain⟨hb1,hb2⟩:=ylo hg hx;obtain⟨_,_,hv3,_,_⟩:=ybbx hx;simp only[yg]at hM;simp only[c198,ycnl,ycge,grV,varC,yg,go_sem,Nat.reduceEqDiff,Nat.reduceAdd,Nat.reduceLeDiff,Nat.reduceLT,↓reduceIte,reduceCtorEq];refine⟨ikw (by omega) (by omega),ikw (by omega) (by omega),hM.use ?_⟩
 simp only[thenO,go_sem,Nat.reduceEqDiff,Nat.reduceAdd,↓reduceIte,reduceCtorEq];refine⟨ikw (by omega) (by omega),ikw (by omega) (by omega),?_⟩
 exact Sim.refl _
theorem ybct(g:Gr)(x:VarR)(v:Int):Returns Tryz.prog 199 [.ag (varC x),grV g,.i .i64 v] (.tp [.i .i64 0,.i .i64 1]):=by
 refine Returns.of (ycrp _ _ ?_);simp only[c199,ycpv,ycdb,grV,varC,go_sem,Nat.reduceEqDiff,Nat.reduceAdd,Nat.reduceLT,↓reduceIte,reduceCtorEq];exact Sim.refl _
theorem ybca{g:Gr}(hg:GoodG g)(x:VarR){v:Nat}(hv:v<g.ports.length):Returns Tryz.prog 200 [.ag (varC x),grV g,.i .i64 v] (.tp [.i .i64 (-1),.i .i64 (((g.ports.getD v []).length:Int) - 1)]):=by
 refine Returns.of (ycvv _ _ ?_);have hd:=hg.deg_lt (v:=v);simp only[c200,ycjc,ycky,grV,yx,yu,varC,go_sem,Nat.reduceEqDiff,Nat.reduceAdd,Nat.reduceLT,↓reduceIte,reduceCtorEq];refine⟨by omega,ikw (by omega) (by omega),?_⟩
 exact Sim.refl _
theorem yblk(kind:Int)(b:Int × Int)(x:Int):Returns Tryz.prog 194 [.i .i64 kind,.ag [.i .i64 b.1,.i .i64 b.2],.i .i64 x] (.i .i64 (yjl kind b x)):=by
 refine Returns.of (ycud _ _ ?_);simp only[c194,ycob,ycgn,ycog,ycox,ycfb,yckx,ycbk,ycca,yh,yjl,go_sem,Int.reduceToNat,Nat.reduceEqDiff,Nat.reduceAdd,Nat.reduceLeDiff,Nat.reduceLT,Nat.reduceMul,↓reduceIte,reduceCtorEq];refine⟨by omega,fun h1=>⟨by omega,fun h2=>by rw[if_pos ⟨h1,h2⟩],fun h2=>⟨fun h3=>by rw[if_neg (fun q=>h2 q.2),if_pos h3],fun h3=>⟨by omega,fun h4=>⟨by omega,by rw[if_neg (fun q=>h2 q.2),if_neg h3,if_pos h4]⟩,fun h4=>⟨by omega,by rw[if_neg (fun q=>h2 q.2),if_neg h3,if_neg h4]⟩⟩⟩⟩,fun h1=>⟨fun h3=>by rw[if_neg (fun q=>h1 q.1),if_pos h3],fun h3=>⟨by omega,fun h4=>⟨by omega,by rw[if_neg (fun q=>h1 q.1),if_neg h3,if_pos h4]⟩,fun h4=>⟨by omega,by rw[if_neg (fun q=>h1 q.1),if_neg h3,if_neg h4]⟩⟩⟩⟩
theorem yup{g:Gr}(hg:GoodG g){x:VarR}(hx:x.ok=true){v:Nat}(hv:v<g.ports.length):Returns Tryz.prog 171 [.ag (varC x),grV g,.i .i64 v] (.tp [.i .i64 (ybc g v x).1,.i .i64 (ybc g v x).2]):=by
 refine Returns.of (ycwo _ _ ?_);have h1:=ybcs hg hx v;have h2:=ybct g x v;have h3:=ybca hg x hv;obtain⟨hk,_⟩:=ybbx hx;simp only[varC,grV]at h1 h2 h3;simp only[c171,yclm,ycbm,ycdm,varC,grV,splice,go_sem,Nat.reduceEqDiff,Nat.reduceAdd,Nat.reduceLeDiff,Nat.reduceLT,↓reduceIte,reduceCtorEq]
 refine ybd (σ:=Nat) (fun k=>⟨[(17,.i .i64 k),(15,.os (14,0) 0 3 true),(16,.i .i64 3),(2,.i .i64 v),(3,.pt (3,0) 0 0),(4,.pt (4,0) 0 0)],
   [(3,.one (some ⟨87,true,6,1,fun _=>varC x⟩)),(4,.one (some ⟨27,true,2,1,fun _=>[yg g.ids,yx g.ports]⟩)),
    (14,.one (some ⟨209,false,2,3,fun k=>if k=0 then[.i .i64 1,.fn 198 [] []]else if k=1 then[.i .i64 2,.fn 199 [] []]else[.i .i64 3,.fn 200 [] []]⟩))]⟩)
  (fun k=>k<=2/\(1<=k->x.kind ≠ 1)/\(2<=k->x.kind ≠ 2)) (fun k=>3 - k) 0 ⟨by omega,by omega,by omega⟩ ?_ ?_
 ·refine weak_all [] [] [] ?_;simp only[varC,allQ,live,sim_self,yh,Int.natCast_zero,go_sem,Nat.reduceEqDiff,↓reduceIte,reduceCtorEq];refine⟨rfl,fun i hi=>?_⟩;rcases(show i=0\/i=1\/i=2 by omega)with rfl | rfl | rfl
  ·simp only[live,sim_self,go_sem,↓reduceIte,reduceCtorEq]
  ·simp only[if_neg (show ¬ (1:Nat)=0 by omega),live,sim_self,go_sem,↓reduceIte,reduceCtorEq]
  ·simp only[if_neg (show ¬ (2:Nat)=0 by omega),if_neg (show ¬ (2:Nat)=1 by omega),live,sim_self,go_sem,Nat.reduceEqDiff,↓reduceIte,reduceCtorEq]
 ·rintro k ⟨hk2,hk3,hk4⟩;rcases(show k=0\/k=1\/k=2 by omega)with rfl | rfl | rfl
  ·simp only[ybfa,ybhb,ybha,ybfi,ybfo,ybfs,varC,splice,go_sem,Nat.reduceEqDiff,Nat.reduceAdd,Nat.reduceLeDiff,Nat.reduceLT,↓reduceIte,reduceCtorEq];refine⟨fun _=>⟨by omega,fun he=>h1.use ?_,fun he=>⟨ikw (by omega) (by omega),?_⟩⟩,fun h=>by omega⟩
   ·simp only[thenO,go_sem,Nat.reduceEqDiff,Nat.reduceAdd,↓reduceIte,reduceCtorEq];have e:ybc g v x=(x.lo,x.hi+x.perNode * (g.ids.length:Int)+x.perID * maxI g.ids):=by unfold ybc;rw[if_pos he.symm]
    rw[e];exact Sim.refl _
   ·refine yc 1 ⟨by omega,fun _ q=>he q.symm,by omega⟩ (by omega) ?_
    refine weak_all [] [] [] ?_;simp only[allQ,live,sim_self,yh,Int.natCast_zero,go_sem,Nat.reduceEqDiff,↓reduceIte,reduceCtorEq];refine⟨by omega,fun i hi=>?_⟩
    rcases(show i=0\/i=1\/i=2 by omega)with rfl | rfl | rfl
    ·simp only[live,sim_self,go_sem,↓reduceIte,reduceCtorEq]
    ·simp only[if_neg (show ¬ (1:Nat)=0 by omega),live,sim_self,go_sem,↓reduceIte,reduceCtorEq]
    ·simp only[if_neg (show ¬ (2:Nat)=0 by omega),if_neg (show ¬ (2:Nat)=1 by omega),live,sim_self,go_sem,Nat.reduceEqDiff,↓reduceIte,reduceCtorEq]
  ·simp only[ybfa,ybhb,ybha,ybfi,ybfo,ybfs,varC,splice,go_sem,Nat.reduceEqDiff,Nat.reduceAdd,Nat.reduceLeDiff,Nat.reduceLT,↓reduceIte,reduceCtorEq];refine⟨fun _=>⟨by omega,fun he=>h2.use ?_,fun he=>⟨ikw (by omega) (by omega),?_⟩⟩,fun h=>by omega⟩
   ·simp only[thenO,go_sem,Nat.reduceEqDiff,Nat.reduceAdd,↓reduceIte,reduceCtorEq];have e:ybc g v x=(0,1):=by unfold ybc;rw[if_neg (by omega),if_pos he.symm]
    rw[e];exact Sim.refl _
   ·refine yc 2 ⟨by omega,fun _=>by omega,fun _ q=>he q.symm⟩ (by omega) ?_
    refine weak_all [] [] [] ?_;simp only[allQ,live,sim_self,yh,go_sem,Nat.reduceEqDiff,↓reduceIte,reduceCtorEq];refine⟨by omega,fun i hi=>?_⟩
    rcases(show i=0\/i=1\/i=2 by omega)with rfl | rfl | rfl
    ·simp only[live,sim_self,go_sem,↓reduceIte,reduceCtorEq]
    ·simp only[if_neg (show ¬ (1:Nat)=0 by omega),live,sim_self,go_sem,↓reduceIte,reduceCtorEq]
    ·simp only[if_neg (show ¬ (2:Nat)=0 by omega),if_neg (show ¬ (2:Nat)=1 by omega),live,sim_self,go_sem,Nat.reduceEqDiff,↓reduceIte,reduceCtorEq]
  ·simp only[ybfa,ybhb,ybha,ybfi,ybfo,ybfs,varC,splice,go_sem,Nat.reduceEqDiff,Nat.reduceAdd,Nat.reduceLeDiff,Nat.reduceLT,↓reduceIte,reduceCtorEq];refine⟨fun _=>⟨by omega,fun he=>h3.use ?_,fun he=>by omega⟩,fun h=>by omega⟩
   simp only[thenO,go_sem,Nat.reduceEqDiff,Nat.reduceAdd,↓reduceIte,reduceCtorEq];have e:ybc g v x=(-1,((g.ports.getD v []).length:Int) - 1):=by unfold ybc;rw[if_neg (by omega),if_neg (by omega),if_pos he.symm]
   rw[e];exact Sim.refl _
def yhq(n:Nat)(vars:List VarR)(b:Nat->VarR->Int × Int):SV:=.sl 1 n (fun v=>[.sl 2 vars.length (fun i=>[.i .i64 (b v (vars.getD i default)).1,.i .i64 (b v (vars.getD i default)).2])])
def rowT(vars:List VarR)(b:VarR->Int × Int):SV:=.sl 2 vars.length (fun i=>[.i .i64 (b (vars.getD i default)).1,.i .i64 (b (vars.getD i default)).2])
theorem yxn(p:ProgR){g:Gr}(hg:GoodG g)(hp:p.vars.all VarR.ok=true)(hl:p.vars.length<=6):Returns Tryz.prog 144 [.ag (ymb p),grV g] (yhq g.ids.length p.vars (ybc g)):=by
 refine Returns.of (ycwt _ _ ?_);have h24:=hg.2.1;have hid:=hg.2.2.1;obtain⟨n,hn⟩:∃ n,g.ids.length=n:=⟨_,rfl⟩;obtain⟨nv,hnv⟩:∃ k,p.vars.length=k:=⟨_,rfl⟩;rw[hn];rw[hnv]at hl;simp only[c144,ycdo,ycgh,ycfe,grV,yg,ymb,hn,go_sem,Nat.reduceEqDiff,Nat.reduceAdd,Nat.reduceLeDiff,Nat.reduceLT,↓reduceIte,reduceCtorEq];refine⟨by omega,?_⟩
 refine ybd (σ:=Nat) (fun k=>⟨[(15,.i .i64 k),(14,.i .i64 n),(5,.os (12,0) 0 n true),(2,.pt (2,0) 0 0),(3,.pt (3,0) 0 0)],
   [(2,.one (some ⟨58,true,3,1,fun _=>ymb p⟩)),(3,.one (some ⟨27,true,2,1,fun _=>[yg g.ids,yx g.ports]⟩)),
    (12,.one (some ⟨73,false,1,n,fun i=>[if i<k then rowT p.vars (ybc g i)else .a (.slice none 0 0)]⟩))]⟩) (fun k=>k<=n) (fun k=>n - k) 0 (Nat.zero_le _) ?_ ?_
 ·refine weak_all [] [] [] ?_;simp only[ymb,yg,hn,allQ,live,sim_self,Int.natCast_zero,go_sem,Nat.reduceEqDiff,↓reduceIte,reduceCtorEq];intro i _;rw[if_neg (by omega)]
  simp only[sim_self,go_sem]
 ·intro k hk;simp only[ycnc,ycfo,ycdg,yciz,ymb,ycn,splice,hnv,go_sem,Nat.reduceEqDiff,Nat.reduceAdd,Nat.reduceLeDiff,Nat.reduceLT,↓reduceIte,reduceCtorEq];refine⟨fun hlt=>⟨by omega,by omega,by omega,?_⟩,fun hlt=>?_⟩
  ·have hk':k<n:=by omega
   let b:Nat->Int × Int:=fun i=>ybc g k (p.vars.getD i default)
   refine ybd (σ:=Nat) (fun j=>⟨[(28,.i .i64 j),(26,ycn p.vars),(27,.i .i64 nv),(6,.i .i64 k),(15,.i .i64 k),(14,.i .i64 n),(5,.os (12,0) 0 n true),(2,.pt (2,0) 0 0),(3,.pt (3,0) 0 0)],
    [(2,.one (some ⟨58,true,3,1,fun _=>ymb p⟩)),(3,.one (some ⟨27,true,2,1,fun _=>[yg g.ids,yx g.ports]⟩)),
     (12,.one (some ⟨73,false,1,n,fun i=>[if i<k then rowT p.vars (ybc g i)else if i=k then .os (23,0) 0 nv true else .a (.slice none 0 0)]⟩)),
     (23,.one (some ⟨75,false,2,nv,fun i=>[.i .i64 (if i<j then(b i).1 else 0),.i .i64 (if i<j then(b i).2 else 0)]⟩))]⟩) (fun j=>j<=nv) (fun j=>nv - j) 0 (Nat.zero_le _) ?_ ?_
   ·refine weak_all [] [] [] ?_;simp only[ymb,ycn,hnv,allQ,live,sim_self,yh,Int.natCast_zero,go_sem,Nat.reduceEqDiff,↓reduceIte,reduceCtorEq];refine⟨fun i hi=>?_,fun i hi=>?_⟩
    ·by_cases q2:i=k
     ·simp only[if_pos q2,if_neg (show ¬ i<k by omega)]
      simp only[live,sim_self,go_sem,Nat.reduceEqDiff,↓reduceIte,reduceCtorEq]
     ·simp only[if_neg q2]
      by_cases q1:i<k
      ·simp only[if_pos q1];simp only[rowT,live,sim_self,go_sem,reduceCtorEq]
      ·simp only[if_neg q1];simp only[live,sim_self,go_sem,reduceCtorEq]
    ·simp only[if_neg (Nat.not_lt_zero i),and_self]
   ·intro j hj;simp only[ycmb,ycit,ycoh,ybum,ybrl,ymb,ycn,varC,splice,hnv,go_sem,Nat.reduceEqDiff,Nat.reduceAdd,Nat.reduceLT,↓reduceIte,reduceCtorEq];refine⟨fun hlt=>?_,fun hlt=>?_⟩
    ·have hj':j<nv:=by omega
     have hB:=yup hg (x:=p.vars.getD j default) (by
      rw[getD_at (by omega)]
      exact List.all_eq_true.1 hp _ (List.getElem_mem _)) (v:=k) (by omega)
     simp only[varC,grV]at hB;refine⟨by omega,by omega,by omega,by omega,by omega,hB.use ?_⟩
     simp only[thenO,splice,go_sem,Int.reduceToNat,Nat.reduceEqDiff,Nat.reduceAdd,Nat.reduceLeDiff,Nat.reduceMul,↓reduceIte,reduceCtorEq];refine⟨by omega,by omega,by omega,by decide,by omega,by omega,by omega,by decide,ikw (by omega) (by omega),?_⟩
     refine yc (j+1) (by omega) (by omega) ?_
     refine weak_all [] [] [] ?_;simp only[allQ,live,sim_self,yh,go_sem,Nat.reduceEqDiff,↓reduceIte,reduceCtorEq];refine⟨by omega,fun i hi=>?_,fun i hi=>?_⟩
     ·by_cases q1:i<k
      ·simp only[if_pos q1];simp only[rowT,sim_self,go_sem]
      ·simp only[if_neg q1]
       by_cases q2:i=k
       ·simp only[if_pos q2];simp only[live,sim_self,go_sem,Nat.reduceEqDiff,↓reduceIte]
       ·simp only[if_neg q2];simp only[sim_self,go_sem]
     ·by_cases q2:i=j
      ·subst q2;simp only[if_pos (Nat.lt_succ_self i),↓reduceIte];simp only[live,yh,go_sem,reduceCtorEq];exact⟨rfl,rfl⟩
      ·simp only[if_neg q2]
       by_cases q1:i<j
       ·simp only[if_pos q1,if_pos (show i<j+1 by omega)]
        simp only[live,sim_self,go_sem,reduceCtorEq]
       ·simp only[if_neg q1,if_neg (show ¬ i<j+1 by omega)]
        simp only[live,sim_self,go_sem,reduceCtorEq]
    ·obtain rfl:j=nv:=by omega
     refine⟨ikw (by omega) (by omega),?_⟩
     refine yc (k+1) (by omega) (by omega) ?_
     refine weak_all [] [] [(23,0)] ?_;simp only[allQ,live,sim_self,yh,go_sem,Nat.reduceEqDiff,Nat.reduceLeDiff,↓reduceIte,reduceCtorEq];refine⟨by omega,fun i hi=>?_⟩
     by_cases q1:i<k
     ·simp only[if_pos q1,if_pos (show i<k+1 by omega)]
      simp only[rowT,sim_self,go_sem]
     ·by_cases q2:i=k
      ·simp only[if_neg q1,if_pos q2,if_pos (show i<k+1 by omega)]
       subst q2;simp only[rowT,hnv,go_sem,Nat.reduceEqDiff,↓reduceIte];refine ygb fun q hq=>?_;simp only[if_pos hq];simp only[SimL,go_sem];exact⟨Sim.refl _,Sim.refl _⟩
      ·simp only[if_neg q1,if_neg q2,if_neg (show ¬ i<k+1 by omega)]
       simp only[sim_self,go_sem]
  ·obtain rfl:k=n:=by omega
   simp only[ybpv,go_sem,Nat.reduceEqDiff,Nat.reduceAdd,↓reduceIte,reduceCtorEq];refine⟨fun q hq=>by simp only[if_pos hq];simp only[rowT,go_sem],?_⟩
   refine ygb fun q hq=>?_;simp only[if_pos hq];simp only[SimL,sim_self,rowT,hnv,go_sem]
end Sh
end Go.Proofs.YtiejahgklcjhkaaGreatDoor

namespace Go.Proofs.YtiejahgklcjhkaaGreatDoor
namespace Sh
open Go Ev
set_option maxRecDepth 8000

theorem ybof(bs:Bounds)(s:List Int)(hl:bs.length<=1000):Returns Tryz.prog 192 [yu bs,yg s] (.b (yrs bs s)):=by
 refine Returns.of (ycse _ _ ?_);simp only[c192,ychi,ycjj,ycjv,ychh,yu,yg,sim_b,go_sem,Nat.reduceEqDiff,Nat.reduceAdd,↓reduceIte,reduceCtorEq];refine⟨fun h=>?_,fun h=>?_⟩
 ·have:¬ yrs bs s=true:=fun q=>h (by rw[((yea bs s).1 q).1])
  simpa using this
 have hlen:s.length=bs.length:=by omega
 refine ybd (σ:=Nat) (fun k=>⟨[(14,.i .i64 k),(13,.i .i64 s.length),(12,yg s),(0,yu bs)],[]⟩) (fun k=>k<=s.length /\ ∀ i,i<k->(bs.getD i (0,0)).1<=s.getD i 0/\s.getD i 0<=(bs.getD i (0,0)).2) (fun k=>s.length - k) 0 ⟨Nat.zero_le _,fun i h=>absurd h (Nat.not_lt_zero _)⟩ ?_ ?_
 ·refine weak_all [] [] [] ?_;simp only[yu,yg,allQ,live,sim_self,Int.natCast_zero,go_sem,Nat.reduceEqDiff,↓reduceIte,reduceCtorEq]
 ·intro k ⟨hk,hall⟩;simp only[ycok,ycgt,ycdw,ycpn,yclu,yceg,yu,yg,sim_b,go_sem,Int.reduceToNat,Nat.reduceEqDiff,Nat.reduceAdd,Nat.reduceLeDiff,Nat.reduceMul,↓reduceIte,reduceCtorEq]
  have hno:k<s.length -> ¬ ((bs.getD k (0,0)).1<=s.getD k 0/\s.getD k 0<=(bs.getD k (0,0)).2)->yrs bs s=false:=fun hlt hn=>by
   have:¬ yrs bs s=true:=fun q=>hn (by
    have hb:k<bs.length:=by omega
    have:=((yea bs s).1 q).2 k bs[k] s[k] (List.getElem?_eq_getElem hb) (List.getElem?_eq_getElem hlt);rw[getD_at hlt,getD_at hb];exact this)
   simpa using this
  refine⟨fun hlt=>⟨by omega,by omega,by omega,fun h1=>⟨by omega,by omega,fun h2=>?_,fun h2=>⟨ikw (by omega) (by omega),?_⟩⟩,fun h1=>?_⟩,fun hlt=>?_⟩
  ·rw[hno (by omega) (by omega)]
  ·refine yc (k+1) ⟨by omega,fun i hi=>?_⟩ (by omega) ?_
   ·by_cases q:i<k
    ·exact hall i q
    ·obtain rfl:i=k:=by omega
     omega
   ·refine weak_all [] [] [] ?_;simp only[allQ,live,sim_self,yh,go_sem,Nat.reduceEqDiff,↓reduceIte,reduceCtorEq];simp
  ·rw[hno (by omega) (by omega)]
  ·obtain rfl:k=s.length:=by omega
   rw[(yea bs s).2 ⟨hlen,fun i b x hb hx=>by
    have h1:=(List.getElem?_eq_some_iff.1 hx).1;have:=hall i h1;simp only[List.getD,hb,hx,Option.getD_some]at this;exact this⟩]
theorem ybia{n:Nat}(vars:List VarR)(hv:vars.length<=1000)(b:Nat->VarR->Int × Int)(c:Conf)(hn:n<=1000):Returns Tryz.prog 156 [yhq n vars b,yba c] (.b (yph n (fun v=>vars.map (b v)) c)):=by
 refine Returns.of (ycqi _ _ ?_);simp only[c156,ycmt,ycdz,ycbp,ycgs,yhq,yba,sim_b,go_sem,Nat.reduceEqDiff,Nat.reduceAdd,↓reduceIte,reduceCtorEq];refine⟨fun h=>?_,fun h=>?_⟩
 ·rw[yho fun q=>h (by rw[q.1])]
 have hlen:c.length=n:=by omega
 refine ybd (σ:=Nat) (fun k=>⟨[(14,.i .i64 k),(13,.i .i64 n),(12,yhq n vars b),(1,yba c)],[]⟩) (fun k=>k<=n /\ ∀ (i:Nat) s,i<k->c[i]? = some s->ydp (vars.map (b i)) s) (fun k=>n - k) 0 ⟨Nat.zero_le _,fun i s h=>absurd h (Nat.not_lt_zero _)⟩ ?_ ?_
 ·refine weak_all [] [] [] ?_;simp only[yhq,yba,allQ,live,sim_self,Int.natCast_zero,go_sem,Nat.reduceEqDiff,↓reduceIte,reduceCtorEq]
 ·intro k ⟨hk,hall⟩;simp only[ycba,ycpf,ycav,ycgp,ycji,ycgz,yhq,yba,yg,sim_b,go_sem,Nat.reduceEqDiff,Nat.reduceAdd,↓reduceIte,reduceCtorEq];refine⟨fun hlt=>⟨by omega,by omega,?_⟩,fun hlt=>?_⟩
  ·have hS:=ybof (vars.map (b k)) (c.getD k []) (by simpa using hv)
   refine hS.useS ⟨?_,Sim.refl _,trivial⟩ ?_
   ·show Sim (.sl 2 vars.length _) (yu (vars.map (b k)));unfold yu;rw[List.length_map];refine sim_sl fun i hi=>?_;simp[List.getD,hi]
   ·simp only[thenO,sim_b,go_sem,Nat.reduceEqDiff,Nat.reduceAdd,↓reduceIte,reduceCtorEq];have hk':k<c.length:=by omega
    rw[getD_at hk'];refine⟨fun h1=>?_,fun h1=>⟨ikw (by omega) (by omega),?_⟩⟩
    ·rw[yho fun q=>by
      have:=(yea _ _).2 (q.2 k c[k] (List.getElem?_eq_getElem hk'));rw[this]at h1;cases h1]
    ·refine yc (k+1) ⟨by omega,fun i s hi hs=>?_⟩ (by omega) ?_
     ·by_cases q:i<k
      ·exact hall i s q hs
      ·obtain rfl:i=k:=by omega
       rw[List.getElem?_eq_getElem hk']at hs;cases hs
       exact(yea _ _).1 h1
     ·refine weak_all [] [] [] ?_;simp only[allQ,live,sim_self,yh,go_sem,Nat.reduceEqDiff,↓reduceIte,reduceCtorEq];simp
  ·obtain rfl:k=n:=by omega
   rw[yuk ⟨hlen,fun v s hs=>hall v s (by have:=(List.getElem?_eq_some_iff.1 hs).1;omega) hs⟩]
theorem yvx(c:Conf)(hc:∀ s ∈ c,0<s.length/\s.length<=1000)(hl:c.length<=1000):Returns Tryz.prog 132 [yba c] (yba c):=by
 refine Returns.of (ycwp _ _ ?_);obtain⟨n,hn⟩:∃ n,c.length=n:=⟨_,rfl⟩;rw[hn]at hl;simp only[c132,ybqq,yblr,ybsp,yba,hn,go_sem,Nat.reduceEqDiff,Nat.reduceAdd,Nat.reduceLT,↓reduceIte,reduceCtorEq];refine⟨by omega,?_⟩
 refine ybd (σ:=Nat) (fun k=>⟨[(11,.i .i64 k),(10,.i .i64 n),(9,yba c),(3,.os (8,0) 0 n true)],[(8,.one (some ⟨22,false,1,n,fun i=>[if i<k then yg (c.getD i [])else .a (.slice none 0 0)]⟩))]⟩) (fun k=>k<=n) (fun k=>n - k) 0 (Nat.zero_le _) ?_ ?_
 ·refine weak_all [] [] [] ?_;simp only[yba,hn,allQ,live,sim_self,Int.natCast_zero,go_sem,Nat.reduceEqDiff,↓reduceIte,reduceCtorEq];intro i _;rw[if_neg (by omega)]
  simp only[sim_self,go_sem]
 ·intro k hk
  have hrow:k<n->0<(c.getD k []).length/\(c.getD k []).length<=1000:=fun h=>by
   have:=hc (c.getD k []) (by rw[getD_at (show k<c.length by omega)];exact List.getElem_mem _)
   exact this
  by_cases hlt:k<n
  ·have hr:=hrow (by omega)
   have hr0:¬ (c.getD k []).length=0:=by omega
   have ht:decide ((k:Int)<(n:Int))=true:=decide_eq_true (by omega)
   simp only[ybaz,yzf,ybaq,yzg,yzi,yba,yg,splice,hn,hr0,ht,go_sem,Nat.reduceEqDiff,Nat.reduceAdd,Nat.reduceLT,↓reduceIte,reduceCtorEq];refine⟨by omega,by omega,by omega,by omega,ikw (by omega) (by omega),?_⟩
   refine yc (k+1) (by omega) (by omega) ?_
   refine weak_all [] [] [(19,0)] ?_;simp only[allQ,live,sim_self,yh,go_sem,Nat.reduceEqDiff,↓reduceIte,reduceCtorEq];refine⟨by omega,fun i hi=>?_⟩
   by_cases q2:i=k
   ·subst q2;simp only[if_pos (Nat.lt_succ_self i),↓reduceIte];simp only[live,sim_self,go_sem,Nat.reduceEqDiff,↓reduceIte,reduceCtorEq]
   ·simp only[if_neg q2]
    by_cases q1:i<k
    ·simp only[if_pos q1,if_pos (show i<k+1 by omega)]
     simp only[live,sim_self,go_sem,reduceCtorEq]
    ·simp only[if_neg q1,if_neg (show ¬ i<k+1 by omega)]
     simp only[live,sim_self,go_sem,reduceCtorEq]
  ·obtain rfl:k=n:=by omega
   have ht:decide ((k:Int)<(k:Int))=false:=decide_eq_false (by omega)
   simp only[ybaz,yzf,ybaq,yzg,yzi,yba,yg,hn,ht,go_sem,Nat.reduceEqDiff,Nat.reduceAdd,↓reduceIte,reduceCtorEq];refine⟨fun q hq=>by simp only[if_pos hq];simp only[go_sem],?_⟩
   refine ygb fun q hq=>?_;simp only[if_pos hq];simp only[SimL,sim_self,go_sem]
theorem ybzd(c:Conf)(hc:∀ s ∈ c,0<s.length/\s.length<=1000)(hl:c.length<=1000):Cm Tryz.prog 132 [] [] [yba c] fun r o=>r = .os (8,0) 0 c.length true/\o = [(8,.one (some ⟨22,false,1,c.length,fun i=>[yg (c.getD i [])]⟩))]:=by
 refine ybxd [] [] _ _ _ ?_;obtain⟨n,hn⟩:∃ n,c.length=n:=⟨_,rfl⟩;rw[hn]at hl ⊢;simp only[c132,ybqq,yblr,ybsp,yba,hn,go_sem,Nat.reduceEqDiff,Nat.reduceAdd,Nat.reduceLT,↓reduceIte,reduceCtorEq];refine⟨by omega,?_⟩
 refine ybd (σ:=Nat) (fun k=>⟨[(11,.i .i64 k),(10,.i .i64 n),(9,yba c),(3,.os (8,0) 0 n true)],[(8,.one (some ⟨22,false,1,n,fun i=>[if i<k then yg (c.getD i [])else .a (.slice none 0 0)]⟩))]⟩) (fun k=>k<=n) (fun k=>n - k) 0 (Nat.zero_le _) ?_ ?_
 ·refine weak_all [] [] [] ?_;simp only[yba,hn,allQ,live,sim_self,Int.natCast_zero,go_sem,Nat.reduceEqDiff,↓reduceIte,reduceCtorEq];intro i _;rw[if_neg (by omega)]
  simp only[sim_self,go_sem]
 ·intro k hk
  have hrow:k<n->0<(c.getD k []).length/\(c.getD k []).length<=1000:=fun h=>by
   have:=hc (c.getD k []) (by rw[getD_at (show k<c.length by omega)];exact List.getElem_mem _)
   exact this
  by_cases hlt:k<n
  ·have hr:=hrow (by omega)
   have hr0:¬ (c.getD k []).length=0:=by omega
   have ht:decide ((k:Int)<(n:Int))=true:=decide_eq_true (by omega)
   simp only[ybaz,yzf,ybaq,yzg,yzi,yba,yg,splice,hn,hr0,ht,go_sem,Nat.reduceEqDiff,Nat.reduceAdd,Nat.reduceLT,↓reduceIte,reduceCtorEq];refine⟨by omega,by omega,by omega,by omega,ikw (by omega) (by omega),?_⟩
   refine yc (k+1) (by omega) (by omega) ?_
   refine weak_all [] [] [(19,0)] ?_;simp only[allQ,live,sim_self,yh,go_sem,Nat.reduceEqDiff,↓reduceIte,reduceCtorEq];refine⟨by omega,fun i hi=>?_⟩
   by_cases q2:i=k
   ·subst q2;simp only[if_pos (Nat.lt_succ_self i),↓reduceIte];simp only[live,sim_self,go_sem,Nat.reduceEqDiff,↓reduceIte,reduceCtorEq]
   ·simp only[if_neg q2]
    by_cases q1:i<k
    ·simp only[if_pos q1,if_pos (show i<k+1 by omega)]
     simp only[live,sim_self,go_sem,reduceCtorEq]
    ·simp only[if_neg q1,if_neg (show ¬ i<k+1 by omega)]
     simp only[live,sim_self,go_sem,reduceCtorEq]
  ·obtain rfl:k=n:=by omega
   have ht:decide ((k:Int)<(k:Int))=false:=decide_eq_false (by omega)
   simp only[ybaz,yzf,ybaq,yzg,yzi,yba,yg,hn,ht,yev,go_sem,Nat.reduceEqDiff,Nat.reduceAdd,↓reduceIte,reduceCtorEq];refine⟨.os (8,0) 0 k true,[(8,.one (some ⟨22,false,1,k,fun i=>[yg (c.getD i [])]⟩))],?_,?_,rfl,rfl⟩
   ·refine weak_all [] [] [] ?_;simp only[yg,allQ,live,sim_self,go_sem,↓reduceIte,reduceCtorEq];intro i hi;simp only[if_pos hi];simp only[sim_self,go_sem]
   ·simp only[famCln,obCln,allQ,live,go_sem,↓reduceIte]
end Sh
end Go.Proofs.YtiejahgklcjhkaaGreatDoor

namespace Go.Proofs.YtiejahgklcjhkaaGreatDoor
namespace Sh
open Go Ev
set_option maxRecDepth 8000

theorem yfr(p:ProgR){g:Gr}(hg:GoodG g){nv:Nat}{c:Conf}(hc:ConfIn g.ports.length nv c){v:Nat}(hv:v<g.ports.length)(e:List Tm)(hl:e.length<=1000):∀ x:Ex,ybml p g nv c v e x
 | .leaf op arg=>by
  intro bnd port at_ rest ho hp hpi he;obtain⟨d1,d2,d3⟩:=ydu (show e.drop at_=(op,arg) :: rest from he)
  have hL:=ybvi p hg hc hv e ho port hp;have hr:=ho;simp only[Ex.ok,Bool.and_eq_true,decide_eq_true_eq]at hr;simp only[yhj,yu]at hL;refine Returns.of (yrh _ _ ?_);simp only[c220,ytr,yuf,yux,yud,yuu,yub,yur,yug,yuc,yth,ymk,ynk,ynz,ynu,ynd,ync,ynn,ymp,ymy,yhj,yu,d2,splice,go_sem,Nat.reduceEqDiff,Nat.reduceAdd,Nat.reduceLeDiff,Nat.reduceLT,↓reduceIte,reduceCtorEq]
  refine⟨by omega,fun h=>hL.use ?_,fun h=>by omega⟩
  simp only[thenO,go_sem,Nat.reduceEqDiff,Nat.reduceAdd,↓reduceIte,reduceCtorEq];refine⟨ikw (by omega) (by omega),?_⟩
  exact Sim.refl _
 | .un op a=>by
  intro bnd port at_ rest ho hp hpi he;obtain⟨d1,d2,d3⟩:=ydu (show e.drop at_=(op,0) :: (a.ser ++ rest)from he)
  have hr:=ho;simp only[Ex.ok,Bool.and_eq_true,decide_eq_true_eq]at hr;have hV:=yfr p hg hc hv e hl a bnd port (at_+1) rest hr.2 hp hpi d3;rw[show((at_+1:Nat):Int)=(at_:Int)+1 by omega]at hV
  have hU:=ybps op (yep g c v a port) (yfq hg rfl hc hv a hr.2 hp hpi);simp only[yhj,yu]at hV;refine Returns.of (yrh _ _ ?_);simp only[c220,ytr,yuf,yux,yud,yuu,yub,yur,yug,yuc,yth,ymk,ynk,ynz,ynu,ynd,ync,ynn,ymp,ymy,yhj,yu,d2,splice,go_sem,Nat.reduceEqDiff,Nat.reduceAdd,Nat.reduceLeDiff,Nat.reduceLT,↓reduceIte,reduceCtorEq]
  refine⟨by omega,fun h=>by omega,fun h=>⟨fun h=>⟨ikw (by omega) (by omega),hV.use ?_⟩,fun h=>by omega⟩⟩
  simp only[thenO,go_sem,Nat.reduceEqDiff,Nat.reduceAdd,Nat.reduceLeDiff,↓reduceIte,reduceCtorEq];refine hU.use ?_;simp only[go_sem];rw[show at_+(Ex.un op a).ser.length=at_+1+a.ser.length by simp[Ex.ser];omega]
  exact Sim.refl _
 | .agg op a=>by
  intro bnd port at_ rest ho hp hpi he;obtain⟨d1,d2,d3⟩:=ydu (show e.drop at_=(op,0) :: (a.ser ++ rest)from he)
  have hr:=ho;simp only[Ex.ok,Bool.and_eq_true,decide_eq_true_eq]at hr;have ho2:(Ex.agg op a).ok nv true=true:=by simp only[Ex.ok,Bool.and_eq_true,decide_eq_true_eq];exact hr
  have hA:=yxe p hg hc hv e hl ho2 (yfr p hg hc hv e hl a) at_ rest he;simp only[yhj,yu]at hA;refine Returns.of (yrh _ _ ?_);simp only[c220,ytr,yuf,yux,yud,yuu,yub,yur,yug,yuc,yth,ymk,ynk,ynz,ynu,ynd,ync,ynn,ymp,ymy,yhj,yu,d2,splice,go_sem,Nat.reduceEqDiff,Nat.reduceAdd,Nat.reduceLeDiff,Nat.reduceLT,↓reduceIte,reduceCtorEq]
  refine⟨by omega,fun h=>by omega,fun h=>⟨fun h=>by omega,fun h=>⟨fun h=>hA.use ?_,fun h=>by omega⟩⟩⟩
  simp only[thenO,go_sem,Nat.reduceEqDiff,Nat.reduceAdd,↓reduceIte,reduceCtorEq];exact Sim.refl _
 | .bin op a b=>by
  intro bnd port at_ rest ho hp hpi he;obtain⟨d1,d2,d3⟩:=ydu (show e.drop at_=(op,0) :: ((a.ser ++ b.ser) ++ rest)from he)
  have hr:=ho;simp only[Ex.ok,Bool.and_eq_true,decide_eq_true_eq]at hr;rw[List.append_assoc]at d3
  have hfit:at_+1+a.ser.length<=e.length:=by
   have:=congrArg List.length d3;simp at this;omega
  have hV1:=yfr p hg hc hv e hl a bnd port (at_+1) _ hr.1.2 hp hpi d3;have hV2:=yfr p hg hc hv e hl b bnd port (at_+1+a.ser.length) _ hr.2 hp hpi (ypm d3);rw[show((at_+1:Nat):Int)=(at_:Int)+1 by omega]at hV1
  have hB:=ybki op (yep g c v a port) (yep g c v b port) (yfq hg rfl hc hv a hr.1.2 hp hpi) (yfq hg rfl hc hv b hr.2 hp hpi);simp only[yhj,yu]at hV1 hV2;refine Returns.of (yrh _ _ ?_);simp only[c220,ytr,yuf,yux,yud,yuu,yub,yur,yug,yuc,yth,ymk,ynk,ynz,ynu,ynd,ync,ynn,ymp,ymy,yhj,yu,d2,splice,go_sem,Nat.reduceEqDiff,Nat.reduceAdd,Nat.reduceLeDiff,Nat.reduceLT,↓reduceIte,reduceCtorEq]
  refine⟨by omega,fun h=>by omega,fun h=>⟨fun h=>by omega,fun h=>⟨fun h=>by omega,fun h=>⟨fun h=>⟨ikw (by omega) (by omega),hV1.use ?_⟩,fun h=>by omega⟩⟩⟩⟩
  simp only[thenO,go_sem,Nat.reduceEqDiff,Nat.reduceAdd,↓reduceIte,reduceCtorEq];refine hV2.use ?_;simp only[go_sem,Nat.reduceEqDiff,Nat.reduceAdd,Nat.reduceLeDiff,↓reduceIte];refine hB.use ?_;simp only[go_sem];rw[show at_+(Ex.bin op a b).ser.length=at_+1+a.ser.length+b.ser.length by simp[Ex.ser];omega]
  exact Sim.refl _
 | .ite x a b=>by
  intro bnd port at_ rest ho hp hpi he;obtain⟨d1,d2,d3⟩:=ydu (show e.drop at_=(43,0) :: ((x.ser ++ (a.ser ++ b.ser)) ++ rest)from he)
  have hr:=ho;simp only[Ex.ok,Bool.and_eq_true]at hr;rw[List.append_assoc,List.append_assoc]at d3
  have hfit:at_+1+x.ser.length+a.ser.length<=e.length:=by
   have:=congrArg List.length d3;simp at this;omega
  have hV1:=yfr p hg hc hv e hl x bnd port (at_+1) _ hr.1.1 hp hpi d3;have hV2:=yfr p hg hc hv e hl a bnd port (at_+1+x.ser.length) _ hr.1.2 hp hpi (ypm d3);have hV3:=yfr p hg hc hv e hl b bnd port (at_+1+x.ser.length+a.ser.length) _ hr.2 hp hpi (ypm (ypm d3));rw[show((at_+1:Nat):Int)=(at_:Int)+1 by omega]at hV1
  simp only[yhj,yu]at hV1 hV2 hV3;refine Returns.of (yrh _ _ ?_);simp only[c220,ytr,yuf,yux,yud,yuu,yub,yur,yug,yuc,yth,ymk,ynk,ynz,ynu,ynd,ync,ynn,ymp,ymy,yhj,yu,d2,splice,go_sem,Nat.reduceEqDiff,Nat.reduceAdd,Nat.reduceLeDiff,Nat.reduceLT,↓reduceIte,reduceCtorEq];refine⟨by omega,fun h=>by omega,fun h=>⟨fun h=>by omega,fun h=>⟨fun h=>by omega,fun h=>⟨fun h=>by omega,fun h=>⟨ikw (by omega) (by omega),hV1.use ?_⟩⟩⟩⟩⟩
  simp only[thenO,go_sem,Nat.reduceEqDiff,Nat.reduceAdd,↓reduceIte,reduceCtorEq];refine hV2.use ?_;simp only[go_sem,Nat.reduceEqDiff,↓reduceIte,reduceCtorEq];refine hV3.use ?_;simp only[go_sem,Nat.reduceEqDiff,Nat.reduceAdd,↓reduceIte,reduceCtorEq];rw[show at_+(Ex.ite x a b).ser.length=at_+1+x.ser.length+a.ser.length+b.ser.length by simp[Ex.ser];omega]
  refine⟨fun h0=>?_,fun h0=>?_⟩
  ·show Sim _ (.tp [.i .i64 (if _ then _ else _),_])
   rw[if_pos h0];exact Sim.refl _
  ·show Sim _ (.tp [.i .i64 (if _ then _ else _),_])
   rw[if_neg (not_not_intro h0)];exact Sim.refl _
theorem yzn(p:ProgR){g:Gr}(hg:GoodG g){nv:Nat}{c:Conf}(hc:ConfIn g.ports.length nv c){v:Nat}(hv:v<g.ports.length)(x:Ex)(hx:x.ok nv false=true)(hl:x.ser.length<=1000) :
  Returns Tryz.prog 193 [.rf (yek p g),yba c,.i .i64 v,yu x.ser] (.i .i64 (yep g c v x (-1))):=by
 have hV:=yfr p hg hc hv x.ser hl x false (-1) 0 [] hx (fun q=>by cases q) (by unfold InB;omega) (by simp)
 refine Returns.of (ycsu _ _ ?_);simp only[yhj,yek,yba,yg,yu,yx,ycr,Int.natCast_zero]at hV;simp only[c193,ycnw,ycjz,ycbo,ycny,yek,yba,yg,yu,yx,ycr,splice,go_sem,Nat.reduceEqDiff,Nat.reduceAdd,Nat.reduceLeDiff,Nat.reduceLT,↓reduceIte,reduceCtorEq];refine .inl (hV.use ?_);simp only[thenO,yh,go_sem,Nat.reduceEqDiff,Nat.reduceAdd,↓reduceIte,reduceCtorEq]
end Sh
end Go.Proofs.YtiejahgklcjhkaaGreatDoor

namespace Go.Proofs.YtiejahgklcjhkaaGreatDoor
open Go

theorem yiy{a:Nat}(h:a<2 ^ 32):IntKind.wrap .u32 (a:Int)=a:=by
 unfold IntKind.wrap;simp[IntKind.bits,IntKind.signed];omega
theorem u32_and{a b:Nat}(ha:a<2 ^ 32)(hb:b<2 ^ 32):IntKind.wrap .u32 (((BitVec.ofInt (IntKind.bits .u32) (a:Int)) &&& BitVec.ofInt (IntKind.bits .u32) (b:Int)).toNat:Int)=((a &&& b:Nat):Int):=by
 show IntKind.wrap .u32 (((BitVec.ofInt 32 (a:Int)) &&& BitVec.ofInt 32 (b:Int)).toNat:Int)=_;rw[BitVec.ofInt_natCast,BitVec.ofInt_natCast,BitVec.toNat_and,BitVec.toNat_ofNat,BitVec.toNat_ofNat,Nat.mod_eq_of_lt ha,Nat.mod_eq_of_lt hb];exact yiy (Nat.lt_of_le_of_lt Nat.and_le_left ha)
theorem u32_or{a b:Nat}(ha:a<2 ^ 32)(hb:b<2 ^ 32):IntKind.wrap .u32 (((BitVec.ofInt (IntKind.bits .u32) (a:Int)) ||| BitVec.ofInt (IntKind.bits .u32) (b:Int)).toNat:Int)=((a ||| b:Nat):Int):=by
 show IntKind.wrap .u32 (((BitVec.ofInt 32 (a:Int)) ||| BitVec.ofInt 32 (b:Int)).toNat:Int)=_;rw[BitVec.ofInt_natCast,BitVec.ofInt_natCast,BitVec.toNat_or,BitVec.toNat_ofNat,BitVec.toNat_ofNat,Nat.mod_eq_of_lt ha,Nat.mod_eq_of_lt hb];exact yiy (Nat.or_lt_two_pow ha hb)
theorem u32_andNot{a b:Nat}(ha:a<2 ^ 32)(hb:b<2 ^ 32):IntKind.wrap .u32 (((BitVec.ofInt (IntKind.bits .u32) (a:Int)) &&& ~~~BitVec.ofInt (IntKind.bits .u32) (b:Int)).toNat:Int)=((difB a b:Nat):Int):=by
 show IntKind.wrap .u32 (((BitVec.ofInt 32 (a:Int)) &&& ~~~BitVec.ofInt 32 (b:Int)).toNat:Int)=_
 have e:((BitVec.ofInt 32 (a:Int)) &&& ~~~BitVec.ofInt 32 (b:Int)).toNat=difB a b:=by
  rw[BitVec.ofInt_natCast,BitVec.ofInt_natCast];refine Nat.eq_of_testBit_eq fun i=>?_;rw[yhh,BitVec.testBit_toNat,BitVec.getLsbD_and,BitVec.getLsbD_not,BitVec.getLsbD_ofNat,BitVec.getLsbD_ofNat]
  by_cases hi:i<32
  ·simp[hi]
  ·rw[Nat.testBit_lt_two_pow (Nat.lt_of_lt_of_le ha (Nat.pow_le_pow_right (by omega) (by omega)))]
   simp
 rw[e];exact yiy (ybdt ha)
theorem u32_neg{a:Nat}(h0:0<a)(ha:a<2 ^ 32):IntKind.wrap .u32 (0 - (a:Int))=((2 ^ 32 - a:Nat):Int):=by
 unfold IntKind.wrap;simp[IntKind.bits,IntKind.signed];omega
theorem ylb{v:Nat}(hv:v<32):IntKind.wrap .u32 (1 * 2 ^ (v:Int).toNat)=((2 ^ v:Nat):Int):=by
 have h:2 ^ v<2 ^ 32:=Nat.pow_lt_pow_right (by omega) hv
 have:=yiy h;rw[Int.toNat_natCast,Int.one_mul];rw[<- this]
 norm_cast
theorem ybut{a v:Nat}:(a:Int).fdiv (2 ^ (v:Int).toNat)=((a >>> v:Nat):Int):=by
 rw[Int.toNat_natCast,Nat.shiftRight_eq_div_pow];rw[Int.fdiv_eq_ediv_of_nonneg _ (Int.pow_nonneg (by omega))]
 simp
theorem yctp(a v:Nat):((a >>> v) &&& 1=1) ↔ a.testBit v=true:=by
 rw[Nat.testBit,bne_iff_ne];rw[Nat.and_comm 1 (a >>> v)];rw[Nat.and_one_is_mod];omega
theorem ybev{s v:Nat}(hs:s<2 ^ 32):IntKind.wrap .u32 (((BitVec.ofInt (IntKind.bits .u32) ((s:Int).fdiv (2 ^ v))) &&& BitVec.ofInt (IntKind.bits .u32) 1).toNat:Int)=(((s >>> v) &&& 1:Nat):Int):=by
 have h:=ybut (a:=s) (v:=v);rw[Int.toNat_natCast]at h;rw[h];have h2:s >>> v<2 ^ 32:=by rw[Nat.shiftRight_eq_div_pow];exact Nat.lt_of_le_of_lt (Nat.div_le_self _ _) hs
 exact u32_and (a:=s >>> v) (b:=1) h2 (by decide)
theorem yqr{s v:Nat}:((((s >>> v) &&& 1:Nat):Int)=1) ↔ s.testBit v=true:=by
 rw[<- yctp s v];omega
def lowB(e:Nat):Nat:=e &&& (2 ^ 32 - e)
theorem ybgt(e:Nat):subB (lowB e) e:=fun i h=>by
 unfold lowB at h;rw[Nat.testBit_and,Bool.and_eq_true]at h;exact h.1
theorem ybav:∀ (n e:Nat),0<e->e<2 ^ n -> ∃ i q,i<n/\e=2 ^ i * (2 * q+1)
 | 0,e,h,h2=>by simp at h2;omega
 | n+1,e,h,h2=>by
  by_cases hp:e % 2=1
  ·exact⟨0,e / 2,by omega,by omega⟩
  ·obtain⟨i,q,h3,h4⟩:=ybav n (e / 2) (by omega) (by rw[Nat.pow_succ]at h2;omega)
   exact⟨i+1,q,by omega,by rw[Nat.pow_succ,Nat.mul_assoc,Nat.mul_left_comm,<- h4];omega⟩
theorem ycrx{e:Nat}(h0:e ≠ 0)(he:e<2 ^ 32):lowB e ≠ 0:=by
 obtain⟨i,q,hi,hq⟩:=ybav 32 e (by omega) he
 have h1:e.testBit i=true:=by
  rw[hq,Nat.testBit_eq_decide_div_mod_eq,Nat.mul_div_cancel_left _ (Nat.two_pow_pos i)];simp
 have h2:(2 ^ 32 - e).testBit i=true:=by
  obtain⟨j,hj⟩:∃ j,32=i+(j+1):=⟨31 - i,by omega⟩
  have e1:2 ^ 32=2 ^ i * (2 * 2 ^ j):=by
   have:(2:Nat) ^ 32=2 ^ (i+(j+1)):=by rw[<- hj]
   rw[this,Nat.pow_add,Nat.pow_succ,Nat.mul_comm (2 ^ j) 2]
  have hlt:2 * q+1<2 * 2 ^ j:=by
   rw[e1,hq]at he;exact Nat.lt_of_mul_lt_mul_left he
  have e2:2 ^ 32 - e=2 ^ i * (2 * 2 ^ j - (2 * q+1)):=by rw[e1,hq,Nat.mul_sub]
  rw[e2,Nat.testBit_eq_decide_div_mod_eq,Nat.mul_div_cancel_left _ (Nat.two_pow_pos i)];simp;try omega
 intro hz;have:(lowB e).testBit i=true:=by unfold lowB;rw[Nat.testBit_and,h1,h2];rfl
 rw[hz]at this;simp at this
def resD(e w:Nat):Nat:=if w &&& e=0 then lowB e else w &&& e
end Go.Proofs.YtiejahgklcjhkaaGreatDoor

