/- Lemmas, joined: SgY SgZ SiA SiJ ScBf RdA Pa BfP Pg Ph Pb Pc TrA TrB WcA TrC Pd PrC WeA WeB Ht Dia. -/
import Derived.Test.YtiejahgklcjhkaaGreatDoorPkJ14
import Derived.Test.YtiejahgklcjhkaaGreatDoorPkJ12
import Derived.Test.YtiejahgklcjhkaaGreatDoorPkJ11
import Derived.Test.YtiejahgklcjhkaaGreatDoorPkJ8
set_option linter.unusedSimpArgs false
set_option linter.unusedVariables false
namespace Go.Proofs.YtiejahgklcjhkaaGreatDoor
open Go
def ycy(v m:Int):Int:=if m<1 then 0 else v % m
def atP(l:List Int)(i:Nat):Int:=l.getD i 0
theorem yds{v m:Int}(h:1<=m):0<=ycy v m/\ycy v m<m:=by
 unfold ycy;rw[if_neg (by omega)]
 exact⟨Int.emod_nonneg _ (by omega),Int.emod_lt_of_pos _ (by omega)⟩
namespace Sh
open Ev Go.RowKit
set_option maxRecDepth 8000
theorem ybep{v m:Int}(h:1<=m):(if v.tmod m<0 then v.tmod m+m else v.tmod m)=v % m:=by
 have h1:=Int.emod_add_mul_ediv v m;have h2:=Int.emod_nonneg v (show m ≠ 0 by omega)
 have h3:=Int.emod_lt_of_pos v (show 0<m by omega)
 have h4:=Int.tmod_eq_emod (a:=v) (b:=m);have h5:(m.natAbs:Int)=m:=by omega
 rw[h4]
 by_cases q:0<=v\/m ∣ v
 ·simp only[if_pos q,Int.natCast_zero,Int.sub_zero];rw[if_neg (by omega)]
 ·simp only[if_neg q,h5];rw[if_pos (by omega)]
  omega
theorem ydr(v m:Int)(hm:m<=4611686018427387904)(hv:inK .i64 v):Returns Tryz.prog 39 [.i .i64 v,.i .i64 m] (.i .i64 (ycy v m)):=by
 refine Returns.of (ycyl _ _ ?_);simp only[c39,ydcp,ycyj,yczg,ycxp,ycyh,ycxh,ycxy,yu,go_sem,Nat.reduceEqDiff,Nat.reduceAdd,↓reduceIte,reduceCtorEq];unfold ycy;refine⟨fun h=>by rw[if_pos h],fun h=>⟨by omega,fun h2=>?_,fun h2=>?_⟩⟩
 ·have h3:=ybep (v:=v) (show 1<=m by omega)
  rw[if_pos h2]at h3;rw[if_neg h,h3];have h4:=Int.emod_nonneg v (show m ≠ 0 by omega)
  have h5:=Int.emod_lt_of_pos v (show 0<m by omega)
  exact⟨ikw (by omega) (by omega),rfl⟩
 ·have h3:=ybep (v:=v) (show 1<=m by omega)
  rw[if_neg h2]at h3;rw[if_neg h,h3]
theorem at_ret(l:List Int)(i:Nat):Returns Tryz.prog 77 [yj l,.i .i64 i] (.i .i64 (atP l i)):=by
 refine Returns.of (ycwr _ _ ?_);simp only[c77,ydag,ycxn,ycxb,ydda,yj,yu,go_sem,Nat.reduceEqDiff,Nat.reduceAdd,↓reduceIte,reduceCtorEq];exact⟨fun h=>⟨by omega,rfl⟩,fun h=>by unfold atP;rw[List.getD,List.getElem?_eq_none (by omega)];rfl⟩
theorem wrap32(z:Int):0<=IntKind.wrap .u32 z/\IntKind.wrap .u32 z<2 ^ 32:=by
 unfold IntKind.wrap;simp only[IntKind.signed,IntKind.bits];exact⟨Int.emod_nonneg _ (by decide),Int.emod_lt_of_pos _ (by decide)⟩
theorem yqr{α:Type}(l:List α)(x d:α)(i:Nat):(l ++ [x]).getD i d=if i<l.length then l.getD i d else if i=l.length then x else d:=by
 by_cases h:i<l.length
 ·simp[List.getD,List.getElem?_append_left h,h]
 ·by_cases e:i=l.length
  ·subst e;simp[List.getD]
  ·rw[if_neg h,if_neg e,List.getD,List.getElem?_eq_none (by simp;omega)]
   rfl
theorem ytd(l:List Nat)(hb:∀ k,l.getD k 0<2 ^ 32)(n:Nat)(hn:n<=1000):Ct Tryz.prog 26 [usV l,.i .i64 n] fun r=>∃ ws:List Nat,ws.length=n/\(∀ k,ws.getD k 0<2 ^ 32)/\Sim r (usV ws):=by
 refine ycyw _ _ ?_;simp only[c26,ycyx,yddq,ycvo,usV,go_sem,↓reduceIte];refine ybd (σ:=List Nat) (fun ws=>⟨[(6,.i .i64 ws.length),(1,.i .i64 n),(0,usV l),(5,.os (100,0) 0 ws.length true)],[(100,.one (some ⟨40,false,1,ws.length,fun k=>[.i .u32 (ws.getD k 0:Nat)]⟩))]⟩) (fun ws=>ws.length<=n /\ ∀ k,ws.getD k 0<2 ^ 32) (fun ws=>n - ws.length) [] ⟨Nat.zero_le _,fun k=>by simp⟩ ?_ ?_
 ·refine yg [] [100] [] ?_;simp only[usV,allQ,live,yc,Int.natCast_zero,go_sem,Nat.reduceEqDiff,↓reduceIte,reduceCtorEq];exact⟨(100,0),rfl,rfl,rfl⟩
 ·rintro ws ⟨h1,h2⟩;simp only[ycwc,yddj,usV,go_sem,Nat.reduceEqDiff,Nat.reduceAdd,↓reduceIte,reduceCtorEq];refine⟨fun hlt=>⟨fun h0=>?_,fun h0=>?_⟩,fun hlt=>?_⟩
  ·simp only[ycth,yddb,splice,go_sem,Nat.reduceEqDiff,Nat.reduceAdd,Nat.reduceLeDiff,Nat.reduceLT,↓reduceIte,reduceCtorEq];refine⟨⟨by omega,by omega⟩,ikw (by omega) (by omega),?_⟩
   refine yh (ws ++ [4294967295]) ⟨by simp;omega,fun k=>?_⟩ (by simp;omega) ?_
   ·rw[yqr];split
    ·exact h2 k
    ·split<;>decide
   refine yg [(100,fun i=>(19,i))] [] [] ?_;simp only[List.length_append,allQ,live,yc,yu,go_sem,Nat.reduceEqDiff,↓reduceIte,reduceCtorEq];refine⟨by omega,fun i hi=>?_⟩
   rw[yqr]
   by_cases q:i<ws.length
   ·simp only[if_pos q];simp only[live,yc,go_sem,reduceCtorEq]
   ·obtain rfl:i=ws.length:=by omega
    simp only[if_neg q,Nat.sub_self,Nat.zero_mul];simp only[live,yu,go_sem,↓reduceIte,reduceCtorEq];rfl
  ·simp only[ycxe,ycxz,clash,go_sem,Nat.reduceEqDiff,Nat.reduceAdd,↓reduceIte,reduceCtorEq];have hl0:0<l.length:=by omega
   have t1:(ws.length:Int).tmod (l.length:Int)=((ws.length % l.length:Nat):Int):=(Int.ofNat_tmod _ _).symm;have t2:(ws.length:Int).tdiv (l.length:Int)=((ws.length / l.length:Nat):Int):=(Int.ofNat_tdiv _ _).symm;have t3:((ws.length / l.length:Nat):Int).tmod 24=((ws.length / l.length % 24:Nat):Int):=(Int.ofNat_tmod _ 24).symm;have hlt1:=Nat.mod_lt ws.length hl0;have hle1:=Nat.div_le_self ws.length l.length
   obtain⟨D,hD⟩:∃ D,ws.length / l.length=D:=⟨_,rfl⟩;rw[hD]at t2 t3 hle1;obtain⟨K,hK⟩:∃ K,D % 24=K:=⟨_,rfl⟩;have hK24:K<24:=by rw[<- hK];exact Nat.mod_lt _ (by decide)
   have t4:IntKind.wrap .u64 (K:Int)=K:=by unfold IntKind.wrap;simp[IntKind.bits,IntKind.signed];omega
   simp only[t1,t2,t3,hK,t4]
   generalize IntKind.wrap .u32 _=A
   refine⟨by omega,⟨by omega,by omega⟩,⟨by omega,ikw (by omega) (by omega)⟩,by decide,?_⟩
   simp only[ycth,ydap,splice,go_sem,Nat.reduceEqDiff,Nat.reduceAdd,Nat.reduceLeDiff,Nat.reduceLT,↓reduceIte,reduceCtorEq]
   generalize hZ:IntKind.wrap .u32 ((BitVec.toNat _:Nat):Int)=Z
   have hz:0<=Z/\Z<2 ^ 32:=by rw[<- hZ];exact wrap32 _
   obtain⟨z,rfl⟩:∃ z:Nat,Z=z:=⟨Z.toNat,by omega⟩
   refine⟨⟨by omega,by show _<((32:Nat):Int);omega⟩,⟨by simp[IntKind.min,IntKind.signed];omega,by simp[IntKind.max,IntKind.bits,IntKind.signed];omega⟩,⟨by omega,by show _<((32:Nat):Int);omega⟩,⟨by omega,by omega⟩,ikw (by omega) (by omega),?_⟩
   refine yh (ws ++ [z]) ⟨by simp;omega,fun k=>?_⟩ (by simp;omega) ?_
   ·rw[yqr];split
    ·exact h2 k
    ·split<;>omega
   refine yg [(100,fun i=>(46,i))] [] [] ?_;simp only[List.length_append,allQ,live,yc,yu,go_sem,Nat.reduceEqDiff,↓reduceIte,reduceCtorEq];refine⟨by omega,fun i hi=>?_⟩
   rw[yqr]
   by_cases q:i<ws.length
   ·simp only[if_pos q];simp only[live,yc,go_sem,reduceCtorEq]
   ·obtain rfl:i=ws.length:=by omega
    simp only[if_neg q,Nat.sub_self,Nat.zero_mul];simp only[live,yc,go_sem,↓reduceIte,reduceCtorEq]
  ·simp only[ycfy,go_sem,Nat.reduceEqDiff,Nat.reduceAdd,↓reduceIte,reduceCtorEq];exact⟨ws,by omega,h2,Sim.refl _⟩
end Sh
end Go.Proofs.YtiejahgklcjhkaaGreatDoor

namespace Go.Proofs.YtiejahgklcjhkaaGreatDoor
open Go
namespace Sh
open Ev Go.RowKit
set_option maxRecDepth 8000
def yrj(l:List Int)(k:Nat):Int:=(l.take k).foldl max 0
theorem ybum{l:List Int}(h:∀ x ∈ l,0<=x/\x<=255):∀ k,0<=yrj l k/\yrj l k<=255:=by
 intro k;unfold yrj
 have:∀ (l:List Int) (a:Int),(∀ x ∈ l,0<=x/\x<=255)->0<=a/\a<=255->0<=l.foldl max a/\l.foldl max a<=255:=by
  intro l
  induction l with
  | nil=>intro a _ h;exact h
  | cons x l ih=>intro a hl ha;exact ih _ (fun y hy=>hl y (List.mem_cons_of_mem _ hy)) (by have:=hl x List.mem_cons_self;omega)
 exact this _ 0 (fun x hx=>h x (List.mem_of_mem_take hx)) (by omega)
theorem ybid{l:List Int}{k:Nat}(hk:k<l.length):yrj l (k+1)=max (yrj l k) (l.getD k 0):=by
 unfold yrj;rw[List.take_succ_eq_append_getElem hk,List.foldl_append,getD_at hk];rfl
theorem ybkz{l:List Int}(h:∀ x ∈ l,0<=x/\x<=255)(hl:0<l.length):yrj l l.length=maxI l:=by
 unfold yrj;rw[List.take_length];exact(ybew hl fun x hx=>(h x hx).1).symm
theorem ymj{vars:List VarR}{b:VarR->Int × Int}{L:List Int}(h:ydp ((vars.take L.length).map b) L)(hl:L.length<vars.length){y:Int}(hy:(b (vars.getD L.length default)).1<=y/\y<=(b (vars.getD L.length default)).2):ydp ((vars.take (L ++ [y]).length).map b) (L ++ [y]):=by
 refine⟨by simp;omega,fun i c x hb hx=>?_⟩
 rw[List.length_append,List.length_singleton,List.getElem?_map]at hb;have hi:i<L.length+1:=by have:=(List.getElem?_eq_some_iff.1 hx).1;simpa using this
 rw[List.getElem?_take_of_lt hi]at hb
 by_cases q:i<L.length
 ·rw[List.getElem?_append_left q]at hx;refine h.2 i c x ?_ hx;rw[List.getElem?_map,List.getElem?_take_of_lt q];exact hb
 ·obtain rfl:i=L.length:=by omega
  rw[List.getElem?_append_right (Nat.le_refl _),Nat.sub_self]at hx;cases hx
  rw[List.getElem?_eq_getElem hl]at hb;cases hb
  rw[getD_at hl]at hy;exact hy
section
variable {p:ProgT} {g:Gr}
theorem ysq(hg:ybb g)(hp:p.ok=true)(hf:yud p g=true){raw:List Int}(hr:∀ k,inK .i64 (raw.getD k 0)) :
  Ct Tryz.prog 24 [grV g,ych p.vars,yj raw] fun r=>∃ c,yfp p g c=true/\Sim r (ybe c):=by
 refine ydbt _ _ ?_;have hid:=hg.2.2.1;have h24:=hg.2.1;have h1:=hg.1;have hids:=hg.2.2.2.1;simp only[c24,yczj,ycwv,ydch,grV,yw,go_sem,Nat.reduceEqDiff,Nat.reduceAdd,Nat.reduceLT,↓reduceIte,reduceCtorEq];obtain⟨n,hn⟩:∃ n,g.ports.length=n:=⟨_,rfl⟩;refine ybd (σ:=Nat) (fun k=>⟨[(9,.i .i64 k),(8,.i .i64 (yrj g.ids k)),(7,.i .i64 n),(3,.pt (3,0) 0 0),(1,ych p.vars),(2,yj raw)],[(3,.one (some ⟨27,true,2,1,fun _=>[yj g.ids,yw g.ports]⟩))]⟩) (fun k=>k<=n) (fun k=>n - k) 0 (Nat.zero_le _) ?_ ?_
 ·refine yg [] [] [] ?_;simp only[yw,hn,allQ,live,yc,yu,Int.natCast_zero,go_sem,Nat.reduceEqDiff,↓reduceIte,reduceCtorEq];rfl
 ·intro k hk;have htop:=ybum hids k;simp only[ycvk,ycwx,yczq,yddi,ycvp,yj,go_sem,Nat.reduceEqDiff,Nat.reduceAdd,Nat.reduceLeDiff,↓reduceIte,reduceCtorEq];refine⟨fun hlt=>?_,fun hlt=>?_⟩
  ·have hs:=ybid (l:=g.ids) (k:=k) (by omega)
   refine⟨by omega,ikw (by omega) (by omega),?_⟩
   refine yh (k+1) (by omega) (by omega) ?_
   refine yg [] [] [] ?_;simp only[allQ,live,yc,yu,go_sem,Nat.reduceEqDiff,↓reduceIte,reduceCtorEq];exact⟨by omega,hs.symm⟩
  ·obtain rfl:k=n:=by omega
   have htm:yrj g.ids k=maxI g.ids:=by rw[<- hn,<- hid];exact ybkz hids (by omega)
   rw[htm]at htop ⊢;obtain⟨top,htp⟩:∃ t,maxI g.ids=t:=⟨_,rfl⟩;rw[htp]at htop ⊢;obtain⟨nv,hnv⟩:∃ k,p.vars.length=k:=⟨_,rfl⟩;have hp':=hp;unfold ProgT.ok at hp';simp only[Bool.and_eq_true,decide_eq_true_eq]at hp'
   refine ybd (σ:=Conf) (fun C=>⟨[(11,.i .i64 C.length),(10,.os (300,0) 0 C.length true),(8,.i .i64 top),(7,.i .i64 k),(3,.pt (3,0) 0 0),(1,ych p.vars),(2,yj raw)],
    [(3,.one (some ⟨27,true,2,1,fun _=>[yj g.ids,yw g.ports]⟩)),(300,.one (some ⟨22,false,1,C.length,fun j=>[yj (C.getD j [])]⟩))]⟩)
    (fun C=>C.length<=k /\ ∀ v,v<C.length->ydp (p.vars.map (ybc g v)) (C.getD v [])) (fun C=>k - C.length) [] ⟨Nat.zero_le _,fun v hv=>absurd hv (Nat.not_lt_zero v)⟩ ?_ ?_
   ·refine yg [] [300] [] ?_;simp only[yj,yw,allQ,live,yc,Int.natCast_zero,go_sem,Nat.reduceEqDiff,Nat.reduceBEq,↓reduceIte,reduceCtorEq];exact⟨(300,0),rfl,rfl,rfl⟩
   ·rintro C ⟨hC1,hC2⟩;simp only[ycyr,yclr,ycka,yj,go_sem,Nat.reduceEqDiff,Nat.reduceAdd,↓reduceIte,reduceCtorEq];refine⟨fun hlt=>?_,fun hlt=>?_⟩
    ·refine ybd (σ:=List Int) (fun L=>⟨[(13,.i .i64 L.length),(12,.os (301,0) 0 L.length true),(11,.i .i64 C.length),(10,.os (300,0) 0 C.length true),(8,.i .i64 top),(7,.i .i64 k),(3,.pt (3,0) 0 0),(1,ych p.vars),(2,yj raw)],
      [(301,.one (some ⟨3,false,1,L.length,fun j=>[.i .i64 (L.getD j 0)]⟩)),(3,.one (some ⟨27,true,2,1,fun _=>[yj g.ids,yw g.ports]⟩)),(300,.one (some ⟨22,false,1,C.length,fun j=>[yj (C.getD j [])]⟩))]⟩)
      (fun L=>L.length<=nv/\ydp ((p.vars.take L.length).map (ybc g C.length)) L) (fun L=>nv - L.length) [] ⟨Nat.zero_le _,rfl,fun i b x hb=>by simp at hb⟩ ?_ ?_
     ·refine yg [] [301] [] ?_;simp only[yj,yw,allQ,live,yc,Int.natCast_zero,go_sem,Nat.reduceEqDiff,Nat.reduceBEq,↓reduceIte,reduceCtorEq];exact⟨(301,0),rfl,rfl,rfl⟩
     ·rintro L ⟨hL1,hL2⟩;obtain⟨x,hx⟩:∃ x,p.vars.getD L.length default=x:=⟨_,rfl⟩;simp only[ycgr,ycdd,ycns,yj,ych,hnv,hx,varC,clash,go_sem,Nat.reduceEqDiff,Nat.reduceAdd,Nat.reduceLeDiff,↓reduceIte,reduceCtorEq];refine⟨fun hlt2=>?_,fun hlt2=>?_⟩
      ·have hLn:L.length<p.vars.length:=by omega
       have hxm:x ∈ p.vars:=by rw[<- hx,getD_at hLn];exact List.getElem_mem _
       have hxo:=List.all_eq_true.1 hp'.1.1.2 x hxm;have hvo:=yzv hxo;obtain⟨hb1,hb2⟩:=ylc hg hxo;rw[hid,hn]at hb1;rw[htp]at hb2;have hbn:=ybfb hg hp hf hxm C.length;have hidx:(C.length:Int) * (nv:Int)+(L.length:Int)=((C.length * nv+L.length:Nat):Int):=by push_cast;rfl
       have hdeg:=hg.deg_lt (v:=C.length);have hmi:(C.length:Int) * (nv:Int)=((C.length * nv:Nat):Int):=by push_cast;rfl
       have hmul:C.length * nv<=24 * 6:=Nat.mul_le_mul (by omega) (by omega)
       have hAt:=at_ret raw (C.length * nv+L.length);have hav:inK .i64 (atP raw (C.length * nv+L.length)):=hr _;simp only[yj]at hAt;refine⟨by omega,by omega,by omega,ikw (by omega) (by omega),ikw (by omega) (by omega),by omega,ikw (by omega) (by omega),ikw (by omega) (by omega),by omega,?_⟩
       rcases hvo.1 with hkk | hkk | hkk
       ·have hbt:ybc g C.length x=(x.lo,x.hi+x.perNode * (k:Int)+x.perID * top):=by
         unfold ybc;rw[if_pos hkk,hid,hn,htp]
        rw[hbt]at hbn;simp only[]at hbn;simp only[hkk];simp only[ybdf,ybdg,ybev,ybdk,ybex,clash,Int.reduceBEq,hidx,go_sem,Nat.reduceEqDiff,Nat.reduceAdd,↓reduceIte,reduceCtorEq];refine⟨by rw[hmi];exact ikw (by omega) (by omega),ikw (by omega) (by omega),hAt.use ?_⟩
        simp only[thenO,go_sem,Nat.reduceEqDiff,Nat.reduceAdd,Nat.reduceLT,↓reduceIte,reduceCtorEq];have hW:=ydr (atP raw (C.length * nv+L.length)) (x.hi+x.perNode * (k:Int)+x.perID * top - (x.lo)+1) (by omega) hav
        obtain⟨w1,w2⟩:=yds (v:=atP raw (C.length * nv+L.length)) (m:=x.hi+x.perNode * (k:Int)+x.perID * top - (x.lo)+1) (by omega)
        generalize ycy (atP raw (C.length * nv+L.length)) (x.hi+x.perNode * (k:Int)+x.perID * top - (x.lo)+1)=W at hW w1 w2
        refine⟨ikw (by omega) (by omega),ikw (by omega) (by omega),hW.use ?_⟩
        simp only[ybdc,go_sem,Nat.reduceEqDiff,Nat.reduceAdd,Nat.reduceLeDiff,↓reduceIte,reduceCtorEq];refine⟨ikw (by omega) (by omega),⟨by omega,by omega⟩,ikw (by omega) (by omega),?_⟩
        refine yh (L ++ [x.lo+W]) ⟨by simp;omega,ymj hL2 hLn (by rw[hx,hbt];exact⟨by simp only[];omega,by simp only[];omega⟩)⟩ (by simp;omega) ?_
        refine yg [(301,fun i=>(101,i))] [] [] ?_;simp only[yw,yba,hn,List.length_append,allQ,live,yc,yu,go_sem,Nat.reduceEqDiff,↓reduceIte,reduceCtorEq];refine⟨by omega,fun i hi=>?_⟩
        rw[yqr]
        by_cases q:i<L.length
        ·simp only[if_pos q];simp only[live,yc,go_sem,reduceCtorEq]
        ·obtain rfl:i=L.length:=by omega
         simp only[if_neg q,Nat.sub_self,Nat.zero_mul];simp only[live,yc,go_sem,↓reduceIte,reduceCtorEq]
       ·have hbt:ybc g C.length x=(0,1):=by
         unfold ybc;rw[if_neg (by omega),if_pos hkk]
        rw[hbt]at hbn;simp only[]at hbn;simp only[hkk];simp only[ybdf,ybdg,ybev,ybdk,ybex,clash,hidx,go_sem,Nat.reduceEqDiff,Nat.reduceAdd,↓reduceIte,reduceCtorEq];refine⟨by rw[hmi];exact ikw (by omega) (by omega),ikw (by omega) (by omega),hAt.use ?_⟩
        simp only[thenO,go_sem,Nat.reduceEqDiff,Nat.reduceAdd,Nat.reduceLT,↓reduceIte,reduceCtorEq];have hW:=ydr (atP raw (C.length * nv+L.length)) (1 - (0)+1) (by omega) hav
        obtain⟨w1,w2⟩:=yds (v:=atP raw (C.length * nv+L.length)) (m:=1 - (0)+1) (by omega)
        generalize ycy (atP raw (C.length * nv+L.length)) (1 - (0)+1)=W at hW w1 w2
        refine⟨ikw (by omega) (by omega),ikw (by omega) (by omega),hW.use ?_⟩
        simp only[ybdc,go_sem,Nat.reduceEqDiff,Nat.reduceAdd,Nat.reduceLeDiff,↓reduceIte,reduceCtorEq];refine⟨ikw (by omega) (by omega),⟨by omega,by omega⟩,ikw (by omega) (by omega),?_⟩
        refine yh (L ++ [0+W]) ⟨by simp;omega,ymj hL2 hLn (by rw[hx,hbt];exact⟨by simp only[];omega,by simp only[];omega⟩)⟩ (by simp;omega) ?_
        refine yg [(301,fun i=>(101,i))] [] [] ?_;simp only[yw,yba,hn,List.length_append,allQ,live,yc,yu,go_sem,Nat.reduceEqDiff,↓reduceIte,reduceCtorEq];refine⟨by omega,fun i hi=>?_⟩
        rw[yqr]
        by_cases q:i<L.length
        ·simp only[if_pos q];simp only[live,yc,go_sem,reduceCtorEq]
        ·obtain rfl:i=L.length:=by omega
         simp only[if_neg q,Nat.sub_self,Nat.zero_mul];simp only[live,yc,go_sem,↓reduceIte,reduceCtorEq]
       ·have hbt:ybc g C.length x=(-1,((g.ports.getD C.length []).length:Int) - 1):=by
         unfold ybc;rw[if_neg (by omega),if_neg (by omega),if_pos hkk]
        rw[hbt]at hbn;simp only[]at hbn;simp only[hkk];simp only[ybdf,ybdg,ybev,ybdk,ybex,clash,Int.reduceBEq,hidx,yw,yba,hn,go_sem,Nat.reduceEqDiff,Nat.reduceAdd,↓reduceIte,reduceCtorEq];refine⟨by omega,ikw (by omega) (by omega),by rw[hmi];exact ikw (by omega) (by omega),ikw (by omega) (by omega),hAt.use ?_⟩
        simp only[thenO,go_sem,Nat.reduceEqDiff,Nat.reduceAdd,Nat.reduceLT,↓reduceIte,reduceCtorEq];have hW:=ydr (atP raw (C.length * nv+L.length)) (((g.ports.getD C.length []).length:Int) - 1 - (-1)+1) (by omega) hav
        obtain⟨w1,w2⟩:=yds (v:=atP raw (C.length * nv+L.length)) (m:=((g.ports.getD C.length []).length:Int) - 1 - (-1)+1) (by omega)
        generalize ycy (atP raw (C.length * nv+L.length)) (((g.ports.getD C.length []).length:Int) - 1 - (-1)+1)=W at hW w1 w2
        refine⟨ikw (by omega) (by omega),ikw (by omega) (by omega),hW.use ?_⟩
        simp only[ybdc,go_sem,Nat.reduceEqDiff,Nat.reduceAdd,Nat.reduceLeDiff,↓reduceIte,reduceCtorEq];refine⟨ikw (by omega) (by omega),⟨by omega,by omega⟩,ikw (by omega) (by omega),?_⟩
        refine yh (L ++ [-1+W]) ⟨by simp;omega,ymj hL2 hLn (by rw[hx,hbt];exact⟨by simp only[];omega,by simp only[];omega⟩)⟩ (by simp;omega) ?_
        refine yg [(301,fun i=>(101,i))] [] [] ?_;simp only[List.length_append,allQ,live,yc,yu,go_sem,Nat.reduceEqDiff,↓reduceIte,reduceCtorEq];refine⟨by omega,fun i hi=>?_⟩
        rw[yqr]
        by_cases q:i<L.length
        ·simp only[if_pos q];simp only[live,yc,go_sem,reduceCtorEq]
        ·obtain rfl:i=L.length:=by omega
         simp only[if_neg q,Nat.sub_self,Nat.zero_mul];simp only[live,yc,go_sem,↓reduceIte,reduceCtorEq]
      ·have hLe:L.length=nv:=by omega
       rw[hLe,<- hnv,List.take_length]at hL2;simp only[ydbk,ycfh,splice,go_sem,Nat.reduceEqDiff,Nat.reduceAdd,Nat.reduceLeDiff,Nat.reduceLT,↓reduceIte,reduceCtorEq];refine⟨⟨by omega,by omega⟩,ikw (by omega) (by omega),?_⟩
       refine yh (C ++ [L]) ⟨by simp;omega,fun v hv=>?_⟩ (by simp;omega) ?_
       ·rw[yqr];split
        ·exact hC2 v (by assumption)
        ·have:v=C.length:=by simp at hv;omega
         subst this;rw[if_pos rfl];exact hL2
       refine yg [(300,fun i=>(105,i))] [] [(301,0)] ?_;simp only[yw,yba,hn,List.length_append,allQ,live,yc,yu,go_sem,Nat.reduceEqDiff,Nat.reduceLeDiff,↓reduceIte,reduceCtorEq];refine⟨by omega,fun i hi=>?_⟩
       have e:=yqr C L [] i;rw[e]
       by_cases q:i<C.length
       ·simp only[if_pos q];simp only[go_sem,live,yc,go_sem,reduceCtorEq]
       ·obtain rfl:i=C.length:=by omega
        simp only[if_neg q,Nat.sub_self,Nat.zero_mul,if_true];simp only[go_sem,live,yc,go_sem,Nat.reduceEqDiff,↓reduceIte,reduceCtorEq]
    ·simp only[ycck,go_sem,Nat.reduceEqDiff,Nat.reduceAdd,↓reduceIte,reduceCtorEq];refine⟨C,(ydz _ _ _).2 ⟨by omega,fun v st hst=>?_⟩,Sim.refl _⟩
     have hv:=(List.getElem?_eq_some_iff.1 hst).1;have:=hC2 v hv
     rwa [List.getD,hst]at this
end
end Sh
end Go.Proofs.YtiejahgklcjhkaaGreatDoor

namespace Go.Proofs.YtiejahgklcjhkaaGreatDoor
open Go
namespace Sh
open Ev Go.RowKit
set_option maxRecDepth 8000
def blV(l:List Bool):SV:=.sl 1 l.length (fun k=>[.b (l.getD k false)])
def ybwf(l:List Bool)(k:Nat):Bool:=(l.take k).any id
structure HeldOk(legit:List Bool)(ks:List Cnt)(rounds moves:Int)(ended:Bool):Prop where
 len:legit.length=ks.length
 pos:0<legit.length
 stays:∀ i,i<legit.length->ybwf legit i=true->legit.getD i false=true
 rounds:∀ i,i<legit.length->ybwf legit (i+1)=false->((ks.getD i default).begun:Int)<=rounds
 moves:∀ i,i<legit.length->ybwf legit (i+1)=false->0<=moves->((ks.getD i default).moves:Int)<=moves
 ends:ybwf legit legit.length=true\/ended=false
theorem ybkq{Q1 Q2:(Nat->Option ABlk)->Value->Prop}{p:ProgT}{g:Gr}{t:ByteArray}(hpr:Returns Tryz.prog 37 [.a (.string t)] (.ag (yfl Q1 Q2 p.raw)))(h:Checked Q1 Q2 p g){kind:Int}(hk:1<=kind/\kind<=4){res:Nat->Nat->Nat}(hd:DaemonOk kind (g.ports.map netP) res){c:Conf}(hc:yfp p g c=true){ws:List Nat}(hw:∀ k,ws.getD k 0<2 ^ 32)(hwl:ws.length<=4000) :
  Returns Tryz.prog 22 [.a (.string t),grV g,.i .i64 kind,ybe c,usV ws] (.tp [ydc (((ybl p g).runs res ws c).map (·.1)),ygl (((ybl p g).runs res ws c).map (·.2)),.b true]):=by
 refine Returns.of (ycwi _ _ ?_);have hX:=ybpz h hk hd hc hw hwl;obtain⟨R,hR⟩:∃ R,(ybl p g).runs res ws c=R:=⟨_,rfl⟩;rw[hR]at hX ⊢;have hRl:0<R.length:=by rw[<- hR];simp[Sys.runs]
 obtain⟨m,hm⟩:∃ m,R.length=m:=⟨_,rfl⟩;rw[hm]at hRl;have f1:((m:Int) == (m:Int))=true:=by simp
 have f2:decide ((m:Int) > 0)=true:=by simp;omega
 simp only[yfl]at hpr hX;simp only[grV,usV,ydc,ygl,List.length_map,hm]at hX;simp only[c22,ydby,yddn,grV,usV,clash,go_sem,Nat.reduceAdd,Nat.reduceLT,↓reduceIte,reduceCtorEq];refine hpr.use ?_;simp only[thenO,clash,go_sem,Nat.reduceEqDiff,Nat.reduceAdd,↓reduceIte,reduceCtorEq];refine hX.use ?_;simp(maxSteps:=5000000) only [ycxo,clash,f1,f2,go_sem,Nat.reduceEqDiff,Nat.reduceAdd,↓reduceIte,reduceCtorEq]
 refine⟨by decide,?_⟩
 unfold ydc ygl;rw[List.length_map,List.length_map,hm];exact Sim.refl _
end Sh
end Go.Proofs.YtiejahgklcjhkaaGreatDoor

namespace Go.Proofs.YtiejahgklcjhkaaGreatDoor
open Go
namespace Sh
open Ev Go.RowKit
set_option maxRecDepth 8000
theorem ybfi{n nv:Nat}{c:Conf}(h:ConfIn n nv c):ybkh c:=fun s hs x hx=>by
 have:=(h.row s hs).2 x hx;unfold InB at this;exact yej (by omega)
end Sh
end Go.Proofs.YtiejahgklcjhkaaGreatDoor

namespace Go.Proofs.YtiejahgklcjhkaaGreatDoor
namespace Sh
open Go Ev
end Sh
end Go.Proofs.YtiejahgklcjhkaaGreatDoor

namespace Go.Proofs.YtiejahgklcjhkaaGreatDoor
open Go
namespace Sh
open Ev Go.RowKit
set_option maxRecDepth 8000
end Sh
end Go.Proofs.YtiejahgklcjhkaaGreatDoor

namespace Go.Proofs.YtiejahgklcjhkaaGreatDoor
structure Tgt(S:Sys)(V:Conf->Prop)(T:Conf->Nat->List Int):Prop where
 valid:∀ c s,V c->s ≠ 0->subB s (S.en c)->V (S.mv c s)
 stay:∀ c s v,V c->v<S.n->s.testBit v=false->(S.mv c s).getD v []=c.getD v []
 move:∀ c s v,V c->v<S.n->s.testBit v=true->subB s (S.en c)->(S.mv c s).getD v []=T c v
 en:∀ c v,V c->v<S.n->((S.en c).testBit v=false ↔ c.getD v []=T c v)
theorem Tgt.rounds{S:Sys}{V:Conf->Prop}{T:Conf->Nat->List Int}(h:Tgt S V T){P:Nat->Nat->List Int->Prop}(hT:∀ c v r,V c->v<S.n->(∀ u,u<S.n->P r u (c.getD u []))->P (r+1) v (T c v))(hl:∀ r v s,P (r+1) v s->P r v s):ByRounds S V P where
 valid:=h.valid
 stay:=h.stay
 move:=fun c s v r hv hn hb hs hall=>by rw[h.move c s v hv hn hb hs];exact hT c v r hv hn hall
 rest:=fun c v r hv hn hb hall=>by rw[(h.en c v hv hn).1 hb];exact hT c v r hv hn hall
 less:=hl
theorem Tgt.silent{S:Sys}{V:Conf->Prop}{T:Conf->Nat->List Int}(h:Tgt S V T){P:Nat->Nat->List Int->Prop}(hT:∀ c v r,V c->v<S.n->(∀ u,u<S.n->P r u (c.getD u []))->P (r+1) v (T c v)){c:Conf}(hv:V c)(h0:∀ v,v<S.n->P 0 v (c.getD v []))(he:S.en c=0):∀ r v,v<S.n->P r v (c.getD v [])
 | 0,v,hn=>h0 v hn
 | r+1,v,hn=>by
  rw[(h.en c v hv hn).1 (by rw[he];simp)]
  exact hT c v r hv hn (Tgt.silent h hT hv h0 he r)
theorem Tgt.en_zero{S:Sys}{V:Conf->Prop}{T:Conf->Nat->List Int}(h:Tgt S V T){c:Conf}(hv:V c)(hlt:S.en c<2 ^ S.n)(ht:∀ v,v<S.n->c.getD v []=T c v):S.en c=0:=by
 rw[ydj];intro i
 by_cases hi:i<S.n
 ·exact(h.en c i hv hi).2 (ht i hi)
 ·exact Nat.testBit_lt_two_pow (Nat.lt_of_lt_of_le hlt (Nat.pow_le_pow_right (by omega) (by omega)))
theorem Sys.run_last{S:Sys}{res:Nat->Nat->Nat}:∀ (ws:List Nat) (c:Conf) (k:Cnt) (i:Nat),i+1<(S.run res ws c k).length -> ∀ p,(S.run res ws c k)[i]? = some p->S.en p.1 ≠ 0
 | [],c,k,i,h,p,hp=>by simp[Sys.run]at h
 | w :: ws,c,k,i,h,p,hp=>by
  unfold Sys.run at h hp;split at h
  ·simp at h
  ·rename_i h0
   rw[if_neg h0]at hp;cases i with
   | zero =>
    simp only[List.getElem?_cons_zero]at hp;cases hp
    simp only[List.length_cons]at h;cases ws with
    | nil=>simp[Sys.run]at h
    | cons w' ws =>
     unfold Sys.run at h;split at h
     ·simp at h
     ·assumption
   | succ i=>exact Sys.run_last ws _ _ i (by simpa using h) p (by simpa using hp)
theorem Sys.runs_last{S:Sys}{res:Nat->Nat->Nat}{ws:List Nat}{c:Conf}{i:Nat}(h:i+1<(S.runs res ws c).length){p:Conf × Cnt}(hp:(S.runs res ws c)[i]? = some p):S.en p.1 ≠ 0:=by
 unfold Sys.runs at h hp;cases i with
 | zero =>
  simp only[List.getElem?_cons_zero]at hp;cases hp
  cases ws with
  | nil=>simp[Sys.run]at h
  | cons w ws =>
   unfold Sys.run at h;split at h
   ·simp at h
   ·assumption
 | succ i=>exact Sys.run_last ws _ _ i (by simpa using h) p (by simpa using hp)
end Go.Proofs.YtiejahgklcjhkaaGreatDoor

namespace Go.Proofs.YtiejahgklcjhkaaGreatDoor
open Go.RowKit

end Go.Proofs.YtiejahgklcjhkaaGreatDoor

namespace Go.Proofs.YtiejahgklcjhkaaGreatDoor
def yec(g:Gr):Nat:=(g.ports.map List.length).sum
def addL(back:Bool)(l:List (Int × Int))(x:Int × Int):List (Int × Int):=if back then x :: l else l ++ [x]
theorem ydk{back:Bool}{l:List (Int × Int)}{x y:Int × Int}:y ∈ addL back l x ↔ y=x\/y ∈ l:=by
 unfold addL;cases back<;>simp[or_comm]
def ybr(back:Bool)(g:Gr)(a b:Nat)(w:Int):Gr:=⟨g.ids,(g.ports.set a (addL back (g.ports.getD a []) (b,w))).set b (addL back (g.ports.getD b []) (a,w))⟩
theorem ycs(back:Bool)(g:Gr){a b:Nat}(w:Int)(ha:a<g.ports.length)(hb:b<g.ports.length)(v:Nat) :
  (ybr back g a b w).ports.getD v []=if v=b then addL back (g.ports.getD b []) (a,w)else if v=a then addL back (g.ports.getD a []) (b,w)else g.ports.getD v []:=by
 unfold ybr;simp only[List.getD]
 by_cases h1:v=b
 ·subst h1;rw[if_pos rfl,List.getElem?_set_self (by simpa using hb)]
  rfl
 ·rw[if_neg h1,List.getElem?_set_ne (fun q=>h1 q.symm)]
  by_cases h2:v=a
  ·subst h2;rw[if_pos rfl,List.getElem?_set_self ha];rfl
  ·rw[if_neg h2,List.getElem?_set_ne (fun q=>h2 q.symm)]
theorem yna{back:Bool}{l:List (Int × Int)}{v n:Int}{x:Int × Int}(h:ybu l v n)(hx:yjc v n x)(hno:∀ y ∈ l,y.1 ≠ x.1):ybu (addL back l x) v n:=by
 refine⟨fun y hy=>?_,?_⟩
 ·rcases ydk.1 hy with rfl | hy
  ·exact hx
  ·exact h.1 y hy
 ·have hn:x.1 ∉ l.map (·.1):=fun hm=>by
   obtain⟨y,hy,e⟩:=List.mem_map.1 hm;exact hno y hy e
  unfold addL;cases back
  ·simp only[Bool.false_eq_true,if_false,List.map_append,List.map_cons,List.map_nil];rw[List.nodup_append];refine⟨h.2,by simp,fun p hp q hq=>?_⟩
   rw[List.mem_singleton]at hq;subst hq;intro e;exact hn (e ▸ hp)
  ·simp only[if_true,List.map_cons];exact List.nodup_cons.2 ⟨hn,h.2⟩
theorem ywx{back:Bool}{g:Gr}(hg:ybb g){a b:Nat}{w:Int}(ha:a<g.ports.length)(hb:b<g.ports.length)(hab:a ≠ b)(hw:1<=w/\w<=15)(hno:∀ y ∈ g.ports.getD a [],y.1 ≠ (b:Int)):ybb (ybr back g a b w):=by
 obtain⟨h1,h2,h3,h4,h5,h6,h7⟩:=hg;have hlen:(ybr back g a b w).ports.length=g.ports.length:=by simp[ybr]
 have gd:∀ (v:Nat) (hv:v<g.ports.length),g.ports.getD v []=g.ports[v]:=fun v hv=>by simp[List.getD,hv]
 have hno2:∀ y ∈ g.ports.getD b [],y.1 ≠ (a:Int):=fun y hy e=>by
  rw[gd b hb]at hy;have:=h7 ⟨b,hb⟩ y hy;rw[e,Int.toNat_natCast]at this;exact hno _ this rfl
 have at_:∀ (v:Nat) (hv:v<g.ports.length),(ybr back g a b w).ports[v]'(by rw[hlen];exact hv)=if v=b then addL back (g.ports.getD b []) (a,w)else if v=a then addL back (g.ports.getD a []) (b,w)else g.ports.getD v []:=fun v hv=>by
  rw[<- ycs back g w ha hb v];simp[List.getD,hlen,hv]
 refine⟨by rw[hlen];exact h1,by rw[hlen];exact h2,by rw[hlen];exact h3,h4,h5,fun v=>?_,fun v l hl=>?_⟩
 ·have hv:v.1<g.ports.length:=Nat.lt_of_lt_of_eq v.isLt hlen;have hl':(((ybr back g a b w).ports.length:Nat):Int)=(g.ports.length:Int):=by rw[hlen]
  rw[hl'];show ybu ((ybr back g a b w).ports[v.1]) _ _;rw[at_ v.1 hv];split
  ·rename_i e
   rw[e];refine yna ?_ ⟨by simp only[];omega,by simp only[];omega,by simp only[];omega,hw.1,hw.2⟩ hno2
   rw[gd b hb];exact h6 ⟨b,hb⟩
  ·split
   ·rename_i e
    rw[e];refine yna ?_ ⟨by simp only[];omega,by simp only[];omega,by simp only[];omega,hw.1,hw.2⟩ hno
    rw[gd a ha];exact h6 ⟨a,ha⟩
   ·rw[gd v.1 hv];exact h6 ⟨v.1,hv⟩
 ·have hv:v.1<g.ports.length:=Nat.lt_of_lt_of_eq v.isLt hlen
  change l ∈ (ybr back g a b w).ports[v.1]at hl
  rw[at_ v.1 hv]at hl
  have old:∀ u x,x ∈ g.ports.getD u []->x ∈ (ybr back g a b w).ports.getD u []:=fun u x hx=>by
   rw[ycs back g w ha hb u];split
   ·rename_i e;subst e;exact ydk.2 (.inr hx)
   ·split
    ·rename_i e;subst e;exact ydk.2 (.inr hx)
    ·exact hx
  have sym:∀ (u:Nat) (hu:u<g.ports.length),l ∈ g.ports.getD u []->((u:Int),l.2) ∈ (ybr back g a b w).ports.getD l.1.toNat []:=fun u hu hx=>by
   rw[gd u hu]at hx;exact old _ _ (h7 ⟨u,hu⟩ l hx)
  split at hl
  ·rename_i e
   rcases ydk.1 hl with rfl | hl
   ·rw[ycs back g w ha hb,e];simp only[Int.toNat_natCast];simp only[if_neg hab,if_true];exact ydk.2 (.inl rfl)
   ·rw[e];exact sym b hb hl
  ·split at hl
   ·rename_i e
    rcases ydk.1 hl with rfl | hl
    ·rw[ycs back g w ha hb,e];simp only[Int.toNat_natCast];simp only[if_true];exact ydk.2 (.inl rfl)
    ·rw[e];exact sym a ha hl
   ·exact sym v.1 hv hl
end Go.Proofs.YtiejahgklcjhkaaGreatDoor

namespace Go.Proofs.YtiejahgklcjhkaaGreatDoor
def Tre(g:Gr)(m:Nat):Prop:=∀ v,0<v->v<m -> ∃ u,u<v/\adj g u v
theorem Tre.walk{g:Gr}{m:Nat}(h:Tre g m):∀ v,v<m -> ∃ k,Walk g 0 k v:=by
 intro v
 induction v using Nat.strongRecOn with
 | _ v ih =>
  intro hv
  by_cases h0:v=0
  ·subst h0;exact⟨0,rfl⟩
  ·obtain⟨u,hu,ha⟩:=h v (by omega) hv
   obtain⟨k,hk⟩:=ih u hu (by omega)
   exact⟨k+1,u,hk,ha⟩
theorem Tre.conn{g:Gr}(hg:ybb g)(h:Tre g g.ports.length):yee g=true:=by
 unfold yee;rw[(ycw g).2 hg,Bool.true_and,ypm hg (a:=0) (by have:=hg.1;omega)]
 exact h.walk
theorem ygj{g:Gr}{u v:Nat}:adj g u v ↔ ∃ l,l ∈ g.ports.getD u []/\l.1=(v:Int):=by
 constructor
 ·rintro⟨ls,h,l,hl,e⟩;exact⟨l,by simpa [List.getD,h]using hl,e⟩
 ·rintro⟨l,hl,e⟩;cases h:g.ports[u]? with
  | none=>simp[List.getD,h]at hl
  | some ls=>exact⟨ls,h,l,by simpa [List.getD,h]using hl,e⟩
theorem ybah{back:Bool}{g:Gr}{a b:Nat}{w:Int}(ha:a<g.ports.length)(hb:b<g.ports.length){u v:Nat}(h:adj g u v):adj (ybr back g a b w) u v:=by
 obtain⟨l,hl,e⟩:=ygj.1 h;refine ygj.2 ⟨l,?_,e⟩;rw[ycs back g w ha hb u];split
 ·rename_i q;subst q;exact ydk.2 (.inr hl)
 ·split
  ·rename_i q;subst q;exact ydk.2 (.inr hl)
  ·exact hl
theorem ybbf{back:Bool}{g:Gr}{a b:Nat}{w:Int}(ha:a<g.ports.length)(hb:b<g.ports.length)(hab:a ≠ b):adj (ybr back g a b w) a b:=by
 refine ygj.2 ⟨((b:Int),w),?_,rfl⟩;rw[ycs back g w ha hb a,if_neg hab,if_pos rfl];exact ydk.2 (.inl rfl)
theorem Tre.add{back:Bool}{g:Gr}{a b:Nat}{w:Int}(ha:a<g.ports.length)(hb:b<g.ports.length){m:Nat}(h:Tre g m):Tre (ybr back g a b w) m:=fun v h0 hv=>by
 obtain⟨u,hu,hadj⟩:=h v h0 hv;exact⟨u,hu,ybah ha hb hadj⟩
def bare(ids:List Int):Gr:=⟨ids,List.replicate ids.length []⟩
theorem ybmx{ids:List Int}(h1:1<=ids.length)(h2:ids.length<=24)(h3:∀ x ∈ ids,0<=x/\x<=255)(h4:ids.Nodup):ybb (bare ids):=by
 have e:∀ v:Fin (bare ids).ports.length,(bare ids).ports[v] = []:=fun v=>by
  have hv:v.1<ids.length:=by have:=v.isLt;simpa [bare]using this
  show(List.replicate ids.length ([]:List (Int × Int)))[v.1]'(by simpa using hv) = []
  exact List.getElem_replicate ..
 refine⟨by simpa [bare]using h1,by simpa [bare]using h2,by simp[bare],h3,h4,fun v=>?_,fun v l hl=>?_⟩
 ·rw[e v];exact⟨fun l hl=>(nomatch hl),List.nodup_nil⟩
 ·rw[e v]at hl;cases hl
end Go.Proofs.YtiejahgklcjhkaaGreatDoor

namespace Go.Proofs.YtiejahgklcjhkaaGreatDoor
abbrev eNum(k:Int):Ex:=.leaf 1 k
abbrev eVar(k:Int):Ex:=.leaf 5 k
abbrev eN:Ex:=.leaf 6 0
abbrev eQ(k:Int):Ex:=.leaf 12 k

theorem ybkt{α:Type}(g:Gr)(v:Nat)(f:Int × Int->α)(h:Nat->α)(e:∀ q,q<(g.ports.getD v []).length->h q=f ((g.ports.getD v []).getD q (0,0))):(List.range (g.ports.getD v []).length).map h=(g.ports.getD v []).map f:=by
 refine List.ext_getElem (by simp) fun i h1 h2=>?_
 have hi:i<(g.ports.getD v []).length:=by simpa using h1
 rw[List.getElem_map,List.getElem_range,List.getElem_map,e i hi];congr 1;rw[List.getD_eq_getElem?_getD,List.getElem?_eq_getElem hi];rfl
def endP(c:Conf)(k:Nat)(l:Int × Int):Int:=(c.getD l.1.toNat []).getD k 0
theorem yboi(b:Bool):(yer b != 0)=b:=by cases b<;>rfl
section
variable {nm nd np nt nl:ByteArray} {g:Gr} {c:Conf} {v:Nat}
theorem bT1{x:ByteArray}:ybc g v ⟨x,1,0,0,1,0⟩=(0,0+1 * (g.ids.length:Int)+0 * maxI g.ids):=by
 show(if (1:Int)=1 then _ else _)=_
 rw[if_pos rfl]
end
end Go.Proofs.YtiejahgklcjhkaaGreatDoor

namespace Go.Proofs.YtiejahgklcjhkaaGreatDoor
section
variable {g:Gr} {a v:Nat}
theorem yfr(hg:ybb g)(hc:yee g=true)(ha:a<g.ports.length)(hv:v<g.ports.length):∃ k:Nat,(ybs g a).getD v 0=k/\Walk g a k v/\(∀ j,j<k -> ¬ Walk g a j v)/\k<g.ports.length:=by
 have h0:0<g.ports.length:=by omega
 have hall:(ybs g a).all (fun x=>decide (0<=x))=true:=ybdp hg h0 ha ((Bool.and_eq_true _ _ ▸ hc).2);have hl:=ynk hg ha;have hvl:v<(ybs g a).length:=by rw[hl];exact hv
 have e:(ybs g a).getD v 0=(ybs g a)[v]:=by simp[List.getD,hvl]
 have hpos:0<=(ybs g a)[v]:=by simpa using List.all_eq_true.1 hall _ (List.getElem_mem hvl)
 rcases(ydt hg ha).2 v _ (List.getElem?_eq_getElem hvl)with⟨h,_⟩ | ⟨k,h1,h2,h3⟩
 ·omega
 ·exact⟨k,by rw[e,h1],h2,h3,ytn hg ha h2 h3⟩
theorem yctj{k:Nat}(hg:ybb g)(hc:yee g=true)(ha:a<g.ports.length)(hv:v<g.ports.length)(h1:Walk g a k v)(h2:∀ j,j<k -> ¬ Walk g a j v):(ybs g a).getD v 0=k:=by
 obtain⟨j,e,h3,h4,_⟩:=yfr hg hc ha hv;rcases Nat.lt_trichotomy j k with h | h | h
 ·exact absurd h3 (h2 j h)
 ·rw[e,h]
 ·exact absurd h1 (h4 k h)
theorem ybpe(hg:ybb g)(hc:yee g=true)(ha:a<g.ports.length):(ybs g a).getD a 0=0:=yctj hg hc ha ha (k:=0) rfl fun j hj=>by omega
theorem ybkn(hg:ybb g)(hc:yee g=true)(ha:a<g.ports.length)(hv:v<g.ports.length):0<=(ybs g a).getD v 0/\(ybs g a).getD v 0<g.ports.length:=by
 obtain⟨k,e,_,_,h⟩:=yfr hg hc ha hv;omega
theorem ybuv(hg:ybb g)(hc:yee g=true)(ha:a<g.ports.length)(hv:v<g.ports.length)(hne:v ≠ a):1<=(ybs g a).getD v 0:=by
 obtain⟨k,e,h1,_,_⟩:=yfr hg hc ha hv;cases k with
 | zero=>exact absurd h1 hne
 | succ k=>omega
theorem ybvq(hg:ybb g)(hc:yee g=true)(ha:a<g.ports.length){u:Nat}(h:adj g u v):(ybs g a).getD v 0<=(ybs g a).getD u 0+1:=by
 obtain⟨hu,hv⟩:=hg.adj_lt h;obtain⟨k,e,h1,_,_⟩:=yfr hg hc ha hu;obtain⟨j,e',_,h3,_⟩:=yfr hg hc ha hv;rw[e,e'];rcases Nat.lt_or_ge (k+1) j with q | q
 ·exact absurd ⟨u,h1,h⟩ (h3 (k+1) q)
 ·omega
theorem yxg(hg:ybb g)(hc:yee g=true)(ha:a<g.ports.length)(hv:v<g.ports.length)(hne:v ≠ a):∃ u,adj g v u/\(ybs g a).getD u 0=(ybs g a).getD v 0 - 1:=by
 obtain⟨k,e,h1,h2,_⟩:=yfr hg hc ha hv;cases k with
 | zero=>exact absurd h1 hne
 | succ k =>
  obtain⟨u,h3,h4⟩:=h1;refine⟨u,hg.adj_symm h4,?_⟩;have h5:=ybvq hg hc ha h4;obtain⟨hu,_⟩:=hg.adj_lt h4;obtain⟨j,e',_,h6,_⟩:=yfr hg hc ha hu;rw[e,e']at h5;rcases Nat.lt_or_ge k j with q | q
  ·exact absurd h3 (h6 k q)
  ·rw[e,e'];omega
theorem ydo{l:Int × Int}(hg:ybb g)(hv:v<g.ports.length)(hl:l ∈ g.ports.getD v []):0<=l.1/\l.1.toNat<g.ports.length/\adj g v l.1.toNat/\1<=l.2/\l.2<=15:=by
 have e:g.ports[v]? = some (g.ports.getD v []):=by simp[List.getD,hv]
 have h:=hg.link e hl;exact⟨h.1,by omega,⟨_,e,l,hl,by omega⟩,h.2.2.2.1,h.2.2.2.2⟩
theorem ymp{u:Nat}(h:adj g v u):∃ l ∈ g.ports.getD v [],l.1.toNat=u:=by
 obtain⟨l,hl,e⟩:=ygj.1 h;exact⟨l,hl,by rw[e];simp⟩
end
section
variable {nm nd np nt nl:ByteArray} {g:Gr}
end
end Go.Proofs.YtiejahgklcjhkaaGreatDoor

namespace Go.Proofs.YtiejahgklcjhkaaGreatDoor
def isTreeB(g:Gr):Bool:=yee g && decide (yec g / 2+1=g.ports.length)
theorem ybrt{α:Type}[DecidableEq α]:∀ {l1 l2:List α},l1.Nodup->(∀ x ∈ l1,x ∈ l2)->l2.length<=l1.length -> ∀ x ∈ l2,x ∈ l1
 | [],l2,_,_,h,x,hx=>by
  have:l2 = []:=List.eq_nil_of_length_eq_zero (by simpa using h)
  rw[this]at hx;exact absurd hx List.not_mem_nil
 | a :: t,l2,hn,hs,h,x,hx=>by
  have hn:=List.nodup_cons.1 hn
  by_cases q:x=a
  ·rw[q];exact List.mem_cons_self
  ·refine List.mem_cons_of_mem _ (ybrt (l2:=l2.erase a) hn.2 (fun y hy=>?_) ?_ x ((List.mem_erase_of_ne q).2 hx))
   ·refine(List.mem_erase_of_ne fun e=>hn.1 (by rw[<- e];exact hy)).2 (hs y (List.mem_cons_of_mem _ hy))
   ·rw[List.length_erase_of_mem (hs a List.mem_cons_self)];simp only[List.length_cons]at h;omega
structure TreeM(g:Gr):Prop where
 up:∀ a v u,a<g.ports.length->adj g v u->(ybs g a).getD u 0=(ybs g a).getD v 0 - 1\/(ybs g a).getD u 0=(ybs g a).getD v 0+1
 one:∀ a v u w,a<g.ports.length->adj g v u->adj g v w->(ybs g a).getD u 0=(ybs g a).getD v 0 - 1->(ybs g a).getD w 0=(ybs g a).getD v 0 - 1->u=w
theorem ydbg{g:Gr}(hg:ybb g)(hc:yee g=true)(ht:yec g<=2 * (g.ports.length - 1)):TreeM g:=by
 have key:∀ a,a<g.ports.length -> ∃ up:Nat->Nat,∀ v u,adj g v u->(v ≠ a/\u=up v/\(ybs g a).getD u 0=(ybs g a).getD v 0 - 1)\/(ybs g a).getD u 0=(ybs g a).getD v 0+1:=fun a ha=>by
  have ex:∀ v,v<g.ports.length->v ≠ a -> ∃ u,adj g v u/\(ybs g a).getD u 0=(ybs g a).getD v 0 - 1:=fun v hv hne=>yxg hg hc ha hv hne
  obtain⟨up,hup⟩:∃ up:Nat->Nat,∀ v,v<g.ports.length->v ≠ a->adj g v (up v)/\(ybs g a).getD (up v) 0=(ybs g a).getD v 0 - 1:=by
   refine⟨fun v=>if h:v<g.ports.length/\v ≠ a then Classical.choose (ex v h.1 h.2)else 0,fun v hv hne=>?_⟩
   simp only[dif_pos (show v<g.ports.length/\v ≠ a from⟨hv,hne⟩)]
   exact Classical.choose_spec (ex v hv hne)
  let U:List (Nat × Nat):=((List.range g.ports.length).erase a).map fun v=>(v,up v)
  let P:List (Nat × Nat):=(List.range g.ports.length).flatMap fun v=>(g.ports.getD v []).map fun l=>(v,l.1.toNat)
  have hnd:((List.range g.ports.length).erase a).Nodup:=List.nodup_range.erase a
  have mU:∀ x y,(x,y) ∈ U ↔ x<g.ports.length/\x ≠ a/\y=up x:=fun x y=>by
   show(x,y) ∈ ((List.range g.ports.length).erase a).map (fun v=>(v,up v)) ↔ _;rw[List.mem_map];constructor
   ·rintro⟨v,hv,e⟩;cases e
    have hv:=(List.nodup_range.mem_erase_iff).1 hv;exact⟨List.mem_range.1 hv.2,hv.1,rfl⟩
   ·rintro⟨h1,h2,rfl⟩;exact⟨x,(List.nodup_range.mem_erase_iff).2 ⟨h2,List.mem_range.2 h1⟩,rfl⟩
  have mP:∀ x y,(x,y) ∈ P ↔ x<g.ports.length/\adj g x y:=fun x y=>by
   show(x,y) ∈ List.flatMap _ _ ↔ _;rw[List.mem_flatMap];constructor
   ·rintro⟨v,hv,h⟩;obtain⟨l,hl,e⟩:=List.mem_map.1 h;cases e
    have hv:=List.mem_range.1 hv;exact⟨hv,(ydo hg hv hl).2.2.1⟩
   ·rintro⟨h1,h2⟩;obtain⟨l,hl,e⟩:=ymp h2;exact⟨x,List.mem_range.2 h1,List.mem_map.2 ⟨l,hl,by rw[e]⟩⟩
  have dU:∀ x y,(x,y) ∈ U->(ybs g a).getD y 0=(ybs g a).getD x 0 - 1:=fun x y h=>by
   obtain⟨h1,h2,rfl⟩:=(mU x y).1 h;exact(hup x h1 h2).2
  have nU:U.Nodup:=by
   show(((List.range g.ports.length).erase a).map (fun v=>(v,up v))).Nodup;rw[List.Nodup,List.pairwise_map];exact hnd.imp fun h e=>h (congrArg Prod.fst e)
  have nD:(U.map fun p=>(p.2,p.1)).Nodup:=by
   rw[List.Nodup,List.pairwise_map];exact nU.imp fun h e=>h (by simp only[Prod.mk.injEq]at e;exact Prod.ext e.2 e.1)
  have nUD:(U ++ U.map fun p=>(p.2,p.1)).Nodup:=by
   rw[List.nodup_append];refine⟨nU,nD,?_⟩;rintro⟨x,y⟩ h1 ⟨x',y'⟩ h2 e;cases e
   obtain⟨⟨p,q⟩,h3,e⟩:=List.mem_map.1 h2;cases e
   have a1:=dU _ _ h1;have a2:=dU _ _ h3;simp only at a1 a2;omega
  have lU:U.length=g.ports.length - 1:=by
   show(List.map _ _).length=_;rw[List.length_map,List.length_erase_of_mem (List.mem_range.2 ha),List.length_range]
  have lP:P.length=yec g:=by
   show(List.flatMap _ _).length=_;rw[List.length_flatMap];unfold yec;congr 1;refine List.ext_getElem (by simp) fun i h1 h2=>?_
   have hi:i<g.ports.length:=by simpa using h2
   simp[List.getD,hi]
  have hall:=ybrt nUD (l2:=P) (fun p hp=>by
   obtain⟨x,y⟩:=p;rcases List.mem_append.1 hp with h | h
   ·obtain⟨h1,h2,rfl⟩:=(mU x y).1 h;exact(mP _ _).2 ⟨h1,(hup x h1 h2).1⟩
   ·obtain⟨⟨p,q⟩,h3,e⟩:=List.mem_map.1 h;cases e
    obtain⟨h1,h2,e⟩:=(mU _ _).1 h3;simp only at e ⊢;subst e;have h4:=(hup p h1 h2).1;exact(mP _ _).2 ⟨(hg.adj_lt h4).2,hg.adj_symm h4⟩) (by have lD:(U.map fun p=>(p.2,p.1)).length=U.length:=List.length_map _;rw[List.length_append,lD,lU,lP];omega)
  refine⟨up,fun v u h=>?_⟩;have h1:=hall (v,u) ((mP v u).2 ⟨(hg.adj_lt h).1,h⟩);rcases List.mem_append.1 h1 with h | h
  ·left
   obtain⟨_,h2,h3⟩:=(mU v u).1 h;exact⟨h2,h3,dU _ _ h⟩
  ·right
   obtain⟨⟨p,q⟩,h3,e⟩:=List.mem_map.1 h;cases e
   have:=dU _ _ h3;simp only at this ⊢;omega
 constructor
 ·intro a v u ha h;obtain⟨up,hup⟩:=key a ha;rcases hup v u h with⟨_,_,h3⟩ | h3
  ·exact .inl h3
  ·exact .inr h3
 ·intro a v u w ha h1 h2 e1 e2;obtain⟨up,hup⟩:=key a ha;rcases hup v u h1 with⟨_,h3,_⟩ | h3
  ·rcases hup v w h2 with⟨_,h4,_⟩ | h4
   ·rw[h3,h4]
   ·omega
  ·omega
end Go.Proofs.YtiejahgklcjhkaaGreatDoor

namespace Go.Proofs.YtiejahgklcjhkaaGreatDoor
def dP(g:Gr)(a v:Nat):Int:=(ybs g a).getD v 0
structure Tr(g:Gr):Prop where
 good:ybb g
 conn:yee g=true
 m:TreeM g
section
variable {g:Gr} {a b u v w x:Nat}
theorem Tr.self(h:Tr g)(ha:a<g.ports.length):dP g a a=0:=ybpe h.good h.conn ha
theorem Tr.nonneg(h:Tr g)(ha:a<g.ports.length)(hv:v<g.ports.length):0<=dP g a v:=(ybkn h.good h.conn ha hv).1
theorem Tr.lt_n(h:Tr g)(ha:a<g.ports.length)(hv:v<g.ports.length):dP g a v<g.ports.length:=(ybkn h.good h.conn ha hv).2
theorem Tr.pos(h:Tr g)(ha:a<g.ports.length)(hv:v<g.ports.length)(hne:v ≠ a):1<=dP g a v:=ybuv h.good h.conn ha hv hne
theorem Tr.up(h:Tr g)(ha:a<g.ports.length)(hu:adj g v u):dP g a u=dP g a v - 1\/dP g a u=dP g a v+1:=h.m.up a v u ha hu
theorem Tr.one(h:Tr g)(ha:a<g.ports.length)(hu:adj g v u)(hx:adj g v x)(e1:dP g a u=dP g a v - 1)(e2:dP g a x=dP g a v - 1):u=x:=h.m.one a v u x ha hu hx e1 e2
theorem Tr.back(h:Tr g)(ha:a<g.ports.length)(hv:v<g.ports.length)(hne:v ≠ a):∃ u,adj g v u/\dP g a u=dP g a v - 1:=yxg h.good h.conn ha hv hne
theorem Tr.adj1(h:Tr g)(hu:adj g v u):dP g v u=1:=by
 obtain⟨hv,hu'⟩:=h.good.adj_lt hu;have h1:=h.up hv hu;have h2:=h.self hv;have h3:=h.nonneg hv hu';omega
theorem Tr.ne(h:Tr g)(hu:adj g v u):v ≠ u:=fun e=>by
 subst e;have:=h.adj1 hu;have:=h.self (h.good.adj_lt hu).1;omega
def rchP(g:Gr)(v u:Nat):Int:=(List.range g.ports.length).foldl (fun m w=>if dP g w u<dP g w v then max m (dP g w v)else m) 0
theorem yol(f:Nat->Int)(p:Nat->Prop)[DecidablePred p]:∀ (l:List Nat) (m:Int),m<=l.foldl (fun m w=>if p w then max m (f w)else m) m/\(∀ w ∈ l,p w->f w<=l.foldl (fun m w=>if p w then max m (f w)else m) m)/\(l.foldl (fun m w=>if p w then max m (f w)else m) m=m \/ ∃ w ∈ l,p w/\f w=l.foldl (fun m w=>if p w then max m (f w)else m) m)
 | [],m=>⟨Int.le_refl _,fun w hw=>absurd hw List.not_mem_nil,.inl rfl⟩
 | x :: l,m=>by
  obtain⟨h1,h2,h3⟩:=yol f p l (if p x then max m (f x)else m)
  simp only[List.foldl_cons];refine⟨?_,fun w hw hp=>?_,?_⟩
  ·clear h2 h3
   have:m<=if p x then max m (f x)else m:=by split<;>omega
   omega
  ·rcases List.mem_cons.1 hw with rfl | hw
   ·rw[if_pos hp]at h1 ⊢;omega
   ·exact h2 w hw hp
  ·clear h2
   rcases h3 with h3 | ⟨w,hw,hp,e⟩
   ·by_cases hp:p x
    ·rw[if_pos hp]at h3 ⊢;rcases Int.le_total (f x) m with q | q
     ·left;rw[h3];omega
     ·right;exact⟨x,List.mem_cons_self,hp,by rw[h3];omega⟩
    ·rw[if_neg hp]at h3 ⊢;exact .inl h3
   ·exact .inr ⟨w,List.mem_cons_of_mem _ hw,hp,e⟩
theorem ywg(hw:w<g.ports.length)(h:dP g w u<dP g w v):dP g w v<=rchP g v u :=
 (yol (fun w=>dP g w v) (fun w=>dP g w u<dP g w v) (List.range g.ports.length) 0).2.1 w (List.mem_range.2 hw) h
theorem Tr.rch_pos(h:Tr g)(hu:adj g v u):1<=rchP g v u:=by
 obtain⟨hv,hu'⟩:=h.good.adj_lt hu;have h1:=h.adj1 (h.good.adj_symm hu);have h2:=h.self hu';have:=ywg (g:=g) (w:=u) (u:=u) (v:=v) hu' (by omega)
 omega
theorem Tr.rch_ex(h:Tr g)(hu:adj g v u):∃ w,w<g.ports.length/\dP g w u<dP g w v/\dP g w v=rchP g v u:=by
 rcases(yol (fun w=>dP g w v) (fun w=>dP g w u<dP g w v) (List.range g.ports.length) 0).2.2 with e | ⟨w,hw,hp,e⟩
 ·have:=h.rch_pos hu;have e:rchP g v u=0:=e;omega
 ·exact⟨w,List.mem_range.1 hw,hp,e⟩
theorem Tr.into(h:Tr g)(hu:adj g v u)(hx:adj g u x)(hne:x ≠ v)(hw:w<g.ports.length)(hs:dP g w x<dP g w u):dP g w u<dP g w v/\dP g w v=dP g w u+1:=by
 have h1:=h.up hw hx;have h2:=h.up hw (h.good.adj_symm hu);rcases h2 with h2 | h2
 ·exact absurd (h.one hw hx (h.good.adj_symm hu) (by omega) h2) hne
 ·omega
theorem Tr.rch_step(h:Tr g)(hu:adj g v u)(hx:adj g u x)(hne:x ≠ v):1+rchP g u x<=rchP g v u:=by
 obtain⟨w,hw,h1,h2⟩:=h.rch_ex hx;obtain⟨h3,h4⟩:=h.into hu hx hne hw h1;have:=ywg hw h3;omega
theorem Tr.rch_from(h:Tr g)(hu:adj g v u)(h2:2<=rchP g v u):∃ x,adj g u x/\x ≠ v/\rchP g v u=1+rchP g u x:=by
 obtain⟨hv,hu'⟩:=h.good.adj_lt hu;obtain⟨w,hw,h3,h4⟩:=h.rch_ex hu;have h5:=h.up hw (h.good.adj_symm hu)
 have hne:w ≠ u:=fun e=>by
  subst e;have:=h.self hw;omega
 obtain⟨x,hx,h6⟩:=h.back hw hu' (fun e=>hne e.symm);have hxv:x ≠ v:=fun e=>by subst e;omega
 refine⟨x,hx,hxv,?_⟩;have a:=h.rch_step hu hx hxv;have b:=ywg (g:=g) (u:=x) (v:=u) hw (by omega)
 omega
def step2(p:Int × Int)(a:Int):Int × Int:=if a > p.1 then(a,p.1)else(p.1,max p.2 a)
def top2(b:Int)(l:List Int):Int × Int:=l.foldl step2 (b,b)
theorem ybru(b:Int)(l:List Int)(a:Int):top2 b (l ++ [a])=step2 (top2 b l) a:=by unfold top2;rw[List.foldl_append];rfl
theorem yvz(b:Int)(l:List Int):∀ k,k<=l.length->b<=(top2 b (l.take k)).2/\(top2 b (l.take k)).2<=(top2 b (l.take k)).1 /\ ∀ m,b<m->(m<=(top2 b (l.take k)).1 ↔ 1<=(l.take k).countP fun x=>decide (m<=x))/\(m<=(top2 b (l.take k)).2 ↔ 2<=(l.take k).countP fun x=>decide (m<=x))
 | 0,_=>by
  refine⟨Int.le_refl _,Int.le_refl _,fun m hm=>?_⟩;have e:(top2 b (l.take 0))=(b,b):=rfl;rw[e];simp only[List.take_zero,List.countP_nil];omega
 | k+1,hk=>by
  obtain⟨h1,h2,h3⟩:=yvz b l k (by omega)
  rw[List.take_succ_eq_append_getElem (show k<l.length by omega),ybru]
  generalize l[k]=a
  have hc:∀ m,(l.take k ++ [a]).countP (fun x=>decide (m<=x))=(l.take k).countP (fun x=>decide (m<=x))+if m<=a then 1 else 0:=fun m=>by
   rw[List.countP_append,List.countP_cons,List.countP_nil];simp
  generalize top2 b (l.take k)=P at *
  unfold step2;split
  ·refine⟨by simp only;omega,by simp only;omega,fun m hm=>?_⟩
   obtain⟨h4,h5⟩:=h3 m hm;rw[hc];simp only;constructor
   ·split<;>omega
   ·split<;>omega
  ·refine⟨by simp only;omega,by simp only;omega,fun m hm=>?_⟩
   obtain⟨h4,h5⟩:=h3 m hm;rw[hc];simp only;constructor
   ·split<;>omega
   ·split<;>omega
theorem yli(b:Int)(l:List Int):b<=(top2 b l).2/\(top2 b l).2<=(top2 b l).1 /\ ∀ m,b<m->(m<=(top2 b l).1 ↔ 1<=l.countP fun x=>decide (m<=x))/\(m<=(top2 b l).2 ↔ 2<=l.countP fun x=>decide (m<=x)):=by
 have h:=yvz b l l.length (Nat.le_refl _)
 rwa [List.take_length]at h
theorem yxu{p:Int × Int->Bool}:∀ {ls:List (Int × Int)},(ls.map (·.1)).Nodup->(2<=ls.countP p ↔ ∃ a ∈ ls,∃ b ∈ ls,a.1 ≠ b.1/\p a=true/\p b=true)
 | [],_=>by simp
 | l :: ls,hn=>by
  have hn:=List.nodup_cons.1 hn;have ih:=yxu (p:=p) hn.2
  have one:1<=ls.countP p ↔ ∃ a ∈ ls,p a=true:=by
   rw[Nat.one_le_iff_ne_zero,Nat.ne_zero_iff_zero_lt,List.countP_pos_iff]
  have hno:∀ a ∈ ls,l.1 ≠ a.1:=fun a ha e=>hn.1 (List.mem_map.2 ⟨a,ha,e.symm⟩);rw[List.countP_cons];constructor
  ·intro h
   by_cases hp:p l=true
   ·rw[if_pos hp]at h;obtain⟨a,ha,hpa⟩:=one.1 (by omega)
    exact⟨l,List.mem_cons_self,a,List.mem_cons_of_mem _ ha,hno a ha,hp,hpa⟩
   ·rw[if_neg hp]at h;obtain⟨a,ha,b,hb,q⟩:=ih.1 (by omega)
    exact⟨a,List.mem_cons_of_mem _ ha,b,List.mem_cons_of_mem _ hb,q⟩
  ·rintro⟨a,ha,b,hb,hab,hpa,hpb⟩;rcases List.mem_cons.1 ha with ea | ha
   ·rcases List.mem_cons.1 hb with eb | hb
    ·exact absurd (by rw[ea,eb]) hab
    ·have:=one.2 ⟨b,hb,hpb⟩;rw[<- ea,if_pos hpa];omega
   ·rcases List.mem_cons.1 hb with eb | hb
    ·have:=one.2 ⟨a,ha,hpa⟩;rw[<- eb,if_pos hpb];omega
    ·have:=ih.2 ⟨a,ha,b,hb,hab,hpa,hpb⟩;omega
theorem yjo(hg:ybb g)(hv:v<g.ports.length):((g.ports.getD v []).map (·.1)).Nodup:=by
 have h:=(hg.2.2.2.2.2.1 ⟨v,hv⟩).2;have e0:g.ports[v]=g.ports.getD v []:=by rw[Sh.getD_at hv]
 have h:((g.ports[v]).map (·.1)).Nodup:=h
 rwa [e0]at h
theorem ybnx(hg:ybb g)(hv:v<g.ports.length){f:Nat->Int}{m:Int}:2<=((g.ports.getD v []).map fun l=>f l.1.toNat).countP (fun x=>decide (m<=x)) ↔ ∃ a b,adj g v a/\adj g v b/\a ≠ b/\m<=f a/\m<=f b:=by
 rw[List.countP_map,yxu (yjo hg hv)];constructor
 ·rintro⟨a,ha,b,hb,hne,hpa,hpb⟩;obtain⟨a1,_,a3,_⟩:=ydo hg hv ha;obtain⟨b1,_,b3,_⟩:=ydo hg hv hb;exact⟨_,_,a3,b3,by omega,of_decide_eq_true hpa,of_decide_eq_true hpb⟩
 ·rintro⟨a,b,ha,hb,hne,hpa,hpb⟩;obtain⟨la,hla,ea⟩:=ymp ha;obtain⟨lb,hlb,eb⟩:=ymp hb;exact⟨la,hla,lb,hlb,fun e=>hne (by rw[<- ea,<- eb,e]),decide_eq_true (by show m<=f la.1.toNat;rw[ea];exact hpa),decide_eq_true (by show m<=f lb.1.toNat;rw[eb];exact hpb)⟩
def htP(g:Gr)(v:Nat):Int:=(top2 0 ((g.ports.getD v []).map fun l=>rchP g v l.1.toNat)).2
theorem yfg(g:Gr)(v:Nat):0<=htP g v:=(yli 0 _).1
theorem ynl(hg:ybb g)(hv:v<g.ports.length){m:Int}(hm:1<=m):m<=htP g v ↔ ∃ a b,adj g v a/\adj g v b/\a ≠ b/\m<=rchP g v a/\m<=rchP g v b:=by
 rw[<- ybnx hg hv (f:=fun u=>rchP g v u)];exact((yli 0 _).2.2 m (by omega)).2
theorem Tr.ht_step(h:Tr g)(hv:v<g.ports.length){m:Int}(hm:1<=m)(hd:∃ a b,adj g v a/\adj g v b/\a ≠ b):m<=htP g v ↔ ∃ a b,adj g v a/\adj g v b/\a ≠ b/\m - 1<=htP g a/\m - 1<=htP g b:=by
 rw[ynl h.good hv hm]
 by_cases h1:m=1
 ·subst h1;obtain⟨a,b,ha,hb,hne⟩:=hd;exact⟨fun _=>⟨a,b,ha,hb,hne,by have:=yfg g a;omega,by have:=yfg g b;omega⟩,fun _=>⟨a,b,ha,hb,hne,h.rch_pos ha,h.rch_pos hb⟩⟩
 have key:∀ a b,adj g v a->adj g v b->a ≠ b->m<=rchP g v a->m<=rchP g v b->m - 1<=htP g a:=fun a b ha hb hne ra rb=>by
  rw[ynl h.good (h.good.adj_lt ha).2 (by omega)]
  obtain⟨x,hx,hxv,e⟩:=h.rch_from ha (by omega)
  have s:=h.rch_step (h.good.adj_symm ha) hb (fun e=>hne e.symm);exact⟨v,x,h.good.adj_symm ha,hx,fun e=>hxv e.symm,by omega,by omega⟩
 have key2:∀ a,adj g v a->m - 1<=htP g a->m<=rchP g v a:=fun a ha hh=>by
  rw[ynl h.good (h.good.adj_lt ha).2 (by omega)]at hh
  obtain⟨x,y,hx,hy,hne,rx,ry⟩:=hh
  by_cases q:x=v
  ·have s:=h.rch_step ha hy (fun e=>hne (by rw[q,e]))
   omega
  ·have s:=h.rch_step ha hx q;omega
 constructor
 ·rintro⟨a,b,ha,hb,hne,ra,rb⟩;exact⟨a,b,ha,hb,hne,key a b ha hb hne ra rb,key b a hb ha (fun e=>hne e.symm) rb ra⟩
 ·rintro⟨a,b,ha,hb,hne,ra,rb⟩;exact⟨a,b,ha,hb,hne,key2 a ha ra,key2 b hb rb⟩
theorem Tr.thru(h:Tr g)(hw:w<g.ports.length):∀ (k:Nat) (v u x:Nat),adj g v u->dP g w u=dP g w v+1->x<g.ports.length->dP g x u<dP g x v->(dP g x u).toNat<k->dP g w x=dP g w u+dP g x u
 | 0,v,u,x,_,_,_,_,hk=>by omega
 | k+1,v,u,x,hu,hwu,hx,hs,hk=>by
  obtain⟨hv,hu'⟩:=h.good.adj_lt hu
  by_cases e:x=u
  ·subst e;rw[h.self hx];omega
  ·obtain⟨y,hy,h1⟩:=h.back hx hu' (fun q=>e q.symm);have hyv:y ≠ v:=fun q=>by subst q;omega
   have h2:=h.up hw hy
   have hw1:dP g w y=dP g w u+1:=by
    rcases h2 with h2 | h2
    ·exact absurd (h.one hw hy (h.good.adj_symm hu) h2 (by omega)) hyv
    ·exact h2
   have:=h.nonneg hx (h.good.adj_lt hy).2;have ih:=Tr.thru h hw k u y x hy hw1 hx (by omega) (by omega)
   omega
theorem Tr.apart(h:Tr g)(ha:adj g v a)(hb:adj g v b)(hne:a ≠ b)(hw:w<g.ports.length)(hx:x<g.ports.length)(h1:dP g w a<dP g w v)(h2:dP g x b<dP g x v):dP g w x=dP g w v+dP g x v:=by
 have a1:=h.up hw ha;have b1:=h.up hw hb;have b2:=h.up hx hb
 have hwb:dP g w b=dP g w v+1:=by
  rcases b1 with q | q
  ·exact absurd (h.one hw ha hb (by omega) q) hne
  ·exact q
 have:=h.thru hw _ v b x hb hwb hx h2 (Nat.lt_succ_self _);omega
end
end Go.Proofs.YtiejahgklcjhkaaGreatDoor

namespace Go.Proofs.YtiejahgklcjhkaaGreatDoor
def ybtx:Ex:=.agg 28 (eQ 0)
def ybae:Ex:=.ite (.bin 37 (.leaf 9 0) (eNum 2)) (eNum 0) (.ite (.bin 37 ybtx eN) (.bin 33 ybtx (eNum 1)) eN)
def yeb(nm h r:ByteArray):ProgT:=⟨nm,[⟨h,1,0,0,1,0⟩],[⟨r,.bin 36 (eVar 0) ybae,[(0,ybae)]⟩]⟩
def cnS(g:Gr)(c:Conf)(v:Nat):Int:=(top2 (-1073741824) ((g.ports.getD v []).map (endP c 0))).2
def cnV(g:Gr)(c:Conf)(v:Nat):Int:=if ((g.ports.getD v []).length:Int)<2 then 0 else if cnS g c v<(g.ids.length:Int)then cnS g c v+1 else(g.ids.length:Int)
section
variable {nm nh nr:ByteArray} {g:Gr} {c:Conf} {v:Nat}
theorem ydak(g:Gr)(c:Conf)(v:Nat):-1073741824<=cnS g c v:=(yli (-1073741824) _).1
theorem ybzh(g:Gr)(c:Conf)(v:Nat)(p:Int):yea g c v ybtx p=cnS g c v:=by
 show yhn 28 _=_;unfold yhn;rw[if_neg (by decide),if_neg (by decide),if_neg (by decide),if_neg (by decide),if_neg (by decide),if_neg (by decide),if_neg (by decide),if_neg (by decide),if_pos rfl]
 show(ycl _).2=_;unfold cnS;have e:∀ l,ycl l=top2 (-1073741824) l:=fun l=>rfl;rw[e];congr 2;exact ybkt g v _ _ fun q hq=>rfl
theorem ybey(hg:ybb g)(p:Int):yea g c v ybae p=cnV g c v:=by
 have h1:=hg.2.1;have h2:=hg.2.2.1;have h3:=ydak g c v;show(if binP 37 ((g.ports.getD v []).length:Int) 2 ≠ 0 then 0 else if binP 37 (yea g c v ybtx p) (g.ids.length:Int) ≠ 0 then satP (yea g c v ybtx p+1)else(g.ids.length:Int))=_
 rw[ybzh];have e3:∀ a b:Int,binP 37 a b=yer (decide (a<b)):=fun a b=>rfl;rw[e3,e3];unfold cnV;have tT:yer true ≠ 0:=by decide
 have tF:¬ yer false ≠ 0:=by decide
 by_cases q:((g.ports.getD v []).length:Int)<2
 ·rw[if_pos q,decide_eq_true q,if_pos tT]
 ·rw[if_neg q,decide_eq_false q,if_neg tF]
  by_cases q2:cnS g c v<(g.ids.length:Int)
  ·rw[if_pos q2,decide_eq_true q2,if_pos tT];unfold satP;omega
  ·rw[if_neg q2,decide_eq_false q2,if_neg tF]
theorem Tr.ht_lt(h:Tr g)(hv:v<g.ports.length):htP g v<g.ports.length:=by
 rcases Int.lt_or_le (htP g v) 1 with q | q
 ·omega
 ·obtain⟨a,b,ha,_,_,hr,_⟩:=(ynl h.good hv q).1 (Int.le_refl _);obtain⟨w,hw,_,e⟩:=h.rch_ex ha;have:=h.lt_n hw hv;omega
theorem ype(hg:ybb g)(hv:v<g.ports.length):2<=(g.ports.getD v []).length ↔ ∃ a b,adj g v a/\adj g v b/\a ≠ b:=by
 constructor
 ·intro h;have m0:(g.ports.getD v [])[0] ∈ g.ports.getD v []:=List.getElem_mem _;have m1:(g.ports.getD v [])[1] ∈ g.ports.getD v []:=List.getElem_mem _;obtain⟨a1,_,a3,_⟩:=ydo hg hv m0;obtain⟨b1,_,b3,_⟩:=ydo hg hv m1;refine⟨_,_,a3,b3,fun e=>?_⟩;have hn:=yjo hg hv;have h0':0<((g.ports.getD v []).map (·.1)).length:=by rw[List.length_map];omega
  have h1':1<((g.ports.getD v []).map (·.1)).length:=by rw[List.length_map];omega
  have:=(List.getElem_inj (h₀:=h0') (h₁:=h1') hn).1 (by rw[List.getElem_map,List.getElem_map];omega)
  omega
 ·rintro⟨a,b,ha,hb,hne⟩;obtain⟨la,hla,ea⟩:=ymp ha;obtain⟨lb,hlb,eb⟩:=ymp hb;obtain⟨i,hi,e1⟩:=List.getElem_of_mem hla;obtain⟨j,hj,e2⟩:=List.getElem_of_mem hlb
  have:i ≠ j:=fun e=>by
   subst e;rw[e1]at e2;exact hne (by rw[<- ea,<- eb,e2])
  omega
theorem Tr.cn_next(h:Tr g)(hv:v<g.ids.length)(r:Nat)(hall:∀ u,u<g.ids.length->if htP g u<(r:Int)then(c.getD u []).getD 0 0=htP g u else(r:Int)<=(c.getD u []).getD 0 0) :
  if htP g v<((r+1:Nat):Int)then cnV g c v=htP g v else((r+1:Nat):Int)<=cnV g c v:=by
 have hpl:=h.good.2.2.1;have hvp:v<g.ports.length:=by omega
 have hlt:=h.ht_lt hvp;have h0:=yfg g v
 by_cases hd:2<=(g.ports.getD v []).length
 ·have eV:cnV g c v=if cnS g c v<(g.ids.length:Int)then cnS g c v+1 else(g.ids.length:Int):=by unfold cnV;rw[if_neg (by omega)]
  rw[eV];have hd2:=(ype h.good hvp).1 hd
  have agree:∀ u (j:Int),u<g.ids.length->j<=r->(j<=(c.getD u []).getD 0 0 ↔ j<=htP g u):=fun u j hu hj=>by
   have:=hall u hu;split at this
   ·rw[this]
   ·omega
  have key:∀ m:Int,1<=m->m<=r+1->(m<=cnS g c v+1 ↔ m<=htP g v):=fun m h1 h2=>by
   rw[h.ht_step hvp h1 hd2];have e:=((yli (-1073741824) ((g.ports.getD v []).map (endP c 0))).2.2 (m - 1) (by omega)).2
   have e2:=ybnx h.good hvp (f:=fun u=>(c.getD u []).getD 0 0) (m:=m - 1);have e3:m<=cnS g c v+1 ↔ m - 1<=cnS g c v:=by omega
   rw[e3];refine e.trans (e2.trans ?_);constructor
   ·rintro⟨a,b,ha,hb,hne,q1,q2⟩;exact⟨a,b,ha,hb,hne,(agree a _ (by have:=(h.good.adj_lt ha).2;omega) (by omega)).1 q1,(agree b _ (by have:=(h.good.adj_lt hb).2;omega) (by omega)).1 q2⟩
   ·rintro⟨a,b,ha,hb,hne,q1,q2⟩;exact⟨a,b,ha,hb,hne,(agree a _ (by have:=(h.good.adj_lt ha).2;omega) (by omega)).2 q1,(agree b _ (by have:=(h.good.adj_lt hb).2;omega) (by omega)).2 q2⟩
  have h1:1<=htP g v:=by
   rw[h.ht_step hvp (Int.le_refl 1) hd2];obtain⟨a,b,ha,hb,hne⟩:=hd2;exact⟨a,b,ha,hb,hne,by have:=yfg g a;omega,by have:=yfg g b;omega⟩
  by_cases hq:htP g v<((r+1:Nat):Int)
  ·rw[if_pos hq];have k1:=(key (htP g v) h1 (by omega)).2 (Int.le_refl _)
   have k2:¬ htP g v+1<=cnS g c v+1:=fun q=>by
    have:=(key (htP g v+1) (by omega) (by omega)).1 q
    omega
   rw[if_pos (by omega)]
   omega
  ·rw[if_neg hq];have k1:=(key (r+1) (by omega) (by omega)).2 (by omega)
   split<;>omega
 ·have eV:cnV g c v=0:=by unfold cnV;rw[if_pos (by omega)]
  rw[eV]
  have:htP g v=0:=by
   rcases Int.lt_or_le (htP g v) 1 with q | q
   ·omega
   ·obtain⟨a,b,ha,hb,hne,_⟩:=(ynl h.good hvp q).1 (Int.le_refl _);exact absurd ((ype h.good hvp).2 ⟨a,b,ha,hb,hne⟩) hd
  rw[this,if_pos (by omega)]
structure CnC(g:Gr)(c:Conf):Prop where
 len:c.length=g.ids.length
 row:∀ v,v<g.ids.length->(c.getD v []).length=1/\(0<=(c.getD v []).getD 0 0/\(c.getD v []).getD 0 0<=g.ids.length)
theorem yhc(hc:yfp (yeb nm nh nr) g c=true):CnC g c:=by
 have h:=(ydz _ _ _).1 hc;refine⟨h.1,fun v hv=>?_⟩;have hlt:v<c.length:=by rw[h.1];exact hv
 have e:c.getD v []=c[v]:=by simp[List.getD,hlt]
 have h2:=h.2 v _ (List.getElem?_eq_getElem hlt);rw[e];have hl:c[v].length=1:=h2.1;have a0:(ybc g v ⟨nh,1,0,0,1,0⟩).1<=c[v][0]/\c[v][0]<=(ybc g v ⟨nh,1,0,0,1,0⟩).2:=h2.2 0 _ _ rfl (List.getElem?_eq_getElem (by omega))
 have e0:c[v].getD 0 0=c[v][0]:=by simp[List.getD,hl]
 rw[e0];rw[bT1]at a0;simp only at a0;exact⟨hl,by omega,by omega⟩
theorem ydbd{s:List Int}(h:s.length=1)(x:Int):s = [x] ↔ s.getD 0 0=x:=by
 match s,h with
 | [a],_=>simp
theorem ybcj(hg:ybb g)(h:CnC g c)(hv:v<g.ids.length):ygg (yeb nm nh nr) g c v=if c.getD v [] = [cnV g c v]then -1 else 0:=by
 have h2:=(h.row v hv).1
 have e1:ykp g c v ⟨nr,.bin 36 (eVar 0) ybae,[(0,ybae)]⟩ = !decide (c.getD v [] = [cnV g c v]):=by
  show(binP 36 ((c.getD v []).getD 0 0) (yea g c v ybae (-1)) != 0)=_;have b36:∀ a b:Int,binP 36 a b=yer (a != b):=fun a b=>rfl;rw[ybey hg,b36,yboi];rw[Bool.eq_iff_iff];simp only[bne_iff_ne,Bool.not_eq_true',decide_eq_false_iff_not];rw[ydbd h2]
 unfold ygg yeb;simp only[List.findIdx?_cons,e1,List.findIdx?_nil]
 by_cases hs:c.getD v [] = [cnV g c v]
 ·rw[if_pos hs,decide_eq_true hs];rfl
 ·rw[if_neg hs,decide_eq_false hs];rfl
theorem ydcf(hg:ybb g)(hv:v<g.ids.length)(h0:∀ u,u<g.ids.length->0<=(c.getD u []).getD 0 0):0<=cnV g c v/\cnV g c v<=g.ids.length:=by
 have hpl:=hg.2.2.1;unfold cnV;split
 ·omega
 ·rename_i q
  have:0<=cnS g c v:=by
   have e:=((yli (-1073741824) ((g.ports.getD v []).map (endP c 0))).2.2 0 (by omega)).2
   refine e.2 ((ybnx hg (by omega) (f:=fun u=>(c.getD u []).getD 0 0) (m:=0)).2 ?_)
   obtain⟨a,b,ha,hb,hne⟩:=(ype hg (v:=v) (by omega)).1 (by omega)
   exact⟨a,b,ha,hb,hne,h0 a (by have:=(hg.adj_lt ha).2;omega),h0 b (by have:=(hg.adj_lt hb).2;omega)⟩
  split<;>omega
theorem ybct(hg:ybb g):Sh.yud (yeb nm nh nr) g=true:=by
 have h1:=hg.1;have h2:=hg.2.1;have h3:=hg.2.2.1;simp[Sh.yud,yeb,ybc];omega
theorem ydek:(yeb nm nh nr).ok=true:=by kernel_rfl
theorem ybqa(hg:ybb g):Tgt (ybl (yeb nm nh nr) g) (fun c=>yfp (yeb nm nh nr) g c=true) (fun c v=>[cnV g c v]) where
 valid:=fun c s hc _ _=>Sh.ysn hg ydek (ybct hg) hc s
 stay:=fun c s v hc hv hb=>by
  have hl:=(yhc hc).len;show(ykj _ g c s).getD v []=_;rw[Sh.yjy _ g c s (by rw[hl];exact hv),hb]
  rfl
 move:=fun c s v hc hv hb hs=>by
  have hcf:=yhc hc;have hv:v<g.ids.length:=hv;show(ykj _ g c s).getD v []=_;rw[Sh.yjy _ g c s (by rw[hcf.len];exact hv),hb,if_pos rfl]
  have hne:c.getD v [] ≠ [cnV g c v]:=fun he=>by
   have h1:=hs v hb;have h1:(yhx _ g.ids.length).testBit v=true:=h1;rw[yig]at h1;simp only[Bool.and_eq_true,decide_eq_true_eq]at h1;rw[ybcj hg hcf hv,if_pos he]at h1;omega
  rw[ybcj hg hcf hv,if_neg hne]
  obtain⟨x,hx⟩:∃ x,c.getD v [] = [x]:=by
   have:=(hcf.row v hv).1
   match hq:c.getD v [],this with
   | [x],_=>exact⟨x,rfl⟩
  obtain⟨b1,b2⟩:=ydcf hg hv fun u hu=>(hcf.row u hu).2.1;unfold ybcl ylp;rw[hx];show[yji 1 (ybc g v ⟨nh,1,0,0,1,0⟩) (yea g c v ybae (-1))]=_;rw[ybey hg];congr 1;unfold yji;rw[bT1,if_pos (by simp only;omega)]
 en:=fun c v hc hv=>by
  have hv:v<g.ids.length:=hv;show(yhx _ g.ids.length).testBit v=false ↔ _;rw[yig,ybcj hg (yhc hc) hv,decide_eq_true hv,Bool.true_and,decide_eq_false_iff_not]
  by_cases he:c.getD v [] = [cnV g c v]
  ·rw[if_pos he];exact⟨fun _=>he,fun _=>by omega⟩
  ·rw[if_neg he];exact⟨fun h=>(h (by omega)).elim,fun h=>absurd h he⟩
def cnR(g:Gr)(r v:Nat)(s:List Int):Prop:=if htP g v<(r:Int)then s = [htP g v]else(r:Int)<=s.getD 0 0
theorem yzq(h:Tr g)(hc:CnC g c)(hv:v<g.ids.length)(r:Nat)(hall:∀ u,u<g.ids.length->cnR g r u (c.getD u [])):cnR g (r+1) v [cnV g c v]:=by
 have:=h.cn_next hv r fun u hu=>by
  have:=hall u hu;unfold cnR at this;split at this
  ·rw[this];rw[if_pos (by assumption)];rfl
  ·rw[if_neg (by assumption)];exact this
 unfold cnR;split at this
 ·rw[if_pos (by assumption),this]
 ·rw[if_neg (by assumption)];exact this
theorem ybyx(r v:Nat)(s:List Int)(h:cnR g (r+1) v s):cnR g r v s:=by
 unfold cnR at *;split at h
 ·split
  ·exact h
  ·rw[h];show(r:Int)<=htP g v;omega
 ·rw[if_neg (by omega)];omega
theorem ybeg(hc:CnC g c)(hv:v<g.ids.length):cnR g 0 v (c.getD v []):=by
 unfold cnR;have:=yfg g v;rw[if_neg (by omega)]
 exact(hc.row v hv).2.1
theorem yqx(h:Tr g){res:Nat->Nat->Nat}(hr:ybhg res){ws:List Nat}{c:Conf}(hv:yfp (yeb nm nh nr) g c=true):∀ p ∈ (ybl (yeb nm nh nr) g).runs res ws c,RInv (ybl (yeb nm nh nr) g) (fun c=>yfp (yeb nm nh nr) g c=true) (cnR g) p.1 p.2 :=
 ((ybqa h.good).rounds (fun c v r hc' hn hall=>yzq h (yhc hc') hn r hall) ybyx).runs hr hv fun v hn=>ybeg (yhc hv) hn
def yhb(g:Gr)(c:Conf):Prop:=∀ v,v<g.ids.length->c.getD v [] = [htP g v]
theorem yboe{c:Conf}(h:yhb g c)(r v:Nat)(hv:v<g.ids.length):cnR g r v (c.getD v []):=by
 rw[h v hv];unfold cnR;split
 ·rfl
 ·show _<=htP g v;omega
theorem ybzd(h:Tr g){c:Conf}(hv:yfp (yeb nm nh nr) g c=true):ybp (yeb nm nh nr) g c=0 ↔ yhb g c:=by
 have hpl:=h.good.2.2.1;have h24:=h.good.2.1;constructor
 ·intro he v hn;have:=(ybqa (nm:=nm) (nh:=nh) (nr:=nr) h.good).silent (P:=cnR g) (fun c v r hc' hn hall=>yzq h (yhc hc') hn r hall) hv (fun v hn=>ybeg (yhc hv) hn) he 100 v hn;have:=h.ht_lt (v:=v) (by omega)
  unfold cnR at *;rw[if_pos (by omega)]at *
  assumption
 ·intro hr;refine(ybqa (nm:=nm) (nh:=nh) (nr:=nr) h.good).en_zero hv (Sh.ybvz _ g c) fun v hn=>?_;have hn:v<g.ids.length:=hn;have h1:=yzq h (yhc hv) hn 100 fun u hu=>yboe hr 100 u hu;have:=h.ht_lt (v:=v) (by omega)
  unfold cnR at h1;rw[if_pos (by omega)]at h1
  rw[h1];exact hr v hn
end
end Go.Proofs.YtiejahgklcjhkaaGreatDoor

namespace Go.Proofs.YtiejahgklcjhkaaGreatDoor
section
variable {g:Gr} {a b u v w x:Nat}
def ykg(g:Gr)(v:Nat)(e:Int):Prop:=(∀ w,w<g.ports.length->dP g w v<=e) /\ ∃ w,w<g.ports.length/\dP g w v=e
theorem ybsp(hv:v<g.ports.length):∃ e,ykg g v e:=by
 rcases(yol (fun w=>dP g w v) (fun _=>True) (List.range g.ports.length) (dP g v v))with⟨h1,h2,h3⟩;refine⟨_,fun w hw=>h2 w (List.mem_range.2 hw) trivial,?_⟩;rcases h3 with h3 | ⟨w,hw,_,e⟩
 ·exact⟨v,hv,h3.symm⟩
 ·exact⟨w,List.mem_range.1 hw,e⟩
theorem Tr.side(h:Tr g)(hu:adj g v u)(hw:w<g.ports.length):(dP g w u<dP g w v/\dP g w v=dP g w u+1)\/(dP g w v<dP g w u/\dP g w u=dP g w v+1):=by
 rcases h.up hw hu with q | q<;>omega
theorem Tr.link(h:Tr g)(hu:adj g v u){ev eu:Int}(he:ykg g v ev)(he':ykg g u eu) :
  ev=max (rchP g u v - 1) (rchP g v u)/\eu=max (rchP g v u - 1) (rchP g u v):=by
 have key:∀ {v u:Nat} {ev:Int},adj g v u->ykg g v ev->ev=max (rchP g u v - 1) (rchP g v u):=fun {v u ev} hu he=>by
  obtain⟨hv,hu'⟩:=h.good.adj_lt hu;obtain⟨e1,w,hw,e2⟩:=he
  have hle:ev<=max (rchP g u v - 1) (rchP g v u):=by
   rcases h.side hu hw with⟨q,q2⟩ | ⟨q,q2⟩
   ·have:=ywg hw q;omega
   ·have:=ywg (u:=v) (v:=u) hw q;omega
  obtain⟨x,hx,x1,x2⟩:=h.rch_ex hu;obtain⟨y,hy,y1,y2⟩:=h.rch_ex (h.good.adj_symm hu);have a1:=e1 x hx;have a2:=e1 y hy;rcases h.side hu hy with⟨q,q2⟩ | ⟨q,q2⟩<;>omega
 exact⟨key hu he,key (h.good.adj_symm hu) he'⟩
theorem Tr.ht_link(h:Tr g)(hu:adj g v u):(rchP g u v - 1<=rchP g v u->htP g v=rchP g u v - 1)/\(rchP g v u<=rchP g u v - 1->rchP g v u<=htP g v):=by
 obtain⟨hv,hu'⟩:=h.good.adj_lt hu;have p1:=h.rch_pos hu;have p2:=h.rch_pos (h.good.adj_symm hu);have from_:2<=rchP g u v -> ∃ x,adj g v x/\x ≠ u/\rchP g u v=1+rchP g v x:=fun q=>h.rch_from (h.good.adj_symm hu) q;constructor
 ·intro hq;refine Int.le_antisymm ?_ ?_
  ·rcases Int.lt_or_le (htP g v) 1 with q | q
   ·omega
   ·obtain⟨a,b,ha,hb,hne,r1,r2⟩:=(ynl h.good hv q).1 (Int.le_refl _)
    by_cases e:a=u
    ·have:=h.rch_step (h.good.adj_symm hu) hb (fun e2=>hne (by rw[e,e2]))
     omega
    ·have:=h.rch_step (h.good.adj_symm hu) ha e;omega
  ·rcases Int.lt_or_le (rchP g u v) 2 with q | q
   ·have:=yfg g v;omega
   ·obtain⟨x,hx,hne,e⟩:=from_ q;exact(ynl h.good hv (by omega)).2 ⟨x,u,hx,hu,hne,by omega,by omega⟩
 ·intro hq;obtain⟨x,hx,hne,e⟩:=from_ (by omega)
  exact(ynl h.good hv p1).2 ⟨x,u,hx,hu,hne,by omega,by omega⟩
theorem Tr.higher(h:Tr g)(hu:adj g v u){ev eu:Int}(he:ykg g v ev)(he':ykg g u eu):(htP g v<htP g u ↔ eu<ev)/\(htP g v=htP g u ↔ eu=ev):=by
 obtain⟨l1,l2⟩:=h.link hu he he';obtain⟨a1,a2⟩:=h.ht_link hu;obtain⟨b1,b2⟩:=h.ht_link (h.good.adj_symm hu);rcases Int.lt_trichotomy (rchP g v u) (rchP g u v)with q | q | q
 ·have:=b1 (by omega)
  have:=a2 (by omega)
  omega
 ·have:=a1 (by omega)
  have:=b1 (by omega)
  omega
 ·have:=a1 (by omega)
  have:=b2 (by omega)
  omega
def Peak(g:Gr)(v:Nat):Prop:=∀ u,adj g v u->htP g u<=htP g v
theorem Tr.peak_least(h:Tr g)(hp:Peak g v)(hv:v<g.ports.length)(hx:x<g.ports.length){ev ex:Int}(he:ykg g v ev)(he':ykg g x ex):ev<=ex/\(ex=ev->x ≠ v->dP g x v=1):=by
 by_cases e:x=v
 ·subst e;obtain⟨q1,w,hw,q2⟩:=he;obtain⟨p1,y,hy,p2⟩:=he';have:=q1 y hy;have:=p1 w hw;exact⟨by omega,fun _ hne=>absurd rfl hne⟩
 ·obtain⟨u,hu,hd⟩:=h.back hx hv (fun q=>e q.symm);obtain⟨eu,heu⟩:=ybsp (g:=g) (h.good.adj_lt hu).2;obtain⟨l1,l2⟩:=h.link hu he heu;have hh:=(h.higher hu he heu).1;have hle:=hp u hu;have hpos:=h.pos hx hv (fun q=>e q.symm)
  have hAB:rchP g v u<=rchP g u v:=by
   rcases Int.lt_or_le (rchP g u v) (rchP g v u)with q | q
   ·have:=hh.2 (by omega);omega
   ·exact q
  obtain⟨y,hy,y1,y2⟩:=h.rch_ex (h.good.adj_symm hu);have far:dP g y x=dP g y u+dP g x u:=h.thru hy _ v u x hu (by rcases h.side hu hy with⟨q,_⟩ | ⟨_,q⟩<;>omega) hx (by omega) (Nat.lt_succ_self _)
  have:=he'.1 y hy;have hxu:=h.nonneg hx (h.good.adj_lt hu).2;exact⟨by omega,fun q _=>by omega⟩
theorem Tr.least_peak(h:Tr g)(hv:v<g.ports.length){ev:Int}(he:ykg g v ev)(hl:∀ x ex,x<g.ports.length->ykg g x ex->ev<=ex):Peak g v:=fun u hu=>by
 obtain⟨eu,heu⟩:=ybsp (g:=g) (h.good.adj_lt hu).2;have h1:=(h.higher hu he heu).1;have h2:=hl u eu (h.good.adj_lt hu).2 heu;rcases Int.lt_or_le (htP g v) (htP g u)with q | q
 ·have:=h1.1 q;omega
 ·exact q
theorem Tr.peak_ex (h : Tr g) : ∃ v, v < g.ports.length /\ Peak g v := by
  have h0 : 0 < g.ports.length := by have := h.good.1; omega
  have : ∀ n, n <= g.ports.length -> 0 < n -> ∃ v, v < n /\ ∀ u, u < n -> htP g u <= htP g v := by
    intro n
    induction n with
    | zero => intro _ h; omega
    | succ n ih =>
      intro hn _
      by_cases q : n = 0
      · subst q; exact ⟨0, by omega, fun u hu => by have : u = 0 := by omega
                                                    subst this; exact Int.le_refl _⟩
      · obtain ⟨v, hv, hm⟩ := ih (by omega) (by omega)
        rcases Int.lt_or_le (htP g v) (htP g n) with q2 | q2
        · refine ⟨n, by omega, fun u hu => ?_⟩
          by_cases e : u = n
          · subst e; exact Int.le_refl _
          · have := hm u (by omega); omega
        · refine ⟨v, by omega, fun u hu => ?_⟩
          by_cases e : u = n
          · subst e; exact q2
          · exact hm u (by omega)
  obtain ⟨v, hv, hm⟩ := this g.ports.length (Nat.le_refl _) h0
  exact ⟨v, hv, fun u hu => hm u (h.good.adj_lt hu).2⟩
end
end Go.Proofs.YtiejahgklcjhkaaGreatDoor

namespace Go.Proofs.YtiejahgklcjhkaaGreatDoor
namespace Sh
section
variable {nm nd np nt nl:ByteArray} {g:Gr}
end
end Sh
end Go.Proofs.YtiejahgklcjhkaaGreatDoor

namespace Go.Proofs.YtiejahgklcjhkaaGreatDoor
def ResD(D:Nat->Prop)(res:Nat->Nat->Nat):Prop:=∀ e w,e ≠ 0->res e w ≠ 0/\subB (res e w) e/\D (res e w)
theorem Sys.run_allD{S:Sys}{D:Nat->Prop}{res:Nat->Nat->Nat}(hr:ResD D res){J:Conf->Cnt->Prop}(hstep:∀ c k s,J c k->s ≠ 0->subB s (S.en c)->D s->J (S.mv c s) (addP k s (S.en (S.mv c s)))) :
  ∀ (ws:List Nat) (c:Conf) (k:Cnt),J c k -> ∀ p ∈ S.run res ws c k,J p.1 p.2
 | [],c,k,_,p,hp=>by cases hp
 | w :: ws,c,k,hJ,p,hp=>by
  unfold Sys.run at hp;split at hp
  ·cases hp
  ·rename_i h0
   obtain⟨r1,r2,r3⟩:=hr _ w h0;have hJ':=hstep c k _ hJ r1 r2 r3;rcases List.mem_cons.1 hp with e | e
   ·rw[e];exact hJ'
   ·exact Sys.run_allD hr hstep ws _ _ hJ' p e
theorem Sys.runs_allD{S:Sys}{D:Nat->Prop}{res:Nat->Nat->Nat}(hr:ResD D res){J:Conf->Cnt->Prop}(hstep:∀ c k s,J c k->s ≠ 0->subB s (S.en c)->D s->J (S.mv c s) (addP k s (S.en (S.mv c s)))){ws:List Nat}{c:Conf}(h:J c (ycj (S.en c))):∀ p ∈ S.runs res ws c,J p.1 p.2:=fun p hp=>by
 rcases List.mem_cons.1 hp with e | e
 ·rw[e];exact h
 ·exact Sys.run_allD hr hstep ws _ _ h p e
theorem ResD.ok{D:Nat->Prop}{res:Nat->Nat->Nat}(h:ResD D res):ybhg res:=fun e w h0=>⟨(h e w h0).1,(h e w h0).2.1⟩
structure ByRoundsC(S:Sys)(V:Conf->Prop)(D:Nat->Prop)(P:Nat->Nat->Conf->Prop):Prop where
 valid:∀ c s,V c->s ≠ 0->subB s (S.en c)->D s->V (S.mv c s)
 stay:∀ c s v r r',r<=r'->r'<=r+1->V c->v<S.n->s.testBit v=false->subB s (S.en c)->D s->(∀ u,u<S.n->P r u c)->P r' v c->P r' v (S.mv c s)
 move:∀ c s v r,V c->v<S.n->s.testBit v=true->subB s (S.en c)->D s->(∀ u,u<S.n->P r u c)->P (r+1) v (S.mv c s)
 rest:∀ c v r,V c->v<S.n->(S.en c).testBit v=false->(∀ u,u<S.n->P r u c)->P (r+1) v c
 less:∀ r v c,P (r+1) v c->P r v c
structure RInvC(S:Sys)(V:Conf->Prop)(P:Nat->Nat->Conf->Prop)(c:Conf)(k:Cnt):Prop where
 valid:V c
 all:∀ v,v<S.n->P k.rounds v c
 done:∀ v,v<S.n->k.pend.testBit v=false->P (k.rounds+1) v c
 begun:k.begun<=k.rounds+1
section
variable {S:Sys} {V:Conf->Prop} {D:Nat->Prop} {P:Nat->Nat->Conf->Prop}
theorem ByRoundsC.start(h:ByRoundsC S V D P){c:Conf}(hv:V c)(h0:∀ v,v<S.n->P 0 v c):RInvC S V P c (ycj (S.en c)) :=
 ⟨hv,h0,fun v hn hb=>h.rest c v 0 hv hn hb h0,by simp[ycj]⟩
theorem ByRoundsC.step(h:ByRoundsC S V D P)(c:Conf)(k:Cnt)(s:Nat)(hi:RInvC S V P c k)(h0:s ≠ 0)(hs:subB s (S.en c))(hD:D s):RInvC S V P (S.mv c s) (addP k s (S.en (S.mv c s))):=by
 obtain⟨i1,i2,i3,i4⟩:=hi;have hv:=h.valid c s i1 h0 hs hD
 have hall:∀ v,v<S.n->P k.rounds v (S.mv c s):=fun v hn=>by
  cases hb:s.testBit v with
  | true=>exact h.less _ _ _ (h.move c s v _ i1 hn hb hs hD i2)
  | false=>exact h.stay c s v _ _ (Nat.le_refl _) (Nat.le_succ _) i1 hn hb hs hD i2 (i2 v hn)
 have hnext:∀ v,v<S.n->(difB k.pend s &&& S.en (S.mv c s)).testBit v=false->P (k.rounds+1) v (S.mv c s):=fun v hn hb=>by
  rw[Nat.testBit_and,yhk]at hb;cases hb1:s.testBit v with
  | true=>exact h.move c s v _ i1 hn hb1 hs hD i2
  | false =>
   cases hb2:k.pend.testBit v with
   | false=>exact h.stay c s v _ _ (Nat.le_succ _) (Nat.le_refl _) i1 hn hb1 hs hD i2 (i3 v hn hb2)
   | true =>
    rw[hb1,hb2]at hb;exact h.rest _ v _ hv hn (by simpa using hb) hall
 unfold addP;simp only
 by_cases hp:difB k.pend s &&& S.en (S.mv c s)=0
 ·simp only[if_pos hp];have hall':∀ v,v<S.n->P (k.rounds+1) v (S.mv c s):=fun v hn=>hnext v hn (by rw[hp];simp)
  exact⟨hv,hall',fun v hn hb=>h.rest _ v _ hv hn hb hall',by show k.rounds+1<=_;simp⟩
 ·simp only[if_neg hp];exact⟨hv,hall,hnext,Nat.le_refl _⟩
theorem ByRoundsC.runs(h:ByRoundsC S V D P){res:Nat->Nat->Nat}(hr:ResD D res){ws:List Nat}{c:Conf}(hv:V c)(h0:∀ v,v<S.n->P 0 v c):∀ p ∈ S.runs res ws c,RInvC S V P p.1 p.2 :=
 Sys.runs_allD hr (fun c k s=>h.step c k s) (h.start hv h0)
theorem ByRoundsC.silent(h:ByRoundsC S V D P){c:Conf}(hv:V c)(h0:∀ v,v<S.n->P 0 v c)(he:S.en c=0):∀ r v,v<S.n->P r v c
 | 0,v,hn=>h0 v hn
 | r+1,v,hn=>h.rest c v r hv hn (by rw[he];simp) (ByRoundsC.silent h hv h0 he r)
end
end Go.Proofs.YtiejahgklcjhkaaGreatDoor

namespace Go.Proofs.YtiejahgklcjhkaaGreatDoor
def hAt(c:Conf)(v:Nat):Int:=(c.getD v []).getD 0 0
def lAt(c:Conf)(v:Nat):Int:=(c.getD v []).getD 1 0
section
variable {nm nh nl nf nd nt ni:ByteArray} {g:Gr} {c:Conf} {u v w:Nat}
structure ElC(g:Gr)(c:Conf):Prop where
 len:c.length=g.ids.length
 row:∀ v,v<g.ids.length->(c.getD v []).length=2/\(0<=hAt c v/\hAt c v<=g.ids.length)/\(lAt c v=0\/lAt c v=1)
open Classical in
end
end Go.Proofs.YtiejahgklcjhkaaGreatDoor

namespace Go.Proofs.YtiejahgklcjhkaaGreatDoor
structure Stab(g:Gr)(c:Conf)(v:Nat):Prop where
 low:¬ Peak g v->lAt c v=0
 one:Peak g v->(∀ u,adj g v u->htP g u<htP g v)->lAt c v=1
 two:Peak g v -> ∀ u,adj g v u->htP g u=htP g v->lAt c u ≠ lAt c v
section
variable {nm nh nl nf nd nt ni:ByteArray} {g:Gr} {c:Conf} {u v w s:Nat}
end
end Go.Proofs.YtiejahgklcjhkaaGreatDoor

namespace Go.Proofs.YtiejahgklcjhkaaGreatDoor
section
variable {g:Gr} {u v:Nat}
end
end Go.Proofs.YtiejahgklcjhkaaGreatDoor

namespace Go.Proofs.YtiejahgklcjhkaaGreatDoor
section
variable {g:Gr} {a b v:Nat}
end
end Go.Proofs.YtiejahgklcjhkaaGreatDoor

