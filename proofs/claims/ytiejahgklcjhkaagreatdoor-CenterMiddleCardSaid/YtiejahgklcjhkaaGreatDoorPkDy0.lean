/- Lemmas, joined: ScLw WrN WcC Cwm CenterMiddleL CenterMiddleV. -/
import Derived.Test.YtiejahgklcjhkaaGreatDoorPkD11
import Derived.Test.YtiejahgklcjhkaaGreatDoorPkD15
import Derived.Test.YtiejahgklcjhkaaGreatDoorPkD17
import Derived.Test.YtiejahgklcjhkaaGreatDoorPkD18
import Derived.Test.YtiejahgklcjhkaaGreatDoorTie
import Derived.Test.YtiejahgklcjhkaaGreatDoorCards
import Derived.LaidMore
import Derived.Stop.Joined
import Derived.SevenTiedAt
import Derived.Lib.LaidTab
import Derived.MakeChecks
set_option linter.unusedSimpArgs false
set_option linter.unusedVariables false
namespace Go.Proofs.YtiejahgklcjhkaaGreatDoor
namespace Sh
open Go Ev
def ydcb:LO:=[o3 (.mv (.const (.bool false))) 4 0]
def yddi:LO:=[mv' 1 5 0,o3 (.bin .geq (.tmp 5) (ci' 0)) 6 1,mv' 6 7 3,⟨.mv (.tmp 1),some 8,some (7,true),7⟩,⟨.bin .lss (.tmp 8) (ci' 32),some 9,some (7,true),15⟩,o3 (.pick (.tmp 7) (.tmp 9) (.const (.bool false))) 10 31,mv' 10 11 63,⟨.mv (.tmp 0),some 12,some (11,true),127⟩,⟨.mv (.tmp 1),some 13,some (11,true),127⟩,⟨.conv .u64 (.tmp 13),some 14,some (11,true),383⟩,⟨.bin .shr (.tmp 12) (.tmp 14),some 15,some (11,true),1023⟩,⟨.bin .and (.tmp 15) (.const (.int .u32 1)),some 16,some (11,true),2047⟩,⟨.bin .eql (.tmp 16) (.const (.int .u32 1)),some 17,some (11,true),4095⟩,o3 (.pick (.tmp 11) (.tmp 17) (.const (.bool false))) 18 8191,mv' 18 4 16383]
def c29:SC:=(.seq (.reg false ydcb) (.seq (.reg false yddi) .ret))
theorem ycyt:Fn 29 c29 [.t 4]:=fn_0 Tryz.func29 (by kernel_rfl) (by kernel_rfl)
def ydae:LO:=[o3 (.box 27 (.tmp 0)) 2 0,o3 (.mv (.const (.int .u32 0))) 4 0]
def ydag:LO:=[ld' true 2 2 8 0,cl' 85 [8] 9 1,o3 (.un .not (.tmp 9)) 10 3]
def ydge:LO:=[o3 (.mv (.const (.int .u32 0))) 4 0]
def yczo:LO:=[o3 (.mv (.const (.int .u32 0))) 5 0]
def ydbo:LO:=[o3 (.mv (ci' 0)) 6 0]
def ycun:LO:=[mv' 6 11 0,fa' 1 1 2 12 0,ld' false 1 12 13 2,ln' 13 14 6,bn' .lss 11 14 15 15]
def ycyf:LO:=[o3 (.mv (ci' 0)) 7 0]
def ycqn:LO:=[mv' 7 18 0,fa' 1 1 2 19 0,ld' false 1 19 20 2,mv' 6 21 0,ix' 1 20 21 22 14,ld' false 1 22 23 30,ln' 23 24 62,bn' .lss 18 24 25 127]
def ycgu:LO:=[mv' 1 28 0,fa' 1 1 2 29 0,ld' false 1 29 30 2,mv' 6 31 0,ix' 1 30 31 32 14,ld' false 1 32 33 30,mv' 7 34 0,ix' 2 33 34 35 126,fa' 0 1 35 36 254,ld' false 1 36 37 510,cl' 29 [28,37] 38 1023]
def ycqf:LO:=[mv' 5 39 0,mv' 6 40 0,o3 (.conv .u64 (.tmp 40)) 41 2,o3 (.bin .shl (.const (.int .u32 1)) (.tmp 41)) 42 6,bn' .or 39 42 43 15,mv' 43 5 31]
def ycwy:LO:=[mv' 7 26 0,o3 (.bin .add (.tmp 26) (ci' 1)) 27 1,mv' 27 7 3]
def yddu:LO:=[mv' 6 16 0,o3 (.bin .add (.tmp 16) (ci' 1)) 17 1,mv' 17 6 3]
def ycqk:LO:=[mv' 5 44 0,mv' 44 4 1]
def c31:SC:=(.seq (.reg false ydae) (.seq (.seq (.reg false ydag) (.cond (.tmp 10) (.seq (.reg false ydge) .ret) .skip)) (.seq (.reg false yczo) (.seq (.seq (.reg false ydbo) (.block 0 (.loop (.seq (.seq (.reg false ycun) (.cond (.tmp 15) .skip (.exit 0))) (.seq (.block 1 (.seq (.reg false ycyf) (.block 2 (.loop (.seq (.seq (.reg false ycqn) (.cond (.tmp 25) .skip (.exit 2))) (.seq (.block 3 (.seq (.reg false ycgu) (.cond (.tmp 38) (.reg false ycqf) .skip))) (.reg false ycwy))))))) (.reg false yddu)))))) (.seq (.reg false ycqk) .ret)))))
theorem ycxw:Fn 31 c31 [.t 4]:=fn_0 Tryz.func31 (by kernel_rfl) (by kernel_rfl)
end Sh
end Go.Proofs.YtiejahgklcjhkaaGreatDoor

namespace Go.Proofs.YtiejahgklcjhkaaGreatDoor
open Go
def bitP(b:Bool)(v:Nat):Nat:=if b then 2 ^ v else 0
theorem ybwl(b:Bool)(v i:Nat):(bitP b v).testBit i=(b && decide (v=i)):=by
 unfold bitP;cases b with
 | true=>rw[if_pos rfl,Nat.testBit_two_pow];simp
 | false=>simp
theorem ycqv{b:Bool}{v n:Nat}(h:v<n):bitP b v<2 ^ n:=by
 unfold bitP;split
 ·exact Nat.pow_lt_pow_right (by omega) h
 ·exact Nat.two_pow_pos n
theorem yblc(f:Nat->Bool)(v:Nat):yeu f (v+1)=yeu f v ||| bitP (f v) v:=by
 refine Nat.eq_of_testBit_eq fun i=>?_;rw[Nat.testBit_or,yew,yew,ybwl]
 by_cases h:i=v
 ·subst h;simp
 ·have:(decide (v=i))=false:=decide_eq_false (fun e=>h e.symm);rw[this];have e:decide (i<v+1)=decide (i<v):=by rw[Bool.eq_iff_iff];simp;omega
  rw[e];simp
def nbF(g:Gr)(s:Nat)(v:Nat):Bool:=(g.ports.getD v []).any fun l=>s.testBit l.1.toNat
def nbP(g:Gr)(s:Nat):Nat:=yeu (nbF g s) g.ports.length
theorem yder{g:Gr}(hg:ybb g)(s:Nat):nbP g s<2 ^ 24:=Nat.lt_of_lt_of_le (ypa _ _) (Nat.pow_le_pow_right (by omega) hg.2.1)
namespace Sh
open Ev Go.RowKit
set_option maxRecDepth 8000
theorem ybfz{v:Nat}(h:v<2 ^ 32):IntKind.wrap .u64 (v:Int)=v:=by
 unfold IntKind.wrap;simp[IntKind.bits,IntKind.signed];omega
theorem ybrl{s v:Nat}(hs:s<2 ^ 32)(hv:v<32):Returns Tryz.prog 29 [.i .u32 s,.i .i64 v] (.b (s.testBit v)):=by
 refine Returns.of (ycyt _ _ ?_);have t1:decide ((v:Int) >= 0)=true:=decide_eq_true (by omega)
 have t2:decide ((v:Int)<32)=true:=decide_eq_true (by omega)
 have ht:=ybic (s:=s) (v:=v) hs;simp only[IntKind.bits]at ht;have e:((((s >>> v &&& 1:Nat):Int)) == 1)=s.testBit v:=by rw[Bool.eq_iff_iff,beq_iff_eq];exact yrl
 simp only[c29,ydcb,yddi,t1,t2,clash,ybfz (show v<2 ^ 32 by omega),ht,e,go_sem,Nat.reduceEqDiff,Nat.reduceAdd,↓reduceIte,reduceCtorEq]
 exact⟨⟨by omega,by show(v:Int)<((32:Nat):Int);omega⟩,Sim.refl _⟩
set_option maxHeartbeats 1000000 in
theorem ybok{g:Gr}(hg:ybb g){s:Nat}(hs:s<2 ^ 32):Returns Tryz.prog 31 [grV g,.i .u32 s] (.i .u32 (nbP g s)):=by
 refine Returns.of (ycxw _ _ ?_);have hV:=ybis (ybxr hg);have hvb:ycb g=true:=(ycm g).2 hg;rw[hvb]at hV;obtain⟨n,hn⟩:∃ n,g.ports.length=n:=⟨_,rfl⟩;have h24:=hg.2.1;rw[hn]at h24;simp only[grV]at hV;simp only[c31,ydae,ydag,grV,clash,go_sem,Nat.reduceEqDiff,Nat.reduceAdd,Nat.reduceLT,↓reduceIte];refine hV.use ?_;simp only[thenO,yczo,ydbo,clash,go_sem,Nat.reduceAdd,↓reduceIte];refine ybe (σ:=Nat) (fun v=>⟨[(6,.i .i64 v),(5,.i .u32 (yeu (nbF g s) v:Nat)),(1,.i .u32 s),(2,.pt (2,0) 0 0)],[(2,.one (some ⟨27,true,2,1,fun _=>[yj g.ids,yu g.ports]⟩))]⟩) (fun v=>v<=n) (fun v=>n - v) 0 (Nat.zero_le _) ?_ ?_
 ·refine yg [] [] [] ?_;simp only[yeu,allQ,live,yc,Int.natCast_zero,go_sem,Nat.reduceEqDiff,↓reduceIte,reduceCtorEq]
 intro v hv
 by_cases hlt:v<n
 ·have t1:decide ((v:Int)<(n:Int))=true:=decide_eq_true (by omega)
  obtain⟨L,hL⟩:∃ L,g.ports.getD v []=L:=⟨_,rfl⟩;obtain⟨d,hd⟩:∃ d,L.length=d:=⟨_,rfl⟩;have hdeg:=hg.deg_lt (v:=v);rw[hL,hd]at hdeg;simp only[ycun,ycyf,yu,hn,t1,clash,go_sem,Nat.reduceEqDiff,Nat.reduceAdd,↓reduceIte,reduceCtorEq];refine ybe (σ:=Nat) (fun i=>⟨[(7,.i .i64 i),(6,.i .i64 v),(5,.i .u32 (yeu (nbF g s) v ||| bitP ((L.take i).any fun l=>s.testBit l.1.toNat) v:Nat)),(1,.i .u32 s),(2,.pt (2,0) 0 0)],[(2,.one (some ⟨27,true,2,1,fun _=>[yj g.ids,yu g.ports]⟩))]⟩) (fun i=>i<=d) (fun i=>d - i) 0 (Nat.zero_le _) ?_ ?_
  ·refine yg [] [] [] ?_;simp only[yu,hn,bitP,Nat.or_zero,allQ,live,yc,Int.natCast_zero,go_sem,Nat.reduceEqDiff,↓reduceIte,reduceCtorEq]
  intro i hi
  by_cases hlti:i<d
  ·have t2:decide ((i:Int)<(d:Int))=true:=decide_eq_true (by omega)
   have hm:L.getD i (0,0) ∈ g.ports.getD v []:=by rw[hL,getD_at (show i<L.length by omega)];exact List.getElem_mem _
   obtain⟨m1,m2,_,m4,m5⟩:=yco hg (by omega) hm
   obtain⟨l,hl⟩:∃ l,L.getD i (0,0)=l:=⟨_,rfl⟩;rw[hl]at m1 m2;have hH:=ybrl (s:=s) (v:=l.1.toNat) hs (by omega)
   rw[Int.toNat_of_nonneg m1]at hH
   have hT:((L.take (i+1)).any fun l=>s.testBit l.1.toNat)=(((L.take i).any fun l=>s.testBit l.1.toNat) || s.testBit l.1.toNat):=by
    rw[List.take_succ_eq_append_getElem (show i<L.length by omega),List.any_append]
    rw[getD_at (show i<L.length by omega)]at hl
    simp[hl]
   obtain⟨B,hB⟩:∃ B,((L.take i).any fun l=>s.testBit l.1.toNat)=B:=⟨_,rfl⟩;rw[hB]at hT;obtain⟨S,hS⟩:∃ S,yeu (nbF g s) v=S:=⟨_,rfl⟩;have hSl:S<2 ^ 24:=by rw[<- hS];exact Nat.lt_of_lt_of_le (ypa _ _) (Nat.pow_le_pow_right (by omega) (by omega))
   simp only[ycqn,ycgu,yu,yba,hn,hL,hd,hl,t2,hB,hS,clash,go_sem,Nat.reduceEqDiff,Nat.reduceAdd,Nat.reduceLeDiff,↓reduceIte,reduceCtorEq];refine⟨⟨by omega,by omega⟩,⟨by omega,by omega⟩,⟨by omega,by omega⟩,hH.use ?_⟩
   cases hb:s.testBit l.1.toNat with
   | true =>
    rw[hb,Bool.or_true]at hT;have sh:=yke (v:=v) (by omega)
    have ov:=u32_or (a:=S ||| bitP B v) (b:=2 ^ v) (Nat.or_lt_two_pow (by omega) (ycqv (by omega))) (Nat.pow_lt_pow_right (by omega) (by omega))
    simp only[IntKind.bits,Int.toNat_natCast]at sh ov
    have oe:(S ||| bitP B v) ||| 2 ^ v=S ||| bitP true v:=by
     rw[Nat.or_assoc];congr 1;unfold bitP;cases B
     ·simp
     ·simp
    rw[oe]at ov;simp only[thenO,ycqf,ycwy,clash,ybfz (show v<2 ^ 32 by omega),sh,ov,go_sem,Nat.reduceEqDiff,Nat.reduceAdd,↓reduceIte,reduceCtorEq]
    refine⟨⟨by omega,by show(v:Int)<((32:Nat):Int);omega⟩,ikw (by omega) (by omega),?_⟩
    refine yh (i+1) (by omega) (by omega) ?_
    refine yg [] [] [] ?_;simp only[hT,allQ,live,yc,yw,go_sem,Nat.reduceEqDiff,↓reduceIte,reduceCtorEq];omega
   | false =>
    rw[hb,Bool.or_false]at hT;simp only[thenO,ycwy,clash,go_sem,Nat.reduceEqDiff,Nat.reduceAdd,↓reduceIte,reduceCtorEq];refine⟨ikw (by omega) (by omega),?_⟩
    refine yh (i+1) (by omega) (by omega) ?_
    refine yg [] [] [] ?_;simp only[hT,allQ,live,yc,yw,go_sem,Nat.reduceEqDiff,↓reduceIte,reduceCtorEq];omega
  ·obtain rfl:i=d:=by omega
   have t2:decide ((i:Int)<(i:Int))=false:=decide_eq_false (by omega)
   simp only[ycqn,yddu,yu,yba,hn,hL,hd,t2,clash,go_sem,Nat.reduceEqDiff,Nat.reduceAdd,↓reduceIte,reduceCtorEq];refine⟨⟨by omega,by omega⟩,ikw (by omega) (by omega),?_⟩
   refine yh (v+1) (by omega) (by omega) ?_
   refine yg [] [] [] ?_
   have e:yeu (nbF g s) (v+1)=yeu (nbF g s) v ||| bitP ((L.take i).any fun l=>s.testBit l.1.toNat) v:=by
    rw[yblc,<- hd,List.take_length];unfold nbF;rw[hL]
   rw[e];simp only[allQ,live,yc,yw,go_sem,Nat.reduceEqDiff,↓reduceIte,reduceCtorEq];omega
 ·obtain rfl:v=n:=by omega
  have t1:decide ((v:Int)<(v:Int))=false:=decide_eq_false (by omega)
  simp only[ycun,ycqk,yu,hn,t1,clash,go_sem,Nat.reduceEqDiff,Nat.reduceAdd,↓reduceIte,reduceCtorEq];unfold nbP;rw[hn];exact Sim.refl _
end Sh
end Go.Proofs.YtiejahgklcjhkaaGreatDoor

namespace Go.Proofs.YtiejahgklcjhkaaGreatDoor
section
variable {g:Gr} {v:Nat}
theorem yyk(h:Tr g)(hv:v<g.ports.length):ysa g v (eccP g v):=by
 have hg:=h.good
 have he:eccP g (v:Int)=ybx (ybl g v):=by
  unfold eccP;rw[if_pos ⟨h.conn,by omega,by omega⟩,Int.toNat_natCast]
 have hlen:=yih hg hv;rw[he]
 have up:∀ w,w<g.ports.length->dP g w v<=ybx (ybl g v):=fun w hw=>by
  rw[yceb hg h.conn hw hv];refine yzz _ _ ?_;unfold dP;rw[Sh.getD_at (show w<(ybl g v).length by omega)]
  exact List.getElem_mem _
 refine⟨up,?_⟩;obtain⟨e,h1,w,hw,h2⟩:=yzy (g:=g) hv;refine⟨w,hw,Int.le_antisymm (up w hw) ?_⟩;have hn:=h.nonneg hw hv;refine yzb _ _ (by omega) fun x hx=>?_
 obtain⟨i,hi,rfl⟩:=List.getElem_of_mem hx;have hi':i<g.ports.length:=by omega
 have h3:=h1 i hi';rw[yceb hg h.conn hi' hv]at h3;have e3:dP g v i=(ybl g v)[i]:=by unfold dP;rw[Sh.getD_at hi]
 omega
theorem ycdi(h:Tr g)(hv:v<g.ports.length):0<=eccP g v/\eccP g v<g.ports.length:=by
 obtain⟨_,w,hw,e⟩:=yyk h hv;have h1:=h.nonneg hw hv;have h2:=h.lt_n hw hv;omega
def yfv(g:Gr)(k:Nat):Int:=(List.range k).foldl (fun m v=>min m (eccP g (v:Nat))) 24
theorem yjw(g:Gr)(k:Nat):yfv g (k+1)=min (yfv g k) (eccP g k):=by
 unfold yfv;rw[List.range_succ,List.foldl_append];rfl
theorem ypn(g:Gr):∀ k,yfv g k<=24/\(∀ v,v<k->yfv g k<=eccP g v)/\(yfv g k=24 \/ ∃ v,v<k/\yfv g k=eccP g v)
 | 0=>⟨Int.le_refl _,fun v h=>absurd h (Nat.not_lt_zero v),.inl rfl⟩
 | k+1=>by
  obtain⟨h1,h2,h3⟩:=ypn g k;rw[yjw];refine⟨by omega,fun v hv=>?_,?_⟩
  ·by_cases q:v=k
   ·subst q;omega
   ·have:=h2 v (by omega);omega
  ·rcases Int.lt_or_le (eccP g k) (yfv g k)with q | q
   ·exact .inr ⟨k,by omega,by omega⟩
   ·rcases h3 with e | ⟨v,hv,e⟩
    ·exact .inl (by omega)
    ·exact .inr ⟨v,by omega,by omega⟩
theorem yyt(g:Gr)(h:Tr g):∀ k,k<=g.ports.length->0<=yfv g k
 | 0,_=>by show(0:Int)<=24;decide
 | k+1,hk=>by
  rw[yjw];have:=yyt g h k (by omega)
  have:=(ycdi h (v:=k) (by omega)).1
  omega
theorem ycsn(h:Tr g)(hv:v<g.ports.length):Peak g v ↔ eccP g v=yfv g g.ports.length:=by
 obtain⟨h1,h2,h3⟩:=ypn g g.ports.length;have h24:=h.good.2.1;constructor
 ·intro hp;refine Int.le_antisymm ?_ (h2 v hv);rcases h3 with e | ⟨x,hx,e⟩
  ·have:=(ycdi h hv).2;omega
  ·rw[e];exact(h.peak_least hp hv hx (yyk h hv) (yyk h hx)).1
 ·intro e;refine h.least_peak hv (yyk h hv) fun x ex hx hex=>?_;have h4:=h2 x hx;obtain⟨a1,w,hw,a2⟩:=yyk h hx;obtain⟨b1,w',hw',b2⟩:=hex;have:=a1 w' hw';have:=b1 w hw;omega
theorem ycyz(h:Tr g){c:Conf}(hc:yjm g c)(hv:v<g.ports.length):(yhx (fun x=>(c.getD x []).getD 0 0) g).testBit v=(eccP g v == yfv g g.ports.length):=by
 rw[Bool.eq_iff_iff,beq_iff_eq,yjs h hc,<- ycsn h hv];exact⟨fun q=>q.2,fun q=>⟨hv,q⟩⟩
end
theorem ygv(s n:Nat):ybu s (n+1)=ybu s n+(s.testBit n).toNat:=rfl
theorem ykc{s:Nat}:∀ n,(∀ i,i<n->s.testBit i=false)->ybu s n=0
 | 0,_=>rfl
 | n+1,h=>by
  rw[ygv,ykc n fun i hi=>h i (by omega),h n (by omega)]
  rfl
theorem yzs{s:Nat}:∀ n,(∀ a b c,a<n->b<n->c<n->s.testBit a=true->s.testBit b=true->s.testBit c=true->a ≠ b->a ≠ c->b ≠ c->False)->ybu s n<=2
 | 0,_=>Nat.zero_le _
 | n+1,h=>by
  have ih:=yzs n fun a b c ha hb hc=>h a b c (by omega) (by omega) (by omega)
  rw[ygv];cases hb:s.testBit n with
  | false=>simpa using ih
  | true =>
   refine Classical.byContradiction fun q=>?_;have hq:2<=ybu s n:=by simp at q;omega
   have:∀ m,m<=n->2<=ybu s m -> ∃ a b,a<m/\b<m/\a ≠ b/\s.testBit a=true/\s.testBit b=true:=by
    intro m
    induction m with
    | zero=>intro _ h0;simp[ybu]at h0
    | succ m ih =>
     intro hm h2;rw[ygv]at h2;cases hbm:s.testBit m with
     | false =>
      rw[hbm]at h2;obtain⟨a,b,h1,h2',h3,h4,h5⟩:=ih (by omega) (by simpa using h2)
      exact⟨a,b,by omega,by omega,h3,h4,h5⟩
     | true =>
      rw[hbm]at h2;have h1:1<=ybu s m:=by simp at h2;omega
      have:∃ a,a<m/\s.testBit a=true:=Classical.byContradiction fun hn=>by
       have:=ykc (s:=s) m fun i hi=>by
        cases hz:s.testBit i with
        | false=>rfl
        | true=>exact absurd ⟨i,hi,hz⟩ hn
       omega
      obtain⟨a,ha,hsa⟩:=this;exact⟨a,m,by omega,by omega,by omega,hsa,hbm⟩
   obtain⟨a,b,h1,h2,h3,h4,h5⟩:=this n (Nat.le_refl _) hq;exact h a b n (by omega) (by omega) (by omega) h4 h5 hb h3 (by omega) (by omega)
theorem ybbf{s:Nat}:∀ n,2<=ybu s n -> ∃ a b,a<n/\b<n/\a ≠ b/\s.testBit a=true/\s.testBit b=true
 | 0,h=>by simp[ybu]at h
 | n+1,h=>by
  rw[ygv]at h;cases hb:s.testBit n with
  | false =>
   rw[hb]at h;obtain⟨a,b,h1,h2,h3⟩:=ybbf n (by simpa using h)
   exact⟨a,b,by omega,by omega,h3⟩
  | true =>
   rw[hb]at h;have h1:1<=ybu s n:=by simp at h;omega
   have:∃ a,a<n/\s.testBit a=true:=Classical.byContradiction fun hn=>by
    have:=ykc (s:=s) n fun i hi=>by
     cases hz:s.testBit i with
     | false=>rfl
     | true=>exact absurd ⟨i,hi,hz⟩ hn
    omega
   obtain⟨a,ha,hsa⟩:=this;exact⟨a,n,by omega,by omega,by omega,hsa,hb⟩
section
variable {g:Gr}
theorem ybnc(h:Tr g){c:Conf}(hc:yjm g c){S:Nat}(hS:yhx (fun x=>(c.getD x []).getD 0 0) g=S):ybu S g.ports.length=1\/(ybu S g.ports.length=2/\nbP g S &&& S=S):=by
 have hb:∀ v,S.testBit v=true ↔ v<g.ports.length/\Peak g v:=fun v=>by rw[<- hS];exact yjs h hc
 obtain⟨v,hv,hp⟩:=h.peak_ex;have h1:=yqc ((hb v).2 ⟨hv,hp⟩) g.ports.length hv;have h2:=yzs (s:=S) g.ports.length fun a b x ha hb' hx s1 s2 s3 n1 n2 n3=>h.no_three ((hb a).1 s1).2 ((hb b).1 s2).2 ((hb x).1 s3).2 ha hb' hx n1 n2 n3;rcases Nat.lt_or_ge (ybu S g.ports.length) 2 with q | q
 ·exact .inl (by omega)
 ·refine .inr ⟨by omega,?_⟩
  obtain⟨a,b,ha,hb',hne,sa,sb⟩:=ybbf _ q;have hab:adj g a b:=h.adj_of ha hb' (h.peaks_adj ((hb a).1 sa).2 ((hb b).1 sb).2 ha hb' (fun e=>hne e.symm));refine Nat.eq_of_testBit_eq fun i=>?_;rw[Nat.testBit_and];cases hi:S.testBit i with
  | false=>simp
  | true =>
   rw[Bool.and_true];have hpi:=(hb i).1 hi;have hor:i=a\/i=b:=Classical.byContradiction fun hq=>h.no_three ((hb a).1 sa).2 ((hb b).1 sb).2 hpi.2 ha hb' hpi.1 hne (fun e=>hq (.inl e.symm)) (fun e=>hq (.inr e.symm));unfold nbP;rw[yew,decide_eq_true hpi.1,Bool.true_and];unfold nbF;rw[List.any_eq_true];rcases hor with e | e
   ·obtain⟨l,hl,el⟩:=yhs hab;exact⟨l,by rw[e];exact hl,by rw[el];exact sb⟩
   ·obtain⟨l,hl,el⟩:=yhs (h.good.adj_symm hab);exact⟨l,by rw[e];exact hl,by rw[el];exact sa⟩
end
end Go.Proofs.YtiejahgklcjhkaaGreatDoor

namespace Go.Proofs.YtiejahgklcjhkaaGreatDoor
open Go
namespace Sh
open Ev Go.RowKit
set_option maxRecDepth 8000
theorem ycxa:∀ k,([]:List Nat).getD k 0<2 ^ 32:=fun k=>by simp
set_option maxHeartbeats 4000000 in
theorem ybbi{x:NetR}(hx:x.ok){raw:List Int}(hr:∀ k,inK .i64 (raw.getD k 0)):Returns Tryz.prog 3 [.ag (netC x),yj raw] (.b true):=by
 refine Returns.of (ydgs _ _ ?_);have hC:=Tree_ret hx (most:=10) (by omega)
 simp only[netC]at hC;simp only[c3,c3_0,c3_1,netC,clash,go_sem,Nat.reduceEqDiff,Nat.reduceAdd,Nat.reduceLT,↓reduceIte];refine hC.found (V:=grV) (fun r g h=>h.2.2.2) fun r g h=>?_;obtain⟨hT,hit,hn8,-⟩:=h;have hg:=hT.good;have hI:=ybxr hg;have hCh:Checked (Lies CqB Cqv) (Lies CqC Cqr) CqP g:=⟨hg,ybrb,ybcf hg,ybgy⟩;have hTx:=ybab;have hVs:=yui;have hCf:=ytj hg ybrb hCh.hf hr
 have hpl:=hg.2.2.1;have h24:=hg.2.1;simp only[grV]at hCf;simp(maxSteps:=5000000) only [thenO,c3_2,grV,clash,go_sem,Nat.reduceEqDiff,Nat.reduceAdd,Nat.reduceLT,↓reduceIte,reduceCtorEq];refine hTx.use ?_;simp(maxSteps:=5000000) only [go_sem];refine hVs.use ?_;simp(maxSteps:=5000000) only [go_sem,↓reduceIte];refine⟨by decide,hCf.found (V:=ybf) (fun r c h=>h.2) fun r c h=>?_⟩
 obtain⟨hcv,-⟩:=h;simp(maxSteps:=5000000) only [go_sem];refine⟨by decide,(Ct.simL (yua [] ycxa 12 (by omega)) (show SimL [.a (.slice none 0 0),.i .i64 12] _ from⟨ycsf,Sim.refl _,trivial⟩)).found (V:=usV) (fun r ws h=>h.2.2) fun r ws h=>?_⟩
 obtain⟨hwl,hw,-⟩:=h;have hRun:=ybrv yuv hCh (kind:=4) (by omega) (ycwp _) hcv hw (by omega)
 obtain⟨n,Cs,Ks,hD⟩:=runD (ybk CqP g) resS ws c;have hlen:=hD.le;have hpos:=hD.pos;obtain⟨C,hCe⟩:∃ C,Cs.getD (n - 1) []=C:=⟨_,rfl⟩;have hCv:yft CqP g C=true:=by rw[<- hCe];exact(yqu hT ybqa hcv _ (hD.at_ (show n - 1<n by omega)).1).valid
 have hR:yjm g C:=by rw[<- hCe];exact yyf hT hcv hD (by omega)
 have hCt:=ybdt hI (ybzh (ykk hg ybrb hCv))
 have hcp:ybyy g C=yhx (fun v=>(C.getD v []).getD 0 0) g:=by
  unfold ybyy;rw[if_pos (yddr hT hit hCv)]
 have hmid:=fun v hv=>ycyz hT hR (v:=v) hv;rw[hcp]at hCt;obtain⟨S,hS⟩:∃ S,yhx (fun v=>(C.getD v []).getD 0 0) g=S:=⟨_,rfl⟩;have hcnt:=ybnc hT hR hS
 have hS24:S<2 ^ 24:=by
  refine Nat.lt_of_lt_of_le (Nat.lt_pow_two_of_testBit (n:=g.ports.length) _ fun i hi=>?_) (Nat.pow_le_pow_right (by omega) h24)
  cases hq:S.testBit i with
  | false=>rfl
  | true =>
   rw[<- hS]at hq;have:=((yjs hT hR).1 hq).1;omega
 rw[hS]at hCt;simp only[hS]at hmid;have hE:=fun(v:Nat) (hv:v<g.ports.length)=>ycbc hI (v:=(v:Int)) (ydx (by omega))
 have hNb:=ybok hg (s:=S) (by omega)
 obtain⟨nn,hnn⟩:∃ m,g.ports.length=m:=⟨_,rfl⟩;have hmn:=fun k (hk:k<=g.ports.length)=>yyt g hT k hk;rw[hnn]at h24 hmid hcnt hE hmn;rw[hD.cs,hD.ks]at hRun;simp only[grV,ydf,ygl,hD.lC,hD.lK]at hRun;simp only[grV]at hCt hE hNb;have e1:((n:Int) - 1).toNat=n - 1:=by omega
 simp(maxSteps:=5000000) only [go_sem,↓reduceIte];refine⟨by decide,hRun.use ?_⟩
 simp(maxSteps:=5000000) only [thenO,c3_3,c3_5,c3_6,e1,hCe,clash,go_sem,Nat.reduceEqDiff,Nat.reduceAdd,↓reduceIte,reduceCtorEq];refine⟨by decide,ikw (by omega) (by omega),⟨by omega,by omega⟩,hCt.use ?_⟩
 refine ybe (σ:=Nat) (fun v=>⟨[(11,.i .i64 v),(10,.i .i64 (yfv g v)),(9,.i .u32 S),(5,.pt (5,0) 0 0)],[(5,.one (some ⟨27,true,2,1,fun _=>[yj g.ids,yu g.ports]⟩))]⟩) (fun v=>v<=nn) (fun v=>nn - v) 0 (Nat.zero_le _) ?_ ?_
 ·refine yg [] [] [] ?_;simp only[yu,hnn,allQ,live,yc,yw,Int.natCast_zero,go_sem,Nat.reduceEqDiff,↓reduceIte,reduceCtorEq];rfl
 intro v hv
 by_cases hlt:v<nn
 ·have t1:decide ((v:Int)<(nn:Int))=true:=decide_eq_true (by omega)
  have hEv:=hE v hlt;simp only[yu,hnn]at hEv;have es:=yjw g v;simp only[c3_7,c3_8,c3_9,yu,hnn,t1,clash,go_sem,Nat.reduceEqDiff,Nat.reduceAdd,↓reduceIte,reduceCtorEq];refine hEv.use ?_;simp only[thenO,<- es,clash,go_sem,Nat.reduceEqDiff,Nat.reduceAdd,↓reduceIte,reduceCtorEq];refine⟨ikw (by omega) (by omega),?_⟩
  refine yh (v+1) (by omega) (by omega) ?_
  refine yg [] [] [] ?_;simp only[allQ,live,yc,yw,go_sem,Nat.reduceEqDiff,↓reduceIte,reduceCtorEq];omega
 ·obtain rfl:v=nn:=by omega
  have t1:decide ((v:Int)<(v:Int))=false:=decide_eq_false (by omega)
  simp only[c3_7,ydfe,ycxx,yu,hnn,t1,clash,go_sem,Nat.reduceEqDiff,Nat.reduceAdd,↓reduceIte,reduceCtorEq];refine ybe (σ:=Nat) (fun k=>⟨[(13,.i .i64 k),(12,.i .i64 (ybu S k:Nat)),(10,.i .i64 (yfv g v)),(9,.i .u32 S),(5,.pt (5,0) 0 0)],[(5,.one (some ⟨27,true,2,1,fun _=>[yj g.ids,yu g.ports]⟩))]⟩) (fun k=>k<=v) (fun k=>v - k) 0 (Nat.zero_le _) ?_ ?_
  ·refine yg [] [] [] ?_;simp only[yu,hnn,allQ,live,yc,yw,Int.natCast_zero,go_sem,Nat.reduceEqDiff,↓reduceIte,reduceCtorEq];rfl
  intro k hk;have hpk:=yhr S k
  by_cases hlt:k<v
  ·have t2:decide ((k:Int)<(v:Int))=true:=decide_eq_true (by omega)
   have hEv:=hE k hlt;simp only[yu,hnn]at hEv;have hm:=hmid k hlt;have hH:=ybrl (s:=S) (v:=k) (by omega) (by omega)
   have ps:=ygv S k;obtain⟨b,hb⟩:∃ b,S.testBit k=b:=⟨_,rfl⟩;rw[hb]at hm hH ps;have f1:(b != (eccP g k == yfv g v))=false:=by rw[<- hm];cases b<;>rfl
   simp only[ybzc,ydfh,yu,hnn,t2,clash,go_sem,Nat.reduceEqDiff,Nat.reduceAdd,↓reduceIte,reduceCtorEq];refine hH.use ?_;simp only[thenO,clash,go_sem,Nat.reduceEqDiff,Nat.reduceAdd,↓reduceIte,reduceCtorEq];refine hEv.use ?_;simp only[thenO,yddw,f1,clash,go_sem,Nat.reduceEqDiff,Nat.reduceAdd,↓reduceIte,reduceCtorEq];refine hH.use ?_;cases b with
   | true =>
    have e2:(ybu S k:Int)+1=((ybu S (k+1):Nat):Int):=by rw[ps];simp
    simp only[yddt,yctr,e2,clash,go_sem,Nat.reduceEqDiff,Nat.reduceAdd,↓reduceIte,reduceCtorEq];refine⟨ikw (by omega) (by omega),ikw (by omega) (by omega),?_⟩
    refine yh (k+1) (by omega) (by omega) ?_
    refine yg [] [] [] ?_;simp only[allQ,live,yc,yw,go_sem,Nat.reduceEqDiff,↓reduceIte,reduceCtorEq];omega
   | false =>
    have e2:ybu S (k+1)=ybu S k:=by rw[ps];simp
    simp only[yctr,clash,go_sem,Nat.reduceEqDiff,Nat.reduceAdd,↓reduceIte,reduceCtorEq];refine⟨ikw (by omega) (by omega),?_⟩
    refine yh (k+1) (by omega) (by omega) ?_
    refine yg [] [] [] ?_;simp only[e2,allQ,live,yc,yw,go_sem,Nat.reduceEqDiff,↓reduceIte,reduceCtorEq];omega
  ·obtain rfl:k=v:=by omega
   have t2:decide ((k:Int)<(k:Int))=false:=decide_eq_false (by omega)
   have hK:=yqz;rcases hcnt with hc1 | ⟨hc2,hc3⟩
   ·have f1:(((ybu S k:Nat):Int) == 1)=true:=by rw[hc1];rfl
    simp only[ybzc,ycsq,yu,hnn,t2,clash,go_sem,Nat.reduceEqDiff,Nat.reduceAdd,↓reduceIte,reduceCtorEq];refine hK.use ?_;simp only[thenO,f1,clash,go_sem,Nat.reduceEqDiff,Nat.reduceAdd,↓reduceIte,reduceCtorEq];exact Sim.refl _
   ·have f1:(((ybu S k:Nat):Int) == 1)=false:=by rw[hc2];rfl
    have f2:(((ybu S k:Nat):Int) == 2)=true:=by rw[hc2];rfl
    have an:=u32_and (a:=nbP g S) (b:=S) (Nat.lt_of_lt_of_le (yder hg S) (by omega)) (by omega)
    rw[hc3]at an;simp only[IntKind.bits]at an;simp only[ybzc,ycsq,yu,hnn,t2,clash,go_sem,Nat.reduceEqDiff,Nat.reduceAdd,↓reduceIte,reduceCtorEq];refine hK.use ?_;simp only[thenO,f1,f2,clash,go_sem,Nat.reduceEqDiff,Nat.reduceAdd,↓reduceIte,reduceCtorEq];simp only[yu,hnn]at hNb;refine hNb.use ?_;simp only[an,clash,go_sem,Nat.reduceEqDiff,Nat.reduceAdd,↓reduceIte,reduceCtorEq];exact Sim.refl _
end Sh
end Go.Proofs.YtiejahgklcjhkaaGreatDoor

namespace Go.Proofs.YtiejahgklcjhkaaGreatDoor
open Go.ChangeShapes Go.WideShapes Go.ChangeAt Go.RowKit Go.Joins Go.WideMaps Go.WideElems
set_option linter.unusedVariables false

set_option maxRecDepth 100000 in
theorem yna(W:World)(h:laidMetH Tryz.prog Rows.centerMiddleRow.laid W):Ev.GlW W:=fun x hx=>by
 rw[MakeChecks.laidMetH_plain _ _ _ (by kernel_rfl)]at h
 have hg : Tryz.prog.globalNamed "math/bits.deBruijn32tab" = some 0 := by kernel_rfl
 have ht:=Lib.tabIs_of_head (rest:=[]) (k:=.u8) (zs:=([0,1,28,2,29,14,24,3,30,22,20,15,25,17,4,8,31,27,13,23,21,19,16,7,26,12,18,6,11,5,10,9]:List Int)) (t:=226) (e:=5) (n:=32) hg (by kernel_rfl) (by kernel_rfl) (by kernel_rfl) (by kernel_rfl) (by kernel_rfl) h
 unfold Lib.TabIs World.var? at ht;rw[hg]at ht;simp only[Option.bind_some]at ht;split at ht
 ·rename_i cs e fz hc
  obtain rfl:=Option.some.inj ht;obtain rfl:=Option.some.inj hx;exact⟨_,_,hc⟩
 ·cases ht

set_option maxRecDepth 100000 in
theorem ylx(os:Os)(args:Array Value):laidMetH Tryz.prog Rows.centerMiddleRow.laid ((World.doorLaid Tryz.prog 14 os).forCall (fun _ _=>0) ⟨#[],args,[]⟩).memory :=
 laidMetH_of_parts3 (fuel:=8) (laidMet_of_run' 8 (by kernel_rfl) (by kernel_rfl)) (by kernel_rfl) (by kernel_rfl)

set_option maxRecDepth 100000 in
theorem yjt(os:Os)(started:os.Started)(H:Type)(enc:TypeId × Value->H) :
  ReturnsInHanded {} Tryz.checked os 3 .any (fun w args=>(Rows.centerMiddleSpec.pre enc Tryz.prog Tryz.f3 [] false w args/\laidMetH Tryz.prog Rows.centerMiddleRow.laid w)/\sizedMet enc Tryz.prog Tryz.f3 (OpenSpec.ofChange Rows.centerMiddleSpec) false w args)
   (Rows.centerMiddleSpec.post enc Tryz.prog Tryz.f3 false true false false):=by
 refine returnsInHanded_of_change_and (C:=Tryz.checked) (X:=fun w _=>laidMetH Tryz.prog Rows.centerMiddleRow.laid w) (fun _ _ _ hh h=>h.of_heap hh) own started (by kernel_rfl) Tryz.func3
  (ChangeSpec.witness_shaped (enc:=enc) (C:=Tryz.checked) (os:=os) (X:=fun w _=>laidMetH Tryz.prog Rows.centerMiddleRow.laid w) false (World.doorLaid Tryz.prog 14 os) #[.agg #[.int .i64 0,.slice .none 0 0,.slice .none 0 0,.slice .none 0 0,.bool false,.bool false],.slice .none 0 0] 8 rfl (World.shaped_of_RefB (by kernel_rfl) (by kernel_rfl)) (by kernel_rfl) (by kernel_rfl) (by kernel_rfl) (ylx os _)) ?_
 intro W base args ds gs before hval0 hW _ _ hL _;have hval:∀ (j:Nat) t v,Tryz.f3.params[j]? = some t->args[j]? = some v->Value.okWide Tryz.prog W .any base t v:=hval0;have hW':=hW;obtain⟨p,q,hA0,hV,rfl,hfz,hnd⟩:=hW;have hA:DataW.TrodAll enc Tryz.prog W 0 (fun _=>true) true Tryz.f3.params.toList args.toList ds p:=hA0;rw[Tryz.params3]at hA hval;obtain⟨v0,vs0,d0,ds0,p0,q0,hargs,rfl,rfl,h0,r0⟩:=trodAll_cons hA
 obtain⟨v1,vs1,d1,ds1,p1,q1,rfl,rfl,rfl,h1,r1⟩:=trodAll_cons r0;obtain⟨rfl,rfl,rfl⟩:=trodAll_nil r1;obtain rfl:args = #[v0,v1]:=by cases args;simp_all
 obtain⟨rfl,rfl⟩:=trodVars_none hV;have k0:=h0;have k1:=h1;have lt0:∀ x ∈ p0,x.block<W.heap.size:=by obtain⟨m,hm⟩:=k0;exact DataW.trod_lt m _ _ _ hm
 have lt1:∀ x ∈ p1,x.block<W.heap.size:=by obtain⟨m,hm⟩:=k1;exact DataW.trod_lt m _ _ _ hm
 obtain⟨x0,u0,hx0,rr0,a0⟩:=Sh.ybba (hval 0 24 v0 rfl rfl) h0;obtain⟨m1,hm1⟩:=h1;obtain⟨A1,len1,cap1,rfl⟩:=okWide_slice Tryz.underlying22 (hval 1 22 v1 rfl rfl);obtain⟨x1,hx1,u1,a1,rr1⟩:=Sh.yik (v:=.slice A1 len1 cap1) hm1
 clear hA0 hval0
 have ha:Sh.RVL (Sh.memW W).b.get Sh.om0 [.ag (Sh.netC x0),Sh.yj x1] [u0,u1]:=.cons rr0 (.cons rr1 .nil);have hv:Ev.VRL (Sh.phiW W) [u0,u1] [v0,.slice A1 len1 cap1]:=.cons a0 (.cons (Sh.ygn a1) .nil);refine(Sh.yuk (Sh.ybbi hx0 (Sh.yzr hx1)) ⟨_,_,Tryz.func3,rfl⟩ Ev.yoq (yna W hL) ha hv).mono fun e W' ⟨he,bel⟩=>?_;subst he;exact⟨_,rfl,_,_,_,[],_,[],hW',trodAll_mk1 (shut_bool Tryz.underlying4 _),(trodAll_cons_mk (Below.trod laidOut (by kernel_rfl) (of_decide_eq_true (by kernel_rfl)) k0 bel lt0) (trodAll_cons_mk (Below.trod laidOut (by kernel_rfl) (of_decide_eq_true (by kernel_rfl)) k1 bel lt1) trodAll_mk0)),rfl,bel.frame _,fun h=>by cases h⟩

end Go.Proofs.YtiejahgklcjhkaaGreatDoor

namespace Go.Proofs.YtiejahgklcjhkaaGreatDoor
open Go.ChangeShapes Go.WideShapes Go.ChangeAt Go.RowKit Go.Joins Go.WideMaps Go.WideElems
set_option linter.unusedVariables false

theorem ysh:(Rows.centerMiddleRow.inPlace == Tryz.prog.inPlace 3)=true:=by kernel_rfl
theorem yrt:(Rows.centerMiddleRow.unfollowed == Tryz.prog.unfollowed 3)=true:=by kernel_rfl
theorem yru:(Rows.centerMiddleRow.recurses == Tryz.prog.recurses 3)=true:=by kernel_rfl
theorem yrm:(Rows.centerMiddleRow.named == Tryz.prog.varsNamed 3)=true:=by kernel_rfl
theorem yqd:laidOutB Tryz.prog=true:=by kernel_rfl
theorem ypx:mapsRowed Tryz.prog=true:=by kernel_rfl
theorem centerMiddle_j7:Tryz.prog.funcNamed Rows.centerMiddleRow.func=some 3:=by kernel_rfl
theorem ypp:Rows.centerMiddleRow.wf (OpenSpec.ofChange Rows.centerMiddleSpec)=true:=by kernel_rfl
theorem ykb:joinedFacts Tryz.prog 3 Tryz.f3 Rows.centerMiddleSpec Rows.centerMiddleRow=true:=by
 unfold joinedFacts
 repeat' (with_reducible refine Bool.and_eq_true_iff.2 ⟨?_,?_⟩)
 all_goals first | (with_reducible exact ysh) | (with_reducible exact yrt) | (with_reducible exact yru) | (with_reducible exact yrm) | (with_reducible exact yqd) | (with_reducible exact ypx) | (with_reducible exact ypp) | (with_reducible exact ybhy) | (rw[ybhz];rfl) | (rw[ybrd];rfl) | kernel_rfl
theorem ymc:Tryz.f3.isInstance Tryz.prog Rows.centerMiddleRow.origin Rows.centerMiddleRow.targs:=of_decide_eq_true (by kernel_rfl)
theorem yma:Tryz.f3.isWrapper Tryz.prog Rows.centerMiddleRow.wrapper Rows.centerMiddleRow.mainSum:=by
 unfold Func.isWrapper
 first | (rw[if_pos (by decide +kernel)];kernel_rfl) | (rw[if_neg (by decide +kernel)];exact⟨rfl,rfl⟩)
theorem centerMiddle_over:Rows.CenterMiddleSaid :=
 OpenClaim.holds_of_wide 3 Tryz.f3 rfl rfl rfl rfl rfl rfl rfl ⟨rfl,rfl,rfl,rfl,rfl⟩ rfl rfl rfl rfl rfl centerMiddle_j7 Tryz.func3 ykb ymc yma
  (fun os started H enc _=>yjt os started H enc)

end Go.Proofs.YtiejahgklcjhkaaGreatDoor

