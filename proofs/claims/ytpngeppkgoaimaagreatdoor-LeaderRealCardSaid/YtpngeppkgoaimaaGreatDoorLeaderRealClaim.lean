/- For every input, LeaderReal returns true, and its arguments read as before; the listed table is tied to the program's text. -/
import Derived.Test.YtpngeppkgoaimaaGreatDoorPkLp14
import Derived.Test.YtpngeppkgoaimaaGreatDoorPkLp13
import Derived.Test.YtpngeppkgoaimaaGreatDoorPkLp15
import Derived.Test.YtpngeppkgoaimaaGreatDoorPkLpx1
import Derived.Test.YtpngeppkgoaimaaGreatDoorTie
import Derived.Test.YtpngeppkgoaimaaGreatDoorCards
import Derived.LaidMore
import Derived.Stop.Joined
import Derived.SevenTiedAt
set_option linter.unusedSimpArgs false
set_option linter.unusedVariables false
namespace Go.Proofs.YtpngeppkgoaimaaGreatDoor
open Go
namespace Sh
open Ev Go.RowKit
set_option maxRecDepth 8000
theorem ybls{g:Gr}(hI:GrI g):Returns Tryz.prog 53 [grV g] (.b (ycs g)):=by
 refine yne ⟨_,_,Tryz.func53,rfl⟩ (fun _=>.b) (fun _=>.simple rfl) fun G m us hG hr φ M w us' hRl hs hv=>?_;obtain⟨u,rfl,h1⟩:=rvl1 hr;obtain⟨u',rfl,h2⟩:=yfp hv;exact yhi u' g w (ybeo hG h1 h2 hRl hs hI)
theorem yvv{R:List Int}{x:Int}{ls:List (Int × Int)}{i:Nat}(hi:i<ls.length):ylc R x (ls.take (i+1))=(ylc R x (ls.take i) || decide (R[(ls.getD i (0,0)).1.toNat]? = some x)):=by
 unfold ylc;rw[List.take_succ_eq_append_getElem hi,List.any_append,getD_at hi];simp
end Sh
end Go.Proofs.YtpngeppkgoaimaaGreatDoor

namespace Go.Proofs.YtpngeppkgoaimaaGreatDoor
open Go
def bitP(b:Bool)(v:Nat):Nat:=if b then 2 ^ v else 0
theorem ycdw(b:Bool)(v i:Nat):(bitP b v).testBit i=(b && decide (v=i)):=by
 unfold bitP;cases b with
 | true=>rw[if_pos rfl,Nat.testBit_two_pow];simp
 | false=>simp
theorem ydbq{b:Bool}{v n:Nat}(h:v<n):bitP b v<2 ^ n:=by
 unfold bitP;split
 ·exact Nat.pow_lt_pow_right (by omega) h
 ·exact Nat.two_pow_pos n
theorem ybnm(f:Nat->Bool)(v:Nat):yfh f (v+1)=yfh f v ||| bitP (f v) v:=by
 refine Nat.eq_of_testBit_eq fun i=>?_;rw[Nat.testBit_or,yei,yei,ycdw]
 by_cases h:i=v
 ·subst h;simp
 ·have:(decide (v=i))=false:=decide_eq_false (fun e=>h e.symm);rw[this];have e:decide (i<v+1)=decide (i<v):=by rw[Bool.eq_iff_iff];simp;omega
  rw[e];simp
def nbF(g:Gr)(s:Nat)(v:Nat):Bool:=(g.ports.getD v []).any fun l=>s.testBit l.1.toNat
def nbP(g:Gr)(s:Nat):Nat:=yfh (nbF g s) g.ports.length
def ybll(g:Gr)(s:Nat):Nat->Nat
 | 0=>s
 | k+1=>nbP g (ybll g s k)
theorem ysm{g:Gr}(hg:yba g){u:Nat}:∀ (k v:Nat),(ybll g (2 ^ u) k).testBit v=true ↔ Walk g u k v
 | 0,v=>by
  show(2 ^ u).testBit v=true ↔ v=u;rw[Nat.testBit_two_pow];simp;exact eq_comm
 | k+1,v=>by
  show(yfh _ _).testBit v=true ↔ ∃ w,Walk g u k w/\adj g w v;rw[yei,Bool.and_eq_true,decide_eq_true_iff];unfold nbF;rw[List.any_eq_true];constructor
  ·rintro⟨hv,l,hl,hb⟩;obtain⟨_,_,ha,_⟩:=ycb hg hv hl;exact⟨l.1.toNat,(ysm hg k _).1 hb,hg.adj_symm ha⟩
  ·rintro⟨w,hw,ha⟩;obtain⟨l,hl,e⟩:=ybhr (hg.adj_symm ha);exact⟨(hg.adj_lt ha).2,l,hl,by rw[e];exact(ysm hg k w).2 hw⟩
theorem ydtg{g:Gr}(hg:yba g)(s:Nat):nbP g s<2 ^ 24:=Nat.lt_of_lt_of_le (yru _ _) (Nat.pow_le_pow_right (by omega) hg.2.1)
namespace Sh
open Ev Go.RowKit
set_option maxRecDepth 8000
theorem yyc{v:Nat}(h:v<2 ^ 32):IntKind.wrap .u64 (v:Int)=v:=by
 unfold IntKind.wrap;simp[IntKind.bits,IntKind.signed];omega
theorem ybsv{s v:Nat}(hs:s<2 ^ 32)(hv:v<32):Returns Tryz.prog 67 [.i .u32 s,.i .i64 v] (.b (s.testBit v)):=by
 refine Returns.of (yduk _ _ ?_);have t1:decide ((v:Int) >= 0)=true:=decide_eq_true (by omega)
 have t2:decide ((v:Int)<32)=true:=decide_eq_true (by omega)
 have ht:=ybkt (s:=s) (v:=v) hs;simp only[IntKind.bits]at ht;have e:((((s >>> v &&& 1:Nat):Int)) == 1)=s.testBit v:=by rw[Bool.eq_iff_iff,beq_iff_eq];exact yry
 simp only[c67,ydtf,ydum,t1,t2,clash,yyc (show v<2 ^ 32 by omega),ht,e,go_sem,Nat.reduceEqDiff,Nat.reduceAdd,↓reduceIte,reduceCtorEq]
 exact⟨⟨by omega,by show(v:Int)<((32:Nat):Int);omega⟩,Sim.refl _⟩
set_option maxHeartbeats 1000000 in
theorem ybrx{g:Gr}(hg:yba g){s:Nat}(hs:s<2 ^ 32):Returns Tryz.prog 66 [grV g,.i .u32 s] (.i .u32 (nbP g s)):=by
 refine Returns.of (ydqm _ _ ?_);have hV:=ybls (yqu hg);have hvb:ycs g=true:=(ycg g).2 hg;rw[hvb]at hV;obtain⟨n,hn⟩:∃ n,g.ports.length=n:=⟨_,rfl⟩;have h24:=hg.2.1;rw[hn]at h24;simp only[grV]at hV;simp only[c66,ydqw,ydli,grV,clash,go_sem,Nat.reduceEqDiff,Nat.reduceAdd,Nat.reduceLT,↓reduceIte];refine hV.use ?_;simp only[thenO,ydig,ydus,clash,go_sem,Nat.reduceAdd,↓reduceIte];refine ybd (σ:=Nat) (fun v=>⟨[(6,.i .i64 v),(5,.i .u32 (yfh (nbF g s) v:Nat)),(1,.i .u32 s),(2,.pt (2,0) 0 0)],[(2,.one (some ⟨28,true,2,1,fun _=>[yu g.ids,yx g.ports]⟩))]⟩) (fun v=>v<=n) (fun v=>n - v) 0 (Nat.zero_le _) ?_ ?_
 ·refine yh [] [] [] ?_;simp only[yfh,allQ,live,yg,Int.natCast_zero,go_sem,Nat.reduceEqDiff,↓reduceIte,reduceCtorEq]
 intro v hv
 by_cases hlt:v<n
 ·have t1:decide ((v:Int)<(n:Int))=true:=decide_eq_true (by omega)
  obtain⟨L,hL⟩:∃ L,g.ports.getD v []=L:=⟨_,rfl⟩;obtain⟨d,hd⟩:∃ d,L.length=d:=⟨_,rfl⟩;have hdeg:=hg.deg_lt (v:=v);rw[hL,hd]at hdeg;simp only[ydev,ydji,yx,hn,t1,clash,go_sem,Nat.reduceEqDiff,Nat.reduceAdd,↓reduceIte,reduceCtorEq];refine ybd (σ:=Nat) (fun i=>⟨[(7,.i .i64 i),(6,.i .i64 v),(5,.i .u32 (yfh (nbF g s) v ||| bitP ((L.take i).any fun l=>s.testBit l.1.toNat) v:Nat)),(1,.i .u32 s),(2,.pt (2,0) 0 0)],[(2,.one (some ⟨28,true,2,1,fun _=>[yu g.ids,yx g.ports]⟩))]⟩) (fun i=>i<=d) (fun i=>d - i) 0 (Nat.zero_le _) ?_ ?_
  ·refine yh [] [] [] ?_;simp only[yx,hn,bitP,Nat.or_zero,allQ,live,yg,Int.natCast_zero,go_sem,Nat.reduceEqDiff,↓reduceIte,reduceCtorEq]
  intro i hi
  by_cases hlti:i<d
  ·have t2:decide ((i:Int)<(d:Int))=true:=decide_eq_true (by omega)
   have hm:L.getD i (0,0) ∈ g.ports.getD v []:=by rw[hL,getD_at (show i<L.length by omega)];exact List.getElem_mem _
   obtain⟨m1,m2,_,m4,m5⟩:=ycb hg (by omega) hm
   obtain⟨l,hl⟩:∃ l,L.getD i (0,0)=l:=⟨_,rfl⟩;rw[hl]at m1 m2;have hH:=ybsv (s:=s) (v:=l.1.toNat) hs (by omega)
   rw[Int.toNat_of_nonneg m1]at hH
   have hT:((L.take (i+1)).any fun l=>s.testBit l.1.toNat)=(((L.take i).any fun l=>s.testBit l.1.toNat) || s.testBit l.1.toNat):=by
    rw[List.take_succ_eq_append_getElem (show i<L.length by omega),List.any_append]
    rw[getD_at (show i<L.length by omega)]at hl
    simp[hl]
   obtain⟨B,hB⟩:∃ B,((L.take i).any fun l=>s.testBit l.1.toNat)=B:=⟨_,rfl⟩;rw[hB]at hT;obtain⟨S,hS⟩:∃ S,yfh (nbF g s) v=S:=⟨_,rfl⟩;have hSl:S<2 ^ 24:=by rw[<- hS];exact Nat.lt_of_lt_of_le (yru _ _) (Nat.pow_le_pow_right (by omega) (by omega))
   simp only[ycxp,ycsh,yx,ybc,hn,hL,hd,hl,t2,hB,hS,clash,go_sem,Nat.reduceEqDiff,Nat.reduceAdd,Nat.reduceLeDiff,↓reduceIte,reduceCtorEq];refine⟨⟨by omega,by omega⟩,⟨by omega,by omega⟩,⟨by omega,by omega⟩,hH.use ?_⟩
   cases hb:s.testBit l.1.toNat with
   | true =>
    rw[hb,Bool.or_true]at hT;have sh:=ymn (v:=v) (by omega)
    have ov:=u32_or (a:=S ||| bitP B v) (b:=2 ^ v) (Nat.or_lt_two_pow (by omega) (ydbq (by omega))) (Nat.pow_lt_pow_right (by omega) (by omega))
    simp only[IntKind.bits,Int.toNat_natCast]at sh ov
    have oe:(S ||| bitP B v) ||| 2 ^ v=S ||| bitP true v:=by
     rw[Nat.or_assoc];congr 1;unfold bitP;cases B
     ·simp
     ·simp
    rw[oe]at ov;simp only[thenO,ycon,yddp,clash,yyc (show v<2 ^ 32 by omega),sh,ov,go_sem,Nat.reduceEqDiff,Nat.reduceAdd,↓reduceIte,reduceCtorEq]
    refine⟨⟨by omega,by show(v:Int)<((32:Nat):Int);omega⟩,ikw (by omega) (by omega),?_⟩
    refine yj (i+1) (by omega) (by omega) ?_
    refine yh [] [] [] ?_;simp only[hT,allQ,live,yg,ybb,go_sem,Nat.reduceEqDiff,↓reduceIte,reduceCtorEq];omega
   | false =>
    rw[hb,Bool.or_false]at hT;simp only[thenO,yddp,clash,go_sem,Nat.reduceEqDiff,Nat.reduceAdd,↓reduceIte,reduceCtorEq];refine⟨ikw (by omega) (by omega),?_⟩
    refine yj (i+1) (by omega) (by omega) ?_
    refine yh [] [] [] ?_;simp only[hT,allQ,live,yg,ybb,go_sem,Nat.reduceEqDiff,↓reduceIte,reduceCtorEq];omega
  ·obtain rfl:i=d:=by omega
   have t2:decide ((i:Int)<(i:Int))=false:=decide_eq_false (by omega)
   simp only[ycxp,ydou,yx,ybc,hn,hL,hd,t2,clash,go_sem,Nat.reduceEqDiff,Nat.reduceAdd,↓reduceIte,reduceCtorEq];refine⟨⟨by omega,by omega⟩,ikw (by omega) (by omega),?_⟩
   refine yj (v+1) (by omega) (by omega) ?_
   refine yh [] [] [] ?_
   have e:yfh (nbF g s) (v+1)=yfh (nbF g s) v ||| bitP ((L.take i).any fun l=>s.testBit l.1.toNat) v:=by
    rw[ybnm,<- hd,List.take_length];unfold nbF;rw[hL]
   rw[e];simp only[allQ,live,yg,ybb,go_sem,Nat.reduceEqDiff,↓reduceIte,reduceCtorEq];omega
 ·obtain rfl:v=n:=by omega
  have t1:decide ((v:Int)<(v:Int))=false:=decide_eq_false (by omega)
  simp only[ydev,ycli,yx,hn,t1,clash,go_sem,Nat.reduceEqDiff,Nat.reduceAdd,↓reduceIte,reduceCtorEq];unfold nbP;rw[hn];exact Sim.refl _
theorem ychu{g:Gr}(hg:yba g){u:Nat}(hu:u<g.ports.length):∀ k,ybll g (2 ^ u) k<2 ^ 32
 | 0=>Nat.pow_lt_pow_right (by omega) (by have:=hg.2.1;omega)
 | k+1=>Nat.lt_of_lt_of_le (ydtg hg _) (by omega)
set_option maxHeartbeats 1000000 in
theorem yccq{g:Gr}(hg:yba g){u k v:Nat}{id:Int}(hu:u<g.ids.length)(hid:g.ids.getD u 0=id)(hk:k<=1000)(hv:v<32)(hw:Walk g u k v):Returns Tryz.prog 30 [grV g,.i .i64 id,.i .i64 k,.i .i64 v] (.b true):=by
 refine Returns.of (yduq _ _ ?_);obtain⟨n,hn⟩:∃ n,g.ids.length=n:=⟨_,rfl⟩;have h24:=hg.2.1;have hpl:=hg.2.2.1;rw[hn]at hpl hu;simp only[c30,ydmo,ydug,ydlm,grV,clash,go_sem,Nat.reduceAdd,Nat.reduceLT,↓reduceIte];refine ybd (σ:=Nat) (fun j=>⟨[(10,.i .i64 j),(9,.i .u32 ((if u<j then 2 ^ u else 0:Nat):Int)),(1,.i .i64 id),(2,.i .i64 k),(3,.i .i64 v),(4,.pt (4,0) 0 0)],[(4,.one (some ⟨28,true,2,1,fun _=>[yu g.ids,yx g.ports]⟩))]⟩) (fun j=>j<=n) (fun j=>n - j) 0 (Nat.zero_le _) ?_ ?_
 ·refine yh [] [] [] ?_;simp only[Nat.not_lt_zero,allQ,live,yg,Int.natCast_zero,go_sem,Nat.reduceEqDiff,↓reduceIte,reduceCtorEq]
 intro j hj
 by_cases hlt:j<n
 ·have t1:decide ((j:Int)<(n:Int))=true:=decide_eq_true (by omega)
  by_cases hju:j=u
  ·subst hju;have t2:(g.ids.getD j 0 == id)=true:=by rw[hid];exact beq_self_eq_true _
   have sh:=ymn (v:=j) (by omega)
   simp only[Int.toNat_natCast]at sh;simp only[ycfz,ydar,ydpc,ydfo,yu,hn,t1,t2,clash,yyc (show j<2 ^ 32 by omega),sh,go_sem,Nat.reduceEqDiff,Nat.reduceAdd,Nat.reduceLeDiff,↓reduceIte,reduceCtorEq]
   refine⟨by omega,⟨by omega,by show(j:Int)<((32:Nat):Int);omega⟩,ikw (by omega) (by omega),?_⟩
   refine yj (j+1) (by omega) (by omega) ?_
   refine yh [] [] [] ?_;rw[if_pos (show j<j+1 by omega)]
   simp only[allQ,live,yg,ybb,go_sem,Nat.reduceEqDiff,↓reduceIte,reduceCtorEq];omega
  ·have t2:(g.ids.getD j 0 == id)=false:=by
    rw[beq_eq_false_iff_ne,<- hid];exact fun e=>hju (ybrh hg (by omega) (by omega) e)
   simp only[ycfz,ydar,ydfo,yu,hn,t1,t2,clash,go_sem,Nat.reduceEqDiff,Nat.reduceAdd,Nat.reduceLeDiff,↓reduceIte,reduceCtorEq];refine⟨by omega,ikw (by omega) (by omega),?_⟩
   refine yj (j+1) (by omega) (by omega) ?_
   refine yh [] [] [] ?_
   have e:(if u<j+1 then 2 ^ u else 0:Nat)=if u<j then 2 ^ u else 0:=by
    by_cases q:u<j
    ·rw[if_pos q,if_pos (by omega)]
    ·rw[if_neg q,if_neg (by omega)]
   rw[e];simp only[allQ,live,yg,ybb,go_sem,Nat.reduceEqDiff,↓reduceIte,reduceCtorEq];omega
 ·obtain rfl:j=n:=by omega
  have t1:decide ((j:Int)<(j:Int))=false:=decide_eq_false (by omega)
  simp only[ycfz,ydrk,yu,hn,t1,clash,go_sem,Nat.reduceEqDiff,Nat.reduceAdd,Nat.reduceLeDiff,↓reduceIte,reduceCtorEq];rw[if_pos hu];refine ybd (σ:=Nat) (fun i=>⟨[(11,.i .i64 i),(9,.i .u32 (ybll g (2 ^ u) i:Nat)),(2,.i .i64 k),(3,.i .i64 v),(4,.pt (4,0) 0 0)],[(4,.one (some ⟨28,true,2,1,fun _=>[yu g.ids,yx g.ports]⟩))]⟩) (fun i=>i<=k) (fun i=>k - i) 0 (Nat.zero_le _) ?_ ?_
  ·refine yh [] [] [] ?_;simp only[yu,hn,ybll,allQ,live,yg,Int.natCast_zero,go_sem,Nat.reduceEqDiff,↓reduceIte,reduceCtorEq]
  intro i hi;have hlt32:=ychu hg (u:=u) (by omega) i
  by_cases hlti:i<k
  ·have t2:decide ((i:Int)<(k:Int))=true:=decide_eq_true (by omega)
   have hN:=ybrx hg hlt32;simp only[grV,yu,hn]at hN;simp only[ydes,yckv,yu,hn,t2,clash,go_sem,Nat.reduceEqDiff,Nat.reduceAdd,↓reduceIte,reduceCtorEq];refine hN.use ?_;simp only[thenO,ydpl,clash,go_sem,Nat.reduceEqDiff,Nat.reduceAdd,↓reduceIte,reduceCtorEq];refine⟨ikw (by omega) (by omega),?_⟩
   refine yj (i+1) (by omega) (by omega) ?_
   refine yh [] [] [] ?_;simp only[ybll,allQ,live,yg,ybb,go_sem,Nat.reduceEqDiff,↓reduceIte,reduceCtorEq];omega
  ·obtain rfl:i=k:=by omega
   have t2:decide ((i:Int)<(i:Int))=false:=decide_eq_false (by omega)
   have hH:=ybsv hlt32 hv;rw[(ysm hg i v).2 hw]at hH;simp only[ydes,ycxd,yu,hn,t2,clash,go_sem,Nat.reduceEqDiff,Nat.reduceAdd,↓reduceIte,reduceCtorEq];refine hH.use ?_;simp only[thenO,clash,go_sem,Nat.reduceEqDiff,Nat.reduceAdd,↓reduceIte,reduceCtorEq];exact Sim.refl _
end Sh
end Go.Proofs.YtpngeppkgoaimaaGreatDoor

namespace Go.Proofs.YtpngeppkgoaimaaGreatDoor
open Go
namespace Sh
open Ev Go.RowKit
set_option maxRecDepth 8000
set_option maxHeartbeats 4000000 in
theorem ybqc{x:NetR}(hx:x.ok){raw:List Int}(hr:∀ k,inK .i64 (raw.getD k 0)){l:List Nat}(hb:∀ k,l.getD k 0<2 ^ 32):Returns Tryz.prog 6 [.ag (netC x),yu raw,usV l] (.b true):=by
 refine Returns.of (ydxu _ _ ?_);have hC:=ydx hx (most:=7) (by omega)
 simp only[netC]at hC;simp only[c6,c6_0,c6_1,netC,clash,go_sem,Nat.reduceEqDiff,Nat.reduceAdd,Nat.reduceLT,↓reduceIte];refine hC.found (V:=grV) (fun r g h=>h.2.2.2) fun r g h=>?_;obtain⟨hg,hcn,hn8,-⟩:=h;have hI:=yqu hg;have hCh:Checked (Lies LqB Lqv) (Lies LqC Lqr) LqP g:=⟨hg,yzy,yxf hg,yzf⟩;have hTx:=ysv;have hVs:=yov;have hCf:=ygs hg yzy hCh.hf hr;have hpl:=hg.2.2.1
 obtain⟨nn,hnn⟩:∃ m,g.ports.length=m:=⟨_,rfl⟩;have h24:=hg.2.1;rw[hnn]at h24;simp only[grV,yx,hnn]at hCf;simp(maxSteps:=5000000) only [thenO,c6_2,c6_3,grV,yx,hnn,clash,go_sem,Nat.reduceEqDiff,Nat.reduceAdd,Nat.reduceLT,↓reduceIte,reduceCtorEq];refine hTx.use ?_;simp(maxSteps:=5000000) only [go_sem];refine hVs.use ?_;simp(maxSteps:=5000000) only [go_sem,↓reduceIte];refine⟨by decide,hCf.found (V:=ybg) (fun r c h=>h.2) fun r c h=>?_⟩
 obtain⟨hcv,-⟩:=h;simp(maxSteps:=5000000) only [go_sem];refine⟨by decide,(ygo l hb 120 (by omega)).found (V:=usV) (fun r ws h=>h.2.2) fun r ws h=>?_⟩
 obtain⟨hwl,hw,-⟩:=h;have hRun:=yop yij hCh (kind:=3) (by omega) (yjz _) hcv hw (by omega)
 obtain⟨n,Cs,Ks,hD⟩:=runD (ybk LqP g) ylh ws c;have hlen:=hD.le;have hpos:=hD.pos;have hRd:∀ k,k<n->RInv (ybk LqP g) (fun c=>ych LqP g c=true) (ldR g) (Cs.getD k []) (Ks.getD k default):=fun k hk=>yns hg hcn yha hcv _ (hD.at_ hk).1;rw[hD.cs,hD.ks]at hRun;simp only[grV,yx,hnn,ydg,ydq,hD.lC,hD.lK]at hRun;simp(maxSteps:=5000000) only [go_sem,↓reduceIte];refine⟨by decide,hRun.use ?_⟩
 simp(maxSteps:=5000000) only [c6_4,go_sem,Nat.reduceEqDiff,↓reduceIte];refine⟨by decide,?_⟩
 refine ybd (σ:=Nat) (fun k=>⟨[(12,.i .i64 k),(9,.sl 1 n fun i=>[ybg (Cs.getD i [])]),(10,.sl 5 n fun i=>cntV (Ks.getD i default)),(8,.i .i64 nn),(11,.b true),(7,.pt (7,0) 0 0)],[(7,.one (some ⟨28,true,2,1,fun _=>[yu g.ids,yx g.ports]⟩))]⟩) (fun k=>k<=n) (fun k=>n - k) 0 (Nat.zero_le _) ?_ ?_
 ·refine yh [] [] [] ?_;simp only[yx,hnn,allQ,live,yg,Int.natCast_zero,go_sem,Nat.reduceEqDiff,↓reduceIte,reduceCtorEq]
 ·intro k hk
  by_cases hlt:k<n
  ·have t1:decide ((k:Int)<(n:Int))=true:=decide_eq_true (by omega)
   have hI:=hRd k hlt;obtain⟨C,hC⟩:∃ C,Cs.getD k []=C:=⟨_,rfl⟩;obtain⟨K,hK⟩:∃ K,Ks.getD k default=K:=⟨_,rfl⟩;rw[hC,hK]at hI;have hcf:=yfg hg hI.valid;simp only[c6_5,c6_7,t1,clash,go_sem,Nat.reduceEqDiff,Nat.reduceAdd,↓reduceIte,reduceCtorEq];refine ybd (σ:=Nat) (fun v=>⟨[(13,.i .i64 v),(12,.i .i64 k),(9,.sl 1 n fun i=>[ybg (Cs.getD i [])]),(10,.sl 5 n fun i=>cntV (Ks.getD i default)),(8,.i .i64 nn),(11,.b true),(7,.pt (7,0) 0 0)],[(7,.one (some ⟨28,true,2,1,fun _=>[yu g.ids,yx g.ports]⟩))]⟩) (fun v=>v<=nn) (fun v=>nn - v) 0 (Nat.zero_le _) ?_ ?_
   ·refine yh [] [] [] ?_;simp only[go_sem,allQ,live,yg,Int.natCast_zero,go_sem,Nat.reduceEqDiff,↓reduceIte,reduceCtorEq]
   intro v hv
   by_cases hlt2:v<nn
   ·have t2:decide ((v:Int)<(nn:Int))=true:=decide_eq_true (by omega)
    obtain⟨hv3,hd1,hd2,-⟩:=hcf.row v (by omega)
    have hCl:C.length=nn:=by rw[hcf.len];omega
    have f1:((nn:Int) != (nn:Int))=false:=by simp
    have f2:(((3:Nat):Int) != 3)=false:=rfl;have hb1:=(hI.all v (show v<g.ids.length by omega)).1
    by_cases hq:(C.getD v []).getD 1 0<(K.rounds:Int)
    ·obtain⟨u,j,hu,hid,hdj,hwk⟩:ybvm g v (C.getD v []):=hb1.resolve_left (by omega)
     have f4:decide ((C.getD v []).getD 1 0<(K.rounds:Int))=true:=decide_eq_true hq;have hW:=yccq hg (u:=u) (k:=j) (v:=v) hu hid (by omega) (by omega) hwk
     rw[<- hdj]at hW;simp only[grV]at hW;simp only[c6_8,ydcu,ycxr,c6_9,t2,cntV,yu,ybg,hC,hK,hCl,hv3,f1,f2,f4,clash,go_sem,Int.reduceToNat,Nat.reduceEqDiff,Nat.reduceAdd,Nat.reduceLeDiff,↓reduceIte,reduceCtorEq]
     repeat (refine⟨by omega,?_⟩)
     refine hW.use ?_;simp only[thenO,clash,go_sem,Nat.reduceEqDiff,Nat.reduceAdd,↓reduceIte,reduceCtorEq];refine⟨ikw (by omega) (by omega),?_⟩
     refine yj (v+1) (by omega) (by omega) ?_
     refine yh [] [] [] ?_;simp only[go_sem,allQ,live,yg,ybb,go_sem,Nat.reduceEqDiff,↓reduceIte,reduceCtorEq];omega
    ·have f4:decide ((C.getD v []).getD 1 0<(K.rounds:Int))=false:=decide_eq_false hq;simp only[c6_8,ydcu,ycxr,c6_9,t2,cntV,yu,ybg,hC,hK,hCl,hv3,f1,f2,f4,clash,go_sem,Int.reduceToNat,Nat.reduceEqDiff,Nat.reduceAdd,Nat.reduceLeDiff,↓reduceIte,reduceCtorEq]
     repeat (refine⟨by omega,?_⟩)
     refine⟨ikw (by omega) (by omega),?_⟩
     refine yj (v+1) (by omega) (by omega) ?_
     refine yh [] [] [] ?_;simp only[go_sem,allQ,live,yg,ybb,go_sem,Nat.reduceEqDiff,↓reduceIte,reduceCtorEq];omega
   ·obtain rfl:v=nn:=by omega
    have t2:decide ((v:Int)<(v:Int))=false:=decide_eq_false (by omega)
    simp only[c6_8,c6_6,t2,clash,go_sem,Nat.reduceEqDiff,Nat.reduceAdd,↓reduceIte,reduceCtorEq];refine⟨ikw (by omega) (by omega),?_⟩
    refine yj (k+1) (by omega) (by omega) ?_
    refine yh [] [] [] ?_;simp only[go_sem,allQ,live,yg,ybb,go_sem,Nat.reduceEqDiff,↓reduceIte,reduceCtorEq];omega
  ·obtain rfl:k=n:=by omega
   have t1:decide ((k:Int)<(k:Int))=false:=decide_eq_false (by omega)
   have hK:=yma;simp only[c6_5,ydpg,t1,clash,go_sem,Nat.reduceEqDiff,Nat.reduceAdd,↓reduceIte,reduceCtorEq];refine hK.use ?_;simp only[thenO,clash,go_sem,Nat.reduceEqDiff,Nat.reduceAdd,↓reduceIte,reduceCtorEq];exact Sim.refl _
end Sh
end Go.Proofs.YtpngeppkgoaimaaGreatDoor

namespace Go.Proofs.YtpngeppkgoaimaaGreatDoor
open Go.ChangeShapes Go.WideShapes Go.ChangeAt Go.RowKit Go.Joins Go.WideMaps Go.WideElems
set_option linter.unusedVariables false

set_option maxRecDepth 100000 in
theorem leaderReal_door(os:Os)(args:Array Value):laidMetH Tryz.prog Rows.leaderRealRow.laid ((World.doorLaid Tryz.prog 14 os).forCall (fun _ _=>0) ⟨#[],args,[]⟩).memory :=
 laidMetH_of_parts3 (fuel:=8) (laidMet_of_run' 8 (by kernel_rfl) (by kernel_rfl)) (by kernel_rfl) (by kernel_rfl)

set_option maxRecDepth 100000 in
theorem leaderReal_lifted(os:Os)(started:os.Started)(H:Type)(enc:TypeId × Value->H) :
  ReturnsInHanded {} Tryz.checked os 6 .any (fun w args=>(Rows.leaderRealSpec.pre enc Tryz.prog Tryz.f6 [] false w args/\laidMetH Tryz.prog Rows.leaderRealRow.laid w)/\sizedMet enc Tryz.prog Tryz.f6 (OpenSpec.ofChange Rows.leaderRealSpec) false w args)
   (Rows.leaderRealSpec.post enc Tryz.prog Tryz.f6 false true false false):=by
 refine returnsInHanded_of_change_and (C:=Tryz.checked) (X:=fun w _=>laidMetH Tryz.prog Rows.leaderRealRow.laid w) (fun _ _ _ hh h=>h.of_heap hh) own started (by kernel_rfl) Tryz.func6
  (ChangeSpec.witness_shaped (enc:=enc) (C:=Tryz.checked) (os:=os) (X:=fun w _=>laidMetH Tryz.prog Rows.leaderRealRow.laid w) false (World.doorLaid Tryz.prog 14 os) #[.agg #[.int .i64 0,.slice .none 0 0,.slice .none 0 0,.slice .none 0 0,.bool false,.bool false],.slice .none 0 0,.slice .none 0 0] 8 rfl (World.shaped_of_RefB (by kernel_rfl) (by kernel_rfl)) (by kernel_rfl) (by kernel_rfl) (by kernel_rfl) (leaderReal_door os _)) ?_
 intro W base args ds gs before hval0 hW _ _ hL _;have hval:∀ (j:Nat) t v,Tryz.f6.params[j]? = some t->args[j]? = some v->Value.okWide Tryz.prog W .any base t v:=hval0;have hW':=hW;obtain⟨p,q,hA0,hV,rfl,hfz,hnd⟩:=hW;have hA:DataW.TrodAll enc Tryz.prog W 0 (fun _=>true) true Tryz.f6.params.toList args.toList ds p:=hA0;rw[Tryz.params6]at hA hval;obtain⟨v0,vs0,d0,ds0,p0,q0,hargs,rfl,rfl,h0,r0⟩:=trodAll_cons hA
 obtain⟨v1,vs1,d1,ds1,p1,q1,rfl,rfl,rfl,h1,r1⟩:=trodAll_cons r0;obtain⟨v2,vs2,d2,ds2,p2,q2,rfl,rfl,rfl,h2,r2⟩:=trodAll_cons r1;obtain⟨rfl,rfl,rfl⟩:=trodAll_nil r2;obtain rfl:args = #[v0,v1,v2]:=by cases args;simp_all
 obtain⟨rfl,rfl⟩:=trodVars_none hV;have k0:=h0;have k1:=h1;have k2:=h2;have lt0:∀ x ∈ p0,x.block<W.heap.size:=by obtain⟨m,hm⟩:=k0;exact DataW.trod_lt m _ _ _ hm
 have lt1:∀ x ∈ p1,x.block<W.heap.size:=by obtain⟨m,hm⟩:=k1;exact DataW.trod_lt m _ _ _ hm
 have lt2:∀ x ∈ p2,x.block<W.heap.size:=by obtain⟨m,hm⟩:=k2;exact DataW.trod_lt m _ _ _ hm
 obtain⟨x0,u0,hx0,rr0,a0⟩:=Sh.yib (hval 0 24 v0 rfl rfl) h0;obtain⟨m1,hm1⟩:=h1;obtain⟨A1,len1,cap1,rfl⟩:=okWide_slice Tryz.underlying22 (hval 1 22 v1 rfl rfl);obtain⟨x1,hx1,u1,a1,rr1⟩:=Sh.yfl (v:=.slice A1 len1 cap1) hm1;obtain⟨m2,hm2⟩:=h2;obtain⟨A2,len2,cap2,rfl⟩:=okWide_slice Tryz.underlying25 (hval 2 25 v2 rfl rfl);obtain⟨x2,hx2,u2,a2,rr2⟩:=Sh.yky (v:=.slice A2 len2 cap2) hm2
 clear hA0 hval0
 have ha:Sh.RVL (Sh.memW W).b.get Sh.om0 [.ag (Sh.netC x0),Sh.yu x1,Sh.usV x2] [u0,u1,u2]:=.cons rr0 (.cons rr1 (.cons rr2 .nil));have hv:Ev.VRL (Sh.phiW W) [u0,u1,u2] [v0,.slice A1 len1 cap1,.slice A2 len2 cap2]:=.cons a0 (.cons (Sh.ycx a1) (.cons (Sh.ycx a2) .nil));refine(Sh.ygq (Sh.ybqc hx0 (Sh.ymf hx1) hx2) ⟨_,_,Tryz.func6,rfl⟩ Ev.yjr ha hv).mono fun e W' ⟨he,bel⟩=>?_
 subst he;exact⟨_,rfl,_,_,_,[],_,[],hW',trodAll_mk1 (shut_bool Tryz.underlying4 _),(trodAll_cons_mk (Below.trod laidOut (by kernel_rfl) (of_decide_eq_true (by kernel_rfl)) k0 bel lt0) (trodAll_cons_mk (Below.trod laidOut (by kernel_rfl) (of_decide_eq_true (by kernel_rfl)) k1 bel lt1) (trodAll_cons_mk (Below.trod laidOut (by kernel_rfl) (of_decide_eq_true (by kernel_rfl)) k2 bel lt2) trodAll_mk0))),rfl,bel.frame _,fun h=>by cases h⟩

theorem leaderReal_over:Rows.LeaderRealSaid :=
 OpenClaim.holds_of_wide 6 Tryz.f6 rfl rfl rfl rfl rfl rfl rfl ⟨rfl,rfl,rfl,rfl,rfl⟩ rfl rfl rfl rfl rfl (by kernel_rfl) Tryz.func6 (by kernel_rfl)
  (of_decide_eq_true (by kernel_rfl)) (by unfold Func.isWrapper;first | (rw[if_pos (by decide +kernel)];kernel_rfl) | (rw[if_neg (by decide +kernel)];exact⟨rfl,rfl⟩))
  (fun os started H enc _=>leaderReal_lifted os started H enc)

theorem leaderReal_holds:Rows.LeaderRealCardSaid :=
 Claim7.holds_tied_plain_at .later [] [.data] true Rows.leaderRealCard.stood.harness true
  leaderReal_over (fun _ h=>by cases h) (by kernel_rfl) (fun _ h=>by cases h) leaderReal_row_tie rfl ⟨rfl,rfl⟩ (by kernel_rfl) rfl
  (fun f fn hf hfn=>by
   obtain rfl:f=6:=Option.some.inj ((show Tryz.prog.funcNamed Rows.leaderRealRow.func=some 6 by kernel_rfl).symm.trans hf) |>.symm
   obtain rfl:fn=Tryz.f6:=(Option.some.inj (Tryz.func6.symm.trans hfn)).symm
   exact⟨by kernel_rfl,fun j t ht=>by
    rw[Tryz.params6]at ht;have hm:t ∈ [24,22,25]:=by simpa using Array.mem_of_getElem? ht
    have hall:([24,22,25].all fun u=>!Tryz.prog.wantsStandIn u)=true:=by kernel_rfl
    exact(show Tryz.prog.wantsStandIn t=false by simpa using List.all_eq_true.1 hall t (by simpa using hm))⟩)
  (by kernel_rfl)
#print axioms leaderReal_holds
end Go.Proofs.YtpngeppkgoaimaaGreatDoor

