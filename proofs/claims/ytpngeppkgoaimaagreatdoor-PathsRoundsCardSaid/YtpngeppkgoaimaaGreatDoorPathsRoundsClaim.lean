/- For every input, PathsRounds returns true, and its arguments read as before; the listed table is tied to the program's text. -/
import Derived.Test.YtpngeppkgoaimaaGreatDoorPkPp16
import Derived.Test.YtpngeppkgoaimaaGreatDoorPkPpx1
import Derived.Test.YtpngeppkgoaimaaGreatDoorTie
import Derived.Test.YtpngeppkgoaimaaGreatDoorCards
import Derived.LaidMore
import Derived.Stop.Joined
import Derived.SevenTiedAt
set_option linter.unusedSimpArgs false
set_option linter.unusedVariables false
namespace Go.Proofs.YtpngeppkgoaimaaGreatDoor
open Go
namespace Sh
open Ev Go.RowKit
set_option maxRecDepth 8000
theorem ytz(S:Sys)(res:Nat->Nat->Nat):∀ (ws:List Nat) (c:Conf) (k:Cnt) (i:Nat) p,(S.run res ws c k)[i]? = some p->p.2.rounds<=k.rounds+i+1
 | [],c,k,i,p,h=>by simp[Sys.run]at h
 | w :: ws,c,k,i,p,h=>by
  unfold Sys.run at h;split at h
  ·simp at h
  ·have hr:∀ d,(addP k (res (S.en c) w) d).rounds<=k.rounds+1:=fun d=>by
    unfold addP;simp only;split<;>omega
   cases i with
   | zero =>
    simp only[List.getElem?_cons_zero]at h;cases h
    exact hr _
   | succ i =>
    have:=ytz S res ws _ _ i p (by simpa using h)
    have:=hr (S.en (S.mv c (res (S.en c) w)));omega
theorem RunD.rounds_le{S:Sys}{res:Nat->Nat->Nat}{ws:List Nat}{c:Conf}{n:Nat}{Cs:List Conf}{Ks:List Cnt}(h:RunD S res ws c n Cs Ks){k:Nat}(hk:k<n):(Ks.getD k default).rounds<=k:=by
 have h1:=(h.at_ hk).2;unfold Sys.runs at h1;cases k with
 | zero =>
  simp only[List.getElem?_cons_zero,Option.some.injEq]at h1;have e:ycz (S.en c)=Ks.getD 0 default:=congrArg Prod.snd h1;rw[<- e];exact Nat.le_refl _
 | succ k =>
  simp only[List.getElem?_cons_succ]at h1;have h2:=ytz S res _ _ _ _ _ h1;have h2:(Ks.getD (k+1) default).rounds<=0+k+1:=h2;omega
set_option maxHeartbeats 4000000 in
theorem ybaw{x:NetR}(hx:x.ok){raw:List Int}(hr:∀ k,inK .i64 (raw.getD k 0)){l:List Nat}(hb:∀ k,l.getD k 0<2 ^ 32):Returns Tryz.prog 3 [.ag (netC x),yj raw,usV l] (.b true):=by
 refine Returns.of (ydjo _ _ ?_);have hC:=yhi hx (most:=7) (by omega)
 simp only[netC]at hC;simp only[c3,c3_0,c3_1,netC,clash,go_sem,Nat.reduceEqDiff,Nat.reduceAdd,Nat.reduceLT,↓reduceIte];refine hC.found (V:=grV) (fun r g h=>h.2.2.2) fun r g h=>?_;obtain⟨hg,hcn,hn8,-⟩:=h;have hI:=ywo hg;obtain⟨W,hW⟩:=exW hg hcn;have hCh:Checked (Lies PqB Pqv) (Lies PqC Pqr) PqP g:=⟨hg,yvt,ypz hg,yov⟩;have hTx:=ykq;have hVs:=ykh;have hCf:=yjj hg yvt hCh.hf hr
 have hWr:=ydfu hg hW;have hpl:=hg.2.2.1;have h24:=hg.2.1;simp only[grV]at hCf hWr;simp(maxSteps:=5000000) only [thenO,c3_2,grV,clash,go_sem,Nat.reduceEqDiff,Nat.reduceAdd,Nat.reduceLT,↓reduceIte,reduceCtorEq];refine hTx.use ?_;simp(maxSteps:=5000000) only [go_sem];refine hVs.use ?_;simp(maxSteps:=5000000) only [go_sem,↓reduceIte];refine⟨by decide,hCf.found (V:=ybe) (fun r c h=>h.2) fun r c h=>?_⟩
 obtain⟨hcv,-⟩:=h;simp(maxSteps:=5000000) only [go_sem];refine⟨by decide,(yiw l hb 120 (by omega)).found (V:=usV) (fun r ws h=>h.2.2) fun r ws h=>?_⟩
 obtain⟨hwl,hw,-⟩:=h;have hRun:=yvq ygs hCh (kind:=3) (by omega) (yxo _) hcv hw (by omega)
 obtain⟨n,Cs,Ks,hD⟩:=runD (ybk PqP g) ypr ws c;have hlen:=hD.le;have hpos:=hD.pos;have hRd:∀ k,k<n->RInv (ybk PqP g) (fun c=>ydk PqP g c=true) (ptR g W) (Cs.getD k []) (Ks.getD k default):=fun k hk=>yqo hW hg yqq hcv _ (hD.at_ hk).1;rw[hD.cs,hD.ks]at hRun;simp only[grV,yda,yfu,hD.lC,hD.lK]at hRun;simp(maxSteps:=5000000) only [go_sem,↓reduceIte];refine⟨by decide,hRun.use ?_⟩
 simp(maxSteps:=5000000) only [thenO,c3_3,clash,go_sem,Nat.reduceEqDiff,Nat.reduceAdd,↓reduceIte,reduceCtorEq];refine⟨by decide,hWr.use ?_⟩
 simp(maxSteps:=5000000) only [c3_4,go_sem];obtain⟨nn,hnn⟩:∃ m,g.ports.length=m:=⟨_,rfl⟩;have hWl:=hW.len;rw[hnn]at h24 hWl;refine ybc (σ:=Nat) (fun v=>⟨[(13,.i .i64 v),(12,.i .i64 (lgV g v)),(8,.sl 1 n fun i=>[ybe (Cs.getD i [])]),(9,.sl 5 n fun i=>cntV (Ks.getD i default)),(10,.b true),(11,yj W),(7,.pt (7,0) 0 0)],[(7,.one (some ⟨28,true,2,1,fun _=>[yj g.ids,yu g.ports]⟩))]⟩) (fun v=>v<=nn) (fun v=>nn - v) 0 (Nat.zero_le _) ?_ ?_
 ·refine yg [] [] [] ?_;simp only[lgV,allQ,live,yc,Int.natCast_zero,go_sem,Nat.reduceEqDiff,↓reduceIte,reduceCtorEq]
 intro v hv
 by_cases hltv:v<nn
 ·have t1:decide ((v:Int)<(nn:Int))=true:=decide_eq_true (by omega)
  obtain⟨L,hL⟩:∃ L,g.ports.getD v []=L:=⟨_,rfl⟩;obtain⟨d,hd⟩:∃ d,L.length=d:=⟨_,rfl⟩;have hdeg:=hg.deg_lt (v:=v);rw[hL,hd]at hdeg;simp only[c3_5,c3_7,yu,hnn,t1,clash,go_sem,Nat.reduceEqDiff,Nat.reduceAdd,↓reduceIte,reduceCtorEq];refine ybc (σ:=Nat) (fun i=>⟨[(14,.i .i64 i),(13,.i .i64 v),(12,.i .i64 ((L.take i).foldl (fun a l=>min a l.2) (lgV g v))),(8,.sl 1 n fun i=>[ybe (Cs.getD i [])]),(9,.sl 5 n fun i=>cntV (Ks.getD i default)),(10,.b true),(11,yj W),(7,.pt (7,0) 0 0)],[(7,.one (some ⟨28,true,2,1,fun _=>[yj g.ids,yu g.ports]⟩))]⟩) (fun i=>i<=d) (fun i=>d - i) 0 (Nat.zero_le _) ?_ ?_
  ·refine yg [] [] [] ?_;simp only[yu,hnn,List.foldl_nil,allQ,live,yc,Int.natCast_zero,go_sem,Nat.reduceEqDiff,↓reduceIte,reduceCtorEq]
  intro i hi
  by_cases hlti:i<d
  ·have t2:decide ((i:Int)<(d:Int))=true:=decide_eq_true (by omega)
   have hT:(L.take (i+1)).foldl (fun a l=>min a l.2) (lgV g v)=min ((L.take i).foldl (fun a l=>min a l.2) (lgV g v)) (L.getD i (0,0)).2:=by
    rw[List.take_succ_eq_append_getElem (show i<L.length by omega),List.foldl_append,getD_at (show i<L.length by omega)]
    rfl
   simp only[c3_8,ycxj,c3_9,yu,yba,hnn,hL,hd,t2,clash,go_sem,Nat.reduceEqDiff,Nat.reduceAdd,↓reduceIte,reduceCtorEq]
   repeat (refine⟨⟨by omega,by omega⟩,?_⟩)
   refine⟨ikw (by omega) (by omega),?_⟩
   refine yh (i+1) (by omega) (by omega) ?_
   refine yg [] [] [] ?_;simp only[hT,allQ,live,yc,yw,go_sem,Nat.reduceEqDiff,↓reduceIte,reduceCtorEq];omega
  ·obtain rfl:i=d:=by omega
   have t2:decide ((i:Int)<(i:Int))=false:=decide_eq_false (by omega)
   simp only[c3_8,c3_6,yu,yba,hnn,hL,hd,t2,clash,go_sem,Nat.reduceEqDiff,Nat.reduceAdd,↓reduceIte,reduceCtorEq];refine⟨⟨by omega,by omega⟩,ikw (by omega) (by omega),?_⟩
   refine yh (v+1) (by omega) (by omega) ?_
   refine yg [] [] [] ?_
   have e:lgV g (v+1)=(L.take i).foldl (fun a l=>min a l.2) (lgV g v):=by
    rw[<- hd,List.take_length,<- hL];rfl
   rw[e];simp only[allQ,live,yc,yw,go_sem,Nat.reduceEqDiff,↓reduceIte,reduceCtorEq];omega
 ·obtain rfl:v=nn:=by omega
  have t1:decide ((v:Int)<(v:Int))=false:=decide_eq_false (by omega)
  have hlg:lgV g v=yei g:=by rw[<- hnn];rfl
  obtain⟨w1,w2,_⟩:=yhk hg;rw[hlg];obtain⟨w,hwv⟩:∃ w,yei g=w:=⟨_,rfl⟩;rw[hwv]at w1 w2 ⊢;simp only[c3_5,ydgg,yu,hnn,t1,clash,go_sem,Nat.reduceEqDiff,Nat.reduceAdd,↓reduceIte,reduceCtorEq];refine ybc (σ:=Nat) (fun k=>⟨[(15,.i .i64 k),(12,.i .i64 w),(8,.sl 1 n fun i=>[ybe (Cs.getD i [])]),(9,.sl 5 n fun i=>cntV (Ks.getD i default)),(10,.b true),(11,yj W)],[]⟩) (fun k=>k<=n) (fun k=>n - k) 0 (Nat.zero_le _) ?_ ?_
  ·refine yg [] [] [] ?_;simp only[go_sem,allQ,live,yc,Int.natCast_zero,go_sem,Nat.reduceEqDiff,↓reduceIte,reduceCtorEq]
  intro k hk
  by_cases hlt:k<n
  ·have t2:decide ((k:Int)<(n:Int))=true:=decide_eq_true (by omega)
   have hI:=hRd k hlt;obtain⟨C,hC⟩:∃ C,Cs.getD k []=C:=⟨_,rfl⟩;obtain⟨K,hK⟩:∃ K,Ks.getD k default=K:=⟨_,rfl⟩;rw[hC,hK]at hI;have hcf:=ycu hI.valid;have hkr:K.rounds<=4096:=by have:=hD.rounds_le hlt;rw[hK]at this;omega
   simp only[ycvi,ydas,t2,clash,go_sem,Nat.reduceEqDiff,Nat.reduceAdd,↓reduceIte,reduceCtorEq];refine ybc (σ:=Nat) (fun u=>⟨[(16,.i .i64 u),(15,.i .i64 k),(12,.i .i64 w),(8,.sl 1 n fun i=>[ybe (Cs.getD i [])]),(9,.sl 5 n fun i=>cntV (Ks.getD i default)),(10,.b true),(11,yj W)],[]⟩) (fun u=>u<=v) (fun u=>v - u) 0 (Nat.zero_le _) ?_ ?_
   ·refine yg [] [] [] ?_;simp only[go_sem,allQ,live,yc,Int.natCast_zero,go_sem,Nat.reduceEqDiff,↓reduceIte,reduceCtorEq]
   intro u hu
   by_cases hlt2:u<v/\(K.rounds:Int) > 0
   ·have t3:decide ((u:Int)<(v:Int))=true:=decide_eq_true (by omega)
    have t4:decide ((K.rounds:Int) > 0)=true:=decide_eq_true hlt2.2;obtain⟨hv2,hd1,-⟩:=hcf.row u (by omega)
    have hCl:C.length=v:=by rw[hcf.len];omega
    have f1:((v:Int) != (v:Int))=false:=by simp
    have f2:(((2:Nat):Int) != 2)=false:=rfl;have hb1:=hI.all u (show u<g.ids.length by omega)
    unfold ptR at hb1;rw[hwv]at hb1;have hm0:(K.rounds:Int) * w<=4096 * 15:=Int.mul_le_mul (by omega) w2 (by omega) (by omega)
    have hm1:0<=(K.rounds:Int) * w:=Int.mul_nonneg (by omega) (by omega)
    obtain⟨M,hM⟩:∃ M,(K.rounds:Int) * w=M:=⟨_,rfl⟩;rw[hM]at hb1 hm0 hm1
    by_cases hq:W.getD u 0<M
    ·rw[if_pos hq]at hb1;have f3:(C.getD u []).getD 0 0=W.getD u 0:=by rw[hb1];rfl
     have f4:decide (W.getD u 0<M)=true:=decide_eq_true hq;have f5:decide (W.getD u 0 >= M)=false:=decide_eq_false (by omega)
     have f6:(W.getD u 0 != W.getD u 0)=false:=by simp
     simp(maxSteps:=5000000) only [ybqy,ycte,ycwc,ycse,ycth,t3,t4,cntV,yj,ybe,hC,hK,hWl,hCl,hv2,hM,f1,f2,f3,f4,f5,f6,clash,go_sem,Int.reduceToNat,Nat.reduceEqDiff,Nat.reduceAdd,Nat.reduceLeDiff,↓reduceIte,reduceCtorEq]
     repeat (refine⟨⟨by omega,by omega⟩,?_⟩)
     refine⟨ikw (by omega) (by omega),?_⟩
     repeat (refine⟨⟨by omega,by omega⟩,?_⟩)
     refine⟨ikw (by omega) (by omega),?_⟩
     refine yh (u+1) (by omega) (by omega) ?_
     refine yg [] [] [] ?_;simp only[go_sem,allQ,live,yc,yw,go_sem,Nat.reduceEqDiff,↓reduceIte,reduceCtorEq];omega
    ·rw[if_neg hq]at hb1;have f4:decide (W.getD u 0<M)=false:=decide_eq_false hq;have f5:decide (W.getD u 0 >= M)=true:=decide_eq_true (by omega)
     have f6:decide ((C.getD u []).getD 0 0<M)=false:=decide_eq_false (by omega)
     simp(maxSteps:=5000000) only [ybqy,ycte,ycwc,ycse,ycth,t3,t4,cntV,yj,ybe,hC,hK,hWl,hCl,hv2,hM,f1,f2,f4,f5,f6,clash,go_sem,Int.reduceToNat,Nat.reduceEqDiff,Nat.reduceAdd,Nat.reduceLeDiff,↓reduceIte,reduceCtorEq]
     repeat (refine⟨⟨by omega,by omega⟩,?_⟩)
     refine⟨ikw (by omega) (by omega),?_⟩
     repeat (refine⟨⟨by omega,by omega⟩,?_⟩)
     refine⟨ikw (by omega) (by omega),?_⟩
     refine yh (u+1) (by omega) (by omega) ?_
     refine yg [] [] [] ?_;simp only[go_sem,allQ,live,yc,yw,go_sem,Nat.reduceEqDiff,↓reduceIte,reduceCtorEq];omega
   ·by_cases hlv:u<v
    ·have t3:decide ((u:Int)<(v:Int))=true:=decide_eq_true (by omega)
     have t4:decide ((K.rounds:Int) > 0)=false:=decide_eq_false (fun q=>hlt2 ⟨hlv,q⟩);simp only[ybqy,ycqy,t3,t4,cntV,hK,hWl,yj,clash,go_sem,Nat.reduceEqDiff,Nat.reduceAdd,Nat.reduceLeDiff,↓reduceIte,reduceCtorEq];refine⟨⟨by omega,by omega⟩,ikw (by omega) (by omega),?_⟩
     refine yh (k+1) (by omega) (by omega) ?_
     refine yg [] [] [] ?_;simp only[go_sem,allQ,live,yc,yw,go_sem,Nat.reduceEqDiff,↓reduceIte,reduceCtorEq];omega
    ·have t3:decide ((u:Int)<(v:Int))=false:=decide_eq_false (by omega)
     simp only[ybqy,ycqy,t3,cntV,hWl,yj,clash,go_sem,Nat.reduceEqDiff,Nat.reduceAdd,↓reduceIte,reduceCtorEq];refine⟨ikw (by omega) (by omega),?_⟩
     refine yh (k+1) (by omega) (by omega) ?_
     refine yg [] [] [] ?_;simp only[go_sem,allQ,live,yc,yw,go_sem,Nat.reduceEqDiff,↓reduceIte,reduceCtorEq];omega
  ·obtain rfl:k=n:=by omega
   have t2:decide ((k:Int)<(k:Int))=false:=decide_eq_false (by omega)
   have hK:=yhg;simp only[ycvi,ydcg,t2,clash,go_sem,Nat.reduceEqDiff,Nat.reduceAdd,↓reduceIte,reduceCtorEq];refine hK.use ?_;simp only[thenO,clash,go_sem,Nat.reduceEqDiff,Nat.reduceAdd,↓reduceIte,reduceCtorEq];exact Sim.refl _
end Sh
end Go.Proofs.YtpngeppkgoaimaaGreatDoor

namespace Go.Proofs.YtpngeppkgoaimaaGreatDoor
open Go.ChangeShapes Go.WideShapes Go.ChangeAt Go.RowKit Go.Joins Go.WideMaps Go.WideElems
set_option linter.unusedVariables false

set_option maxRecDepth 100000 in
theorem pathsRounds_door(os:Os)(args:Array Value):laidMetH Tryz.prog Rows.pathsRoundsRow.laid ((World.doorLaid Tryz.prog 14 os).forCall (fun _ _=>0) ⟨#[],args,[]⟩).memory :=
 laidMetH_of_parts3 (fuel:=8) (laidMet_of_run' 8 (by kernel_rfl) (by kernel_rfl)) (by kernel_rfl) (by kernel_rfl)

set_option maxRecDepth 100000 in
theorem pathsRounds_lifted(os:Os)(started:os.Started)(H:Type)(enc:TypeId × Value->H) :
  ReturnsInHanded {} Tryz.checked os 3 .any (fun w args=>(Rows.pathsRoundsSpec.pre enc Tryz.prog Tryz.f3 [] false w args/\laidMetH Tryz.prog Rows.pathsRoundsRow.laid w)/\sizedMet enc Tryz.prog Tryz.f3 (OpenSpec.ofChange Rows.pathsRoundsSpec) false w args)
   (Rows.pathsRoundsSpec.post enc Tryz.prog Tryz.f3 false true false false):=by
 refine returnsInHanded_of_change_and (C:=Tryz.checked) (X:=fun w _=>laidMetH Tryz.prog Rows.pathsRoundsRow.laid w) (fun _ _ _ hh h=>h.of_heap hh) own started (by kernel_rfl) Tryz.func3
  (ChangeSpec.witness_shaped (enc:=enc) (C:=Tryz.checked) (os:=os) (X:=fun w _=>laidMetH Tryz.prog Rows.pathsRoundsRow.laid w) false (World.doorLaid Tryz.prog 14 os) #[.agg #[.int .i64 0,.slice .none 0 0,.slice .none 0 0,.slice .none 0 0,.bool false,.bool false],.slice .none 0 0,.slice .none 0 0] 8 rfl (World.shaped_of_RefB (by kernel_rfl) (by kernel_rfl)) (by kernel_rfl) (by kernel_rfl) (by kernel_rfl) (pathsRounds_door os _)) ?_
 intro W base args ds gs before hval0 hW _ _ hL _;have hval:∀ (j:Nat) t v,Tryz.f3.params[j]? = some t->args[j]? = some v->Value.okWide Tryz.prog W .any base t v:=hval0;have hW':=hW;obtain⟨p,q,hA0,hV,rfl,hfz,hnd⟩:=hW;have hA:DataW.TrodAll enc Tryz.prog W 0 (fun _=>true) true Tryz.f3.params.toList args.toList ds p:=hA0;rw[Tryz.params3]at hA hval;obtain⟨v0,vs0,d0,ds0,p0,q0,hargs,rfl,rfl,h0,r0⟩:=trodAll_cons hA
 obtain⟨v1,vs1,d1,ds1,p1,q1,rfl,rfl,rfl,h1,r1⟩:=trodAll_cons r0;obtain⟨v2,vs2,d2,ds2,p2,q2,rfl,rfl,rfl,h2,r2⟩:=trodAll_cons r1;obtain⟨rfl,rfl,rfl⟩:=trodAll_nil r2;obtain rfl:args = #[v0,v1,v2]:=by cases args;simp_all
 obtain⟨rfl,rfl⟩:=trodVars_none hV;have k0:=h0;have k1:=h1;have k2:=h2;have lt0:∀ x ∈ p0,x.block<W.heap.size:=by obtain⟨m,hm⟩:=k0;exact DataW.trod_lt m _ _ _ hm
 have lt1:∀ x ∈ p1,x.block<W.heap.size:=by obtain⟨m,hm⟩:=k1;exact DataW.trod_lt m _ _ _ hm
 have lt2:∀ x ∈ p2,x.block<W.heap.size:=by obtain⟨m,hm⟩:=k2;exact DataW.trod_lt m _ _ _ hm
 obtain⟨x0,u0,hx0,rr0,a0⟩:=Sh.ykk (hval 0 24 v0 rfl rfl) h0;obtain⟨m1,hm1⟩:=h1;obtain⟨A1,len1,cap1,rfl⟩:=okWide_slice Tryz.underlying22 (hval 1 22 v1 rfl rfl);obtain⟨x1,hx1,u1,a1,rr1⟩:=Sh.yfl (v:=.slice A1 len1 cap1) hm1;obtain⟨m2,hm2⟩:=h2;obtain⟨A2,len2,cap2,rfl⟩:=okWide_slice Tryz.underlying25 (hval 2 25 v2 rfl rfl);obtain⟨x2,hx2,u2,a2,rr2⟩:=Sh.yos (v:=.slice A2 len2 cap2) hm2
 clear hA0 hval0
 have ha:Sh.RVL (Sh.memW W).b.get Sh.om0 [.ag (Sh.netC x0),Sh.yj x1,Sh.usV x2] [u0,u1,u2]:=.cons rr0 (.cons rr1 (.cons rr2 .nil));have hv:Ev.VRL (Sh.phiW W) [u0,u1,u2] [v0,.slice A1 len1 cap1,.slice A2 len2 cap2]:=.cons a0 (.cons (Sh.ydu a1) (.cons (Sh.ydu a2) .nil));refine(Sh.yiz (Sh.ybaw hx0 (Sh.yqe hx1) hx2) ⟨_,_,Tryz.func3,rfl⟩ Ev.yli ha hv).mono fun e W' ⟨he,bel⟩=>?_
 subst he;exact⟨_,rfl,_,_,_,[],_,[],hW',trodAll_mk1 (shut_bool Tryz.underlying4 _),(trodAll_cons_mk (Below.trod laidOut (by kernel_rfl) (of_decide_eq_true (by kernel_rfl)) k0 bel lt0) (trodAll_cons_mk (Below.trod laidOut (by kernel_rfl) (of_decide_eq_true (by kernel_rfl)) k1 bel lt1) (trodAll_cons_mk (Below.trod laidOut (by kernel_rfl) (of_decide_eq_true (by kernel_rfl)) k2 bel lt2) trodAll_mk0))),rfl,bel.frame _,fun h=>by cases h⟩

theorem pathsRounds_over:Rows.PathsRoundsSaid :=
 OpenClaim.holds_of_wide 3 Tryz.f3 rfl rfl rfl rfl rfl rfl rfl ⟨rfl,rfl,rfl,rfl,rfl⟩ rfl rfl rfl rfl rfl (by kernel_rfl) Tryz.func3 (by kernel_rfl)
  (of_decide_eq_true (by kernel_rfl)) (by unfold Func.isWrapper;first | (rw[if_pos (by decide +kernel)];kernel_rfl) | (rw[if_neg (by decide +kernel)];exact⟨rfl,rfl⟩))
  (fun os started H enc _=>pathsRounds_lifted os started H enc)

theorem pathsRounds_holds:Rows.PathsRoundsCardSaid :=
 Claim7.holds_tied_plain_at .later [] [.data] true Rows.pathsRoundsCard.stood.harness true
  pathsRounds_over (fun _ h=>by cases h) (by kernel_rfl) (fun _ h=>by cases h) pathsRounds_row_tie rfl ⟨rfl,rfl⟩ (by kernel_rfl) rfl
  (fun f fn hf hfn=>by
   obtain rfl:f=3:=Option.some.inj ((show Tryz.prog.funcNamed Rows.pathsRoundsRow.func=some 3 by kernel_rfl).symm.trans hf) |>.symm
   obtain rfl:fn=Tryz.f3:=(Option.some.inj (Tryz.func3.symm.trans hfn)).symm
   exact⟨by kernel_rfl,fun j t ht=>by
    rw[Tryz.params3]at ht;have hm:t ∈ [24,22,25]:=by simpa using Array.mem_of_getElem? ht
    have hall:([24,22,25].all fun u=>!Tryz.prog.wantsStandIn u)=true:=by kernel_rfl
    exact(show Tryz.prog.wantsStandIn t=false by simpa using List.all_eq_true.1 hall t (by simpa using hm))⟩)
  (by kernel_rfl)
#print axioms pathsRounds_holds
end Go.Proofs.YtpngeppkgoaimaaGreatDoor

