/- Lemmas, joined: Cwr CenterRoundsL CenterRoundsV. -/
import Derived.Test.YtiejahgklcjhkaaGreatDoorPkD18
import Derived.Test.YtiejahgklcjhkaaGreatDoorPkD17
import Derived.Test.YtiejahgklcjhkaaGreatDoorTie
import Derived.Test.YtiejahgklcjhkaaGreatDoorCards
import Derived.LaidMore
import Derived.Stop.Joined
import Derived.SevenTiedAt
import Derived.Lib.LaidTab
import Derived.MakeChecks
set_option linter.unusedSimpArgs false
set_option linter.unusedVariables false
namespace Go.Proofs.YtiejahgklcjhkaaGreatDoor
open Go
theorem Sys.run_rounds(S:Sys)(res:Nat->Nat->Nat):∀ (ws:List Nat) (c:Conf) (k:Cnt),∀ p ∈ S.run res ws c k,p.2.rounds<=k.rounds+ws.length
 | [],_,_,p,hp=>by cases hp
 | w :: ws,c,k,p,hp=>by
  unfold Sys.run at hp;split at hp
  ·cases hp
  ·have h1:(addP k (res (S.en c) w) (S.en (S.mv c (res (S.en c) w)))).rounds<=k.rounds+1:=by
    unfold addP;simp only;split<;>omega
   rcases List.mem_cons.1 hp with e | e
   ·rw[e];simp only[List.length_cons];omega
   ·have:=Sys.run_rounds S res ws _ _ p e;simp only[List.length_cons];omega
theorem Sys.runs_rounds{S:Sys}{res:Nat->Nat->Nat}{ws:List Nat}{c:Conf}{p:Conf × Cnt}(h:p ∈ S.runs res ws c):p.2.rounds<=ws.length:=by
 rcases List.mem_cons.1 h with e | e
 ·rw[e];exact Nat.zero_le _
 ·have:=Sys.run_rounds S res ws _ _ p e;have e0:(yci (S.en c)).rounds=0:=rfl;omega
namespace Sh
open Ev Go.RowKit
set_option maxRecDepth 8000
set_option maxHeartbeats 4000000 in
theorem ybbp{x:NetR}(hx:x.ok){raw:List Int}(hr:∀ k,inK .i64 (raw.getD k 0)){l:List Nat}(hb:∀ k,l.getD k 0<2 ^ 32):Returns Tryz.prog 4 [.ag (netC x),yj raw,usV l] (.b true):=by
 refine Returns.of (ydfz _ _ ?_);have hC:=Tree_ret hx (most:=10) (by omega)
 simp only[netC]at hC;simp only[c4,c4_0,c4_1,netC,clash,go_sem,Nat.reduceEqDiff,Nat.reduceAdd,Nat.reduceLT,↓reduceIte];refine hC.found (V:=grV) (fun r g h=>h.2.2.2) fun r g h=>?_;obtain⟨hT,hit,hn8,-⟩:=h;have hg:=hT.good;have hCh:Checked (Lies CqB Cqv) (Lies CqC Cqr) CqP g:=⟨hg,ybrb,ybcf hg,ybgy⟩;have hTx:=ybab;have hVs:=yui;have hCf:=ytj hg ybrb hCh.hf hr;have hpl:=hg.2.2.1
 have h24:=hg.2.1;obtain⟨nn,hnn⟩:∃ m,g.ports.length=m:=⟨_,rfl⟩;rw[hnn]at h24;simp only[grV]at hCf;simp(maxSteps:=5000000) only [thenO,c4_2,c4_3,grV,clash,go_sem,Nat.reduceEqDiff,Nat.reduceAdd,Nat.reduceLT,↓reduceIte,reduceCtorEq];refine hTx.use ?_;simp(maxSteps:=5000000) only [go_sem];refine hVs.use ?_;simp(maxSteps:=5000000) only [go_sem,↓reduceIte];refine⟨by decide,hCf.found (V:=ybf) (fun r c h=>h.2) fun r c h=>?_⟩
 obtain⟨hcv,-⟩:=h;simp(maxSteps:=5000000) only [go_sem];refine⟨by decide,(yua l hb 80 (by omega)).found (V:=usV) (fun r ws h=>h.2.2) fun r ws h=>?_⟩
 obtain⟨hwl,hw,-⟩:=h;have hRun:=ybrv yuv hCh (kind:=3) (by omega) (ybmz _) hcv hw (by omega)
 obtain⟨n,Cs,Ks,hD⟩:=runD (ybk CqP g) ytn ws c;have hlen:=hD.le;have hpos:=hD.pos;have hRd:∀ k,k<n->RInv (ybk CqP g) (fun c=>yft CqP g c=true) (cnR g) (Cs.getD k []) (Ks.getD k default):=fun k hk=>yqu hT yzh hcv _ (hD.at_ hk).1;have hRk:∀ k,k<n->(Ks.getD k default).rounds<=80:=fun k hk=>by have:=Sys.runs_rounds (hD.at_ hk).1;simp only at this;omega
 rw[hD.cs,hD.ks]at hRun;simp only[grV,ydf,ygl,hD.lC,hD.lK]at hRun;simp(maxSteps:=5000000) only [go_sem,↓reduceIte];refine⟨by decide,hRun.use ?_⟩
 simp(maxSteps:=5000000) only [go_sem,Nat.reduceEqDiff,↓reduceIte];refine⟨by decide,?_⟩
 refine ybe (σ:=Nat) (fun k=>⟨[(11,.i .i64 k),(8,.sl 1 n fun i=>[ybf (Cs.getD i [])]),(9,.sl 5 n fun i=>cntV (Ks.getD i default)),(10,.b true),(7,.pt (7,0) 0 0)],[(7,.one (some ⟨27,true,2,1,fun _=>[yj g.ids,yu g.ports]⟩))]⟩) (fun k=>k<=n) (fun k=>n - k) 0 (Nat.zero_le _) ?_ ?_
 ·refine yg [] [] [] ?_;simp only[go_sem,allQ,live,yc,Int.natCast_zero,go_sem,Nat.reduceEqDiff,↓reduceIte,reduceCtorEq]
 ·intro k hk
  by_cases hlt:k<n
  ·have t1:decide ((k:Int)<(n:Int))=true:=decide_eq_true (by omega)
   have hI:=hRd k hlt;have hKb:=hRk k hlt;obtain⟨C,hC⟩:∃ C,Cs.getD k []=C:=⟨_,rfl⟩;obtain⟨K,hK⟩:∃ K,Ks.getD k default=K:=⟨_,rfl⟩;rw[hC,hK]at hI;rw[hK]at hKb;have hcf:=ygp hI.valid;simp only[c4_4,c4_6,c4_7,t1,cntV,hK,clash,go_sem,Nat.reduceEqDiff,Nat.reduceAdd,Nat.reduceLeDiff,↓reduceIte,reduceCtorEq];refine⟨by omega,ikw (by omega) (by omega),?_⟩
   refine ybe (σ:=Nat) (fun v=>⟨[(13,.i .i64 v),(12,.i .i64 ((K.rounds:Int) - 1)),(11,.i .i64 k),(8,.sl 1 n fun i=>[ybf (Cs.getD i [])]),(9,.sl 5 n fun i=>cntV (Ks.getD i default)),(10,.b true),(7,.pt (7,0) 0 0)],[(7,.one (some ⟨27,true,2,1,fun _=>[yj g.ids,yu g.ports]⟩))]⟩) (fun v=>v<=nn) (fun v=>nn - v) 0 (Nat.zero_le _) ?_ ?_
   ·refine yg [] [] [] ?_;simp only[cntV,allQ,live,yc,Int.natCast_zero,go_sem,Nat.reduceEqDiff,↓reduceIte,reduceCtorEq]
   intro v hv
   by_cases hgo:v<nn/\1<=K.rounds
   ·obtain⟨hlt2,hr1⟩:=hgo;have t2:decide ((v:Int)<(nn:Int))=true:=decide_eq_true (by omega)
    have t3:decide ((K.rounds:Int) - 1 >= 0)=true:=decide_eq_true (by omega)
    obtain⟨hv1,-⟩:=hcf.row v (by omega)
    have hCl:C.length=nn:=by rw[hcf.len];omega
    have f1:((nn:Int) != (nn:Int))=false:=by simp
    have hb1:=hI.all v (show v<g.ids.length by omega)
    have hH:=ybdf hT (v:=v) (by omega)
    obtain⟨w,hw'⟩:∃ w,htP g v=w:=⟨_,rfl⟩;unfold cnR at hb1;rw[hw']at hb1 hH;obtain⟨y,hy⟩:∃ y,(C.getD v []).getD 0 0=y:=⟨_,rfl⟩;simp only[grV,yj,yu,hnn]at hH
    by_cases hq:w<(K.rounds:Int)
    ·rw[if_pos hq]at hb1;have hyw:y=w:=by rw[<- hy,hb1];rfl
     have f4:decide (w<=(K.rounds:Int) - 1)=true:=decide_eq_true (by omega)
     have f5:(y != w)=false:=by rw[hyw];simp
     have f6:decide (w > (K.rounds:Int) - 1)=false:=decide_eq_false (by omega)
     have n1:(((1:Nat):Int) != 1)=false:=rfl;simp(maxSteps:=5000000) only [c4_8,ycxf,ycwu,n1,t2,t3,cntV,yj,ybf,yu,hnn,hC,hCl,hv1,hy,f1,clash,go_sem,Int.reduceToNat,Nat.reduceEqDiff,Nat.reduceAdd,↓reduceIte,reduceCtorEq]
     repeat (refine⟨by omega,?_⟩)
     refine hH.use ?_;simp(maxSteps:=5000000) only [thenO,ycsm,c4_9,f4,f5,f6,clash,go_sem,Nat.reduceEqDiff,Nat.reduceAdd,↓reduceIte,reduceCtorEq]
     repeat (refine⟨by omega,?_⟩)
     refine⟨ikw (by omega) (by omega),?_⟩
     refine yh (v+1) (by omega) (by omega) ?_
     refine yg [] [] [] ?_;simp only[go_sem,allQ,live,yc,yw,go_sem,Nat.reduceEqDiff,↓reduceIte,reduceCtorEq];omega
    ·rw[if_neg hq]at hb1;rw[hy]at hb1;have f4:decide (w<=(K.rounds:Int) - 1)=false:=decide_eq_false (by omega)
     have f6:decide (w > (K.rounds:Int) - 1)=true:=decide_eq_true (by omega)
     have f7:decide (y<(K.rounds:Int) - 1+1)=false:=decide_eq_false (by omega)
     have n1:(((1:Nat):Int) != 1)=false:=rfl;simp(maxSteps:=5000000) only [c4_8,ycxf,ycwu,n1,t2,t3,cntV,yj,ybf,yu,hnn,hC,hCl,hv1,hy,f1,clash,go_sem,Int.reduceToNat,Nat.reduceEqDiff,Nat.reduceAdd,↓reduceIte,reduceCtorEq]
     repeat (refine⟨by omega,?_⟩)
     refine hH.use ?_;simp(maxSteps:=5000000) only [thenO,ycsm,c4_9,f4,f6,f7,clash,go_sem,Nat.reduceEqDiff,Nat.reduceAdd,↓reduceIte,reduceCtorEq]
     repeat (refine⟨by omega,?_⟩)
     refine⟨ikw (by omega) (by omega),ikw (by omega) (by omega),?_⟩
     refine yh (v+1) (by omega) (by omega) ?_
     refine yg [] [] [] ?_;simp only[go_sem,allQ,live,yc,yw,go_sem,Nat.reduceEqDiff,↓reduceIte,reduceCtorEq];omega
   ·have fin:∀ b:Bool,decide ((v:Int)<(nn:Int))=b->(b && decide ((K.rounds:Int) - 1 >= 0))=false:=fun b hb=>by
     cases b with
     | false=>rfl
     | true =>
      have:=of_decide_eq_true hb;rw[Bool.true_and];exact decide_eq_false fun q=>hgo ⟨by omega,by omega⟩
    by_cases hlt2:v<nn
    ·have t2:decide ((v:Int)<(nn:Int))=true:=decide_eq_true (by omega)
     have t3:decide ((K.rounds:Int) - 1 >= 0)=false:=decide_eq_false fun q=>hgo ⟨hlt2,by omega⟩
     simp only[c4_8,c4_5,yu,hnn,t2,t3,clash,go_sem,Nat.reduceEqDiff,Nat.reduceAdd,↓reduceIte,reduceCtorEq];refine⟨ikw (by omega) (by omega),?_⟩
     refine yh (k+1) (by omega) (by omega) ?_
     refine yg [] [] [] ?_;simp only[allQ,live,yc,yw,go_sem,Nat.reduceEqDiff,↓reduceIte,reduceCtorEq];exact⟨by omega,Sim.refl _⟩
    ·have t2:decide ((v:Int)<(nn:Int))=false:=decide_eq_false (by omega)
     simp only[c4_8,c4_5,yu,hnn,t2,clash,go_sem,Nat.reduceEqDiff,Nat.reduceAdd,↓reduceIte,reduceCtorEq];refine⟨ikw (by omega) (by omega),?_⟩
     refine yh (k+1) (by omega) (by omega) ?_
     refine yg [] [] [] ?_;simp only[allQ,live,yc,yw,go_sem,Nat.reduceEqDiff,↓reduceIte,reduceCtorEq];exact⟨by omega,Sim.refl _⟩
  ·obtain rfl:k=n:=by omega
   have t1:decide ((k:Int)<(k:Int))=false:=decide_eq_false (by omega)
   have hK:=yqz;simp only[c4_4,ydaa,t1,clash,go_sem,Nat.reduceEqDiff,Nat.reduceAdd,↓reduceIte,reduceCtorEq];refine hK.use ?_;simp only[thenO,clash,go_sem,Nat.reduceEqDiff,Nat.reduceAdd,↓reduceIte,reduceCtorEq];exact Sim.refl _
end Sh
end Go.Proofs.YtiejahgklcjhkaaGreatDoor

namespace Go.Proofs.YtiejahgklcjhkaaGreatDoor
open Go.ChangeShapes Go.WideShapes Go.ChangeAt Go.RowKit Go.Joins Go.WideMaps Go.WideElems
set_option linter.unusedVariables false

set_option maxRecDepth 100000 in
theorem ync(W:World)(h:laidMetH Tryz.prog Rows.centerRoundsRow.laid W):Ev.GlW W:=fun x hx=>by
 rw[MakeChecks.laidMetH_plain _ _ _ (by kernel_rfl)]at h
 have hg : Tryz.prog.globalNamed "math/bits.deBruijn32tab" = some 0 := by kernel_rfl
 have ht:=Lib.tabIs_of_head (rest:=[]) (k:=.u8) (zs:=([0,1,28,2,29,14,24,3,30,22,20,15,25,17,4,8,31,27,13,23,21,19,16,7,26,12,18,6,11,5,10,9]:List Int)) (t:=226) (e:=5) (n:=32) hg (by kernel_rfl) (by kernel_rfl) (by kernel_rfl) (by kernel_rfl) (by kernel_rfl) h
 unfold Lib.TabIs World.var? at ht;rw[hg]at ht;simp only[Option.bind_some]at ht;split at ht
 ·rename_i cs e fz hc
  obtain rfl:=Option.some.inj ht;obtain rfl:=Option.some.inj hx;exact⟨_,_,hc⟩
 ·cases ht

set_option maxRecDepth 100000 in
theorem ymy(os:Os)(args:Array Value):laidMetH Tryz.prog Rows.centerRoundsRow.laid ((World.doorLaid Tryz.prog 14 os).forCall (fun _ _=>0) ⟨#[],args,[]⟩).memory :=
 laidMetH_of_parts3 (fuel:=8) (laidMet_of_run' 8 (by kernel_rfl) (by kernel_rfl)) (by kernel_rfl) (by kernel_rfl)

set_option maxRecDepth 100000 in
theorem yjx(os:Os)(started:os.Started)(H:Type)(enc:TypeId × Value->H) :
  ReturnsInHanded {} Tryz.checked os 4 .any (fun w args=>(Rows.centerRoundsSpec.pre enc Tryz.prog Tryz.f4 [] false w args/\laidMetH Tryz.prog Rows.centerRoundsRow.laid w)/\sizedMet enc Tryz.prog Tryz.f4 (OpenSpec.ofChange Rows.centerRoundsSpec) false w args)
   (Rows.centerRoundsSpec.post enc Tryz.prog Tryz.f4 false true false false):=by
 refine returnsInHanded_of_change_and (C:=Tryz.checked) (X:=fun w _=>laidMetH Tryz.prog Rows.centerRoundsRow.laid w) (fun _ _ _ hh h=>h.of_heap hh) own started (by kernel_rfl) Tryz.func4
  (ChangeSpec.witness_shaped (enc:=enc) (C:=Tryz.checked) (os:=os) (X:=fun w _=>laidMetH Tryz.prog Rows.centerRoundsRow.laid w) false (World.doorLaid Tryz.prog 14 os) #[.agg #[.int .i64 0,.slice .none 0 0,.slice .none 0 0,.slice .none 0 0,.bool false,.bool false],.slice .none 0 0,.slice .none 0 0] 8 rfl (World.shaped_of_RefB (by kernel_rfl) (by kernel_rfl)) (by kernel_rfl) (by kernel_rfl) (by kernel_rfl) (ymy os _)) ?_
 intro W base args ds gs before hval0 hW _ _ hL _;have hval:∀ (j:Nat) t v,Tryz.f4.params[j]? = some t->args[j]? = some v->Value.okWide Tryz.prog W .any base t v:=hval0;have hW':=hW;obtain⟨p,q,hA0,hV,rfl,hfz,hnd⟩:=hW;have hA:DataW.TrodAll enc Tryz.prog W 0 (fun _=>true) true Tryz.f4.params.toList args.toList ds p:=hA0;rw[Tryz.params4]at hA hval;obtain⟨v0,vs0,d0,ds0,p0,q0,hargs,rfl,rfl,h0,r0⟩:=trodAll_cons hA
 obtain⟨v1,vs1,d1,ds1,p1,q1,rfl,rfl,rfl,h1,r1⟩:=trodAll_cons r0;obtain⟨v2,vs2,d2,ds2,p2,q2,rfl,rfl,rfl,h2,r2⟩:=trodAll_cons r1;obtain⟨rfl,rfl,rfl⟩:=trodAll_nil r2;obtain rfl:args = #[v0,v1,v2]:=by cases args;simp_all
 obtain⟨rfl,rfl⟩:=trodVars_none hV;have k0:=h0;have k1:=h1;have k2:=h2;have lt0:∀ x ∈ p0,x.block<W.heap.size:=by obtain⟨m,hm⟩:=k0;exact DataW.trod_lt m _ _ _ hm
 have lt1:∀ x ∈ p1,x.block<W.heap.size:=by obtain⟨m,hm⟩:=k1;exact DataW.trod_lt m _ _ _ hm
 have lt2:∀ x ∈ p2,x.block<W.heap.size:=by obtain⟨m,hm⟩:=k2;exact DataW.trod_lt m _ _ _ hm
 obtain⟨x0,u0,hx0,rr0,a0⟩:=Sh.ybba (hval 0 24 v0 rfl rfl) h0;obtain⟨m1,hm1⟩:=h1;obtain⟨A1,len1,cap1,rfl⟩:=okWide_slice Tryz.underlying22 (hval 1 22 v1 rfl rfl);obtain⟨x1,hx1,u1,a1,rr1⟩:=Sh.yik (v:=.slice A1 len1 cap1) hm1;obtain⟨m2,hm2⟩:=h2;obtain⟨A2,len2,cap2,rfl⟩:=okWide_slice Tryz.underlying38 (hval 2 38 v2 rfl rfl);obtain⟨x2,hx2,u2,a2,rr2⟩:=Sh.ybzv (v:=.slice A2 len2 cap2) hm2
 clear hA0 hval0
 have ha:Sh.RVL (Sh.memW W).b.get Sh.om0 [.ag (Sh.netC x0),Sh.yj x1,Sh.usV x2] [u0,u1,u2]:=.cons rr0 (.cons rr1 (.cons rr2 .nil));have hv:Ev.VRL (Sh.phiW W) [u0,u1,u2] [v0,.slice A1 len1 cap1,.slice A2 len2 cap2]:=.cons a0 (.cons (Sh.ygn a1) (.cons (Sh.ygn a2) .nil));refine(Sh.yuk (Sh.ybbp hx0 (Sh.yzr hx1) hx2) ⟨_,_,Tryz.func4,rfl⟩ Ev.yoq (ync W hL) ha hv).mono fun e W' ⟨he,bel⟩=>?_
 subst he;exact⟨_,rfl,_,_,_,[],_,[],hW',trodAll_mk1 (shut_bool Tryz.underlying4 _),(trodAll_cons_mk (Below.trod laidOut (by kernel_rfl) (of_decide_eq_true (by kernel_rfl)) k0 bel lt0) (trodAll_cons_mk (Below.trod laidOut (by kernel_rfl) (of_decide_eq_true (by kernel_rfl)) k1 bel lt1) (trodAll_cons_mk (Below.trod laidOut (by kernel_rfl) (of_decide_eq_true (by kernel_rfl)) k2 bel lt2) trodAll_mk0))),rfl,bel.frame _,fun h=>by cases h⟩

end Go.Proofs.YtiejahgklcjhkaaGreatDoor

namespace Go.Proofs.YtiejahgklcjhkaaGreatDoor
open Go.ChangeShapes Go.WideShapes Go.ChangeAt Go.RowKit Go.Joins Go.WideMaps Go.WideElems
set_option linter.unusedVariables false

theorem yrf:(Rows.centerRoundsRow.inPlace == Tryz.prog.inPlace 4)=true:=by kernel_rfl
theorem yqe:(Rows.centerRoundsRow.unfollowed == Tryz.prog.unfollowed 4)=true:=by kernel_rfl
theorem yqa:(Rows.centerRoundsRow.recurses == Tryz.prog.recurses 4)=true:=by kernel_rfl
theorem ypu:(Rows.centerRoundsRow.named == Tryz.prog.varsNamed 4)=true:=by kernel_rfl
theorem yql:laidOutB Tryz.prog=true:=by kernel_rfl
theorem yqw:mapsRowed Tryz.prog=true:=by kernel_rfl
theorem centerRounds_j7:Tryz.prog.funcNamed Rows.centerRoundsRow.func=some 4:=by kernel_rfl
theorem yqx:Rows.centerRoundsRow.wf (OpenSpec.ofChange Rows.centerRoundsSpec)=true:=by kernel_rfl
theorem yjr:joinedFacts Tryz.prog 4 Tryz.f4 Rows.centerRoundsSpec Rows.centerRoundsRow=true:=by
 unfold joinedFacts
 repeat' (with_reducible refine Bool.and_eq_true_iff.2 ⟨?_,?_⟩)
 all_goals first | (with_reducible exact yrf) | (with_reducible exact yqe) | (with_reducible exact yqa) | (with_reducible exact ypu) | (with_reducible exact yql) | (with_reducible exact yqw) | (with_reducible exact yqx) | (with_reducible exact ybhy) | (rw[ybhz];rfl) | (rw[ybrd];rfl) | kernel_rfl
theorem ylk:Tryz.f4.isInstance Tryz.prog Rows.centerRoundsRow.origin Rows.centerRoundsRow.targs:=of_decide_eq_true (by kernel_rfl)
theorem ymq:Tryz.f4.isWrapper Tryz.prog Rows.centerRoundsRow.wrapper Rows.centerRoundsRow.mainSum:=by
 unfold Func.isWrapper
 first | (rw[if_pos (by decide +kernel)];kernel_rfl) | (rw[if_neg (by decide +kernel)];exact⟨rfl,rfl⟩)
theorem centerRounds_over:Rows.CenterRoundsSaid :=
 OpenClaim.holds_of_wide 4 Tryz.f4 rfl rfl rfl rfl rfl rfl rfl ⟨rfl,rfl,rfl,rfl,rfl⟩ rfl rfl rfl rfl rfl centerRounds_j7 Tryz.func4 yjr ylk ymq
  (fun os started H enc _=>yjx os started H enc)

end Go.Proofs.YtiejahgklcjhkaaGreatDoor

