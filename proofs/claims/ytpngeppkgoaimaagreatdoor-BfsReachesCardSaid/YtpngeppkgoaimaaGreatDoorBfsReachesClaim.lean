/- For every input, BfsReaches returns true, and its arguments read as before; the listed table is tied to the program's text. -/
import Derived.Test.YtpngeppkgoaimaaGreatDoorPkBa16
import Derived.Test.YtpngeppkgoaimaaGreatDoorPkBa14
import Derived.Test.YtpngeppkgoaimaaGreatDoorTie
import Derived.Test.YtpngeppkgoaimaaGreatDoorCards
import Derived.LaidMore
import Derived.Stop.Joined
import Derived.SevenTiedAt
set_option linter.unusedSimpArgs false
set_option linter.unusedVariables false
namespace Go.Proofs.YtpngeppkgoaimaaGreatDoor
open Go
namespace Sh
open Ev Go.RowKit
set_option maxRecDepth 8000
set_option maxHeartbeats 4000000 in
theorem yyi {x:NetR} (hx:x.ok) {raw:List Int} (hr:∀ k,inK .i64 (raw.getD k 0)) {l:List Nat} (hb:∀ k,l.getD k 0 < 2 ^ 32):Returns Tryz.prog 12 [.ag (netC x),yj raw,usV l] (.b true):=by
 refine Returns.of (ycux _ _ ?_)
 have hC:=yfq hx (most:=8) (by omega)
 simp only [netC] at hC
 simp only [c12,ydah,yddv,netC,clash,go_sem,Nat.reduceEqDiff,Nat.reduceAdd,Nat.reduceLT,↓reduceIte]
 refine hC.found (V:=grV) (fun r g h=>h.2.2.2) fun r g h=>?_
 obtain ⟨hg,hcn,hn8,-⟩:=h
 have hI:=ybdj hg
 have hCh:Checked (Lies BqB Bqv) (Lies BqC Bqr) BqP g:=⟨hg,ypx,ykz hg,ype⟩
 have hTx:=yli
 have hVs:=ylo
 have hCf:=yju hg ypx hCh.hf hr
 have hCl:=ysw hI hcn
 simp only [grV] at hCf hCl
 simp only [thenO,ycuj,grV,clash,go_sem,Nat.reduceEqDiff,Nat.reduceAdd,Nat.reduceLT,↓reduceIte,reduceCtorEq]
 refine hVs.use ?_
 simp only [go_sem,↓reduceIte]
 refine hCf.found (V:=ybg) (fun r c h=>h.2) fun r c h=>?_
 obtain ⟨hcv,-⟩:=h
 simp only [thenO,ycwh,clash,go_sem,Nat.reduceEqDiff,Nat.reduceAdd,↓reduceIte,reduceCtorEq]
 refine ⟨by decide,hTx.use ?_⟩
 simp only [go_sem]
 refine hCl.use ?_
 simp only [yfj,go_sem,Nat.reduceEqDiff,Nat.reduceAdd,Nat.reduceLeDiff,↓reduceIte,reduceCtorEq]
 refine (yjl l hb 120 (by omega)).found (V:=usV) (fun r ws h=>h.2.2) fun r ws h=>?_
 obtain ⟨hwl,hw,-⟩:=h
 have hRun:=yuu yfx hCh (kind:=3) (by omega) (yrj _) hcv hw (by omega)
 obtain ⟨n,Cs,Ks,hD⟩:=runD (ybh BqP g) yin ws c
 have hlen:=hD.le
 have hpos:=hD.pos
 have hCv:∀ k,k < n -> ycs BqP g (Cs.getD k []) = true:=fun k hk=>(yfw hg hcn yis hcv _ (hD.at_ hk).1).valid
 have hHd:=fun ended he=>ybyf hg hcn yis (ws:=ws) hcv (ended:=ended) he
 rw [hD.cs,hD.ks] at hRun
 simp only [grV,usV,ydi,ydn,hD.lC,hD.lK] at hRun
 simp only [usV,go_sem,↓reduceIte]
 refine ⟨by decide,hRun.use ?_⟩
 simp only [go_sem,Nat.reduceEqDiff,↓reduceIte]
 refine ⟨by decide,?_⟩
 have hCl2:=ybkf hI hcn (ycst hg hcn)
 simp only [grV] at hCl2
 simp only [yddf,clash,go_sem,Nat.reduceEqDiff,Nat.reduceAdd,↓reduceIte,reduceCtorEq]
 refine hCl.use ?_
 simp only [thenO,yfj,clash,go_sem,Nat.reduceEqDiff,Nat.reduceAdd,↓reduceIte,reduceCtorEq]
 refine hCl2.use ?_
 simp only [yfj,go_sem,↓reduceIte]
 simp only [ycys,ycup,go_sem,↓reduceIte]
 obtain ⟨B,hB⟩:∃ B:Nat -> Bool,(fun k=>ybq g (Cs.getD k [])) = B:=⟨_,rfl⟩
 refine ybe (σ:=Nat) (fun k=>⟨[(13,.i .i64 k),(12,.os (100,0) 0 k true),(9,.sl 1 n fun i=>[ybg (Cs.getD i [])]),(10,.sl 5 n fun i=>cntV (Ks.getD i default)),(7,.pt (7,0) 0 0)],[(100,.one (some ⟨4,false,1,k,fun j=>[.b (B j)]⟩)),(7,.one (some ⟨28,true,2,1,fun _=>[yj g.ids,yba g.ports]⟩))]⟩) (fun k=>k <= n) (fun k=>n - k) 0 (Nat.zero_le _) ?_ ?_
 ·refine yg [] [100] [] ?_
  simp only [go_sem,allQ,live,yc,Int.natCast_zero,go_sem,Nat.reduceEqDiff,Nat.reduceBEq,↓reduceIte,reduceCtorEq]
  exact ⟨(100,0),rfl,rfl,rfl⟩
 ·intro k hk
  by_cases hlt:k < n
  ·have t1:decide ((k:Int) < (n:Int)) = true:=decide_eq_true (by omega)
   have hLg:=yml hI (yvi (ygn hg ypx (hCv k hlt)))
   simp only [grV] at hLg
   simp only [ycnr,ycda,t1,clash,go_sem,Nat.reduceEqDiff,Nat.reduceAdd,↓reduceIte,reduceCtorEq]
   refine ⟨⟨by omega,by omega⟩,hLg.use ?_⟩
   simp only [thenO,clash,splice,go_sem,Nat.reduceEqDiff,Nat.reduceAdd,Nat.reduceLeDiff,Nat.reduceLT,↓reduceIte,reduceCtorEq]
   refine ⟨by decide,⟨by omega,by omega⟩,by decide,?_⟩
   simp only [ydbv,clash,go_sem,Nat.reduceEqDiff,Nat.reduceAdd,↓reduceIte,reduceCtorEq]
   refine ⟨ikw (by omega) (by omega),?_⟩
   refine yh (k + 1) (by omega) (by omega) ?_
   refine yg [(100,fun i=>(57,i))] [] [] ?_
   simp only [go_sem,allQ,live,yc,yu,go_sem,Nat.reduceEqDiff,↓reduceIte,reduceCtorEq]
   refine ⟨by omega,fun i hi=>?_⟩
   by_cases q:i < k
   ·simp only [if_pos q]
    simp only [go_sem,live,yc,go_sem,reduceCtorEq]
   ·obtain rfl:i = k:=by omega
    simp only [if_neg q,Nat.sub_self,Nat.zero_mul]
    simp only [go_sem,live,sim_b,go_sem,reduceCtorEq]
    rw [<- hB]
  ·obtain rfl:k = n:=by omega
   have t1:decide ((k:Int) < (k:Int)) = false:=decide_eq_false (by omega)
   have hE:=yiv hCh (hCv (k - 1) (by omega))
   have hPr:=yfx
   simp only [grV] at hE
   have e1:((k:Int) - 1).toNat = k - 1:=by omega
   simp only [ycnr,ycmz,t1,clash,go_sem,Nat.reduceEqDiff,Nat.reduceAdd,↓reduceIte,reduceCtorEq]
   refine hTx.use ?_
   simp only [thenO,clash,go_sem,Nat.reduceEqDiff,Nat.reduceAdd,↓reduceIte,reduceCtorEq]
   refine hPr.use ?_
   simp only [ydh,e1,go_sem,↓reduceIte]
   refine ⟨by decide,ikw (by omega) (by omega),⟨by omega,by omega⟩,hE.use ?_⟩
   have e2:((((ybk BqP g (Cs.getD (k - 1) []):Nat):Int)) == 0) = decide (ybk BqP g (Cs.getD (k - 1) []) = 0):=by
    rw [Bool.eq_iff_iff,beq_iff_eq,decide_eq_true_iff]; omega
   obtain ⟨ended,hen⟩:∃ b,decide (ybk BqP g (Cs.getD (k - 1) []) = 0) = b:=⟨_,rfl⟩
   rw [hen] at e2
   have hK:=yib
   simp only [e2,go_sem,↓reduceIte]
   refine ⟨by decide,?_⟩
   simp only [yccx,go_sem,↓reduceIte]
   refine hK.use ?_
   simp only [thenO,clash,go_sem,Nat.reduceEqDiff,Nat.reduceAdd,↓reduceIte,reduceCtorEq]
   refine hCl.use ?_
   simp only [yfj,go_sem]
   refine .inl (ybyz hD hB (hHd ended (ybor hD hen)) (by omega) ?_)
   simp only [go_sem]
   exact Sim.refl _
end Sh
end Go.Proofs.YtpngeppkgoaimaaGreatDoor

namespace Go.Proofs.YtpngeppkgoaimaaGreatDoor
open Go.ChangeShapes Go.WideShapes Go.ChangeAt Go.RowKit Go.Joins Go.WideMaps Go.WideElems
set_option linter.unusedVariables false

set_option maxRecDepth 100000 in
theorem bfsReaches_door (os:Os) (args:Array Value):laidMetH Tryz.prog Rows.bfsReachesRow.laid ((World.doorLaid Tryz.prog 14 os).forCall (fun _ _=>0) ⟨#[],args,[]⟩).memory :=
 laidMetH_of_parts3 (fuel:=8) (laidMet_of_run' 8 (by kernel_rfl) (by kernel_rfl)) (by kernel_rfl) (by kernel_rfl)

set_option maxRecDepth 100000 in
theorem bfsReaches_lifted (os:Os) (started:os.Started) (H:Type) (enc:TypeId × Value -> H) :
  ReturnsInHanded {} Tryz.checked os 12 .any (fun w args=>(Rows.bfsReachesSpec.pre enc Tryz.prog Tryz.f12 [] false w args /\ laidMetH Tryz.prog Rows.bfsReachesRow.laid w) /\ sizedMet enc Tryz.prog Tryz.f12 (OpenSpec.ofChange Rows.bfsReachesSpec) false w args)
   (Rows.bfsReachesSpec.post enc Tryz.prog Tryz.f12 false true false false):=by
 refine returnsInHanded_of_change_and (C:=Tryz.checked) (X:=fun w _=>laidMetH Tryz.prog Rows.bfsReachesRow.laid w) (fun _ _ _ hh h=>h.of_heap hh) own started (by kernel_rfl) Tryz.func12
  (ChangeSpec.witness_shaped (enc:=enc) (C:=Tryz.checked) (os:=os) (X:=fun w _=>laidMetH Tryz.prog Rows.bfsReachesRow.laid w) false (World.doorLaid Tryz.prog 14 os) #[.agg #[.int .i64 0,.slice .none 0 0,.slice .none 0 0,.slice .none 0 0,.bool false,.bool false],.slice .none 0 0,.slice .none 0 0] 8 rfl (World.shaped_of_RefB (by kernel_rfl) (by kernel_rfl)) (by kernel_rfl) (by kernel_rfl) (by kernel_rfl) (bfsReaches_door os _)) ?_
 intro W base args ds gs before hval0 hW _ _ hL _
 have hval:∀ (j:Nat) t v,Tryz.f12.params[j]? = some t -> args[j]? = some v -> Value.okWide Tryz.prog W .any base t v:=hval0
 have hW':=hW
 obtain ⟨p,q,hA0,hV,rfl,hfz,hnd⟩:=hW
 have hA:DataW.TrodAll enc Tryz.prog W 0 (fun _=>true) true Tryz.f12.params.toList args.toList ds p:=hA0
 rw [Tryz.params12] at hA hval
 obtain ⟨v0,vs0,d0,ds0,p0,q0,hargs,rfl,rfl,h0,r0⟩:=trodAll_cons hA
 obtain ⟨v1,vs1,d1,ds1,p1,q1,rfl,rfl,rfl,h1,r1⟩:=trodAll_cons r0
 obtain ⟨v2,vs2,d2,ds2,p2,q2,rfl,rfl,rfl,h2,r2⟩:=trodAll_cons r1
 obtain ⟨rfl,rfl,rfl⟩:=trodAll_nil r2
 obtain rfl:args = #[v0,v1,v2]:=by cases args; simp_all
 obtain ⟨rfl,rfl⟩:=trodVars_none hV
 have k0:=h0
 have k1:=h1
 have k2:=h2
 have lt0:∀ x ∈ p0,x.block < W.heap.size:=by obtain ⟨m,hm⟩:=k0; exact DataW.trod_lt m _ _ _ hm
 have lt1:∀ x ∈ p1,x.block < W.heap.size:=by obtain ⟨m,hm⟩:=k1; exact DataW.trod_lt m _ _ _ hm
 have lt2:∀ x ∈ p2,x.block < W.heap.size:=by obtain ⟨m,hm⟩:=k2; exact DataW.trod_lt m _ _ _ hm
 obtain ⟨x0,u0,hx0,rr0,a0⟩:=Sh.ylz (hval 0 24 v0 rfl rfl) h0
 obtain ⟨m1,hm1⟩:=h1
 obtain ⟨A1,len1,cap1,rfl⟩:=okWide_slice Tryz.underlying22 (hval 1 22 v1 rfl rfl)
 obtain ⟨x1,hx1,u1,a1,rr1⟩:=Sh.yge (v:=.slice A1 len1 cap1) hm1
 obtain ⟨m2,hm2⟩:=h2
 obtain ⟨A2,len2,cap2,rfl⟩:=okWide_slice Tryz.underlying25 (hval 2 25 v2 rfl rfl)
 obtain ⟨x2,hx2,u2,a2,rr2⟩:=Sh.ypp (v:=.slice A2 len2 cap2) hm2
 clear hA0 hval0
 have ha:Sh.RVL (Sh.memW W).b.get Sh.om0 [.ag (Sh.netC x0),Sh.yj x1,Sh.usV x2] [u0,u1,u2]:=.cons rr0 (.cons rr1 (.cons rr2 .nil))
 have hv:Ev.VRL (Sh.phiW W) [u0,u1,u2] [v0,.slice A1 len1 cap1,.slice A2 len2 cap2]:=.cons a0 (.cons (Sh.yeb a1) (.cons (Sh.yeb a2) .nil))
 refine (Sh.yjs (Sh.yyi hx0 (Sh.yqn hx1) hx2) ⟨_,_,Tryz.func12,rfl⟩ Ev.yms ha hv).mono fun e W' ⟨he,bel⟩=>?_
 subst he
 exact ⟨_,rfl,_,_,_,[],_,[],hW',trodAll_mk1 (shut_bool Tryz.underlying4 _),(trodAll_cons_mk (Below.trod laidOut (by kernel_rfl) (of_decide_eq_true (by kernel_rfl)) k0 bel lt0) (trodAll_cons_mk (Below.trod laidOut (by kernel_rfl) (of_decide_eq_true (by kernel_rfl)) k1 bel lt1) (trodAll_cons_mk (Below.trod laidOut (by kernel_rfl) (of_decide_eq_true (by kernel_rfl)) k2 bel lt2) trodAll_mk0))),rfl,bel.frame _,fun h=>by cases h⟩

theorem bfsReaches_over:Rows.BfsReachesSaid :=
 OpenClaim.holds_of_wide 12 Tryz.f12 rfl rfl rfl rfl rfl rfl rfl ⟨rfl,rfl,rfl,rfl,rfl⟩ rfl rfl rfl rfl rfl (by kernel_rfl) Tryz.func12 (by kernel_rfl)
  (of_decide_eq_true (by kernel_rfl)) (by unfold Func.isWrapper; first | (rw [if_pos (by decide +kernel)]; kernel_rfl) | (rw [if_neg (by decide +kernel)]; exact ⟨rfl,rfl⟩))
  (fun os started H enc _=>bfsReaches_lifted os started H enc)

theorem bfsReaches_holds:Rows.BfsReachesCardSaid :=
 Claim7.holds_tied_plain_at .later [] [.data] true Rows.bfsReachesCard.stood.harness true
  bfsReaches_over (fun _ h=>by cases h) (by kernel_rfl) (fun _ h=>by cases h) bfsReaches_row_tie rfl ⟨rfl,rfl⟩ (by kernel_rfl) rfl
  (fun f fn hf hfn=>by
   obtain rfl:f = 12:=Option.some.inj ((show Tryz.prog.funcNamed Rows.bfsReachesRow.func = some 12 by kernel_rfl).symm.trans hf) |>.symm
   obtain rfl:fn = Tryz.f12:=(Option.some.inj (Tryz.func12.symm.trans hfn)).symm
   exact ⟨by kernel_rfl,fun j t ht=>by
    rw [Tryz.params12] at ht
    have hm:t ∈ [24,22,25]:=by simpa using Array.mem_of_getElem? ht
    have hall:([24,22,25].all fun u=>!Tryz.prog.wantsStandIn u) = true:=by kernel_rfl
    exact (show Tryz.prog.wantsStandIn t = false by simpa using List.all_eq_true.1 hall t (by simpa using hm))⟩)
  (by kernel_rfl)
#print axioms bfsReaches_holds
end Go.Proofs.YtpngeppkgoaimaaGreatDoor

