/- For every input, LeaderReaches returns true, and its arguments read as before; the listed table is tied to the program's text. -/
import Derived.Test.YtpngeppkgoaimaaGreatDoorPkLpx1
import Derived.Test.YtpngeppkgoaimaaGreatDoorPkLp15
import Derived.Test.YtpngeppkgoaimaaGreatDoorTie
import Derived.Test.YtpngeppkgoaimaaGreatDoorCards
import Derived.LaidMore
import Derived.Stop.Joined
import Derived.SevenTiedAt
set_option linter.unusedSimpArgs false
set_option linter.unusedVariables false
namespace Go.Proofs.YtpngeppkgoaimaaGreatDoor
open Go
namespace Sh
open Ev Go.RowKit
set_option maxRecDepth 8000
set_option maxHeartbeats 4000000 in
theorem yuw{x:NetR}(hx:x.ok){raw:List Int}(hr:∀ k,inK .i64 (raw.getD k 0)){l:List Nat}(hb:∀ k,l.getD k 0<2 ^ 32):Returns Tryz.prog 10 [.ag (netC x),yu raw,usV l] (.b true):=by
 refine Returns.of (ydow _ _ ?_);have hC:=ydx hx (most:=7) (by omega)
 simp only[netC]at hC;simp only[c10,ydve,ydgj,netC,clash,go_sem,Nat.reduceEqDiff,Nat.reduceAdd,Nat.reduceLT,↓reduceIte];refine hC.found (V:=grV) (fun r g h=>h.2.2.2) fun r g h=>?_;obtain⟨hg,hcn,hn8,-⟩:=h;have hI:=yqu hg;have hCh:Checked (Lies LqB Lqv) (Lies LqC Lqr) LqP g:=⟨hg,yzy,yxf hg,yzf⟩;have hTx:=ysv;have hVs:=yov;have hCf:=ygs hg yzy hCh.hf hr;have hCl:=yud hI hcn
 have hClen:∀ c,ych LqP g c=true->c.length=g.ids.length:=fun c h=>(yfg hg h).len;have hids:g.ids.length<=24:=by have:=hg.2.1;have:=hg.2.2.1;omega
 simp only[grV]at hCf hCl;have hCl2:=ybgo hI hcn;simp only[grV]at hCl2;simp only[thenO,ydok,grV,clash,go_sem,Nat.reduceEqDiff,Nat.reduceAdd,Nat.reduceLT,↓reduceIte,reduceCtorEq];refine hVs.use ?_;simp only[go_sem,↓reduceIte];refine hCf.found (V:=ybg) (fun r c h=>h.2) fun r c h=>?_;obtain⟨hcv,-⟩:=h;simp only[thenO,ydle,clash,go_sem,Nat.reduceEqDiff,Nat.reduceAdd,↓reduceIte,reduceCtorEq];refine⟨by decide,hTx.use ?_⟩
 simp only[go_sem];refine hCl.use ?_;simp only[ydo,go_sem,Nat.reduceEqDiff,Nat.reduceAdd,Nat.reduceLeDiff,↓reduceIte,reduceCtorEq];refine(ygo l hb 120 (by omega)).found (V:=usV) (fun r ws h=>h.2.2) fun r ws h=>?_
 obtain⟨hwl,hw,-⟩:=h;have hRun:=yop yij hCh (kind:=3) (by omega) (yjz _) hcv hw (by omega)
 obtain⟨n,Cs,Ks,hD⟩:=runD (ybk LqP g) ylh ws c;have hlen:=hD.le;have hpos:=hD.pos;have hCv:∀ k,k<n->ych LqP g (Cs.getD k [])=true:=fun k hk=>(yns hg hcn yha hcv _ (hD.at_ hk).1).valid;have hHd:=fun ended he=>ydce hg hcn yha (ws:=ws) hcv (ended:=ended) he;rw[hD.cs,hD.ks]at hRun;simp only[grV,usV,ydg,ydq,hD.lC,hD.lK]at hRun;simp only[usV,go_sem,↓reduceIte];refine⟨by decide,hRun.use ?_⟩
 simp only[go_sem,Nat.reduceEqDiff,↓reduceIte];refine⟨by decide,?_⟩
 simp only[ydtk,clash,go_sem,Nat.reduceEqDiff,Nat.reduceAdd,↓reduceIte,reduceCtorEq];refine hCl.use ?_;simp only[thenO,ydo,clash,go_sem,Nat.reduceEqDiff,Nat.reduceAdd,↓reduceIte,reduceCtorEq];refine hCl2.use ?_;simp only[ydo,go_sem,↓reduceIte];simp only[ydtx,ydvd,go_sem,↓reduceIte];obtain⟨B,hB⟩:∃ B:Nat->Bool,(fun k=>ybt g (Cs.getD k []))=B:=⟨_,rfl⟩;refine ybd (σ:=Nat) (fun k=>⟨[(13,.i .i64 k),(12,.os (100,0) 0 k true),(9,.sl 1 n fun i=>[ybg (Cs.getD i [])]),(10,.sl 5 n fun i=>cntV (Ks.getD i default)),(7,.pt (7,0) 0 0)],[(100,.one (some ⟨4,false,1,k,fun j=>[.b (B j)]⟩)),(7,.one (some ⟨28,true,2,1,fun _=>[yu g.ids,yx g.ports]⟩))]⟩) (fun k=>k<=n) (fun k=>n - k) 0 (Nat.zero_le _) ?_ ?_
 ·refine yh [] [100] [] ?_;simp only[go_sem,allQ,live,yg,Int.natCast_zero,go_sem,Nat.reduceEqDiff,Nat.reduceBEq,↓reduceIte,reduceCtorEq];exact⟨(100,0),rfl,rfl,rfl⟩
 ·intro k hk
  by_cases hlt:k<n
  ·have t1:decide ((k:Int)<(n:Int))=true:=decide_eq_true (by omega)
   have hLg:=ywk hI (yyf (yhp hg yzy (hCv k hlt))) (by have:=hClen _ (hCv k hlt);omega)
   simp only[grV]at hLg;simp only[yddc,yctt,t1,clash,go_sem,Nat.reduceEqDiff,Nat.reduceAdd,↓reduceIte,reduceCtorEq];refine⟨⟨by omega,by omega⟩,hLg.use ?_⟩
   simp only[thenO,clash,splice,go_sem,Nat.reduceEqDiff,Nat.reduceAdd,Nat.reduceLeDiff,Nat.reduceLT,↓reduceIte,reduceCtorEq];refine⟨by decide,⟨by omega,by omega⟩,by decide,?_⟩
   simp only[yduv,clash,go_sem,Nat.reduceEqDiff,Nat.reduceAdd,↓reduceIte,reduceCtorEq];refine⟨ikw (by omega) (by omega),?_⟩
   refine yj (k+1) (by omega) (by omega) ?_
   refine yh [(100,fun i=>(57,i))] [] [] ?_;simp only[go_sem,allQ,live,yg,ybb,go_sem,Nat.reduceEqDiff,↓reduceIte,reduceCtorEq];refine⟨by omega,fun i hi=>?_⟩
   by_cases q:i<k
   ·simp only[if_pos q];simp only[go_sem,live,yg,go_sem,reduceCtorEq]
   ·obtain rfl:i=k:=by omega
    simp only[if_neg q,Nat.sub_self,Nat.zero_mul];simp only[go_sem,live,sim_b,go_sem,reduceCtorEq];rw[<- hB]
  ·obtain rfl:k=n:=by omega
   have t1:decide ((k:Int)<(k:Int))=false:=decide_eq_false (by omega)
   have hE:=ygz hCh (hCv (k - 1) (by omega))
   have hPr:=yij;simp only[grV]at hE;have e1:((k:Int) - 1).toNat=k - 1:=by omega
   simp only[yddc,yciw,t1,clash,go_sem,Nat.reduceEqDiff,Nat.reduceAdd,↓reduceIte,reduceCtorEq];refine hTx.use ?_;simp only[thenO,clash,go_sem,Nat.reduceEqDiff,Nat.reduceAdd,↓reduceIte,reduceCtorEq];refine hPr.use ?_;simp only[ycn,e1,go_sem,↓reduceIte];refine⟨by decide,ikw (by omega) (by omega),⟨by omega,by omega⟩,hE.use ?_⟩
   have e2:((((ybn LqP g (Cs.getD (k - 1) []):Nat):Int)) == 0)=decide (ybn LqP g (Cs.getD (k - 1) [])=0):=by
    rw[Bool.eq_iff_iff,beq_iff_eq,decide_eq_true_iff];omega
   obtain⟨ended,hen⟩:∃ b,decide (ybn LqP g (Cs.getD (k - 1) [])=0)=b:=⟨_,rfl⟩;rw[hen]at e2;have hK:=yma;simp only[e2,go_sem,↓reduceIte];refine⟨by decide,?_⟩
   simp only[ycjx,go_sem,↓reduceIte];refine hK.use ?_;simp only[thenO,clash,go_sem,Nat.reduceEqDiff,Nat.reduceAdd,↓reduceIte,reduceCtorEq];refine hCl.use ?_;simp only[ydo,go_sem];refine .inl (ycdz hD hB (hHd ended (ycap hD hen)) (by omega) ?_)
   simp only[go_sem];exact Sim.refl _
end Sh
end Go.Proofs.YtpngeppkgoaimaaGreatDoor

namespace Go.Proofs.YtpngeppkgoaimaaGreatDoor
open Go.ChangeShapes Go.WideShapes Go.ChangeAt Go.RowKit Go.Joins Go.WideMaps Go.WideElems
set_option linter.unusedVariables false

set_option maxRecDepth 100000 in
theorem leaderReaches_door(os:Os)(args:Array Value):laidMetH Tryz.prog Rows.leaderReachesRow.laid ((World.doorLaid Tryz.prog 14 os).forCall (fun _ _=>0) ⟨#[],args,[]⟩).memory :=
 laidMetH_of_parts3 (fuel:=8) (laidMet_of_run' 8 (by kernel_rfl) (by kernel_rfl)) (by kernel_rfl) (by kernel_rfl)

set_option maxRecDepth 100000 in
theorem leaderReaches_lifted(os:Os)(started:os.Started)(H:Type)(enc:TypeId × Value->H) :
  ReturnsInHanded {} Tryz.checked os 10 .any (fun w args=>(Rows.leaderReachesSpec.pre enc Tryz.prog Tryz.f10 [] false w args/\laidMetH Tryz.prog Rows.leaderReachesRow.laid w)/\sizedMet enc Tryz.prog Tryz.f10 (OpenSpec.ofChange Rows.leaderReachesSpec) false w args)
   (Rows.leaderReachesSpec.post enc Tryz.prog Tryz.f10 false true false false):=by
 refine returnsInHanded_of_change_and (C:=Tryz.checked) (X:=fun w _=>laidMetH Tryz.prog Rows.leaderReachesRow.laid w) (fun _ _ _ hh h=>h.of_heap hh) own started (by kernel_rfl) Tryz.func10
  (ChangeSpec.witness_shaped (enc:=enc) (C:=Tryz.checked) (os:=os) (X:=fun w _=>laidMetH Tryz.prog Rows.leaderReachesRow.laid w) false (World.doorLaid Tryz.prog 14 os) #[.agg #[.int .i64 0,.slice .none 0 0,.slice .none 0 0,.slice .none 0 0,.bool false,.bool false],.slice .none 0 0,.slice .none 0 0] 8 rfl (World.shaped_of_RefB (by kernel_rfl) (by kernel_rfl)) (by kernel_rfl) (by kernel_rfl) (by kernel_rfl) (leaderReaches_door os _)) ?_
 intro W base args ds gs before hval0 hW _ _ hL _;have hval:∀ (j:Nat) t v,Tryz.f10.params[j]? = some t->args[j]? = some v->Value.okWide Tryz.prog W .any base t v:=hval0;have hW':=hW;obtain⟨p,q,hA0,hV,rfl,hfz,hnd⟩:=hW;have hA:DataW.TrodAll enc Tryz.prog W 0 (fun _=>true) true Tryz.f10.params.toList args.toList ds p:=hA0;rw[Tryz.params10]at hA hval;obtain⟨v0,vs0,d0,ds0,p0,q0,hargs,rfl,rfl,h0,r0⟩:=trodAll_cons hA
 obtain⟨v1,vs1,d1,ds1,p1,q1,rfl,rfl,rfl,h1,r1⟩:=trodAll_cons r0;obtain⟨v2,vs2,d2,ds2,p2,q2,rfl,rfl,rfl,h2,r2⟩:=trodAll_cons r1;obtain⟨rfl,rfl,rfl⟩:=trodAll_nil r2;obtain rfl:args = #[v0,v1,v2]:=by cases args;simp_all
 obtain⟨rfl,rfl⟩:=trodVars_none hV;have k0:=h0;have k1:=h1;have k2:=h2;have lt0:∀ x ∈ p0,x.block<W.heap.size:=by obtain⟨m,hm⟩:=k0;exact DataW.trod_lt m _ _ _ hm
 have lt1:∀ x ∈ p1,x.block<W.heap.size:=by obtain⟨m,hm⟩:=k1;exact DataW.trod_lt m _ _ _ hm
 have lt2:∀ x ∈ p2,x.block<W.heap.size:=by obtain⟨m,hm⟩:=k2;exact DataW.trod_lt m _ _ _ hm
 obtain⟨x0,u0,hx0,rr0,a0⟩:=Sh.yib (hval 0 24 v0 rfl rfl) h0;obtain⟨m1,hm1⟩:=h1;obtain⟨A1,len1,cap1,rfl⟩:=okWide_slice Tryz.underlying22 (hval 1 22 v1 rfl rfl);obtain⟨x1,hx1,u1,a1,rr1⟩:=Sh.yfl (v:=.slice A1 len1 cap1) hm1;obtain⟨m2,hm2⟩:=h2;obtain⟨A2,len2,cap2,rfl⟩:=okWide_slice Tryz.underlying25 (hval 2 25 v2 rfl rfl);obtain⟨x2,hx2,u2,a2,rr2⟩:=Sh.yky (v:=.slice A2 len2 cap2) hm2
 clear hA0 hval0
 have ha:Sh.RVL (Sh.memW W).b.get Sh.om0 [.ag (Sh.netC x0),Sh.yu x1,Sh.usV x2] [u0,u1,u2]:=.cons rr0 (.cons rr1 (.cons rr2 .nil));have hv:Ev.VRL (Sh.phiW W) [u0,u1,u2] [v0,.slice A1 len1 cap1,.slice A2 len2 cap2]:=.cons a0 (.cons (Sh.ycx a1) (.cons (Sh.ycx a2) .nil));refine(Sh.ygq (Sh.yuw hx0 (Sh.ymf hx1) hx2) ⟨_,_,Tryz.func10,rfl⟩ Ev.yjr ha hv).mono fun e W' ⟨he,bel⟩=>?_
 subst he;exact⟨_,rfl,_,_,_,[],_,[],hW',trodAll_mk1 (shut_bool Tryz.underlying4 _),(trodAll_cons_mk (Below.trod laidOut (by kernel_rfl) (of_decide_eq_true (by kernel_rfl)) k0 bel lt0) (trodAll_cons_mk (Below.trod laidOut (by kernel_rfl) (of_decide_eq_true (by kernel_rfl)) k1 bel lt1) (trodAll_cons_mk (Below.trod laidOut (by kernel_rfl) (of_decide_eq_true (by kernel_rfl)) k2 bel lt2) trodAll_mk0))),rfl,bel.frame _,fun h=>by cases h⟩

theorem leaderReaches_over:Rows.LeaderReachesSaid :=
 OpenClaim.holds_of_wide 10 Tryz.f10 rfl rfl rfl rfl rfl rfl rfl ⟨rfl,rfl,rfl,rfl,rfl⟩ rfl rfl rfl rfl rfl (by kernel_rfl) Tryz.func10 (by kernel_rfl)
  (of_decide_eq_true (by kernel_rfl)) (by unfold Func.isWrapper;first | (rw[if_pos (by decide +kernel)];kernel_rfl) | (rw[if_neg (by decide +kernel)];exact⟨rfl,rfl⟩))
  (fun os started H enc _=>leaderReaches_lifted os started H enc)

theorem leaderReaches_holds:Rows.LeaderReachesCardSaid :=
 Claim7.holds_tied_plain_at .later [] [.data] true Rows.leaderReachesCard.stood.harness true
  leaderReaches_over (fun _ h=>by cases h) (by kernel_rfl) (fun _ h=>by cases h) leaderReaches_row_tie rfl ⟨rfl,rfl⟩ (by kernel_rfl) rfl
  (fun f fn hf hfn=>by
   obtain rfl:f=10:=Option.some.inj ((show Tryz.prog.funcNamed Rows.leaderReachesRow.func=some 10 by kernel_rfl).symm.trans hf) |>.symm
   obtain rfl:fn=Tryz.f10:=(Option.some.inj (Tryz.func10.symm.trans hfn)).symm
   exact⟨by kernel_rfl,fun j t ht=>by
    rw[Tryz.params10]at ht;have hm:t ∈ [24,22,25]:=by simpa using Array.mem_of_getElem? ht
    have hall:([24,22,25].all fun u=>!Tryz.prog.wantsStandIn u)=true:=by kernel_rfl
    exact(show Tryz.prog.wantsStandIn t=false by simpa using List.all_eq_true.1 hall t (by simpa using hm))⟩)
  (by kernel_rfl)
#print axioms leaderReaches_holds
end Go.Proofs.YtpngeppkgoaimaaGreatDoor

