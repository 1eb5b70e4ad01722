/- Joined. -/
import Derived.Test.YtiejahgklcjhkaaGreatDoorPkG19
import Derived.Test.YtiejahgklcjhkaaGreatDoorTie
import Derived.Test.YtiejahgklcjhkaaGreatDoorCards
import Derived.LaidMore
set_option linter.unusedSimpArgs false
set_option linter.unusedVariables false
set_option maxRecDepth 8000
open Nat renaming reduceEqDiff→zA,reduceAdd→zB,reduceLT→zC
open Go
namespace Go.Proofs.YtiejahgklcjhkaaGreatDoor
section
namespace Sh
open Ev Go.RowKit
set_option maxHeartbeats 4000000 in
theorem yzu{x:NetR}(hx:x.ok){raw:List Int}(hr:∀k,inK .i64 (raw.getD k 0)){l:List Nat}(hb:∀k,l.getD k 0<2^32):Returns Tryz.prog 9 [.ag (netC x),yw raw,usV l] (.b true):=by
 refine Returns.of (ydqo _ _ ?_);have hC:=ycak hx (most:=9) (by omega)
 simp only[netC]at hC;simp only[c9,c9_0,c9_1,netC,clash,go_sem,zA,zB,zC,↓reduceIte];refine hC.found (V:=grV) (fun r g h=>h.2.2.2) fun r g h=>?_;obtain⟨hT,hit,hn8,-⟩:=h;have hg:=hT.good;have hcn:=hT.conn;have hI:=ydfg hg;have hCh:Checked (Lies NqB Nqv) (Lies NqC Nqr) NqP g:=⟨hg,yddb,ybzg hg,ycdi⟩;have hTx:=ybpv;have hVs:=ybnn;have hCf:=yblh hg yddb hCh.hf hr;have hCl:=ybfy hI hit;have hClen:∀c,yeq NqP g c=true->c.length=g.ids.length:=fun c h=>(ylc h).len
 have hids:g.ids.length<=24:=by have:=hg.2.1;have:=hg.2.2.1;omega
 simp only[grV]at hCf hCl;have hPr:=yvu;simp(maxSteps:=5000000) only [ybh,c9_2,grV,clash,go_sem,zA,zB,zC,↓reduceIte];refine hTx.use ?_;simp(maxSteps:=5000000) only [go_sem,↓reduceIte];refine hPr.use ?_;simp(maxSteps:=5000000) only [ybh,c9_3,clash,yds,go_sem,zA,zB,↓reduceIte,reduceCtorEq];refine hTx.use ?_;simp(maxSteps:=5000000) only [go_sem];refine hCl.use ?_;simp(maxSteps:=5000000) only [ycli,clash,go_sem,zA,zB,Nat.reduceLeDiff,↓reduceIte,reduceCtorEq]
 refine hVs.use ?_;simp(maxSteps:=5000000) only [usV,go_sem,↓reduceIte];refine⟨by decide,hCf.found (V:=ybl) (fun r c h=>h.2) fun r c h=>?_⟩
 obtain⟨hcv,-⟩:=h;have hWs:=ybnl l hb 60 (by omega)
 simp only[usV]at hWs;simp(maxSteps:=5000000) only [go_sem];refine⟨by decide,hWs.found (V:=usV) (fun r ws h=>h.2.2) fun r ws h=>?_⟩
 obtain⟨hwl,hw,-⟩:=h;have hRun:=ydbj yvu hCh (kind:=2) (by omega) (ydfl hg) hcv hw (by omega)
 obtain⟨n,Cs,Ks,hD⟩:=runD (ybu NqP g) (resG g) ws c;have hlen:=hD.le;have hpos:=hD.pos;have hCv:∀k,k<n->yeq NqP g (Cs.getD k [])=true:=fun k hk=>(ycen hT (yxy hg) hcv _ (hD.at_ hk).1).valid;rw[hD.cs,hD.ks]at hRun;simp only[grV,usV,yen,yht,hD.lC,hD.lK]at hRun;simp(maxSteps:=5000000) only [usV,go_sem,↓reduceIte];refine⟨by decide,hRun.use ?_⟩
 simp(maxSteps:=5000000) only [go_sem,zA,↓reduceIte];refine⟨by decide,?_⟩
 simp(maxSteps:=5000000) only [c9_4,go_sem];refine ybj (σ:=Nat) (fun k=>⟨[(12,.i .i64 k),(11,.b true),(9,.sl 1 n fun i=>[ybl (Cs.getD i [])]),(8,.pt (8,0) 0 0),(7,.pt (7,0) 0 0)],[(8,.one (some ⟨58,true,3,1,fun _=>yds (Lies NqB Nqv) (Lies NqC Nqr) NqP.raw⟩)),(7,.one (some ⟨27,true,2,1,fun _=>[yw g.ids,yx g.ports]⟩))]⟩) (fun k=>k<=n) (fun k=>n-k) 0 (Nat.zero_le _) ?_ ?_
 ·refine yh [] [] [] ?_;simp only[yds,allQ,live,yc,Int.natCast_zero,go_sem,zA,↓reduceIte,reduceCtorEq]
 ·intro k hk
  by_cases hlt:k<n
  ·have t1:decide ((k:Int)<(n:Int))=true:=decide_eq_true (by omega)
   have hLg:=ybll hI (ycam (yjs hg yddb (hCv k hlt))) (fun _=>hT);have hE:=ysk hCh (hCv k hlt)
   have e2:((((ybm NqP g (Cs.getD k []):Nat):Int))==0)=yhc g (Cs.getD k []):=by
    have hb:ybm NqP g (Cs.getD k [])=0↔yhc g (Cs.getD k [])=true:=yuu hT hit (hCv k hlt);rw[Bool.eq_iff_iff,beq_iff_eq,<-hb];omega
   simp only[grV,yds]at hLg hE;obtain⟨lg,hlg⟩:∃b,yhc g (Cs.getD k [])=b:=⟨_,rfl⟩;rw[hlg]at hLg e2;have e3:(lg != lg)=false:=by cases lg<;>rfl
   simp(maxSteps:=5000000) only [c9_5,c9_7,t1,yds,clash,go_sem,zA,zB,↓reduceIte,reduceCtorEq];refine⟨⟨by omega,by omega⟩,hE.use ?_⟩
   simp(maxSteps:=5000000) only [ybh,clash,e2,go_sem,zA,zB,↓reduceIte,reduceCtorEq];refine⟨⟨by omega,by omega⟩,hLg.use ?_⟩
   simp(maxSteps:=5000000) only [e3,go_sem];simp(maxSteps:=5000000) only [c9_6,clash,go_sem,zA,zB,↓reduceIte,reduceCtorEq];refine⟨ikw (by omega) (by omega),?_⟩
   refine yj (k+1) (by omega) (by omega) ?_
   refine yh [] [] [] ?_;simp only[allQ,live,yc,ybb,go_sem,zA,↓reduceIte,reduceCtorEq];omega
  ·obtain rfl:k=n:=by omega
   have t1:decide ((k:Int)<(k:Int))=false:=decide_eq_false (by omega)
   have hK:=ybft;simp(maxSteps:=5000000) only [c9_5,c9_9,t1,clash,go_sem,zA,zB,↓reduceIte,reduceCtorEq];refine hK.use ?_;simp(maxSteps:=5000000) only [ybh,clash,go_sem,zA,zB,↓reduceIte,reduceCtorEq];exact Sim.refl _
end Sh
end
section
open Go.ChangeShapes Go.WideShapes Go.ChangeAt Go.RowKit Go.Joins Go.WideMaps Go.WideElems
set_option linter.unusedVariables false
set_option maxRecDepth 100000 in
theorem ymt(W:World)(h:laidMetH Tryz.prog Rows.electionRestsRow.laid W):Ev.GlW W:=fun x hx=>by
 rw[MakeChecks.laidMetH_plain _ _ _ (by kernel_rfl)]at h
 have hg : Tryz.prog.globalNamed "math/bits.deBruijn32tab" = some 0 := by kernel_rfl
 have ht:=Lib.tabIs_of_head (rest:=[]) (k:=.u8) (zs:=([0,1,28,2,29,14,24,3,30,22,20,15,25,17,4,8,31,27,13,23,21,19,16,7,26,12,18,6,11,5,10,9]:List Int)) (t:=226) (e:=5) (n:=32) hg (by kernel_rfl) (by kernel_rfl) (by kernel_rfl) (by kernel_rfl) (by kernel_rfl) h
 unfold Lib.TabIs World.var? at ht;rw[hg]at ht;simp only[Option.bind_some]at ht;split at ht
 ·rename_i cs e fz hc
  obtain rfl:=Option.some.inj ht;obtain rfl:=Option.some.inj hx;exact⟨_,_,hc⟩
 ·cases ht
set_option maxRecDepth 100000 in
theorem ynb(os:Os)(args:Array Value):laidMetH Tryz.prog Rows.electionRestsRow.laid ((World.doorLaid Tryz.prog 14 os).forCall (fun _ _=>0) ⟨#[],args,[]⟩).memory :=
 laidMetH_of_parts3 (fuel:=8) (laidMet_of_run' 8 (by kernel_rfl) (by kernel_rfl)) (by kernel_rfl) (by kernel_rfl)
set_option maxRecDepth 100000 in
theorem ykj(os:Os)(started:os.Started)(H:Type)(enc:TypeId×Value->H) :
 ReturnsInHanded {} Tryz.checked os 9 .any (fun w args=>(Rows.electionRestsSpec.pre enc Tryz.prog Tryz.f9 [] false w args/\laidMetH Tryz.prog Rows.electionRestsRow.laid w)/\sizedMet enc Tryz.prog Tryz.f9 (OpenSpec.ofChange Rows.electionRestsSpec) false w args)
  (Rows.electionRestsSpec.post enc Tryz.prog Tryz.f9 false true false false):=by
 refine returnsInHanded_of_change_and (C:=Tryz.checked) (X:=fun w _=>laidMetH Tryz.prog Rows.electionRestsRow.laid w) (fun _ _ _ hh h=>h.of_heap hh) own started (by kernel_rfl) Tryz.func9
  (ChangeSpec.witness_shaped (enc:=enc) (C:=Tryz.checked) (os:=os) (X:=fun w _=>laidMetH Tryz.prog Rows.electionRestsRow.laid w) false (World.doorLaid Tryz.prog 14 os) #[.agg #[.int .i64 0,.slice .none 0 0,.slice .none 0 0,.slice .none 0 0,.bool false,.bool false],.slice .none 0 0,.slice .none 0 0] 8 rfl (World.shaped_of_RefB (by kernel_rfl) (by kernel_rfl)) (by kernel_rfl) (by kernel_rfl) (by kernel_rfl) (ynb os _)) ?_
 intro W base args ds gs before hval0 hW _ _ hL _;have hval:∀(j:Nat) t v,Tryz.f9.params[j]?=some t->args[j]?=some v->Value.okWide Tryz.prog W .any base t v:=hval0;have hW':=hW;obtain⟨p,q,hA0,hV,rfl,hfz,hnd⟩:=hW;have hA:DataW.TrodAll enc Tryz.prog W 0 (fun _=>true) true Tryz.f9.params.toList args.toList ds p:=hA0;rw[Tryz.params9]at hA hval;obtain⟨v0,vs0,d0,ds0,p0,q0,hargs,rfl,rfl,h0,r0⟩:=trodAll_cons hA
 obtain⟨v1,vs1,d1,ds1,p1,q1,rfl,rfl,rfl,h1,r1⟩:=trodAll_cons r0;obtain⟨v2,vs2,d2,ds2,p2,q2,rfl,rfl,rfl,h2,r2⟩:=trodAll_cons r1;obtain⟨rfl,rfl,rfl⟩:=trodAll_nil r2;obtain rfl:args = #[v0,v1,v2]:=by cases args;simp_all
 obtain⟨rfl,rfl⟩:=trodVars_none hV;have k0:=h0;have k1:=h1;have k2:=h2;have lt0:∀x∈p0,x.block<W.heap.size:=by obtain⟨m,hm⟩:=k0;exact DataW.trod_lt m _ _ _ hm
 have lt1:∀x∈p1,x.block<W.heap.size:=by obtain⟨m,hm⟩:=k1;exact DataW.trod_lt m _ _ _ hm
 have lt2:∀x∈p2,x.block<W.heap.size:=by obtain⟨m,hm⟩:=k2;exact DataW.trod_lt m _ _ _ hm
 obtain⟨x0,u0,hx0,rr0,a0⟩:=Sh.ybui (hval 0 24 v0 rfl rfl) h0;obtain⟨m1,hm1⟩:=h1;obtain⟨A1,len1,cap1,rfl⟩:=okWide_slice Tryz.underlying22 (hval 1 22 v1 rfl rfl);obtain⟨x1,hx1,u1,a1,rr1⟩:=Sh.ylp (v:=.slice A1 len1 cap1) hm1;obtain⟨m2,hm2⟩:=h2;obtain⟨A2,len2,cap2,rfl⟩:=okWide_slice Tryz.underlying38 (hval 2 38 v2 rfl rfl);obtain⟨x2,hx2,u2,a2,rr2⟩:=Sh.ycca (v:=.slice A2 len2 cap2) hm2
 clear hA0 hval0
 have ha:Sh.RVL (Sh.memW W).b.get Sh.om0 [.ag (Sh.netC x0),Sh.yw x1,Sh.usV x2] [u0,u1,u2]:=.cons rr0 (.cons rr1 (.cons rr2 .nil));have hv:Ev.VRL (Sh.phiW W) [u0,u1,u2] [v0,.slice A1 len1 cap1,.slice A2 len2 cap2]:=.cons a0 (.cons (Sh.yis a1) (.cons (Sh.yis a2) .nil));refine(Sh.ybmz (Sh.yzu hx0 (Sh.ybiu hx1) hx2) ⟨_,_,Tryz.func9,rfl⟩ Ev.yrc (ymt W hL) ha hv).mono fun e W' ⟨he,bel⟩=>?_;subst he;exact⟨_,rfl,_,_,_,[],_,[],hW',trodAll_mk1 (shut_bool Tryz.underlying4 _),(trodAll_cons_mk (Below.trod laidOut (by kernel_rfl) (of_decide_eq_true (by kernel_rfl)) k0 bel lt0) (trodAll_cons_mk (Below.trod laidOut (by kernel_rfl) (of_decide_eq_true (by kernel_rfl)) k1 bel lt1) (trodAll_cons_mk (Below.trod laidOut (by kernel_rfl) (of_decide_eq_true (by kernel_rfl)) k2 bel lt2) trodAll_mk0))),rfl,bel.frame _,fun h=>by cases h⟩
end
section
open Go.ChangeShapes Go.WideShapes Go.ChangeAt Go.RowKit Go.Joins Go.WideMaps Go.WideElems
set_option linter.unusedVariables false
theorem yqs:(Rows.electionRestsRow.inPlace==Tryz.prog.inPlace 9)=true:=by kernel_rfl
theorem yra:(Rows.electionRestsRow.unfollowed==Tryz.prog.unfollowed 9)=true:=by kernel_rfl
theorem yqz:(Rows.electionRestsRow.recurses==Tryz.prog.recurses 9)=true:=by kernel_rfl
theorem yqr:(Rows.electionRestsRow.named==Tryz.prog.varsNamed 9)=true:=by kernel_rfl
theorem yrb:laidOutB Tryz.prog=true:=by kernel_rfl
theorem yqy:mapsRowed Tryz.prog=true:=by kernel_rfl
theorem yjc:Tryz.prog.funcNamed Rows.electionRestsRow.func=some 9:=by kernel_rfl
theorem yqu:Rows.electionRestsRow.wf (OpenSpec.ofChange Rows.electionRestsSpec)=true:=by kernel_rfl
theorem yki:joinedFacts Tryz.prog 9 Tryz.f9 Rows.electionRestsSpec Rows.electionRestsRow=true:=by
 unfold joinedFacts
 repeat' (with_reducible refine Bool.and_eq_true_iff.2 ⟨?_,?_⟩)
 all_goals first|(with_reducible exact yqs)|(with_reducible exact yra)|(with_reducible exact yqz)|(with_reducible exact yqr)|(with_reducible exact yrb)|(with_reducible exact yqy)|(with_reducible exact yqu)|(with_reducible exact ycfg)|(rw[ycaw];rfl)|(rw[ydbk];rfl)|kernel_rfl
theorem ymx:Tryz.f9.isInstance Tryz.prog Rows.electionRestsRow.origin Rows.electionRestsRow.targs:=of_decide_eq_true (by kernel_rfl)
theorem ymg:Tryz.f9.isWrapper Tryz.prog Rows.electionRestsRow.wrapper Rows.electionRestsRow.mainSum:=by
 unfold Func.isWrapper
 first|(rw[if_pos (by decide +kernel)];kernel_rfl)|(rw[if_neg (by decide +kernel)];exact⟨rfl,rfl⟩)
theorem ylm:Rows.ElectionRestsSaid :=
 OpenClaim.holds_of_wide 9 Tryz.f9 rfl rfl rfl rfl rfl rfl rfl ⟨rfl,rfl,rfl,rfl,rfl⟩ rfl rfl rfl rfl rfl yjc Tryz.func9 yki ymx ymg
  (fun os started H enc _=>ykj os started H enc)
end
end Go.Proofs.YtiejahgklcjhkaaGreatDoor
