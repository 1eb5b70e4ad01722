/- Lemmas, joined: Kwa ColouringRestsL ColouringRestsV. -/
import Derived.Test.YtiejahgklcjhkaaGreatDoorPkE17
import Derived.Test.YtiejahgklcjhkaaGreatDoorPkE18
import Derived.Test.YtiejahgklcjhkaaGreatDoorTie
import Derived.Test.YtiejahgklcjhkaaGreatDoorCards
import Derived.LaidMore
import Derived.Stop.Joined
import Derived.SevenTiedAt
import Derived.Lib.LaidTab
import Derived.MakeChecks
set_option linter.unusedSimpArgs false
set_option linter.unusedVariables false
namespace Go.Proofs.YtiejahgklcjhkaaGreatDoor
open Go
namespace Sh
open Ev Go.RowKit
set_option maxRecDepth 8000
set_option maxHeartbeats 4000000 in
theorem yzq{x:NetR}(hx:x.ok){raw:List Int}(hr:∀ k,inK .i64 (raw.getD k 0)){l:List Nat}(hb:∀ k,l.getD k 0<2 ^ 32):Returns Tryz.prog 14 [.ag (netC x),yg raw,usV l] (.b true):=by
 refine Returns.of (ycxk _ _ ?_);have hC:=ybdy hx (most:=9) (by omega)
 simp only[netC]at hC;simp only[c14,ydbf,ydgh,netC,clash,go_sem,Nat.reduceEqDiff,Nat.reduceAdd,Nat.reduceLT,↓reduceIte];refine hC.found (V:=grV) (fun r g h=>h.2.2) fun r g h=>?_;obtain⟨hg,hn8,-⟩:=h;have hI:=ybjw hg;have hCh:Checked (Lies KqB Kqv) (Lies KqC Kqr) KqP g:=⟨hg,yrp,yvw hg,yxf⟩;have hTx:=yrw;have hVs:=yml;have hCf:=ynp hg yrp hCh.hf hr;have hCl:=yql hI hg
 have hClen:∀ c,ydn KqP g c=true->c.length=g.ids.length:=fun c h=>(yjs h).len;have hids:g.ids.length<=24:=by have:=hg.2.1;have:=hg.2.2.1;omega
 simp only[grV]at hCf hCl;have hPr:=ygl;simp(maxSteps:=5000000) only [thenO,ydch,grV,clash,go_sem,Nat.reduceEqDiff,Nat.reduceAdd,Nat.reduceLT,↓reduceIte];refine hTx.use ?_;simp(maxSteps:=5000000) only [go_sem,↓reduceIte];refine hPr.use ?_;simp(maxSteps:=5000000) only [thenO,ycxz,clash,ycc,go_sem,Nat.reduceEqDiff,Nat.reduceAdd,↓reduceIte,reduceCtorEq];refine hTx.use ?_;simp(maxSteps:=5000000) only [go_sem]
 refine hCl.use ?_;simp(maxSteps:=5000000) only [yer,clash,go_sem,Nat.reduceEqDiff,Nat.reduceAdd,Nat.reduceLeDiff,↓reduceIte,reduceCtorEq];refine hVs.use ?_;simp(maxSteps:=5000000) only [usV,go_sem,↓reduceIte];refine⟨by decide,hCf.found (V:=yba) (fun r c h=>h.2) fun r c h=>?_⟩
 obtain⟨hcv,-⟩:=h;have hWs:=yut l hb 60 (by omega)
 simp only[usV]at hWs;simp(maxSteps:=5000000) only [go_sem];refine⟨by decide,hWs.found (V:=usV) (fun r ws h=>h.2.2) fun r ws h=>?_⟩
 obtain⟨hwl,hw,-⟩:=h;have hRun:=ybnp ygl hCh (kind:=2) (by omega) (ybdz hg) hcv hw (by omega)
 obtain⟨n,Cs,Ks,hD⟩:=runD (ybj KqP g) (resG g) ws c;have hlen:=hD.le;have hpos:=hD.pos;have hCv:∀ k,k<n->ydn KqP g (Cs.getD k [])=true:=fun k hk=>(ybci hg (ykn hg) hcv _ (hD.at_ hk).1).inv.valid;rw[hD.cs,hD.ks]at hRun;simp only[grV,usV,ydd,ydr,hD.lC,hD.lK]at hRun;simp(maxSteps:=5000000) only [usV,go_sem,↓reduceIte];refine⟨by decide,hRun.use ?_⟩
 simp(maxSteps:=5000000) only [go_sem,Nat.reduceEqDiff,↓reduceIte];refine⟨by decide,?_⟩
 simp(maxSteps:=5000000) only [yddf,go_sem];refine ybd (σ:=Nat) (fun k=>⟨[(12,.i .i64 k),(11,.b true),(9,.sl 1 n fun i=>[yba (Cs.getD i [])]),(8,.pt (8,0) 0 0),(7,.pt (7,0) 0 0)],[(8,.one (some ⟨58,true,3,1,fun _=>ycc (Lies KqB Kqv) (Lies KqC Kqr) KqP.raw⟩)),(7,.one (some ⟨27,true,2,1,fun _=>[yg g.ids,yx g.ports]⟩))]⟩) (fun k=>k<=n) (fun k=>n - k) 0 (Nat.zero_le _) ?_ ?_
 ·refine weak_all [] [] [] ?_;simp only[ycc,allQ,live,sim_self,Int.natCast_zero,go_sem,Nat.reduceEqDiff,↓reduceIte,reduceCtorEq]
 ·intro k hk
  by_cases hlt:k<n
  ·have t1:decide ((k:Int)<(n:Int))=true:=decide_eq_true (by omega)
   have hLg:=yuj hI (ypq (yec hg yrp (hCv k hlt)));have hE:=yif hCh (hCv k hlt)
   have e2:((((yw KqP g (Cs.getD k []):Nat):Int)) == 0)=yee g (Cs.getD k []):=by
    have hb:yw KqP g (Cs.getD k [])=0 ↔ yee g (Cs.getD k [])=true:=yji hg (hCv k hlt);rw[Bool.eq_iff_iff,beq_iff_eq,<- hb];omega
   simp only[grV,ycc]at hLg hE;obtain⟨lg,hlg⟩:∃ b,yee g (Cs.getD k [])=b:=⟨_,rfl⟩;rw[hlg]at hLg e2;have e3:(lg != lg)=false:=by cases lg<;>rfl
   simp(maxSteps:=5000000) only [ycvp,ycxt,t1,ycc,clash,go_sem,Nat.reduceEqDiff,Nat.reduceAdd,↓reduceIte,reduceCtorEq];refine⟨⟨by omega,by omega⟩,hE.use ?_⟩
   simp(maxSteps:=5000000) only [thenO,clash,e2,go_sem,Nat.reduceEqDiff,Nat.reduceAdd,↓reduceIte,reduceCtorEq];refine⟨⟨by omega,by omega⟩,hLg.use ?_⟩
   simp(maxSteps:=5000000) only [e3,go_sem];simp(maxSteps:=5000000) only [ydep,clash,go_sem,Nat.reduceEqDiff,Nat.reduceAdd,↓reduceIte,reduceCtorEq];refine⟨ikw (by omega) (by omega),?_⟩
   refine yc (k+1) (by omega) (by omega) ?_
   refine weak_all [] [] [] ?_;simp only[allQ,live,sim_self,yh,go_sem,Nat.reduceEqDiff,↓reduceIte,reduceCtorEq];omega
  ·obtain rfl:k=n:=by omega
   have t1:decide ((k:Int)<(k:Int))=false:=decide_eq_false (by omega)
   have hK:=ykg;simp(maxSteps:=5000000) only [ycvp,yczc,t1,clash,go_sem,Nat.reduceEqDiff,Nat.reduceAdd,↓reduceIte,reduceCtorEq];refine hK.use ?_;simp(maxSteps:=5000000) only [thenO,clash,go_sem,Nat.reduceEqDiff,Nat.reduceAdd,↓reduceIte,reduceCtorEq];exact Sim.refl _
end Sh
end Go.Proofs.YtiejahgklcjhkaaGreatDoor

namespace Go.Proofs.YtiejahgklcjhkaaGreatDoor
open Go.ChangeShapes Go.WideShapes Go.ChangeAt Go.RowKit Go.Joins Go.WideMaps Go.WideElems
set_option linter.unusedVariables false

set_option maxRecDepth 100000 in
theorem yka(W:World)(h:laidMetH Tryz.prog Rows.colouringRestsRow.laid W):Ev.GlW W:=fun x hx=>by
 rw[MakeChecks.laidMetH_plain _ _ _ (by kernel_rfl)]at h
 have hg : Tryz.prog.globalNamed "math/bits.deBruijn32tab" = some 0 := by kernel_rfl
 have ht:=Lib.tabIs_of_head (rest:=[]) (k:=.u8) (zs:=([0,1,28,2,29,14,24,3,30,22,20,15,25,17,4,8,31,27,13,23,21,19,16,7,26,12,18,6,11,5,10,9]:List Int)) (t:=226) (e:=5) (n:=32) hg (by kernel_rfl) (by kernel_rfl) (by kernel_rfl) (by kernel_rfl) (by kernel_rfl) h
 unfold Lib.TabIs World.var? at ht;rw[hg]at ht;simp only[Option.bind_some]at ht;split at ht
 ·rename_i cs e fz hc
  obtain rfl:=Option.some.inj ht;obtain rfl:=Option.some.inj hx;exact⟨_,_,hc⟩
 ·cases ht

set_option maxRecDepth 100000 in
theorem yjw(os:Os)(args:Array Value):laidMetH Tryz.prog Rows.colouringRestsRow.laid ((World.doorLaid Tryz.prog 14 os).forCall (fun _ _=>0) ⟨#[],args,[]⟩).memory :=
 laidMetH_of_parts3 (fuel:=8) (laidMet_of_run' 8 (by kernel_rfl) (by kernel_rfl)) (by kernel_rfl) (by kernel_rfl)

set_option maxRecDepth 100000 in
theorem yio(os:Os)(started:os.Started)(H:Type)(enc:TypeId × Value->H) :
  ReturnsInHanded {} Tryz.checked os 14 .any (fun w args=>(Rows.colouringRestsSpec.pre enc Tryz.prog Tryz.f14 [] false w args/\laidMetH Tryz.prog Rows.colouringRestsRow.laid w)/\sizedMet enc Tryz.prog Tryz.f14 (OpenSpec.ofChange Rows.colouringRestsSpec) false w args)
   (Rows.colouringRestsSpec.post enc Tryz.prog Tryz.f14 false true false false):=by
 refine returnsInHanded_of_change_and (C:=Tryz.checked) (X:=fun w _=>laidMetH Tryz.prog Rows.colouringRestsRow.laid w) (fun _ _ _ hh h=>h.of_heap hh) own started (by kernel_rfl) Tryz.func14
  (ChangeSpec.witness_shaped (enc:=enc) (C:=Tryz.checked) (os:=os) (X:=fun w _=>laidMetH Tryz.prog Rows.colouringRestsRow.laid w) false (World.doorLaid Tryz.prog 14 os) #[.agg #[.int .i64 0,.slice .none 0 0,.slice .none 0 0,.slice .none 0 0,.bool false,.bool false],.slice .none 0 0,.slice .none 0 0] 8 rfl (World.shaped_of_RefB (by kernel_rfl) (by kernel_rfl)) (by kernel_rfl) (by kernel_rfl) (by kernel_rfl) (yjw os _)) ?_
 intro W base args ds gs before hval0 hW _ _ hL _;have hval:∀ (j:Nat) t v,Tryz.f14.params[j]? = some t->args[j]? = some v->Value.okWide Tryz.prog W .any base t v:=hval0;have hW':=hW;obtain⟨p,q,hA0,hV,rfl,hfz,hnd⟩:=hW;have hA:DataW.TrodAll enc Tryz.prog W 0 (fun _=>true) true Tryz.f14.params.toList args.toList ds p:=hA0;rw[Tryz.params14]at hA hval;obtain⟨v0,vs0,d0,ds0,p0,q0,hargs,rfl,rfl,h0,r0⟩:=trodAll_cons hA
 obtain⟨v1,vs1,d1,ds1,p1,q1,rfl,rfl,rfl,h1,r1⟩:=trodAll_cons r0;obtain⟨v2,vs2,d2,ds2,p2,q2,rfl,rfl,rfl,h2,r2⟩:=trodAll_cons r1;obtain⟨rfl,rfl,rfl⟩:=trodAll_nil r2;obtain rfl:args = #[v0,v1,v2]:=by cases args;simp_all
 obtain⟨rfl,rfl⟩:=trodVars_none hV;have k0:=h0;have k1:=h1;have k2:=h2;have lt0:∀ x ∈ p0,x.block<W.heap.size:=by obtain⟨m,hm⟩:=k0;exact DataW.trod_lt m _ _ _ hm
 have lt1:∀ x ∈ p1,x.block<W.heap.size:=by obtain⟨m,hm⟩:=k1;exact DataW.trod_lt m _ _ _ hm
 have lt2:∀ x ∈ p2,x.block<W.heap.size:=by obtain⟨m,hm⟩:=k2;exact DataW.trod_lt m _ _ _ hm
 obtain⟨x0,u0,hx0,rr0,a0⟩:=Sh.yrq (hval 0 24 v0 rfl rfl) h0;obtain⟨m1,hm1⟩:=h1;obtain⟨A1,len1,cap1,rfl⟩:=okWide_slice Tryz.underlying22 (hval 1 22 v1 rfl rfl);obtain⟨x1,hx1,u1,a1,rr1⟩:=Sh.ygn (v:=.slice A1 len1 cap1) hm1;obtain⟨m2,hm2⟩:=h2;obtain⟨A2,len2,cap2,rfl⟩:=okWide_slice Tryz.underlying38 (hval 2 38 v2 rfl rfl);obtain⟨x2,hx2,u2,a2,rr2⟩:=Sh.ybgo (v:=.slice A2 len2 cap2) hm2
 clear hA0 hval0
 have ha:Sh.RVL (Sh.memW W).b.get Sh.om0 [.ag (Sh.netC x0),Sh.yg x1,Sh.usV x2] [u0,u1,u2]:=.cons rr0 (.cons rr1 (.cons rr2 .nil));have hv:Ev.VRL (Sh.phiW W) [u0,u1,u2] [v0,.slice A1 len1 cap1,.slice A2 len2 cap2]:=.cons a0 (.cons (Sh.yeb a1) (.cons (Sh.yeb a2) .nil));refine(Sh.ymh (Sh.yzq hx0 (Sh.yta hx1) hx2) ⟨_,_,Tryz.func14,rfl⟩ Ev.ykz (yka W hL) ha hv).mono fun e W' ⟨he,bel⟩=>?_
 subst he;exact⟨_,rfl,_,_,_,[],_,[],hW',trodAll_mk1 (shut_bool Tryz.underlying4 _),(trodAll_cons_mk (Below.trod laidOut (by kernel_rfl) (of_decide_eq_true (by kernel_rfl)) k0 bel lt0) (trodAll_cons_mk (Below.trod laidOut (by kernel_rfl) (of_decide_eq_true (by kernel_rfl)) k1 bel lt1) (trodAll_cons_mk (Below.trod laidOut (by kernel_rfl) (of_decide_eq_true (by kernel_rfl)) k2 bel lt2) trodAll_mk0))),rfl,bel.frame _,fun h=>by cases h⟩

end Go.Proofs.YtiejahgklcjhkaaGreatDoor

namespace Go.Proofs.YtiejahgklcjhkaaGreatDoor
open Go.ChangeShapes Go.WideShapes Go.ChangeAt Go.RowKit Go.Joins Go.WideMaps Go.WideElems
set_option linter.unusedVariables false

theorem ynv:(Rows.colouringRestsRow.inPlace == Tryz.prog.inPlace 14)=true:=by kernel_rfl
theorem yoa:(Rows.colouringRestsRow.unfollowed == Tryz.prog.unfollowed 14)=true:=by kernel_rfl
theorem yms:(Rows.colouringRestsRow.recurses == Tryz.prog.recurses 14)=true:=by kernel_rfl
theorem ynx:(Rows.colouringRestsRow.named == Tryz.prog.varsNamed 14)=true:=by kernel_rfl
theorem ymw:laidOutB Tryz.prog=true:=by kernel_rfl
theorem ymq:mapsRowed Tryz.prog=true:=by kernel_rfl
theorem colouringRests_j7:Tryz.prog.funcNamed Rows.colouringRestsRow.func=some 14:=by kernel_rfl
theorem ynf:Rows.colouringRestsRow.wf (OpenSpec.ofChange Rows.colouringRestsSpec)=true:=by kernel_rfl
theorem yic:joinedFacts Tryz.prog 14 Tryz.f14 Rows.colouringRestsSpec Rows.colouringRestsRow=true:=by
 unfold joinedFacts
 repeat' (with_reducible refine Bool.and_eq_true_iff.2 ⟨?_,?_⟩)
 all_goals first | (with_reducible exact ynv) | (with_reducible exact yoa) | (with_reducible exact yms) | (with_reducible exact ynx) | (with_reducible exact ymw) | (with_reducible exact ymq) | (with_reducible exact ynf) | (with_reducible exact ywn) | (rw[ywh];rfl) | (rw[ybdf];rfl) | kernel_rfl
theorem ykc:Tryz.f14.isInstance Tryz.prog Rows.colouringRestsRow.origin Rows.colouringRestsRow.targs:=of_decide_eq_true (by kernel_rfl)
theorem yjx:Tryz.f14.isWrapper Tryz.prog Rows.colouringRestsRow.wrapper Rows.colouringRestsRow.mainSum:=by
 unfold Func.isWrapper
 first | (rw[if_pos (by decide +kernel)];kernel_rfl) | (rw[if_neg (by decide +kernel)];exact⟨rfl,rfl⟩)
theorem colouringRests_over:Rows.ColouringRestsSaid :=
 OpenClaim.holds_of_wide 14 Tryz.f14 rfl rfl rfl rfl rfl rfl rfl ⟨rfl,rfl,rfl,rfl,rfl⟩ rfl rfl rfl rfl rfl colouringRests_j7 Tryz.func14 yic ykc yjx
  (fun os started H enc _=>yio os started H enc)

end Go.Proofs.YtiejahgklcjhkaaGreatDoor

