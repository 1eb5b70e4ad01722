/- Lemmas, joined: Mwb MatchingReachesL MatchingReachesV. -/
import Derived.Test.YtiejahgklcjhkaaGreatDoorPkF18
import Derived.Test.YtiejahgklcjhkaaGreatDoorTie
import Derived.Test.YtiejahgklcjhkaaGreatDoorCards
import Derived.LaidMore
import Derived.Stop.Joined
import Derived.SevenTiedAt
import Derived.Lib.LaidTab
import Derived.MakeChecks
import Derived.Test.YtiejahgklcjhkaaGreatDoorPkF19
set_option linter.unusedSimpArgs false
set_option linter.unusedVariables false
namespace Go.Proofs.YtiejahgklcjhkaaGreatDoor
open Go
namespace Sh
open Ev Go.RowKit
set_option maxRecDepth 8000
set_option maxHeartbeats 4000000 in
theorem ysk{x:NetR}(hx:x.ok){raw:List Int}(hr:∀ k,inK .i64 (raw.getD k 0)){l:List Nat}(hb:∀ k,l.getD k 0<2 ^ 32):Returns Tryz.prog 18 [.ag (netC x),intsV raw,usV l] (.b true):=by
 refine Returns.of (ydgm _ _ ?_);have hC:=ybup hx (most:=8) (by omega)
 simp only[netC]at hC;simp only[c18,ydfd,ydbl,netC,clash,go_sem,Nat.reduceEqDiff,Nat.reduceAdd,Nat.reduceLT,↓reduceIte];refine hC.found (V:=grV) (fun r g h=>h.2.2) fun r g h=>?_;obtain⟨hg,hn8,-⟩:=h;have hI:=ycaq hg;have hCh:Checked (Lies MqB Mqv) (Lies MqC Mqr) MqP g:=⟨hg,ybid,ybea hg,ybho⟩;have hTx:=yyo;have hVs:=yts;have hCf:=yst hg ybid hCh.hf hr;have hCl:=yry hI hg
 have hClen:∀ c,ydw MqP g c=true->c.length=g.ids.length:=fun c h=>(ylv h).len;have hids:g.ids.length<=24:=by have:=hg.2.1;have:=hg.2.2.1;omega
 simp only[grV]at hCf hCl;have hCl2:=yus hI hg;simp only[grV]at hCl2;simp only[thenO,ydho,grV,clash,go_sem,Nat.reduceEqDiff,Nat.reduceAdd,Nat.reduceLT,↓reduceIte,reduceCtorEq];refine hVs.use ?_;simp only[go_sem,↓reduceIte];refine hCf.found (V:=rowsV) (fun r c h=>h.2) fun r c h=>?_;obtain⟨hcv,-⟩:=h;simp only[thenO,ydbo,clash,go_sem,Nat.reduceEqDiff,Nat.reduceAdd,↓reduceIte,reduceCtorEq]
 refine⟨by decide,hTx.use ?_⟩
 simp only[go_sem];refine hCl.use ?_;simp only[yep,go_sem,Nat.reduceEqDiff,Nat.reduceAdd,Nat.reduceLeDiff,↓reduceIte,reduceCtorEq];refine(yup l hb 120 (by omega)).found (V:=usV) (fun r ws h=>h.2.2) fun r ws h=>?_
 obtain⟨hwl,hw,-⟩:=h;have hRun:=ybtd yie hCh (kind:=2) (by omega) (ybmv hg) hcv hw (by omega)
 obtain⟨n,Cs,Ks,hD⟩:=runD (ybc MqP g) (resG g) ws c;have hlen:=hD.le;have hpos:=hD.pos;have hCv:∀ k,k<n->ydw MqP g (Cs.getD k [])=true:=fun k hk=>(ybec hg (yly hg) hcv _ (hD.at_ hk).1).valid;have hHd:=fun ended he=>ycxk hg (yly hg) (ws:=ws) hcv (ended:=ended) he;rw[hD.cs,hD.ks]at hRun;simp only[grV,usV,ydd,ydn,hD.lC,hD.lK]at hRun;simp only[usV,go_sem,↓reduceIte];refine⟨by decide,hRun.use ?_⟩
 simp only[go_sem,Nat.reduceEqDiff,↓reduceIte];refine⟨by decide,?_⟩
 simp only[ydgi,clash,go_sem,Nat.reduceEqDiff,Nat.reduceAdd,↓reduceIte,reduceCtorEq];refine hCl.use ?_;simp only[thenO,yep,clash,go_sem,Nat.reduceEqDiff,Nat.reduceAdd,↓reduceIte,reduceCtorEq];refine hCl2.use ?_;simp only[yep,go_sem,↓reduceIte];simp only[ydfv,ydgj,go_sem,↓reduceIte];obtain⟨B,hB⟩:∃ B:Nat->Bool,(fun k=>mtLegitB g (Cs.getD k []))=B:=⟨_,rfl⟩;refine loop_on (σ:=Nat) (fun k=>⟨[(13,.i .i64 k),(12,.os (100,0) 0 k true),(9,.sl 1 n fun i=>[rowsV (Cs.getD i [])]),(10,.sl 5 n fun i=>cntV (Ks.getD i default)),(7,.pt (7,0) 0 0)],[(100,.one (some ⟨4,false,1,k,fun j=>[.b (B j)]⟩)),(7,.one (some ⟨27,true,2,1,fun _=>[intsV g.ids,portsV g.ports]⟩))]⟩) (fun k=>k<=n) (fun k=>n - k) 0 (Nat.zero_le _) ?_ ?_
 ·refine weak_all [] [100] [] ?_;simp only[go_sem,allQ,live,sim_self,Int.natCast_zero,go_sem,Nat.reduceEqDiff,Nat.reduceBEq,↓reduceIte,reduceCtorEq];exact⟨(100,0),rfl,rfl,rfl⟩
 ·intro k hk
  by_cases hlt:k<n
  ·have t1:decide ((k:Int)<(n:Int))=true:=decide_eq_true (by omega)
   have hLg:=MLegit_ret hI (ybhu (ygy hg ybid (hCv k hlt)));simp only[grV]at hLg;simp only[ycxt,yccu,t1,clash,go_sem,Nat.reduceEqDiff,Nat.reduceAdd,↓reduceIte,reduceCtorEq];refine⟨⟨by omega,by omega⟩,hLg.use ?_⟩
   simp only[thenO,clash,splice,go_sem,Nat.reduceEqDiff,Nat.reduceAdd,Nat.reduceLeDiff,Nat.reduceLT,↓reduceIte,reduceCtorEq];refine⟨by decide,⟨by omega,by omega⟩,by decide,?_⟩
   simp only[ydhq,clash,go_sem,Nat.reduceEqDiff,Nat.reduceAdd,↓reduceIte,reduceCtorEq];refine⟨ikw (by omega) (by omega),?_⟩
   refine loop_again (k+1) (by omega) (by omega) ?_
   refine weak_all [(100,fun i=>(57,i))] [] [] ?_;simp only[go_sem,allQ,live,sim_self,sim_i,go_sem,Nat.reduceEqDiff,↓reduceIte,reduceCtorEq];refine⟨by omega,fun i hi=>?_⟩
   by_cases q:i<k
   ·simp only[if_pos q];simp only[go_sem,live,sim_self,go_sem,reduceCtorEq]
   ·obtain rfl:i=k:=by omega
    simp only[if_neg q,Nat.sub_self,Nat.zero_mul];simp only[go_sem,live,sim_b,go_sem,reduceCtorEq];rw[<- hB]
  ·obtain rfl:k=n:=by omega
   have t1:decide ((k:Int)<(k:Int))=false:=decide_eq_false (by omega)
   have hE:=yhr hCh (hCv (k - 1) (by omega))
   have hPr:=yie;simp only[grV]at hE;have e1:((k:Int) - 1).toNat=k - 1:=by omega
   simp only[ycxt,ycqt,t1,clash,go_sem,Nat.reduceEqDiff,Nat.reduceAdd,↓reduceIte,reduceCtorEq];refine hTx.use ?_;simp only[thenO,clash,go_sem,Nat.reduceEqDiff,Nat.reduceAdd,↓reduceIte,reduceCtorEq];refine hPr.use ?_;simp only[yct,e1,go_sem,↓reduceIte];refine⟨by decide,ikw (by omega) (by omega),⟨by omega,by omega⟩,hE.use ?_⟩
   have e2:((((yw MqP g (Cs.getD (k - 1) []):Nat):Int)) == 0)=decide (yw MqP g (Cs.getD (k - 1) [])=0):=by
    rw[Bool.eq_iff_iff,beq_iff_eq,decide_eq_true_iff];omega
   obtain⟨ended,hen⟩:∃ b,decide (yw MqP g (Cs.getD (k - 1) [])=0)=b:=⟨_,rfl⟩;rw[hen]at e2;have hK:=yqp;simp only[e2,go_sem,↓reduceIte];refine⟨by decide,?_⟩
   simp only[ycil,go_sem,↓reduceIte];refine hK.use ?_;simp only[thenO,clash,go_sem,Nat.reduceEqDiff,Nat.reduceAdd,↓reduceIte,reduceCtorEq];refine hCl.use ?_;simp only[yep,go_sem];refine .inl (ybxu hD hB (hHd ended (ybmb hD hen)) (by omega) ?_)
   simp only[go_sem];exact Sim.refl _
end Sh
end Go.Proofs.YtiejahgklcjhkaaGreatDoor

namespace Go.Proofs.YtiejahgklcjhkaaGreatDoor
open Go.ChangeShapes Go.WideShapes Go.ChangeAt Go.RowKit Go.Joins Go.WideMaps Go.WideElems
set_option linter.unusedVariables false

set_option maxRecDepth 100000 in
theorem yiv(W:World)(h:laidMetH Tryz.prog Rows.matchingReachesRow.laid W):Ev.GlW W:=fun x hx=>by
 rw[MakeChecks.laidMetH_plain _ _ _ (by kernel_rfl)]at h
 have hg : Tryz.prog.globalNamed "math/bits.deBruijn32tab" = some 0 := by kernel_rfl
 have ht:=Lib.tabIs_of_head (rest:=[]) (k:=.u8) (zs:=([0,1,28,2,29,14,24,3,30,22,20,15,25,17,4,8,31,27,13,23,21,19,16,7,26,12,18,6,11,5,10,9]:List Int)) (t:=226) (e:=5) (n:=32) hg (by kernel_rfl) (by kernel_rfl) (by kernel_rfl) (by kernel_rfl) (by kernel_rfl) h
 unfold Lib.TabIs World.var? at ht;rw[hg]at ht;simp only[Option.bind_some]at ht;split at ht
 ·rename_i cs e fz hc
  obtain rfl:=Option.some.inj ht;obtain rfl:=Option.some.inj hx;exact⟨_,_,hc⟩
 ·cases ht

set_option maxRecDepth 100000 in
theorem yir(os:Os)(args:Array Value):laidMetH Tryz.prog Rows.matchingReachesRow.laid ((World.doorLaid Tryz.prog 14 os).forCall (fun _ _=>0) ⟨#[],args,[]⟩).memory :=
 laidMetH_of_parts3 (fuel:=8) (laidMet_of_run' 8 (by kernel_rfl) (by kernel_rfl)) (by kernel_rfl) (by kernel_rfl)

set_option maxRecDepth 100000 in
theorem yhl(os:Os)(started:os.Started)(H:Type)(enc:TypeId × Value->H) :
  ReturnsInHanded {} Tryz.checked os 18 .any (fun w args=>(Rows.matchingReachesSpec.pre enc Tryz.prog Tryz.f18 [] false w args/\laidMetH Tryz.prog Rows.matchingReachesRow.laid w)/\sizedMet enc Tryz.prog Tryz.f18 (OpenSpec.ofChange Rows.matchingReachesSpec) false w args)
   (Rows.matchingReachesSpec.post enc Tryz.prog Tryz.f18 false true false false):=by
 refine returnsInHanded_of_change_and (C:=Tryz.checked) (X:=fun w _=>laidMetH Tryz.prog Rows.matchingReachesRow.laid w) (fun _ _ _ hh h=>h.of_heap hh) own started (by kernel_rfl) Tryz.func18
  (ChangeSpec.witness_shaped (enc:=enc) (C:=Tryz.checked) (os:=os) (X:=fun w _=>laidMetH Tryz.prog Rows.matchingReachesRow.laid w) false (World.doorLaid Tryz.prog 14 os) #[.agg #[.int .i64 0,.slice .none 0 0,.slice .none 0 0,.slice .none 0 0,.bool false,.bool false],.slice .none 0 0,.slice .none 0 0] 8 rfl (World.shaped_of_RefB (by kernel_rfl) (by kernel_rfl)) (by kernel_rfl) (by kernel_rfl) (by kernel_rfl) (yir os _)) ?_
 intro W base args ds gs before hval0 hW _ _ hL _;have hval:∀ (j:Nat) t v,Tryz.f18.params[j]? = some t->args[j]? = some v->Value.okWide Tryz.prog W .any base t v:=hval0;have hW':=hW;obtain⟨p,q,hA0,hV,rfl,hfz,hnd⟩:=hW;have hA:DataW.TrodAll enc Tryz.prog W 0 (fun _=>true) true Tryz.f18.params.toList args.toList ds p:=hA0;rw[Tryz.params18]at hA hval;obtain⟨v0,vs0,d0,ds0,p0,q0,hargs,rfl,rfl,h0,r0⟩:=trodAll_cons hA
 obtain⟨v1,vs1,d1,ds1,p1,q1,rfl,rfl,rfl,h1,r1⟩:=trodAll_cons r0;obtain⟨v2,vs2,d2,ds2,p2,q2,rfl,rfl,rfl,h2,r2⟩:=trodAll_cons r1;obtain⟨rfl,rfl,rfl⟩:=trodAll_nil r2;obtain rfl:args = #[v0,v1,v2]:=by cases args;simp_all
 obtain⟨rfl,rfl⟩:=trodVars_none hV;have k0:=h0;have k1:=h1;have k2:=h2;have lt0:∀ x ∈ p0,x.block<W.heap.size:=by obtain⟨m,hm⟩:=k0;exact DataW.trod_lt m _ _ _ hm
 have lt1:∀ x ∈ p1,x.block<W.heap.size:=by obtain⟨m,hm⟩:=k1;exact DataW.trod_lt m _ _ _ hm
 have lt2:∀ x ∈ p2,x.block<W.heap.size:=by obtain⟨m,hm⟩:=k2;exact DataW.trod_lt m _ _ _ hm
 obtain⟨x0,u0,hx0,rr0,a0⟩:=Sh.yyk (hval 0 24 v0 rfl rfl) h0;obtain⟨m1,hm1⟩:=h1;obtain⟨A1,len1,cap1,rfl⟩:=okWide_slice Tryz.underlying22 (hval 1 22 v1 rfl rfl);obtain⟨x1,hx1,u1,a1,rr1⟩:=Sh.yhu (v:=.slice A1 len1 cap1) hm1;obtain⟨m2,hm2⟩:=h2;obtain⟨A2,len2,cap2,rfl⟩:=okWide_slice Tryz.underlying38 (hval 2 38 v2 rfl rfl);obtain⟨x2,hx2,u2,a2,rr2⟩:=Sh.ybhy (v:=.slice A2 len2 cap2) hm2
 clear hA0 hval0
 have ha:Sh.RVL (Sh.memW W).b.get Sh.om0 [.ag (Sh.netC x0),Sh.intsV x1,Sh.usV x2] [u0,u1,u2]:=.cons rr0 (.cons rr1 (.cons rr2 .nil));have hv:Ev.VRL (Sh.phiW W) [u0,u1,u2] [v0,.slice A1 len1 cap1,.slice A2 len2 cap2]:=.cons a0 (.cons (Sh.yfd a1) (.cons (Sh.yfd a2) .nil));refine(Sh.ytj (Sh.ysk hx0 (Sh.ybae hx1) hx2) ⟨_,_,Tryz.func18,rfl⟩ Ev.ymd (yiv W hL) ha hv).mono fun e W' ⟨he,bel⟩=>?_
 subst he;exact⟨_,rfl,_,_,_,[],_,[],hW',trodAll_mk1 (shut_bool Tryz.underlying4 _),(trodAll_cons_mk (Below.trod laidOut (by kernel_rfl) (of_decide_eq_true (by kernel_rfl)) k0 bel lt0) (trodAll_cons_mk (Below.trod laidOut (by kernel_rfl) (of_decide_eq_true (by kernel_rfl)) k1 bel lt1) (trodAll_cons_mk (Below.trod laidOut (by kernel_rfl) (of_decide_eq_true (by kernel_rfl)) k2 bel lt2) trodAll_mk0))),rfl,bel.frame _,fun h=>by cases h⟩

end Go.Proofs.YtiejahgklcjhkaaGreatDoor

namespace Go.Proofs.YtiejahgklcjhkaaGreatDoor
open Go.ChangeShapes Go.WideShapes Go.ChangeAt Go.RowKit Go.Joins Go.WideMaps Go.WideElems
set_option linter.unusedVariables false

theorem yla:(Rows.matchingReachesRow.inPlace == Tryz.prog.inPlace 18)=true:=by kernel_rfl
theorem yjs:(Rows.matchingReachesRow.unfollowed == Tryz.prog.unfollowed 18)=true:=by kernel_rfl
theorem yli:(Rows.matchingReachesRow.recurses == Tryz.prog.recurses 18)=true:=by kernel_rfl
theorem ykk:(Rows.matchingReachesRow.named == Tryz.prog.varsNamed 18)=true:=by kernel_rfl
theorem ykp:laidOutB Tryz.prog=true:=by kernel_rfl
theorem yke:mapsRowed Tryz.prog=true:=by kernel_rfl
theorem matchingReaches_j7:Tryz.prog.funcNamed Rows.matchingReachesRow.func=some 18:=by kernel_rfl
theorem ylh:Rows.matchingReachesRow.wf (OpenSpec.ofChange Rows.matchingReachesSpec)=true:=by kernel_rfl
theorem yhm:joinedFacts Tryz.prog 18 Tryz.f18 Rows.matchingReachesSpec Rows.matchingReachesRow=true:=by
 unfold joinedFacts
 repeat' (with_reducible refine Bool.and_eq_true_iff.2 ⟨?_,?_⟩)
 all_goals first | (with_reducible exact yla) | (with_reducible exact yjs) | (with_reducible exact yli) | (with_reducible exact ykk) | (with_reducible exact ykp) | (with_reducible exact yke) | (with_reducible exact ylh) | (with_reducible exact ybhs) | (rw[ybgo];rfl) | (rw[ybnh];rfl) | kernel_rfl
theorem yix:Tryz.f18.isInstance Tryz.prog Rows.matchingReachesRow.origin Rows.matchingReachesRow.targs:=of_decide_eq_true (by kernel_rfl)
theorem yiu:Tryz.f18.isWrapper Tryz.prog Rows.matchingReachesRow.wrapper Rows.matchingReachesRow.mainSum:=by
 unfold Func.isWrapper
 first | (rw[if_pos (by decide +kernel)];kernel_rfl) | (rw[if_neg (by decide +kernel)];exact⟨rfl,rfl⟩)
theorem matchingReaches_over:Rows.MatchingReachesSaid :=
 OpenClaim.holds_of_wide 18 Tryz.f18 rfl rfl rfl rfl rfl rfl rfl ⟨rfl,rfl,rfl,rfl,rfl⟩ rfl rfl rfl rfl rfl matchingReaches_j7 Tryz.func18 yhm yix yiu
  (fun os started H enc _=>yhl os started H enc)

end Go.Proofs.YtiejahgklcjhkaaGreatDoor

