/- Joined. -/
import Derived.Test.YtiejahgklcjhkaaGreatDoorPkI19
import Derived.Test.YtiejahgklcjhkaaGreatDoorTie
import Derived.Test.YtiejahgklcjhkaaGreatDoorCards
import Derived.LaidMore
set_option linter.unusedSimpArgs false
set_option linter.unusedVariables false
open Nat renaming reduceEqDiff→zA,reduceAdd→zB,reduceLT→zH
open List renaming foldl_append→zC,range_succ→zF,range→zI
open Int renaming le_antisymm→zD,reduceToNat→zG
namespace Go.Proofs.YtiejahgklcjhkaaGreatDoor
section
section
variable {nm nl nd np no nj nh nr:ByteArray}{g:Gr}
end
end
section
section
variable {nm nh nr:ByteArray}{g:Gr}
end
end
section
section
variable {g:Gr}{v:Nat}
theorem ybay(h:Tr g)(hv:v<g.ports.length):yug g v (eccP g v):=by
 have hg:=h.good
 have he:eccP g (v:Int)=ybw (ybu g v):=by
  unfold eccP;rw[if_pos ⟨h.conn,by omega,by omega⟩,Int.toNat_natCast]
 have hlen:=yho hg hv;rw[he]
 have up:∀w,w<g.ports.length->dP g w v<=ybw (ybu g v):=fun w hw=>by
  rw[yclx hg h.conn hw hv];refine yqr _ _ ?_;unfold dP;rw[Sh.getD_at (show w<(ybu g v).length by omega)]
  exact List.getElem_mem _
 refine⟨up,?_⟩;obtain⟨e,h1,w,hw,h2⟩:=ytl (g:=g) hv;refine⟨w,hw,zD (up w hw) ?_⟩;have hn:=h.nonneg hw hv;refine ybdn _ _ (by omega) fun x hx=>?_
 obtain⟨i,hi,rfl⟩:=List.getElem_of_mem hx;have hi':i<g.ports.length:=by omega
 have h3:=h1 i hi';rw[yclx hg h.conn hi' hv]at h3;have e3:dP g v i=(ybu g v)[i]:=by unfold dP;rw[Sh.getD_at hi]
 omega
theorem ydhu(h:Tr g)(hv:v<g.ports.length):0<=eccP g v/\eccP g v<g.ports.length:=by
 obtain⟨_,w,hw,e⟩:=ybay h hv;have h1:=h.nonneg hw hv;have h2:=h.lt_n hw hv;omega
def ynk(g:Gr)(k:Nat):Int:=(zI k).foldl (fun m v=>min m (eccP g (v:Nat))) 24
theorem ybig(g:Gr)(k:Nat):ynk g (k+1)=min (ynk g k) (eccP g k):=by
 unfold ynk;rw[zF,zC];rfl
theorem ylj(g:Gr):∀k,ynk g k<=24/\(∀v,v<k->ynk g k<=eccP g v)/\(ynk g k=24\/∃v,v<k/\ynk g k=eccP g v)
 |0=>⟨Int.le_refl _,fun v h=>absurd h (Nat.not_lt_zero v),.inl rfl⟩
 | k + 1=>by
   obtain⟨h1,h2,h3⟩:=ylj g k;rw[ybig];refine⟨by omega,fun v hv=>?_,?_⟩
   ·by_cases q:v=k
    ·subst q;omega
    ·have:=h2 v (by omega);omega
   ·rcases Int.lt_or_le (eccP g k) (ynk g k)with q|q
    ·exact .inr ⟨k,by omega,by omega⟩
    ·rcases h3 with e|⟨v,hv,e⟩
     ·exact .inl (by omega)
     ·exact .inr ⟨v,by omega,by omega⟩
theorem ydfd(h:Tr g)(hv:v<g.ports.length):Peak g v↔eccP g v=ynk g g.ports.length:=by
 obtain⟨h1,h2,h3⟩:=ylj g g.ports.length;have h24:=h.good.2.1;constructor
 ·intro hp;refine zD ?_ (h2 v hv);rcases h3 with e|⟨x,hx,e⟩
  ·have:=(ydhu h hv).2;omega
  ·rw[e];exact(h.peak_least hp hv hx (ybay h hv) (ybay h hx)).1
 ·intro e;refine h.least_peak hv (ybay h hv) fun x ex hx hex=>?_;have h4:=h2 x hx;obtain⟨a1,w,hw,a2⟩:=ybay h hx;obtain⟨b1,w',hw',b2⟩:=hex;have:=a1 w' hw';have:=b1 w hw;omega
end
section
variable {g:Gr}
end
end
section
open Go
def yyt(c:Conf)(k:Nat):Int:=(zI k).foldl (fun s v=>s+lAt c v) 0
theorem ywk(c:Conf)(k:Nat):yyt c (k+1)=yyt c k+lAt c k:=by
 unfold yyt;rw[zF,zC];rfl
theorem ybdj{c:Conf}{n u:Nat}(h1:lAt c u=1)(h2:∀v,v<n->lAt c v=1->v=u)(hb:∀v,v<n->lAt c v=0\/lAt c v=1):∀k,k<=n->yyt c k=if u<k then 1 else 0
 |0,_=>by simp[yyt]
 | k + 1,hk=>by
   rw[ywk,ybdj h1 h2 hb k (by omega)]
   by_cases q:u<k
   ·rw[if_pos q,if_pos (by omega)]
    rcases hb k (by omega)with e|e
    ·rw[e];rfl
    ·have:=h2 k (by omega) e;omega
   ·rw[if_neg q]
    by_cases r:k=u
    ·rw[r,h1,if_pos (by omega)];rfl
    ·rw[if_neg (by omega)]
     rcases hb k (by omega)with e|e
     ·rw[e];rfl
     ·exact absurd (h2 k (by omega) e) r
theorem ycgp{g:Gr}(h:Tr g){u v:Nat}(hu:u<g.ports.length)(hp:Peak g u)(hv:v<g.ports.length):eccP g (u:Nat)<=eccP g (v:Nat):=by
 have e:=(ydfd h hu).1 hp;have:=(ylj g g.ports.length).2.1 v hv;rw[e];exact this
namespace Sh
open Ev Go.RowKit
set_option maxRecDepth 8000
set_option maxHeartbeats 8000000 in
theorem yyi{x:NetR}(hx:x.ok){raw:List Int}(hr:∀k,inK .i64 (raw.getD k 0)){l:List Nat}(hb:∀k,l.getD k 0<2^32):Returns Tryz.prog 10 [.ag (netC x),yw raw,usV l] (.b true):=by
 refine Returns.of (ydgb _ _ ?_);have hC:=ycbx hx (most:=9) (by omega)
 simp only[netC]at hC;simp only[c10,ydnz,ydot,netC,clash,go_sem,zA,zB,zH,↓reduceIte];refine hC.found (V:=grV) (fun r g h=>h.2.2.2) fun r g h=>?_;obtain⟨hT,hit,hn8,-⟩:=h;have hg:=hT.good;have hI:=ydff hg;have hCh:Checked (Lies NqB Nqv) (Lies NqC Nqr) NqP g:=⟨hg,ydds,ybst hg,ycha⟩;have hTx:=ybwo;have hVs:=yboe;have hPr:=yxo;have hK:=ybhg;have hCf:=ybnr hg ydds hCh.hf hr;have hpl:=hg.2.2.1;have h24:=hg.2.1
 simp only[grV]at hCf;simp(maxSteps:=5000000) only [ybh,ydhp,grV,clash,go_sem,zA,zB,zH,↓reduceIte,reduceCtorEq];refine hTx.use ?_;simp(maxSteps:=5000000) only [go_sem];refine hVs.use ?_;simp(maxSteps:=5000000) only [go_sem,↓reduceIte];refine⟨by decide,hCf.found (V:=ybk) (fun r c h=>h.2) fun r c h=>?_⟩
 obtain⟨hcv,-⟩:=h;simp(maxSteps:=5000000) only [go_sem];refine⟨by decide,(ybol l hb 150 (by omega)).found (V:=usV) (fun r ws h=>h.2.2) fun r ws h=>?_⟩
 obtain⟨hwl,hw,-⟩:=h;have hRun:=yddp yxo hCh (kind:=2) (by omega) (ydew hg) hcv hw (by omega)
 obtain⟨n,Cs,Ks,hD⟩:=runD (ybx NqP g) (resG g) ws c;have hlen:=hD.le;have hpos:=hD.pos;obtain⟨C,hCe⟩:∃C,Cs.getD (n-1) []=C:=⟨_,rfl⟩;have hCv:yfb NqP g C=true:=by rw[<-hCe];exact(ycau hT (yzp hg) hcv _ (hD.at_ (show n-1<n by omega)).1).valid
 have hE:=yuu hCh hCv;have hrest:=yvl hT hit hCv;have hright:=ynt hT (ycuf hT hit hCv);have hcl:C.length=g.ids.length:=(yjr hCv).len;have hrow:=(yjr hCv).row;have hEc:=fun(v:Nat) (hv:v<g.ports.length)=>ycgw hI (v:=(v:Int)) (yez (by omega))
 obtain⟨nn,hnn⟩:∃m,g.ports.length=m:=⟨_,rfl⟩;rw[hD.cs,hD.ks]at hRun;simp only[grV,yep,yih,hD.lC,hD.lK]at hRun;have e1:((n:Int)-1).toNat=n-1:=by omega
 simp(maxSteps:=5000000) only [go_sem,↓reduceIte];refine⟨by decide,hRun.use ?_⟩
 simp(maxSteps:=5000000) only [ybh,ydov,ydmd,ydjk,e1,hCe,clash,go_sem,zA,zB,↓reduceIte,reduceCtorEq];refine⟨by decide,ikw (by omega) (by omega),⟨by omega,by omega⟩,?_⟩
 refine hTx.use ?_;simp(maxSteps:=5000000) only [go_sem,↓reduceIte];refine hPr.use ?_;simp only[grV,yej]at hE;simp(maxSteps:=5000000) only [yej,go_sem,↓reduceIte];refine⟨by decide,hE.use ?_⟩
 by_cases h0:ybn NqP g C=0
 ·have z0:(((ybn NqP g C:Nat):Int)!=0)=false:=by rw[h0];rfl
  have hL:yhr g C=true:=hrest.1 h0;obtain⟨hH,u,hu,hpk,hu1,hu2⟩:=hright.1 hL;have hLd:=ybgn hI (ycem (yke hg ydds hCv)) hT hL (u:=u) (by omega) hu1 (fun v hv e=>by have:=hu2 v (by omega) e;omega)
  have hsum:=ybdj hu1 hu2 (fun v hv=>(hrow v hv).2.2);have hss:=ywk C;have hmin:=fun v (hv:v<g.ports.length)=>ycgp hT (show u<g.ports.length by omega) hpk hv
  have hs0:yyt C 0=0:=rfl;rw[hnn]at h24 hEc hmin;have f1:decide ((u:Int)<0)=false:=decide_eq_false (by omega)
  have f2:decide ((u:Int)>=(nn:Int))=false:=decide_eq_false (by omega)
  simp only[grV]at hLd hEc;simp(maxSteps:=5000000) only [ybh,ydhy,z0,clash,go_sem,zA,zB,↓reduceIte,reduceCtorEq];refine⟨by decide,hLd.use ?_⟩
  simp(maxSteps:=5000000) only [ydjd,ycos,yx,hnn,f1,f2,clash,go_sem,zA,zB,↓reduceIte,reduceCtorEq];refine ybm (σ:=Nat) (fun v=>⟨[(14,.i .i64 v),(12,.i .i64 u),(11,ybk C),(13,.i .i64 (yyt C v)),(7,.pt (7,0) 0 0)],[(7,.one (some ⟨27,true,2,1,fun _=>[yw g.ids,yx g.ports]⟩))]⟩) (fun v=>v<=nn) (fun v=>nn-v) 0 (Nat.zero_le _) ?_ ?_
  ·refine yh [] [] [] ?_;simp only[yx,hnn,hs0,allQ,live,yc,Int.natCast_zero,go_sem,zA,↓reduceIte,reduceCtorEq]
  intro v hv
  by_cases hlt:v<nn
  ·have t1:decide ((v:Int)<(nn:Int))=true:=decide_eq_true (by omega)
   have hEv:=hEc v hlt;have hEu:=hEc u (by omega)
   simp only[yx,hnn]at hEv hEu;obtain⟨r1,_,r2⟩:=hrow v (by omega)
   have hm:=hmin v hlt;have hsv:=hsum v (by omega)
   have hsb:0<=yyt C v/\yyt C v<=1:=by rw[hsv];split<;>omega
   have hse:=hss v;have hle:lAt C v=(C.getD v []).getD 1 0:=rfl;obtain⟨a,ha⟩:∃a,eccP g (v:Nat)=a:=⟨_,rfl⟩;obtain⟨b,hb'⟩:∃b,eccP g (u:Nat)=b:=⟨_,rfl⟩;rw[ha]at hEv hm;rw[hb']at hEu hm;have t2:decide (a<b)=false:=decide_eq_false (by omega)
   have hvl:v<C.length:=by omega
   obtain⟨cl,hcl'⟩:∃m,C.length=m:=⟨_,rfl⟩;rw[hcl']at hvl;obtain⟨s,hs⟩:∃s,C.getD v []=s:=⟨_,rfl⟩;rw[hs]at r1 hle;simp(maxSteps:=5000000) only [ybqx,ycld,yx,hnn,t1,clash,go_sem,zA,zB,↓reduceIte,reduceCtorEq];refine hEv.use ?_;simp(maxSteps:=5000000) only [ybh,clash,go_sem,zA,zB,↓reduceIte,reduceCtorEq];refine hEu.use ?_;have n2:(((2:Nat):Int)!=2)=false:=rfl;simp(maxSteps:=5000000) only [ycim,ycvp,n2,ybk,yw,hcl',hs,r1,<-hle,<-hse,t2,clash,go_sem,zG,zA,zB,↓reduceIte,reduceCtorEq]
   repeat (first|refine⟨(⟨by omega,by omega⟩:_/\_),?_⟩|refine⟨(by omega:_<_),?_⟩|refine⟨ikw (by omega) (by omega),?_⟩)
   refine yj (v+1) (by omega) (by omega) ?_
   refine yh [] [] [] ?_;simp only[allQ,live,yc,ybb,go_sem,zA,↓reduceIte,reduceCtorEq];omega
  ·obtain rfl:v=nn:=by omega
   have t1:decide ((v:Int)<(v:Int))=false:=decide_eq_false (by omega)
   have hsv:=hsum v (by omega)
   rw[if_pos (show u<v by omega)]at hsv
   obtain⟨r1,_,_⟩:=hrow u hu;have hle:lAt C u=(C.getD u []).getD 1 0:=rfl;have hul:u<C.length:=by omega
   obtain⟨cl,hcl'⟩:∃m,C.length=m:=⟨_,rfl⟩;rw[hcl']at hul;obtain⟨s,hs⟩:∃s,C.getD u []=s:=⟨_,rfl⟩;rw[hs]at r1 hle;simp(maxSteps:=5000000) only [ybqx,ycps,yx,hnn,t1,clash,go_sem,zA,zB,↓reduceIte,reduceCtorEq];refine hK.use ?_;simp(maxSteps:=5000000) only [ybh,ybk,yw,hcl',hs,r1,<-hle,hu1,hsv,clash,go_sem,zG,zA,zB,↓reduceIte,reduceCtorEq]
   repeat (first|refine⟨(by omega:(_:Prop)),?_⟩|refine⟨(by decide:(_:Prop)),?_⟩)
   exact Sim.refl _
 ·have z0:(((ybn NqP g C:Nat):Int)!=0)=true:=by rw[bne_iff_ne];omega
  simp(maxSteps:=5000000) only [ybh,ydoo,z0,clash,go_sem,zB,↓reduceIte,reduceCtorEq];refine⟨by decide,hK.use ?_⟩
  simp(maxSteps:=5000000) only [go_sem];exact Sim.refl _
end Sh
end
section
open Go.ChangeShapes Go.WideShapes Go.ChangeAt Go.RowKit Go.Joins Go.WideMaps Go.WideElems
set_option linter.unusedVariables false
set_option maxRecDepth 100000 in
theorem ylv(W:World)(h:laidMetH Tryz.prog Rows.electionCentreRow.laid W):Ev.GlW W:=fun x hx=>by
 rw[MakeChecks.laidMetH_plain _ _ _ (by kernel_rfl)]at h
 have hg : Tryz.prog.globalNamed "math/bits.deBruijn32tab" = some 0 := by kernel_rfl
 have ht:=Lib.tabIs_of_head (rest:=[]) (k:=.u8) (zs:=([0,1,28,2,29,14,24,3,30,22,20,15,25,17,4,8,31,27,13,23,21,19,16,7,26,12,18,6,11,5,10,9]:List Int)) (t:=226) (e:=5) (n:=32) hg (by kernel_rfl) (by kernel_rfl) (by kernel_rfl) (by kernel_rfl) (by kernel_rfl) h
 unfold Lib.TabIs World.var? at ht;rw[hg]at ht;simp only[Option.bind_some]at ht;split at ht
 ·rename_i cs e fz hc
  obtain rfl:=Option.some.inj ht;obtain rfl:=Option.some.inj hx;exact⟨_,_,hc⟩
 ·cases ht
set_option maxRecDepth 100000 in
theorem yli(os:Os)(args:Array Value):laidMetH Tryz.prog Rows.electionCentreRow.laid ((World.doorLaid Tryz.prog 14 os).forCall (fun _ _=>0) ⟨#[],args,[]⟩).memory :=
 laidMetH_of_parts3 (fuel:=8) (laidMet_of_run' 8 (by kernel_rfl) (by kernel_rfl)) (by kernel_rfl) (by kernel_rfl)
set_option maxRecDepth 100000 in
theorem yjq(os:Os)(started:os.Started)(H:Type)(enc:TypeId×Value->H) :
 ReturnsInHanded {} Tryz.checked os 10 .any (fun w args=>(Rows.electionCentreSpec.pre enc Tryz.prog Tryz.f10 [] false w args/\laidMetH Tryz.prog Rows.electionCentreRow.laid w)/\sizedMet enc Tryz.prog Tryz.f10 (OpenSpec.ofChange Rows.electionCentreSpec) false w args)
  (Rows.electionCentreSpec.post enc Tryz.prog Tryz.f10 false true false false):=by
 refine returnsInHanded_of_change_and (C:=Tryz.checked) (X:=fun w _=>laidMetH Tryz.prog Rows.electionCentreRow.laid w) (fun _ _ _ hh h=>h.of_heap hh) own started (by kernel_rfl) Tryz.func10
  (ChangeSpec.witness_shaped (enc:=enc) (C:=Tryz.checked) (os:=os) (X:=fun w _=>laidMetH Tryz.prog Rows.electionCentreRow.laid w) false (World.doorLaid Tryz.prog 14 os) #[.agg #[.int .i64 0,.slice .none 0 0,.slice .none 0 0,.slice .none 0 0,.bool false,.bool false],.slice .none 0 0,.slice .none 0 0] 8 rfl (World.shaped_of_RefB (by kernel_rfl) (by kernel_rfl)) (by kernel_rfl) (by kernel_rfl) (by kernel_rfl) (yli os _)) ?_
 intro W base args ds gs before hval0 hW _ _ hL _;have hval:∀(j:Nat) t v,Tryz.f10.params[j]?=some t->args[j]?=some v->Value.okWide Tryz.prog W .any base t v:=hval0;have hW':=hW;obtain⟨p,q,hA0,hV,rfl,hfz,hnd⟩:=hW;have hA:DataW.TrodAll enc Tryz.prog W 0 (fun _=>true) true Tryz.f10.params.toList args.toList ds p:=hA0;rw[Tryz.params10]at hA hval;obtain⟨v0,vs0,d0,ds0,p0,q0,hargs,rfl,rfl,h0,r0⟩:=trodAll_cons hA
 obtain⟨v1,vs1,d1,ds1,p1,q1,rfl,rfl,rfl,h1,r1⟩:=trodAll_cons r0;obtain⟨v2,vs2,d2,ds2,p2,q2,rfl,rfl,rfl,h2,r2⟩:=trodAll_cons r1;obtain⟨rfl,rfl,rfl⟩:=trodAll_nil r2;obtain rfl:args = #[v0,v1,v2]:=by cases args;simp_all
 obtain⟨rfl,rfl⟩:=trodVars_none hV;have k0:=h0;have k1:=h1;have k2:=h2;have lt0:∀x∈p0,x.block<W.heap.size:=by obtain⟨m,hm⟩:=k0;exact DataW.trod_lt m _ _ _ hm
 have lt1:∀x∈p1,x.block<W.heap.size:=by obtain⟨m,hm⟩:=k1;exact DataW.trod_lt m _ _ _ hm
 have lt2:∀x∈p2,x.block<W.heap.size:=by obtain⟨m,hm⟩:=k2;exact DataW.trod_lt m _ _ _ hm
 obtain⟨x0,u0,hx0,rr0,a0⟩:=Sh.ybzd (hval 0 24 v0 rfl rfl) h0;obtain⟨m1,hm1⟩:=h1;obtain⟨A1,len1,cap1,rfl⟩:=okWide_slice Tryz.underlying22 (hval 1 22 v1 rfl rfl);obtain⟨x1,hx1,u1,a1,rr1⟩:=Sh.ymx (v:=.slice A1 len1 cap1) hm1;obtain⟨m2,hm2⟩:=h2;obtain⟨A2,len2,cap2,rfl⟩:=okWide_slice Tryz.underlying38 (hval 2 38 v2 rfl rfl);obtain⟨x2,hx2,u2,a2,rr2⟩:=Sh.yccm (v:=.slice A2 len2 cap2) hm2
 clear hA0 hval0
 have ha:Sh.RVL (Sh.memW W).b.get Sh.om0 [.ag (Sh.netC x0),Sh.yw x1,Sh.usV x2] [u0,u1,u2]:=.cons rr0 (.cons rr1 (.cons rr2 .nil));have hv:Ev.VRL (Sh.phiW W) [u0,u1,u2] [v0,.slice A1 len1 cap1,.slice A2 len2 cap2]:=.cons a0 (.cons (Sh.yje a1) (.cons (Sh.yje a2) .nil));refine(Sh.yblv (Sh.yyi hx0 (Sh.ybjk hx1) hx2) ⟨_,_,Tryz.func10,rfl⟩ Ev.yrj (ylv W hL) ha hv).mono fun e W' ⟨he,bel⟩=>?_;subst he;exact⟨_,rfl,_,_,_,[],_,[],hW',trodAll_mk1 (shut_bool Tryz.underlying4 _),(trodAll_cons_mk (Below.trod laidOut (by kernel_rfl) (of_decide_eq_true (by kernel_rfl)) k0 bel lt0) (trodAll_cons_mk (Below.trod laidOut (by kernel_rfl) (of_decide_eq_true (by kernel_rfl)) k1 bel lt1) (trodAll_cons_mk (Below.trod laidOut (by kernel_rfl) (of_decide_eq_true (by kernel_rfl)) k2 bel lt2) trodAll_mk0))),rfl,bel.frame _,fun h=>by cases h⟩
end
section
open Go.ChangeShapes Go.WideShapes Go.ChangeAt Go.RowKit Go.Joins Go.WideMaps Go.WideElems
set_option linter.unusedVariables false
theorem ypx:(Rows.electionCentreRow.inPlace==Tryz.prog.inPlace 10)=true:=by kernel_rfl
theorem ynx:(Rows.electionCentreRow.unfollowed==Tryz.prog.unfollowed 10)=true:=by kernel_rfl
theorem yot:(Rows.electionCentreRow.recurses==Tryz.prog.recurses 10)=true:=by kernel_rfl
theorem yoz:(Rows.electionCentreRow.named==Tryz.prog.varsNamed 10)=true:=by kernel_rfl
theorem yph:laidOutB Tryz.prog=true:=by kernel_rfl
theorem yow:mapsRowed Tryz.prog=true:=by kernel_rfl
theorem yig:Tryz.prog.funcNamed Rows.electionCentreRow.func=some 10:=by kernel_rfl
theorem ypr:Rows.electionCentreRow.wf (OpenSpec.ofChange Rows.electionCentreSpec)=true:=by kernel_rfl
theorem yjm:joinedFacts Tryz.prog 10 Tryz.f10 Rows.electionCentreSpec Rows.electionCentreRow=true:=by
 unfold joinedFacts
 repeat' (with_reducible refine Bool.and_eq_true_iff.2 ⟨?_,?_⟩)
 all_goals first|(with_reducible exact ypx)|(with_reducible exact ynx)|(with_reducible exact yot)|(with_reducible exact yoz)|(with_reducible exact yph)|(with_reducible exact yow)|(with_reducible exact ypr)|(with_reducible exact yccf)|(rw[ycca];rfl)|(rw[ydbm];rfl)|kernel_rfl
theorem ylq:Tryz.f10.isInstance Tryz.prog Rows.electionCentreRow.origin Rows.electionCentreRow.targs:=of_decide_eq_true (by kernel_rfl)
theorem ylb:Tryz.f10.isWrapper Tryz.prog Rows.electionCentreRow.wrapper Rows.electionCentreRow.mainSum:=by
 unfold Func.isWrapper
 first|(rw[if_pos (by decide +kernel)];kernel_rfl)|(rw[if_neg (by decide +kernel)];exact⟨rfl,rfl⟩)
theorem ylr:Rows.ElectionCentreSaid :=
 OpenClaim.holds_of_wide 10 Tryz.f10 rfl rfl rfl rfl rfl rfl rfl ⟨rfl,rfl,rfl,rfl,rfl⟩ rfl rfl rfl rfl rfl yig Tryz.func10 yjm ylq ylb
  (fun os started H enc _=>yjq os started H enc)
end
end Go.Proofs.YtiejahgklcjhkaaGreatDoor
