/- Joined. -/
import Derived.Test.YtiejahgklcjhkaaGreatDoorPkT18
import Derived.Test.YtiejahgklcjhkaaGreatDoorTie
import Derived.Test.YtiejahgklcjhkaaGreatDoorCards
import Derived.LaidMore
set_option linter.unusedSimpArgs false
set_option linter.unusedVariables false
set_option maxRecDepth 8000
open Nat renaming reduceEqDiff→zA,reduceAdd→zB,reduceLT→zD,reduceLeDiff→zG
open Go.Proofs.Tryz renaming prog→zC,checked→zF,f20→zH,func20→zI
open Go
namespace Go.Proofs.YtiejahgklcjhkaaGreatDoor
section
namespace Sh
open Ev Go.RowKit
set_option maxHeartbeats 8000000 in
theorem ybve{x:NetR}(hx:x.ok){raw:List Int}(hr:∀k,inK .i64 (raw.getD k 0)){turn:Int}(ht:inK .i64 turn):Returns zC 20 [.ag (netC x),yx raw,.i .i64 turn] (.b true):=by
 refine Returns.of (ydmf _ _ ?_);have hC:=ywh hx (most:=7) (by omega)
 simp only[netC]at hC;simp only[c20,ydny,ydmr,netC,clash,go_sem,zA,zB,zD,↓reduceIte];refine hC.found (V:=grV) (fun r g h=>h.2.2.2) fun r g h=>?_;obtain⟨hg,hcn,hn8,-⟩:=h;have h0:=hg.1;have h24:=hg.2.1;obtain⟨nn,hnn⟩:∃m,g.ports.length=m:=⟨_,rfl⟩;have hin:=ycx (v:=turn) (m:=(nn:Int)) (by omega)
 obtain⟨t,htt⟩:∃t:Nat,yca turn nn=t:=Int.eq_ofNat_of_zero_le hin.1;have hW:=yda turn nn (by omega) ht
 rw[htt]at hW hin;have htn:t<nn:=by omega
 have hg2:=yqd hg (t:=t) (by omega)
 have hcn2:=ycey hg (t:=t) (by omega) hcn
 have hls:=ybwh hg (t:=t) (by omega)
 have hRl:=ybde hg (t:=t) (by omega)
 obtain⟨H,hH⟩:∃H,rotG g t=H:=⟨_,rfl⟩;have hHn:H.ports.length=nn:=by rw[<-hH,ydr,hnn]
 rw[hH]at hg2 hcn2 hRl hls;have hI:=ybmm hg;have hI2:=ybmm hg2;have hCh:Checked (Lies LqB Lqv) (Lies LqC Lqr) LqP g:=⟨hg,ybkt,ybfr hg,ybjl⟩;have hCh2:Checked (Lies LqB Lqv) (Lies LqC Lqr) LqP H:=⟨hg2,ybkt,ybfr hg2,ybjl⟩;have hTx:=ybzn;have hVs:=ybky;have hCf:=yvk hg ybkt hCh.hf hr;have hCf2:=yvk hg2 ybkt hCh2.hf hr;have hrm:=fun v (hv:v<nn)=>ycyt (n:=nn) (t:=t) (v:=v) htn hv;rw[hnn]at hRl h24;simp only[grV]at hCf hCf2 hRl
 simp only[ybi,ydnc,grV,ybe,hnn,clash,go_sem,zA,zB,zD,↓reduceIte,reduceCtorEq];simp only[ybi,ydnr,clash,go_sem,zA,zB,↓reduceIte,reduceCtorEq];refine hW.use ?_;simp only[ydfz,ydfy,clash,go_sem,zA,zB,zD,↓reduceIte,reduceCtorEq];refine⟨⟨by omega,by omega,by omega⟩,?_⟩
 have hPl:=yxt nn t;have hPa:=fun v (hv:v<nn)=>ybfc (n:=nn) (t:=t) hv;obtain⟨P,hP⟩:∃P,rotV nn t=P:=⟨_,rfl⟩;rw[hP]at hRl hPl hPa
 refine ybj (σ:=Nat) (fun v=>if v<nn then⟨[(10,.i .i64 v),(9,.os (30,0) 0 nn true),(2,.i .i64 t),(8,.i .i64 nn),(1,yx raw),(7,.pt (7,0) 0 0)],[(30,.one (some ⟨3,false,1,nn,fun j=>[.i .i64 (if j<v then(rotN nn t j:Int)else 0)]⟩)),(7,.one (some ⟨27,true,2,1,fun _=>[yx g.ids,ybe g.ports]⟩))]⟩
  else⟨[(10,.i .i64 v),(9,yx P),(2,.i .i64 t),(8,.i .i64 nn),(1,yx raw),(7,.pt (7,0) 0 0)],[(7,.one (some ⟨27,true,2,1,fun _=>[yx g.ids,ybe g.ports]⟩))]⟩) (fun v=>v<=nn) (fun v=>nn-v) 0 (Nat.zero_le _) ?_ ?_
 ·rw[if_pos (show 0<nn by omega)]
  refine yj [] [] [] ?_;simp only[ybe,hnn,Nat.not_lt_zero,allQ,live,yg,Int.natCast_zero,go_sem,zA,↓reduceIte,reduceCtorEq]
 intro v hv
 by_cases hlt:v<nn
 ·rw[if_pos hlt];have t1:decide ((v:Int)<(nn:Int))=true:=decide_eq_true (by omega)
  have z1:(((nn:Nat):Int)==0)=false:=by rw[beq_eq_false_iff_ne];omega
  have e:((v:Int)+(t:Int)).tmod (nn:Int)=((rotN nn t v:Nat):Int):=by
   rw[Int.tmod_eq_emod_of_nonneg (by omega),<-hrm v hlt]
   push_cast
   rfl
  have upd:∀j,(if j=v then((rotN nn t v:Nat):Int)else if j<v then((rotN nn t j:Nat):Int)else 0)=if j<v+1 then((rotN nn t j:Nat):Int)else 0:=fun j=>by
   by_cases q:j=v
   ·rw[if_pos q,if_pos (by omega),q]
   ·rw[if_neg q]
    by_cases q1:j<v
    ·rw[if_pos q1,if_pos (by omega)]
    ·rw[if_neg q1,if_neg (by omega)]
  simp only[ydci,ydlw,ydkk,t1,e,splice,clash,go_sem,zA,zB,↓reduceIte,reduceCtorEq];refine⟨ikw (by omega) (by omega),by omega,⟨by omega,by omega⟩,by omega,ikw (by omega) (by omega),?_⟩
  refine yw (v+1) (by omega) (by omega) ?_
  by_cases hl2:v+1<nn
  ·rw[if_pos hl2];refine yj [] [] [] ?_;simp only[go_sem,allQ,live,yg,ybb,go_sem,zA,↓reduceIte,reduceCtorEq];refine⟨by omega,fun j hj=>?_⟩
   rw[<-upd j]
   by_cases q:j=v
   ·subst q;simp only[if_pos];simp only[go_sem,live,yg,go_sem,reduceCtorEq]
   ·simp only[if_neg q];simp only[go_sem,live,yg,go_sem,reduceCtorEq]
  ·rw[if_neg hl2];refine yj [] [] [(30,0)] ?_;simp only[yx,hPl,allQ,live,yg,ybb,go_sem,zA,zG,↓reduceIte,reduceCtorEq];refine⟨fun k _=>by split<;>rfl,by omega,yjk fun k hk'=>?_⟩
   rw[hPa k hk']
   by_cases q:k=v
   ·rw[if_pos q,q]
   ·rw[if_neg q,if_pos (show k<v by omega)]
 ·rw[if_neg hlt];obtain rfl:v=nn:=by omega
  have t1:decide ((v:Int)<(v:Int))=false:=decide_eq_false (by omega)
  have hWs:=ybkn [] (fun k=>by simp) (2*v) (by omega)
  rw[show((2*v:Nat):Int)=2*(v:Int)by omega]at hWs
  simp(maxSteps:=5000000) only [ydci,ydhq,t1,clash,go_sem,zA,zB,↓reduceIte,reduceCtorEq];refine hRl.use ?_;simp(maxSteps:=5000000) only [ybi,ycqr,clash,go_sem,zA,zB,zD,↓reduceIte,reduceCtorEq];refine hTx.use ?_;simp(maxSteps:=5000000) only [go_sem];refine hVs.use ?_;simp(maxSteps:=5000000) only [go_sem,↓reduceIte];refine⟨by decide,(Ct.simL hCf (show SimL [.ag [yx g.ids,ybe g.ports],ydd LqP.vars,yx raw] _ from⟨Sim.refl _,Sim.refl _,Sim.refl _,trivial⟩)).found (V:=ybl) (fun r c h=>h.2) fun r c h=>?_⟩
  obtain⟨hcv,-⟩:=h;simp(maxSteps:=5000000) only [go_sem];refine⟨by decide,ikw (by omega) (by omega),(Ct.simL hWs (show SimL [.a (.slice none 0 0),.i .i64 (2*(v:Int))] _ from⟨ybwf,Sim.refl _,trivial⟩)).found (V:=usV) (fun r ws h=>h.2.2) fun r ws h=>?_⟩
  obtain⟨hwl,hw,-⟩:=h;have hRun:=ybzr yva hCh (kind:=4) (by omega) (ybpc _) hcv hw (by omega)
  obtain⟨m,Cs,Ks,hD⟩:=runD (yby LqP g) resS ws c;have hpos:=hD.pos;have hle:=hD.le;have hwl':=hwl;obtain⟨C,hCe⟩:∃C,Cs.getD (m-1) []=C:=⟨_,rfl⟩;have hCv:yga LqP g C=true:=by rw[<-hCe];exact(yru hg hcn ybgb hcv _ (hD.at_ (show m-1<m by omega)).1).valid
  have hR:yoz g C:=by rw[<-hCe];exact ypp hg hcn hcv hD (by omega)
  have hLt:=ysd hI (ybih (ykd hg ybkt hCv)) (by have:=(yfj hg hCv).len;have:=hg.2.2.1;omega)
  rw[if_pos ((yqh hg hcn hCv).2 hR)]at hLt;rw[hD.cs,hD.ks]at hRun;simp only[grV,yed,yht,hD.lC,hD.lK]at hRun;simp only[grV]at hLt;simp(maxSteps:=5000000) only [go_sem,↓reduceIte];refine⟨by decide,hRun.use ?_⟩
  simp(maxSteps:=5000000) only [ybi,ychy,clash,go_sem,zA,zB,↓reduceIte,reduceCtorEq];refine⟨by decide,hTx.use ?_⟩
  simp(maxSteps:=5000000) only [go_sem];refine hVs.use ?_;simp(maxSteps:=5000000) only [go_sem,↓reduceIte];refine⟨by decide,(Ct.simL hCf2 (show SimL [.ag [yx H.ids,ybe H.ports],ydd LqP.vars,yx raw] _ from⟨Sim.refl _,Sim.refl _,Sim.refl _,trivial⟩)).found (V:=ybl) (fun r c h=>h.2) fun r c2 h=>?_⟩
  obtain⟨hcv2,-⟩:=h;simp(maxSteps:=5000000) only [go_sem];refine⟨by decide,ikw (by omega) (by omega),(Ct.simL hWs (show SimL [.a (.slice none 0 0),.i .i64 (2*(v:Int))] _ from⟨ybwf,Sim.refl _,trivial⟩)).found (V:=usV) (fun r ws h=>h.2.2) fun r ws2 h=>?_⟩
  obtain⟨hwl2,hw2,-⟩:=h;have hRun2:=ybzr yva hCh2 (kind:=4) (by omega) (ybpc _) hcv2 hw2 (by omega)
  obtain⟨m2,Ds,Ls,hD2⟩:=runD (yby LqP H) resS ws2 c2;have hpos2:=hD2.pos;have hle2:=hD2.le;obtain⟨D,hDe⟩:∃D,Ds.getD (m2-1) []=D:=⟨_,rfl⟩;have hDv:yga LqP H D=true:=by rw[<-hDe];exact(yru hg2 hcn2 ybgb hcv2 _ (hD2.at_ (show m2-1<m2 by omega)).1).valid
  have hR2:yoz H D:=by rw[<-hDe];exact ypp hg2 hcn2 hcv2 hD2 (by omega)
  have hLt2:=ysd hI2 (ybih (ykd hg2 ybkt hDv)) (by have:=(yfj hg2 hDv).len;have:=hg2.2.2.1;omega)
  rw[if_pos ((yqh hg2 hcn2 hDv).2 hR2)]at hLt2;rw[hD2.cs,hD2.ks]at hRun2;simp only[grV,yed,yht,hD2.lC,hD2.lK]at hRun2;simp only[grV]at hLt2;have hul:=yhc hg;have hil:=hg.2.2.1;have hil2:=hg2.2.2.1;have hids:=ybij (g:=g) (t:=t) (v:=ybp g.ids) (by omega) (by omega)
  rw[hH,hnn,<-hnn]at hids;rw[hls]at hLt2;rw[hnn]at hLt2 hids;obtain⟨u,hu⟩:∃u,ybp g.ids=u:=⟨_,rfl⟩;rw[hu]at hLt hLt2 hul hids;obtain⟨w,hwv⟩:∃w,rotN v t u=w:=⟨_,rfl⟩;have hwn:=yft (n:=v) (t:=t) (v:=u) (by omega) (by omega)
  have hPu:=hPa u (by omega)
  rw[hwv]at hLt2 hids hwn hPu;have e1:((m:Int)-1).toNat=m-1:=by omega
  have e2:((m2:Int)-1).toNat=m2-1:=by omega
  simp(maxSteps:=5000000) only [go_sem,↓reduceIte];refine⟨by decide,hRun2.use ?_⟩
  simp(maxSteps:=5000000) only [ybi,ycin,ychr,e1,e2,hCe,hDe,Int.reduceBNe,clash,go_sem,zA,zB,↓reduceIte,reduceCtorEq];refine⟨by decide,ikw (by omega) (by omega),⟨by omega,by omega⟩,hLt.use ?_⟩
  simp(maxSteps:=5000000) only [go_sem];refine⟨ikw (by omega) (by omega),⟨by omega,by omega⟩,hLt2.use ?_⟩
  have hK:=ybdk;have f1:decide ((u:Int)>=0)=true:=decide_eq_true (by omega)
  have f2:decide ((u:Int)<(v:Int))=true:=decide_eq_true (by omega)
  have f3:((w:Int)==(w:Int))=true:=by simp
  have f4:(g.ids.getD u 0==g.ids.getD u 0)=true:=by simp
  simp(maxSteps:=5000000) only [ybi,ycvz,clash,go_sem,zB,↓reduceIte,reduceCtorEq];refine hK.use ?_;simp(maxSteps:=5000000) only [f1,f2,f3,f4,hPu,hids,yx,hPl,clash,go_sem,zA,zB,zG,↓reduceIte,reduceCtorEq];exact⟨⟨by omega,by omega⟩,⟨by omega,by omega⟩,⟨by omega,by omega⟩,Sim.refl _⟩
end Sh
end
section
open Go.ChangeShapes Go.WideShapes Go.ChangeAt Go.RowKit Go.Joins Go.WideMaps Go.WideElems
set_option linter.unusedVariables false
set_option maxRecDepth 100000 in
theorem ylp(W:World)(h:laidMetH zC Rows.leaderAnywhereRow.laid W):Ev.GlW W:=fun x hx=>by
 rw[MakeChecks.laidMetH_plain _ _ _ (by kernel_rfl)]at h
 have hg : Tryz.prog.globalNamed "math/bits.deBruijn32tab" = some 0 := by kernel_rfl
 have ht:=Lib.tabIs_of_head (rest:=[]) (k:=.u8) (zs:=([0,1,28,2,29,14,24,3,30,22,20,15,25,17,4,8,31,27,13,23,21,19,16,7,26,12,18,6,11,5,10,9]:List Int)) (t:=226) (e:=5) (n:=32) hg (by kernel_rfl) (by kernel_rfl) (by kernel_rfl) (by kernel_rfl) (by kernel_rfl) h
 unfold Lib.TabIs World.var? at ht;rw[hg]at ht;simp only[Option.bind_some]at ht;split at ht
 ·rename_i cs e fz hc
  obtain rfl:=Option.some.inj ht;obtain rfl:=Option.some.inj hx;exact⟨_,_,hc⟩
 ·cases ht
set_option maxRecDepth 100000 in
theorem ylj(os:Os)(args:Array Value):laidMetH zC Rows.leaderAnywhereRow.laid ((World.doorLaid zC 14 os).forCall (fun _ _=>0) ⟨#[],args,[]⟩).memory :=
 laidMetH_of_parts3 (fuel:=8) (laidMet_of_run' 8 (by kernel_rfl) (by kernel_rfl)) (by kernel_rfl) (by kernel_rfl)
set_option maxRecDepth 100000 in
theorem yjw(os:Os)(started:os.Started)(H:Type)(enc:TypeId×Value->H) :
 ReturnsInHanded {} zF os 20 .any (fun w args=>(Rows.leaderAnywhereSpec.pre enc zC zH [] false w args/\laidMetH zC Rows.leaderAnywhereRow.laid w)/\sizedMet enc zC zH (OpenSpec.ofChange Rows.leaderAnywhereSpec) false w args)
  (Rows.leaderAnywhereSpec.post enc zC zH false true false false):=by
 refine returnsInHanded_of_change_and (C:=zF) (X:=fun w _=>laidMetH zC Rows.leaderAnywhereRow.laid w) (fun _ _ _ hh h=>h.of_heap hh) own started (by kernel_rfl) zI
  (ChangeSpec.witness_shaped (enc:=enc) (C:=zF) (os:=os) (X:=fun w _=>laidMetH zC Rows.leaderAnywhereRow.laid w) false (World.doorLaid zC 14 os) #[.agg #[.int .i64 0,.slice .none 0 0,.slice .none 0 0,.slice .none 0 0,.bool false,.bool false],.slice .none 0 0,.int .i64 0] 8 rfl (World.shaped_of_RefB (by kernel_rfl) (by kernel_rfl)) (by kernel_rfl) (by kernel_rfl) (by kernel_rfl) (ylj os _)) ?_
 intro W base args ds gs before hval0 hW _ _ hL _;have hval:∀(j:Nat) t v,Tryz.f20.params[j]?=some t->args[j]?=some v->Value.okWide zC W .any base t v:=hval0;have hW':=hW;obtain⟨p,q,hA0,hV,rfl,hfz,hnd⟩:=hW;have hA:DataW.TrodAll enc zC W 0 (fun _=>true) true Tryz.f20.params.toList args.toList ds p:=hA0;rw[Tryz.params20]at hA hval;obtain⟨v0,vs0,d0,ds0,p0,q0,hargs,rfl,rfl,h0,r0⟩:=trodAll_cons hA;obtain⟨v1,vs1,d1,ds1,p1,q1,rfl,rfl,rfl,h1,r1⟩:=trodAll_cons r0
 obtain⟨v2,vs2,d2,ds2,p2,q2,rfl,rfl,rfl,h2,r2⟩:=trodAll_cons r1;obtain⟨rfl,rfl,rfl⟩:=trodAll_nil r2;obtain rfl:args = #[v0,v1,v2]:=by cases args;simp_all
 obtain⟨rfl,rfl⟩:=trodVars_none hV;have k0:=h0;have k1:=h1;have k2:=h2;have lt0:∀x∈p0,x.block<W.heap.size:=by obtain⟨m,hm⟩:=k0;exact DataW.trod_lt m _ _ _ hm
 have lt1:∀x∈p1,x.block<W.heap.size:=by obtain⟨m,hm⟩:=k1;exact DataW.trod_lt m _ _ _ hm
 have lt2:∀x∈p2,x.block<W.heap.size:=by obtain⟨m,hm⟩:=k2;exact DataW.trod_lt m _ _ _ hm
 obtain⟨x0,u0,hx0,rr0,a0⟩:=Sh.ybrh (hval 0 24 v0 rfl rfl) h0;obtain⟨m1,hm1⟩:=h1;obtain⟨A1,len1,cap1,rfl⟩:=okWide_slice Tryz.underlying22 (hval 1 22 v1 rfl rfl);obtain⟨x1,hx1,u1,a1,rr1⟩:=Sh.ymq (v:=.slice A1 len1 cap1) hm1;obtain⟨m2,hm2⟩:=h2;obtain⟨n2,rfl⟩:=okWide_int Tryz.underlying3 (hval 2 3 v2 rfl rfl);obtain⟨x2,hx2,u2,a2,rr2⟩:=Sh.ybaw (v:=.int .i64 n2) hm2
 clear hA0 hval0
 have ha:Sh.RVL (Sh.memW W).b.get Sh.om0 [.ag (Sh.netC x0),Sh.yx x1,.i .i64 x2] [u0,u1,u2]:=.cons rr0 (.cons rr1 (.cons rr2 .nil));have hv:Ev.VRL (Sh.phiW W) [u0,u1,u2] [v0,.slice A1 len1 cap1,.int .i64 n2]:=.cons a0 (.cons (Sh.yir a1) (.cons (Sh.yir a2) .nil));refine(Sh.yblx (Sh.ybve hx0 (Sh.ybis hx1) hx2) ⟨_,_,zI,rfl⟩ Ev.ytg (ylp W hL) ha hv).mono fun e W' ⟨he,bel⟩=>?_;subst he;exact⟨_,rfl,_,_,_,[],_,[],hW',trodAll_mk1 (shut_bool Tryz.underlying4 _),(trodAll_cons_mk (Below.trod laidOut (by kernel_rfl) (of_decide_eq_true (by kernel_rfl)) k0 bel lt0) (trodAll_cons_mk (Below.trod laidOut (by kernel_rfl) (of_decide_eq_true (by kernel_rfl)) k1 bel lt1) (trodAll_cons_mk (Below.trod laidOut (by kernel_rfl) (of_decide_eq_true (by kernel_rfl)) k2 bel lt2) trodAll_mk0))),rfl,bel.frame _,fun h=>by cases h⟩
end
end Go.Proofs.YtiejahgklcjhkaaGreatDoor
