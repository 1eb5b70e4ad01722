/- Lemmas, joined: RowU Kws ColouringShrinksL ColouringShrinksV. -/
import Derived.Test.YtiejahgklcjhkaaGreatDoorPkE18
import Derived.Test.YtiejahgklcjhkaaGreatDoorPkE17
import Derived.Test.YtiejahgklcjhkaaGreatDoorTie
import Derived.Test.YtiejahgklcjhkaaGreatDoorCards
import Derived.LaidMore
import Derived.Stop.Joined
import Derived.SevenTiedAt
import Derived.Lib.LaidTab
import Derived.MakeChecks
set_option linter.unusedSimpArgs false
set_option linter.unusedVariables false
namespace Go.Proofs.YtiejahgklcjhkaaGreatDoor
open Go
namespace Sh
open Ev Go.RowKit
section
variable {H:Type} {enc:TypeId × Value->H} {w:World} {base:Nat} {held:Bool} {n:Nat} {v:Value} {x:DataW H × List MemPlace}
theorem ybon(h:DataW.trod enc Tryz.prog w base (fun _=>true) held n 40 [v]=some x):∃ k:Nat,k<2 ^ 32/\ypg w (.i .u32 k) v:=by
 obtain⟨k,e,_,hw⟩:=DataW.trod_int Tryz.underlying40 h;simp at e;subst e;have hb:=bounds_u32 hw;obtain⟨m,rfl⟩:∃ m:Nat,k=m:=⟨k.toNat,by omega⟩
 exact⟨m,by omega,ypz w .u32 m⟩
end
end Sh
end Go.Proofs.YtiejahgklcjhkaaGreatDoor

namespace Go.Proofs.YtiejahgklcjhkaaGreatDoor
open Go
namespace Sh
open Ev Go.RowKit
set_option maxRecDepth 8000
set_option maxHeartbeats 4000000 in
theorem ysn{x:NetR}(hx:x.ok){raw:List Int}(hr:∀ k,inK .i64 (raw.getD k 0)){w:Nat}(hw:w<2 ^ 32):Returns Tryz.prog 12 [.ag (netC x),yg raw,.i .u32 w] (.b true):=by
 refine Returns.of (ycyg _ _ ?_);have hC:=ybdy hx (most:=9) (by omega)
 simp only[netC]at hC;simp only[c12,ycxo,yddb,netC,clash,go_sem,Nat.reduceEqDiff,Nat.reduceAdd,Nat.reduceLT,↓reduceIte];refine hC.found (V:=grV) (fun r g h=>h.2.2) fun r g h=>?_;obtain⟨hg,hn8,-⟩:=h;have hI:=ybjw hg;have hCh:Checked (Lies KqB Kqv) (Lies KqC Kqr) KqP g:=⟨hg,yrp,yvw hg,yxf⟩;have hTx:=yrw;have hVs:=yml;have hPr:=ygl;have hK:=ykg;have hCf:=ynp hg yrp hCh.hf hr
 have hpl:=hg.2.2.1;have h24:=hg.2.1;simp only[grV]at hCf;simp(maxSteps:=5000000) only [thenO,ydfl,grV,clash,go_sem,Nat.reduceEqDiff,Nat.reduceAdd,Nat.reduceLT,↓reduceIte,reduceCtorEq];refine hVs.use ?_;simp(maxSteps:=5000000) only [go_sem,↓reduceIte];refine hCf.found (V:=yba) (fun r c h=>h.2) fun r c h=>?_;obtain⟨hcv,-⟩:=h;have hcC:=yjs hcv;have hB:=yjm hI (ypq (yec hg yrp hcv))
 have eB:ymd g c=yw KqP g c:=by unfold ymd;rw[if_pos (ybmb hg hcv)];exact ybyq hg
 rw[eB]at hB;have hEl:=ywg KqP g c;have h2n:2 ^ g.ids.length<=2 ^ 24:=Nat.pow_le_pow_right (by omega) (by omega)
 obtain⟨E,hE⟩:∃ E,yw KqP g c=E:=⟨_,rfl⟩;rw[hE]at hB hEl;simp only[grV]at hB;simp(maxSteps:=5000000) only [thenO,yddt,clash,go_sem,Nat.reduceEqDiff,Nat.reduceAdd,↓reduceIte,reduceCtorEq];refine⟨by decide,hB.use ?_⟩
 by_cases h0:E=0
 ·have z0:((E:Int) == 0)=true:=by rw[h0];rfl
  simp(maxSteps:=5000000) only [thenO,ycub,ydce,z0,clash,go_sem,Nat.reduceAdd,↓reduceIte,reduceCtorEq];refine hK.use ?_;simp(maxSteps:=5000000) only [go_sem];exact Sim.refl _
 ·have z0:((E:Int) == 0)=false:=by rw[beq_eq_false_iff_ne];omega
  have hRs:=yzk hg hEl h0 hw;obtain⟨s0,ssub,sind⟩:=ykn hg E w h0;obtain⟨s,hs⟩:∃ s,resG g E w=s:=⟨_,rfl⟩;rw[hs]at hRs s0 ssub sind;have s24:s<2 ^ 24:=yvk ssub (by omega)
  have hSt:=ybss hCh hcv s0 (by omega) (by rw[hE];exact ssub)
  have hmv:∀ v,v<g.ids.length->s.testBit v=true->yhk g c v->(ydb KqP g c s).getD v [] = [yss g c v]:=fun v hv hb hcf=>ybuf hg hcC hv hb hcf;have hss:subB s (yw KqP g c):=by rw[hE];exact ssub
  have hst:∀ v,v<g.ids.length->(s.testBit v=true -> ¬ yhk g (ydb KqP g c s) v)/\(¬ yhk g c v -> ¬ yhk g (ydb KqP g c s) v):=fun v hv=>yqu hg hcC hss sind hv;have hnw:=fun v (hv:v<g.ports.length)=>ybgl (c:=c) hg (v:=v) hv;have hcf:∀ v,v<g.ids.length->s.testBit v=true->yhk g c v:=fun v hv hb=>(ywz hg hv).1 (hss v hb);have hdv:ydn KqP g (ydb KqP g c s)=true:=ymm hg yrp hCh.hf hcv s
  have hdl:(ydb KqP g c s).length=c.length:=yfv _ _ _ _;have hrow:∀ v,v<g.ids.length->s.testBit v=true->(ydb KqP g c s).getD v [] = [yss g c v]:=fun v hv hb=>hmv v hv hb (hcf v hv hb)
  have hset:∀ i,(yib g (ydb KqP g c s)).testBit i=true->E.testBit i=true/\s.testBit i=false:=fun i hi=>by
   obtain⟨h1,h2⟩:=(yhv hg).1 hi;have hii:i<g.ids.length:=by omega
   obtain⟨q1,q2⟩:=hst i hii;refine⟨?_,?_⟩
   ·rw[<- hE];exact(ywz hg hii).2 (Classical.byContradiction fun hn=>q2 hn h2)
   ·cases q:s.testBit i with
    | false=>rfl
    | true=>exact absurd h2 (q1 q)
  have hB2:=yjm hI (ypq (yec hg yrp hdv));have eB2:ymd g (ydb KqP g c s)=yib g (ydb KqP g c s):=by unfold ymd;rw[if_pos (ybmb hg hdv)]
  rw[eB2]at hB2;obtain⟨D,hD⟩:∃ D,ydb KqP g c s=D:=⟨_,rfl⟩;rw[hD]at hSt hdl hrow hset hB2;have hSlt:=ybxq hg D;obtain⟨S,hS⟩:∃ S,yib g D=S:=⟨_,rfl⟩;rw[hS]at hset hB2 hSlt;have a1:=u32_andNot (a:=S) (b:=E) (by omega) (by omega)
  have e1:difB S E=0:=yvy fun i hi=>(hset i hi).1;have a2:=u32_and (a:=S) (b:=s) (by omega) (by omega)
  have e2:S &&& s=0:=by
   rw[ybg];intro i;rw[Nat.testBit_and];cases q:S.testBit i with
   | false=>rfl
   | true=>rw[(hset i q).2];rfl
  rw[e1]at a1;rw[e2]at a2;simp only[IntKind.bits,Int.natCast_zero]at a1 a2;have z1:((s:Int) == 0)=false:=by rw[beq_eq_false_iff_ne];omega
  obtain⟨nn,hnn⟩:∃ n,c.length=n:=⟨_,rfl⟩;rw[hnn]at hdl;have hnl:nn=g.ids.length:=by rw[<- hnn];exact hcC.len
  have f1:((nn:Int) != (nn:Int))=false:=by simp
  simp only[grV]at hRs hSt hB2;simp(maxSteps:=5000000) only [thenO,ycub,ydbb,z0,clash,go_sem,Nat.reduceEqDiff,Nat.reduceAdd,↓reduceIte,reduceCtorEq];refine hRs.use ?_;simp(maxSteps:=5000000) only [thenO,yczj,clash,go_sem,Nat.reduceEqDiff,Nat.reduceAdd,↓reduceIte,reduceCtorEq];refine hTx.use ?_;simp(maxSteps:=5000000) only [go_sem,↓reduceIte];refine hPr.use ?_;simp(maxSteps:=5000000) only [ycc,go_sem,↓reduceIte]
  simp only[ycc]at hSt;refine⟨by decide,hSt.use ?_⟩
  simp(maxSteps:=5000000) only [ydga,ycjo,yba,hnn,hdl,f1,z1,Int.reduceBNe,clash,go_sem,Nat.reduceEqDiff,Nat.reduceAdd,↓reduceIte,reduceCtorEq];refine⟨by decide,?_⟩
  refine ybd (σ:=Nat) (fun v=>⟨[(13,.i .i64 v),(9,.i .u32 E),(10,.i .u32 s),(11,yba D),(8,yba c),(7,.pt (7,0) 0 0)],[(7,.one (some ⟨27,true,2,1,fun _=>[yg g.ids,yx g.ports]⟩))]⟩) (fun v=>v<=nn) (fun v=>nn - v) 0 (Nat.zero_le _) ?_ ?_
  ·refine weak_all [] [] [] ?_;simp only[yba,hnn,hdl,allQ,live,sim_self,Int.natCast_zero,go_sem,Nat.reduceEqDiff,↓reduceIte,reduceCtorEq]
  intro v hv
  by_cases hlt:v<nn
  ·have t1:decide ((v:Int)<(nn:Int))=true:=decide_eq_true (by omega)
   have hBt:=ycqq (s:=s) (v:=v) (by omega) (by omega)
   cases hb:s.testBit v with
   | false =>
    rw[hb]at hBt;simp(maxSteps:=5000000) only [ybfb,ybla,ybpq,yba,hnn,t1,clash,go_sem,Nat.reduceEqDiff,Nat.reduceAdd,↓reduceIte,reduceCtorEq];refine hBt.use ?_;simp(maxSteps:=5000000) only [thenO,clash,go_sem,Nat.reduceEqDiff,Nat.reduceAdd,↓reduceIte,reduceCtorEq];refine⟨ikw (by omega) (by omega),?_⟩
    refine yc (v+1) (by omega) (by omega) ?_
    refine weak_all [] [] [] ?_;simp only[hdl,allQ,live,sim_self,yh,go_sem,Nat.reduceEqDiff,↓reduceIte,reduceCtorEq];omega
   | true =>
    rw[hb]at hBt;have hrv:=hrow v (by omega) hb
    obtain⟨n1,n2,_⟩:=hnw v (by omega)
    have hdg:=hg.deg_lt (v:=v);obtain⟨y,hy⟩:∃ y,yss g c v=y:=⟨_,rfl⟩;obtain⟨d,hd⟩:∃ d,(g.ports.getD v []).length=d:=⟨_,rfl⟩;rw[hy]at hrv n1 n2;rw[hd]at n2 hdg;have hl1:(D.getD v []).length=1:=by rw[hrv];rfl
    have hl2:(D.getD v []).getD 0 0=y:=by rw[hrv];rfl
    have n1:(((1:Nat):Int) != 1)=false:=rfl;have f2:decide (y<0)=false:=decide_eq_false (by omega)
    have f3:decide (y > (d:Int))=false:=decide_eq_false (by omega)
    simp(maxSteps:=5000000) only [ybfb,ybla,ybpq,yba,yg,yx,yu,hnn,hdl,t1,clash,go_sem,Nat.reduceEqDiff,Nat.reduceAdd,↓reduceIte,reduceCtorEq];refine hBt.use ?_;simp(maxSteps:=5000000) only [thenO,hd,hl1,hl2,n1,f2,f3,clash,go_sem,Int.reduceToNat,Nat.reduceEqDiff,Nat.reduceAdd,↓reduceIte,reduceCtorEq]
    repeat (first | refine⟨(by omega:(_:Prop)),?_⟩ | refine⟨(by decide:(_:Prop)),?_⟩)
    refine⟨ikw (by omega) (by omega),?_⟩
    refine yc (v+1) (by omega) (by omega) ?_
    refine weak_all [] [] [] ?_;simp only[allQ,live,sim_self,yh,go_sem,Nat.reduceEqDiff,↓reduceIte,reduceCtorEq];omega
  ·obtain rfl:v=nn:=by omega
   have t1:decide ((v:Int)<(v:Int))=false:=decide_eq_false (by omega)
   simp(maxSteps:=5000000) only [ybfb,ycod,yba,hnn,t1,clash,go_sem,Nat.reduceEqDiff,Nat.reduceAdd,↓reduceIte,reduceCtorEq];refine hK.use ?_;simp(maxSteps:=5000000) only [thenO,clash,go_sem,Nat.reduceEqDiff,Nat.reduceAdd,↓reduceIte,reduceCtorEq];refine hB2.use ?_;simp(maxSteps:=5000000) only [thenO,a1,clash,go_sem,Nat.reduceEqDiff,Nat.reduceAdd,↓reduceIte,reduceCtorEq];refine hB2.use ?_;simp(maxSteps:=5000000) only [a2,clash,go_sem,Nat.reduceEqDiff,Nat.reduceAdd,↓reduceIte,reduceCtorEq]
   exact Sim.refl _
end Sh
end Go.Proofs.YtiejahgklcjhkaaGreatDoor

namespace Go.Proofs.YtiejahgklcjhkaaGreatDoor
open Go.ChangeShapes Go.WideShapes Go.ChangeAt Go.RowKit Go.Joins Go.WideMaps Go.WideElems
set_option linter.unusedVariables false

set_option maxRecDepth 100000 in
theorem yhx(W:World)(h:laidMetH Tryz.prog Rows.colouringShrinksRow.laid W):Ev.GlW W:=fun x hx=>by
 rw[MakeChecks.laidMetH_plain _ _ _ (by kernel_rfl)]at h
 have hg : Tryz.prog.globalNamed "math/bits.deBruijn32tab" = some 0 := by kernel_rfl
 have ht:=Lib.tabIs_of_head (rest:=[]) (k:=.u8) (zs:=([0,1,28,2,29,14,24,3,30,22,20,15,25,17,4,8,31,27,13,23,21,19,16,7,26,12,18,6,11,5,10,9]:List Int)) (t:=226) (e:=5) (n:=32) hg (by kernel_rfl) (by kernel_rfl) (by kernel_rfl) (by kernel_rfl) (by kernel_rfl) h
 unfold Lib.TabIs World.var? at ht;rw[hg]at ht;simp only[Option.bind_some]at ht;split at ht
 ·rename_i cs e fz hc
  obtain rfl:=Option.some.inj ht;obtain rfl:=Option.some.inj hx;exact⟨_,_,hc⟩
 ·cases ht

set_option maxRecDepth 100000 in
theorem yig(os:Os)(args:Array Value):laidMetH Tryz.prog Rows.colouringShrinksRow.laid ((World.doorLaid Tryz.prog 14 os).forCall (fun _ _=>0) ⟨#[],args,[]⟩).memory :=
 laidMetH_of_parts3 (fuel:=8) (laidMet_of_run' 8 (by kernel_rfl) (by kernel_rfl)) (by kernel_rfl) (by kernel_rfl)

set_option maxRecDepth 100000 in
theorem yhe(os:Os)(started:os.Started)(H:Type)(enc:TypeId × Value->H) :
  ReturnsInHanded {} Tryz.checked os 12 .any (fun w args=>(Rows.colouringShrinksSpec.pre enc Tryz.prog Tryz.f12 [] false w args/\laidMetH Tryz.prog Rows.colouringShrinksRow.laid w)/\sizedMet enc Tryz.prog Tryz.f12 (OpenSpec.ofChange Rows.colouringShrinksSpec) false w args)
   (Rows.colouringShrinksSpec.post enc Tryz.prog Tryz.f12 false true false false):=by
 refine returnsInHanded_of_change_and (C:=Tryz.checked) (X:=fun w _=>laidMetH Tryz.prog Rows.colouringShrinksRow.laid w) (fun _ _ _ hh h=>h.of_heap hh) own started (by kernel_rfl) Tryz.func12
  (ChangeSpec.witness_shaped (enc:=enc) (C:=Tryz.checked) (os:=os) (X:=fun w _=>laidMetH Tryz.prog Rows.colouringShrinksRow.laid w) false (World.doorLaid Tryz.prog 14 os) #[.agg #[.int .i64 0,.slice .none 0 0,.slice .none 0 0,.slice .none 0 0,.bool false,.bool false],.slice .none 0 0,.int .u32 0] 8 rfl (World.shaped_of_RefB (by kernel_rfl) (by kernel_rfl)) (by kernel_rfl) (by kernel_rfl) (by kernel_rfl) (yig os _)) ?_
 intro W base args ds gs before hval0 hW _ _ hL _;have hval:∀ (j:Nat) t v,Tryz.f12.params[j]? = some t->args[j]? = some v->Value.okWide Tryz.prog W .any base t v:=hval0;have hW':=hW;obtain⟨p,q,hA0,hV,rfl,hfz,hnd⟩:=hW;have hA:DataW.TrodAll enc Tryz.prog W 0 (fun _=>true) true Tryz.f12.params.toList args.toList ds p:=hA0;rw[Tryz.params12]at hA hval;obtain⟨v0,vs0,d0,ds0,p0,q0,hargs,rfl,rfl,h0,r0⟩:=trodAll_cons hA
 obtain⟨v1,vs1,d1,ds1,p1,q1,rfl,rfl,rfl,h1,r1⟩:=trodAll_cons r0;obtain⟨v2,vs2,d2,ds2,p2,q2,rfl,rfl,rfl,h2,r2⟩:=trodAll_cons r1;obtain⟨rfl,rfl,rfl⟩:=trodAll_nil r2;obtain rfl:args = #[v0,v1,v2]:=by cases args;simp_all
 obtain⟨rfl,rfl⟩:=trodVars_none hV;have k0:=h0;have k1:=h1;have k2:=h2;have lt0:∀ x ∈ p0,x.block<W.heap.size:=by obtain⟨m,hm⟩:=k0;exact DataW.trod_lt m _ _ _ hm
 have lt1:∀ x ∈ p1,x.block<W.heap.size:=by obtain⟨m,hm⟩:=k1;exact DataW.trod_lt m _ _ _ hm
 have lt2:∀ x ∈ p2,x.block<W.heap.size:=by obtain⟨m,hm⟩:=k2;exact DataW.trod_lt m _ _ _ hm
 obtain⟨x0,u0,hx0,rr0,a0⟩:=Sh.yrq (hval 0 24 v0 rfl rfl) h0;obtain⟨m1,hm1⟩:=h1;obtain⟨A1,len1,cap1,rfl⟩:=okWide_slice Tryz.underlying22 (hval 1 22 v1 rfl rfl);obtain⟨x1,hx1,u1,a1,rr1⟩:=Sh.ygn (v:=.slice A1 len1 cap1) hm1;obtain⟨m2,hm2⟩:=h2;obtain⟨n2,rfl⟩:=okWide_int Tryz.underlying40 (hval 2 40 v2 rfl rfl);obtain⟨x2,hx2,u2,a2,rr2⟩:=Sh.ybon (v:=.int .u32 n2) hm2
 clear hA0 hval0
 have ha:Sh.RVL (Sh.memW W).b.get Sh.om0 [.ag (Sh.netC x0),Sh.yg x1,.i .u32 x2] [u0,u1,u2]:=.cons rr0 (.cons rr1 (.cons rr2 .nil));have hv:Ev.VRL (Sh.phiW W) [u0,u1,u2] [v0,.slice A1 len1 cap1,.int .u32 n2]:=.cons a0 (.cons (Sh.yeb a1) (.cons (Sh.yeb a2) .nil));refine(Sh.ymh (Sh.ysn hx0 (Sh.yta hx1) hx2) ⟨_,_,Tryz.func12,rfl⟩ Ev.ykz (yhx W hL) ha hv).mono fun e W' ⟨he,bel⟩=>?_
 subst he;exact⟨_,rfl,_,_,_,[],_,[],hW',trodAll_mk1 (shut_bool Tryz.underlying4 _),(trodAll_cons_mk (Below.trod laidOut (by kernel_rfl) (of_decide_eq_true (by kernel_rfl)) k0 bel lt0) (trodAll_cons_mk (Below.trod laidOut (by kernel_rfl) (of_decide_eq_true (by kernel_rfl)) k1 bel lt1) (trodAll_cons_mk (Below.trod laidOut (by kernel_rfl) (of_decide_eq_true (by kernel_rfl)) k2 bel lt2) trodAll_mk0))),rfl,bel.frame _,fun h=>by cases h⟩

end Go.Proofs.YtiejahgklcjhkaaGreatDoor

namespace Go.Proofs.YtiejahgklcjhkaaGreatDoor
open Go.ChangeShapes Go.WideShapes Go.ChangeAt Go.RowKit Go.Joins Go.WideMaps Go.WideElems
set_option linter.unusedVariables false

theorem yke:(Rows.colouringShrinksRow.inPlace == Tryz.prog.inPlace 12)=true:=by kernel_rfl
theorem yjp:(Rows.colouringShrinksRow.unfollowed == Tryz.prog.unfollowed 12)=true:=by kernel_rfl
theorem yjr:(Rows.colouringShrinksRow.recurses == Tryz.prog.recurses 12)=true:=by kernel_rfl
theorem ykd:(Rows.colouringShrinksRow.named == Tryz.prog.varsNamed 12)=true:=by kernel_rfl
theorem yjn:laidOutB Tryz.prog=true:=by kernel_rfl
theorem ykk:mapsRowed Tryz.prog=true:=by kernel_rfl
theorem colouringShrinks_j7:Tryz.prog.funcNamed Rows.colouringShrinksRow.func=some 12:=by kernel_rfl
theorem yjz:Rows.colouringShrinksRow.wf (OpenSpec.ofChange Rows.colouringShrinksSpec)=true:=by kernel_rfl
theorem yhm:joinedFacts Tryz.prog 12 Tryz.f12 Rows.colouringShrinksSpec Rows.colouringShrinksRow=true:=by
 unfold joinedFacts
 repeat' (with_reducible refine Bool.and_eq_true_iff.2 ⟨?_,?_⟩)
 all_goals first | (with_reducible exact yke) | (with_reducible exact yjp) | (with_reducible exact yjr) | (with_reducible exact ykd) | (with_reducible exact yjn) | (with_reducible exact ykk) | (with_reducible exact yjz) | (with_reducible exact ywn) | (rw[ywh];rfl) | (rw[ybdf];rfl) | kernel_rfl
theorem yid:Tryz.f12.isInstance Tryz.prog Rows.colouringShrinksRow.origin Rows.colouringShrinksRow.targs:=of_decide_eq_true (by kernel_rfl)
theorem yij:Tryz.f12.isWrapper Tryz.prog Rows.colouringShrinksRow.wrapper Rows.colouringShrinksRow.mainSum:=by
 unfold Func.isWrapper
 first | (rw[if_pos (by decide +kernel)];kernel_rfl) | (rw[if_neg (by decide +kernel)];exact⟨rfl,rfl⟩)
theorem colouringShrinks_over:Rows.ColouringShrinksSaid :=
 OpenClaim.holds_of_wide 12 Tryz.f12 rfl rfl rfl rfl rfl rfl rfl ⟨rfl,rfl,rfl,rfl,rfl⟩ rfl rfl rfl rfl rfl colouringShrinks_j7 Tryz.func12 yhm yid yij
  (fun os started H enc _=>yhe os started H enc)

end Go.Proofs.YtiejahgklcjhkaaGreatDoor

