/- Joined. -/
import Derived.Test.YthclbjjgfcgbgaaGreatDoorPkCm19
set_option linter.unusedSimpArgs false
set_option linter.unusedVariables false
set_option maxRecDepth 8000
open Nat renaming reduceEqDiff->zA,reduceAdd->zB,reduceLT->zC,reduceLeDiff->zD,zero_le->zI
open Int renaming natCast_zero->zF,lt_irrefl->zH,reduceBNe->zJ
open And renaming intro->zG
open Go
namespace Go.Proofs.YthclbjjgfcgbgaaGreatDoor
section
namespace Sh
open Ev Go.RowKit
set_option maxHeartbeats 16000000 in
theorem ybfz{x:NetR}(hx:x.ok):Returns Tryz.prog 8 [.ag (netC x)] (.b true):=by
 refine Returns.of (yebd _ _ ?_);have hC:=ydds hx (most:=4) (by omega)
 simp only[netC]at hC;simp only[c8,c8_0,c8_1,netC,clash,go_sem,zA,zB,zC,↓reduceIte];refine hC.found (V:=grV) (fun r g h=>h.2.2) fun r g h=>?_;obtain⟨hg,hn4,-⟩:=h;have hI:=ydcu hg;have hCh:Checked (Lies MqB Mqv) (Lies MqC Mqr) MqP g:=⟨hg,ydtx,ybgp hg,yciw⟩;have hCl:=ybhv hI hg;have hW:WLaw MqP g (indB (g.ports.map netP)) (ybda g) (yek g) _ (2*yel g+g.ports.length) (fun x=>x<=2*yel g+g.ports.length):=ydbf hg hn4
 have hperm:=ybsx hg hW.n4;have hRc:True:=trivial;have hids:g.ids.length<=24:=by have:=hg.2.1;have:=hg.2.2.1;omega
 have hTx:=ycdq;have hPr:=yboy;have hB:=ybtj hCh hW.tab (kind:=2) (.inl rfl) hW.n4 (perm:=(indB (g.ports.map netP))) hperm hW.tot;have hU:=fun k (hk:k<ybl (tabP MqP g))=>ybpq hCh hW.tab (k0:=k) hk;have hLg:=fun k=>ybpm hI (ycld (ybmf hg ydtx (hW.conf k)));have hCo:=ycfx hW.ok hW.free;have hCd:=ybpz hW.ok (lg:=fun k=>yek g (cfP MqP g k)) fun k _ hl=>hW.rest k hl;have hRd:=ybvl hW.ok hW.free hids (fun k _=>ype _ _ _) hW.big hW.rdB
 have hMv:=ycgq hW.ok hW.free hW.mvB;have hRle:=fun k x=>hW.ybyh (k:=k) (x:=x);have hMle:=fun k x=>hW.ycjy (k:=k) (x:=x);have hpos:0<ybl (tabP MqP g):=hW.ok.pos;have hle:ybl (tabP MqP g)<=32768:=hW.ok.le;have hN:(spcP (indB (g.ports.map netP)) MqP g).N=ybl (tabP MqP g):=rfl;have hcf:∀k,(unT (tabP MqP g) k).1=cfP MqP g k:=fun _=>rfl;obtain⟨lg,hlg⟩:∃lg:Nat->Bool,(fun k=>yek g (cfP MqP g k))=lg:=⟨_,rfl⟩
 have hlg':∀k,yek g (cfP MqP g k)=lg k:=fun k=>by rw[<-hlg]
 simp only[hcf]at hU;simp only[hlg']at hLg;rw[hlg]at hCo hCd hRd hMv;rw[hN]at hCo hCd hRd hMv;obtain⟨N,hNe⟩:∃N,ybl (tabP MqP g)=N:=⟨_,rfl⟩;rw[hNe]at hU hCo hCd hRd hMv hpos hle;obtain⟨E,hEe⟩:∃E:Nat->SV,(fun k=>SV.i .u32 ((spcP (indB (g.ports.map netP)) MqP g).en k:Nat))=E:=⟨_,rfl⟩;obtain⟨A,hAe⟩:∃A:Nat->SV,(fun k=>ybk ((spcP (indB (g.ports.map netP)) MqP g).arcs k))=A:=⟨_,rfl⟩;have hSp:spcC (spcP (indB (g.ports.map netP)) MqP g)=[.sl 1 N fun k=>[E k],.sl 1 N fun k=>[A k]]:=by rw[<-hNe,<-hEe,<-hAe];rfl
 rw[hSp]at hB hCo hCd hRd hMv;simp only[grV,yfj,yba]at hB hU hLg hCo hCd hRd hMv hCl;simp only[ybh,c8_2,grV,clash,go_sem,zA,zB,zC,↓reduceIte];refine hTx.use ?_;simp only[go_sem,↓reduceIte];refine hPr.use ?_;simp only[ybh,c8_3,yfj,clash,go_sem,zA,zB,zC,↓reduceIte];refine hCl.use ?_;simp only[ybh,c8_4,ycro,clash,go_sem,zA,zB,zD,zC,↓reduceIte,reduceCtorEq];refine hB.use ?_;simp only[go_sem,zA,zB,↓reduceIte]
 repeat refine zG (by first|omega|decide|exact ikw (by omega) (by omega)) ?_
 have d0:((N:Int)==0)=false:=by rw[beq_eq_false_iff_ne];omega
 simp only[c8_7,c8_8,d0,zJ,clash,go_sem,zA,zB,↓reduceIte,reduceCtorEq]
 let Bx:Own:=[(6,.one (some ⟨41,true,2,1,fun _=>[.sl 1 N fun k=>[E k],.sl 1 N fun k=>[A k]]⟩)),(5,.one (some ⟨36,true,5,1,fun _=>[.i .i64 2,.b false,.b true,.i .i64 ((2*yel g+g.ports.length:Nat):Int),.i .i64 ((2*yel g+g.ports.length:Nat):Int)]⟩)),
  (4,.one (some ⟨32,true,3,1,fun _=>[.a (.string MqP.raw.name),.ex (Lies MqB Mqv) (yfc MqP.raw.vars),.ex (Lies MqC Mqr) (ydh MqP.raw.rules)]⟩)),(3,.one (some ⟨27,true,2,1,fun _=>[ybc g.ids,yu g.ports]⟩))]
 let fx:List (Nat×SV):=[(6,.pt (6,0) 0 0),(5,.pt (5,0) 0 0),(4,.pt (4,0) 0 0),(3,.pt (3,0) 0 0)]
 obtain⟨st,hst1,hst2⟩:∃st:Nat->SS,(∀k,k<N->st k=⟨(9,.i .i64 k)::(8,.os (70,0) 0 k true)::fx,(70,.one (some ⟨4,false,1,k,fun i=>[.b (lg i)]⟩))::Bx⟩)/\st N=⟨(9,.i .i64 N)::(8,.sl 1 N fun i=>[.b (lg i)])::fx,Bx⟩ :=
  ⟨fun k=>if k<N then⟨(9,.i .i64 k)::(8,.os (70,0) 0 k true)::fx,(70,.one (some ⟨4,false,1,k,fun i=>[.b (lg i)]⟩))::Bx⟩else⟨(9,.i .i64 N)::(8,.sl 1 N fun i=>[.b (lg i)])::fx,Bx⟩,fun k hk=>if_pos hk,if_neg (Nat.lt_irrefl _)⟩
 refine ybf (σ:=Nat) st (fun k=>k<=N) (fun k=>N-k) 0 (zI _) ?_ ?_
 .rw[hst1 0 hpos];refine yh [] [70] [] ?_;simp only[fx,Bx,allQ,live,yc,zF,go_sem,zA,zC,Nat.reduceBEq,↓reduceIte,reduceCtorEq];exact⟨(70,0),rfl,rfl,rfl⟩
 .intro k hk
  by_cases hlt:k<N
  .have d1:=dec_lt hlt;have hUk:=hU k hlt;have hLk:=hLg k;rw[hst1 k hlt];simp only[c8_9,ydqw,fx,Bx,d1,clash,go_sem,zA,zB,↓reduceIte,reduceCtorEq];refine hUk.use ?_;simp only[ybh,ydyy,ydsj,splice,clash,zJ,go_sem,zA,zB,zC,↓reduceIte,reduceCtorEq];refine hLk.use ?_;simp only[ydvx,clash,go_sem,zA,zB,zD,↓reduceIte,reduceCtorEq]
   repeat refine zG (by first|omega|decide|exact ikw (by omega) (by omega)) ?_
   refine yj (k+1) hlt (by omega) ?_
   have hsn:∀i,i<k+1->(if i<k then[SV.b (lg i)]else List.take 1 (List.drop ((i-k)*1) [SV.b (lg k)]))=[SV.b (lg i)]:=fun i hi=>by
    by_cases q:i<k
    .rw[if_pos q]
    .obtain rfl:i=k:=by omega
     rw[if_neg q,Nat.sub_self];rfl
   by_cases hlt2:k+1<N
   .rw[hst1 (k+1) hlt2];refine yh [(70,fun i=>(65,i))] [] [] ?_;simp only[fx,Bx,allQ,live,yc,yx,go_sem,zA,zC,↓reduceIte,reduceCtorEq];exact⟨by omega,fun i hi=>yccc (hsn i hi)⟩
   .obtain rfl:k+1=N:=by omega
    rw[hst2];refine yh [] [] [(65,0)] ?_;simp only[fx,Bx,allQ,live,yc,yx,go_sem,zA,zD,zC,↓reduceIte,reduceCtorEq];exact⟨fun i hi=>by rw[hsn i hi];rfl,by omega,ydp fun i hi=>by rw[hsn i hi];exact⟨⟨Sim.refl _,trivial⟩,rfl⟩⟩
  .obtain rfl:k=N:=by omega
   rw[hst2];simp only[c8_9,ydpf,fx,Bx,zH,clash,go_sem,zA,zB,↓reduceIte,reduceCtorEq];refine hCo.use ?_;simp only[ybh,ydrp,clash,go_sem,zA,zB,↓reduceIte,reduceCtorEq];refine hCd.use ?_;simp only[ydot,ydyq,clash,bne_self_eq_false,go_sem,zA,zB,↓reduceIte,reduceCtorEq];refine ybf (σ:=Nat) (fun j=>⟨(16,.i .i64 j)::(12,.sl 1 k fun _=>[.b false])::(8,.sl 1 k fun i=>[.b (lg i)])::fx,Bx⟩) (fun j=>j<=k) (fun j=>k-j) 0 (zI _) ?_ ?_
   .refine yh [] [] [] ?_;simp only[fx,Bx,allQ,live,yc,zF,go_sem,zA,zC,↓reduceIte,reduceCtorEq]
   .intro j hj
    by_cases hltj:j<k
    .have d2:=dec_lt hltj;simp only[ydjt,ydpn,ydtc,fx,Bx,d2,clash,go_sem,zA,zB,↓reduceIte,reduceCtorEq]
     repeat refine zG (by first|omega|decide|exact ikw (by omega) (by omega)) ?_
     refine yj (j+1) hltj (by omega) ?_
     refine yh [] [] [] ?_;simp only[allQ,live,yc,yx,go_sem,zA,zC,↓reduceIte,reduceCtorEq];omega
    .obtain rfl:j=k:=by omega
     simp only[ydjt,ydve,fx,Bx,zH,clash,go_sem,zA,zB,↓reduceIte,reduceCtorEq];refine hRd.found (V:=fun f=>.tp [.sl 1 j fun q=>[.i .i64 (f q:Nat)],.i .i64 0]) (fun r f h=>h.1) fun r f h=>?_;obtain⟨-,hf⟩:=h;simp only[ybh,ydnz,clash,go_sem,zA,zB,↓reduceIte,reduceCtorEq];refine hMv.found (V:=fun f=>.tp [.sl 1 j fun q=>[.i .i64 (f q:Nat)],.i .i64 0]) (fun r f h=>h.1) fun r m h=>?_;obtain⟨-,hm,hm6⟩:=h;simp only[ydvl,ydlq,clash,bne_self_eq_false,go_sem,zA,zB,↓reduceIte,reduceCtorEq]
     refine ybf (σ:=Nat) (fun q=>⟨(21,.i .i64 q)::(19,.sl 1 j fun q=>[.i .i64 (m q:Nat)])::(17,.sl 1 j fun q=>[.i .i64 (f q:Nat)])::fx,Bx⟩) (fun q=>q<=j) (fun q=>j-q) 0 (zI _) ?_ ?_
     .refine yh [] [] [] ?_;simp only[fx,Bx,allQ,live,yc,zF,go_sem,zA,zC,↓reduceIte,reduceCtorEq]
     .intro q hq
      by_cases hltq:q<j
      .have d3:=dec_lt hltq;have r1:=hRle q (f q) (hf q hltq);have m1:=hMle q (m q) (hm q hltq);have r2:decide (((f q:Nat):Int)>((2*yel g+g.ports.length:Nat):Int))=false:=decide_eq_false (by omega)
       have m1:m q<=2*yel g+g.ports.length:=m1;have g1:decide (((2*yel g+g.ports.length:Nat):Int)>=0)=true:=decide_eq_true (by omega)
       have g2:decide (((m q:Nat):Int)>((2*yel g+g.ports.length:Nat):Int))=false:=decide_eq_false (by omega)
       simp only[ydhb,ydoy,fx,Bx,d3,r2,g1,g2,clash,go_sem,zA,zB,zD,↓reduceIte,reduceCtorEq]
       repeat refine zG (by first|omega|decide|exact ikw (by omega) (by omega)) ?_
       simp only[clash,go_sem,zA,zB,↓reduceIte,reduceCtorEq]
       repeat refine zG (by first|omega|decide|exact ikw (by omega) (by omega)) ?_
       refine yj (q+1) hltq (by omega) ?_
       refine yh [] [] [] ?_;simp only[allQ,live,yc,yx,go_sem,zA,zC,↓reduceIte,reduceCtorEq];omega
      .obtain rfl:q=j:=by omega
       have hK:=ybih;simp only[ydhb,ydyp,fx,Bx,zH,clash,go_sem,zA,zB,↓reduceIte,reduceCtorEq];refine hK.use ?_;simp only[ybh,clash,go_sem,zB,↓reduceIte,reduceCtorEq];exact Sim.refl _
end Sh
end
end Go.Proofs.YthclbjjgfcgbgaaGreatDoor
