/- Joined. -/
import Derived.Test.YthclbjjgfcgbgaaGreatDoorPkCh19
set_option linter.unusedSimpArgs false
set_option linter.unusedVariables false
set_option maxRecDepth 8000
open Nat renaming reduceEqDiff->zA,reduceAdd->zB,reduceLT->zC,reduceLeDiff->zD,zero_le->zI
open Int renaming natCast_zero->zF,lt_irrefl->zH,reduceBNe->zJ
open And renaming intro->zG
open Go.Proofs.Tryz renaming prog->zK
open Go
namespace Go.Proofs.YthclbjjgfcgbgaaGreatDoor
section
namespace Sh
open Go Ev
def c7_0:LO:=[o3 (.box 24 (.tmp 0)) 1 0,o3 (.mv (.const (.bool false))) 2 0]
def c7_1:LO:=[ld' true 6 1 22 0,o3 (.call (.func 10) [(.tmp 22),(ci' 4)]) 23 1,o3 (.alloc 27 1 [.a (.slice none 0 0),.a (.slice none 0 0)]) 3 0,o0 (.store 2 (.tmp 3) (.tmp 23)) 7]
def c7_2:LO:=[cl' 35 [] 24 0,cl' 11 [24] 25 1,o3 (.alloc 32 1 [.a (.string (ByteArray.mk #[])),.a (.slice none 0 0),.a (.slice none 0 0)]) 4 0,o0 (.store 3 (.tmp 4) (.tmp 25)) 7]
def c7_3:LO:=[ld' true 2 3 26 0,cl' 36 [26] 27 1,o3 (.alloc 36 1 [.i .i64 0,.b false,.b false,.i .i64 0,.i .i64 0]) 5 0,o0 (.store 5 (.tmp 5) (.tmp 27)) 7]
def c7_4:LO:=[ld' true 3 4 29 0,ld' true 2 3 30 0,fa' 0 1 5 31 0,ld' false 1 31 32 4,cl' 14 [29,30,32] 33 15,mv' 33 28 31,xt' 28 0 34 63,xt' 28 1 35 63,o3 (.alloc 41 1 [.a (.slice none 0 0),.a (.slice none 0 0)]) 6 0,o0 (.store 2 (.tmp 6) (.tmp 34)) 383,mv' 35 7 1023]
def c7_5:LO:=[mv' 7 36 0,o3 (.bin .neq (.tmp 36) (ci' 0)) 37 1,mv' 37 38 3,⟨.faddr 1 1 (.tmp 6),some 39,some (38,false),7⟩,⟨.load false 1 (.tmp 39),some 40,some (38,false),15⟩,⟨.len (.tmp 40),some 41,some (38,false),31⟩,⟨.bin .eql (.tmp 41) (ci' 0),some 42,some (38,false),63⟩,o3 (.pick (.tmp 38) (.const (.bool true)) (.tmp 42)) 43 127]
def c7_6:LO:=[o3 (.mv (.const (.bool false))) 2 0]
def c7_7:LO:=[o3 (.mv (.const (.slice none 0 0))) 8 0]
def c7_8:LO:=[o3 (.mv (ci' 0)) 9 0]
def c7_9:LO:=[mv' 9 44 0,fa' 1 1 6 45 0,ld' false 1 45 46 2,ln' 46 47 6,bn' .lss 44 47 48 15]
def ydsu:LO:=[ld' true 3 4 52 0,ld' true 2 3 53 0,mv' 9 54 0,cl' 15 [52,53,54] 55 7,mv' 55 51 15,xt' 51 0 56 31,xt' 51 1 57 31,mv' 56 10 63,mv' 57 11 255]
def ydrr:LO:=[mv' 11 58 0,o3 (.bin .neq (.tmp 58) (ci' 0)) 59 1]
def ydzw:LO:=[o3 (.mv (.const (.bool false))) 2 0]
def ydru:LO:=[mv' 8 60 0,ld' true 2 3 61 0,mv' 10 62 0,cl' 37 [61,62] 63 6,o3 (.bslice 4 1 1 [.b false] [(0,1,(.tmp 63))]) 64 14,o3 (.app 4 1 1 (.tmp 60) (.tmp 64)) 65 31,mv' 65 8 63]
def ydsn:LO:=[mv' 9 49 0,o3 (.bin .add (.tmp 49) (ci' 1)) 50 1,mv' 50 9 3]
def ydse:LO:=[ld' true 2 6 67 0,mv' 8 68 0,cl' 17 [67,68] 69 3,mv' 69 66 7,xt' 66 0 70 15,xt' 66 1 71 15,mv' 70 12 31,mv' 71 13 127]
def ydxl:LO:=[ld' true 2 6 73 0,mv' 8 74 0,cl' 18 [73,74] 75 3,mv' 75 72 7,xt' 72 0 76 15,xt' 72 1 77 15,mv' 76 14 31,mv' 77 15 127]
def ydqf:LO:=[mv' 13 78 0,o3 (.bin .neq (.tmp 78) (ci' 0)) 79 1,mv' 79 80 3,⟨.mv (.tmp 15),some 81,some (80,false),7⟩,⟨.bin .neq (.tmp 81) (ci' 0),some 82,some (80,false),15⟩,o3 (.pick (.tmp 80) (.const (.bool true)) (.tmp 82)) 83 31,mv' 83 84 63,⟨.mv (.tmp 14),some 85,some (84,false),127⟩,⟨.un .not (.tmp 85),some 86,some (84,false),255⟩,o3 (.pick (.tmp 84) (.const (.bool true)) (.tmp 86)) 87 511,mv' 87 88 1023,⟨.mv (.tmp 12),some 89,some (88,false),2047⟩,⟨.len (.tmp 89),some 90,some (88,false),4095⟩,⟨.mv (.tmp 8),some 91,some (88,false),2047⟩,⟨.len (.tmp 91),some 92,some (88,false),10239⟩,⟨.bin .neq (.tmp 90) (.tmp 92),some 93,some (88,false),32767⟩,o3 (.pick (.tmp 88) (.const (.bool true)) (.tmp 93)) 94 65535]
def ydyu:LO:=[o3 (.mv (.const (.bool false))) 2 0]
def ydra:LO:=[o3 (.mv (ci' 0)) 16 0]
def ydfy:LO:=[mv' 16 95 0,mv' 12 96 0,ln' 96 97 2,bn' .lss 95 97 98 7]
def ydor:LO:=[mv' 12 101 0,mv' 16 102 0,ix' 1 101 102 103 3,ld' false 1 103 104 7]
def ydyj:LO:=[o3 (.mv (.const (.bool false))) 2 0]
def ydup:LO:=[mv' 16 99 0,o3 (.bin .add (.tmp 99) (ci' 1)) 100 1,mv' 100 16 3]
def ydon:LO:=[ld' true 2 6 106 0,mv' 8 107 0,cl' 19 [106,107] 108 3,mv' 108 105 7,xt' 105 0 109 15,xt' 105 1 110 15,mv' 109 17 31,mv' 110 18 127]
def ydpw:LO:=[ld' true 2 6 112 0,mv' 8 113 0,cl' 20 [112,113] 114 3,mv' 114 111 7,xt' 111 0 115 15,xt' 111 1 116 15,mv' 115 19 31,mv' 116 20 127]
def ydsw:LO:=[mv' 18 117 0,o3 (.bin .neq (.tmp 117) (ci' 0)) 118 1,mv' 118 119 3,⟨.mv (.tmp 20),some 120,some (119,false),7⟩,⟨.bin .neq (.tmp 120) (ci' 0),some 121,some (119,false),15⟩,o3 (.pick (.tmp 119) (.const (.bool true)) (.tmp 121)) 122 31,mv' 122 123 63,⟨.mv (.tmp 17),some 124,some (123,false),127⟩,⟨.len (.tmp 124),some 125,some (123,false),255⟩,⟨.mv (.tmp 8),some 126,some (123,false),127⟩,⟨.len (.tmp 126),some 127,some (123,false),639⟩,⟨.bin .neq (.tmp 125) (.tmp 127),some 128,some (123,false),2047⟩,o3 (.pick (.tmp 123) (.const (.bool true)) (.tmp 128)) 129 4095,mv' 129 130 8191,⟨.mv (.tmp 19),some 131,some (130,false),16383⟩,⟨.len (.tmp 131),some 132,some (130,false),32767⟩,⟨.mv (.tmp 8),some 133,some (130,false),16383⟩,⟨.len (.tmp 133),some 134,some (130,false),81919⟩,⟨.bin .neq (.tmp 132) (.tmp 134),some 135,some (130,false),262143⟩,o3 (.pick (.tmp 130) (.const (.bool true)) (.tmp 135)) 136 524287]
def ydyw:LO:=[o3 (.mv (.const (.bool false))) 2 0]
def ydlq:LO:=[o3 (.mv (ci' 0)) 21 0]
def ydjz:LO:=[mv' 21 137 0,mv' 17 138 0,ln' 138 139 2,bn' .lss 137 139 140 7]
def ydnq:LO:=[mv' 17 143 0,mv' 21 144 0,ix' 1 143 144 145 3,ld' false 1 145 146 7,fa' 3 1 5 147 0,ld' false 1 147 148 16,bn' .gtr 146 148 149 63,mv' 149 150 127,⟨.faddr 4 1 (.tmp 5),some 151,some (150,false),255⟩,⟨.load false 1 (.tmp 151),some 152,some (150,false),511⟩,⟨.bin .geq (.tmp 152) (ci' 0),some 153,some (150,false),1023⟩,⟨.mv (.tmp 153),some 154,some (150,false),2047⟩,⟨.mv (.tmp 19),some 155,some (154,true),4095⟩,⟨.mv (.tmp 21),some 156,some (154,true),4095⟩,⟨.idx 1 (.tmp 155) (.tmp 156),some 157,some (154,true),16383⟩,⟨.load false 1 (.tmp 157),some 158,some (154,true),32767⟩,⟨.faddr 4 1 (.tmp 5),some 159,some (154,true),4095⟩,⟨.load false 1 (.tmp 159),some 160,some (154,true),69631⟩,⟨.bin .gtr (.tmp 158) (.tmp 160),some 161,some (154,true),262143⟩,⟨.pick (.tmp 154) (.tmp 161) (.const (.bool false)),some 162,some (150,false),524287⟩,o3 (.pick (.tmp 150) (.const (.bool true)) (.tmp 162)) 163 1048575]
def ydyx:LO:=[o3 (.mv (.const (.bool false))) 2 0]
def ydza:LO:=[mv' 21 141 0,o3 (.bin .add (.tmp 141) (ci' 1)) 142 1,mv' 142 21 3]
def ydsy:LO:=[cl' 38 [] 164 0,mv' 164 2 1]
def c7:SC:=(.seq (.reg false c7_0) (.seq (.reg false c7_1) (.seq (.reg false c7_2) (.seq (.reg false c7_3) (.seq (.reg false c7_4) (.seq (.seq (.reg false c7_5) (.cond (.tmp 43) (.seq (.reg false c7_6) .ret) .skip)) (.seq (.reg false c7_7) (.seq (.seq (.reg false c7_8) (.block 0 (.loop (.seq (.seq (.reg false c7_9) (.cond (.tmp 48) .skip (.exit 0))) (.seq (.block 1 (.seq (.reg false ydsu) (.seq (.seq (.reg false ydrr) (.cond (.tmp 59) (.seq (.reg false ydzw) .ret) .skip)) (.reg false ydru)))) (.reg false ydsn)))))) (.seq (.reg false ydse) (.seq (.reg false ydxl) (.seq (.seq (.reg false ydqf) (.cond (.tmp 94) (.seq (.reg false ydyu) .ret) .skip)) (.seq (.seq (.reg false ydra) (.block 2 (.loop (.seq (.seq (.reg false ydfy) (.cond (.tmp 98) .skip (.exit 2))) (.seq (.block 3 (.seq (.reg false ydor) (.cond (.tmp 104) (.seq (.reg false ydyj) .ret) .skip))) (.reg false ydup)))))) (.seq (.reg false ydon) (.seq (.reg false ydpw) (.seq (.seq (.reg false ydsw) (.cond (.tmp 136) (.seq (.reg false ydyw) .ret) .skip)) (.seq (.seq (.reg false ydlq) (.block 4 (.loop (.seq (.seq (.reg false ydjz) (.cond (.tmp 140) .skip (.exit 4))) (.seq (.block 5 (.seq (.reg true ydnq) (.cond (.tmp 163) (.seq (.reg false ydyx) .ret) .skip))) (.reg false ydza)))))) (.seq (.reg false ydsy) .ret)))))))))))))))))
theorem ydzp:Fn 7 c7 [.t 2]:=fn_0 Tryz.func7 (by kernel_rfl) (by kernel_rfl)
end Sh
end
section
namespace Sh
open Ev Go.RowKit
set_option maxHeartbeats 16000000 in
theorem ybel{x:NetR}(hx:x.ok):Returns zK 7 [.ag (netC x)] (.b true):=by
 refine Returns.of (ydzp _ _ ?_);have hC:=ycfk hx (most:=4) (by omega)
 simp only[netC]at hC;simp only[c7,c7_0,c7_1,netC,clash,go_sem,zA,zB,zC,↓reduceIte];refine hC.found (V:=grV) (fun r g h=>h.2.2.2) fun r g h=>?_;obtain⟨hT,hit,hn4,-⟩:=h;have hg:=hT.good;have hI:=ydim hg;have hCh:Checked (Lies CqB Cqv) (Lies CqC Cqr) CqP g:=⟨hg,ydxq,ybfq hg,ycgf⟩;have hCl:=ybjb hI hit;have hW:WLaw CqP g (fun _=>true) (fun _=>True) (yec g) _ (ykb g/2+1).toNat (fun _=>True):=yddx hT hit hn4
 have hd0:0<=ykb g:=yji (g:=g) g.ports.length;have h16:2^g.ids.length<=2^4:=Nat.pow_le_pow_right (by omega) hW.n4
 have hperm:∀e s,e<2^g.ids.length->s≠0->s<16->s&&&e=s->Returns zK 171 [usV (g.ports.map netP),.i .i64 3,.i .u32 (e:Nat),.i .u32 (s:Nat)] (.b true):=fun e s he h0 hs h=>ybcy _ (by omega) h0 (by omega) (yblm h)
 have hRc:((ykb g/2+1).toNat:Int)=ykb g/2+1:=by omega
 have hids:g.ids.length<=24:=by have:=hg.2.1;have:=hg.2.2.1;omega
 have hTx:=ycdd;have hPr:=ybns;have hB:=ybvx hCh hW.tab (kind:=3) (.inr rfl) hW.n4 (perm:=(fun _=>true)) hperm hW.tot;have hU:=fun k (hk:k<ybi (tabP CqP g))=>ybpk hCh hW.tab (k0:=k) hk;have hLg:=fun k=>ybpw hI (ycga (ybmp hg ydxq (hW.conf k))) (fun _=>hT);have hCo:=ycjx hW.ok hW.free;have hCd:=ybre hW.ok (lg:=fun k=>yec g (cfP CqP g k)) fun k _ hl=>hW.rest k hl;have hRd:=ycdl hW.ok hW.free hids (fun k _=>yvh _ _ _) hW.big hW.rdB
 have hMv:=yciq hW.ok hW.free hW.mvB;have hRle:=fun k x=>hW.ybxj (k:=k) (x:=x);have hMle:=fun k x=>hW.ycid (k:=k) (x:=x);have hpos:0<ybi (tabP CqP g):=hW.ok.pos;have hle:ybi (tabP CqP g)<=32768:=hW.ok.le;have hN:(spcP (fun _=>true) CqP g).N=ybi (tabP CqP g):=rfl;have hcf:∀k,(unT (tabP CqP g) k).1=cfP CqP g k:=fun _=>rfl;obtain⟨lg,hlg⟩:∃lg:Nat->Bool,(fun k=>yec g (cfP CqP g k))=lg:=⟨_,rfl⟩;have hlg':∀k,yec g (cfP CqP g k)=lg k:=fun k=>by rw[<-hlg]
 simp only[hcf]at hU;simp only[hlg']at hLg;rw[hlg]at hCo hCd hRd hMv;rw[hN]at hCo hCd hRd hMv;obtain⟨N,hNe⟩:∃N,ybi (tabP CqP g)=N:=⟨_,rfl⟩;rw[hNe]at hU hCo hCd hRd hMv hpos hle;obtain⟨E,hEe⟩:∃E:Nat->SV,(fun k=>SV.i .u32 ((spcP (fun _=>true) CqP g).en k:Nat))=E:=⟨_,rfl⟩;obtain⟨A,hAe⟩:∃A:Nat->SV,(fun k=>ybh ((spcP (fun _=>true) CqP g).arcs k))=A:=⟨_,rfl⟩;have hSp:spcC (spcP (fun _=>true) CqP g)=[.sl 1 N fun k=>[E k],.sl 1 N fun k=>[A k]]:=by rw[<-hNe,<-hEe,<-hAe];rfl
 rw[hSp]at hB hCo hCd hRd hMv;simp only[grV,yfe,ybb]at hB hU hLg hCo hCd hRd hMv hCl;simp only[ybg,c7_2,grV,clash,go_sem,zA,zB,zC,↓reduceIte];refine hTx.use ?_;simp only[go_sem,↓reduceIte];refine hPr.use ?_;simp only[ybg,c7_3,yfe,clash,go_sem,zA,zB,zC,↓reduceIte];refine hCl.use ?_;simp only[ybg,c7_4,ydbc,clash,go_sem,zA,zB,zD,zC,↓reduceIte,reduceCtorEq];refine hB.use ?_;simp only[go_sem,zA,zB,↓reduceIte]
 repeat refine zG (by first|omega|decide|exact ikw (by omega) (by omega)) ?_
 have d0:((N:Int)==0)=false:=by rw[beq_eq_false_iff_ne];omega
 simp only[c7_5,c7_7,c7_8,d0,zJ,clash,go_sem,zA,zB,↓reduceIte,reduceCtorEq]
 let Bx:Own:=[(6,.one (some ⟨41,true,2,1,fun _=>[.sl 1 N fun k=>[E k],.sl 1 N fun k=>[A k]]⟩)),(5,.one (some ⟨36,true,5,1,fun _=>[.i .i64 3,.b false,.b true,.i .i64 (ykb g/2+1),.i .i64 (-1)]⟩)),
  (4,.one (some ⟨32,true,3,1,fun _=>[.a (.string CqP.raw.name),.ex (Lies CqB Cqv) (yeu CqP.raw.vars),.ex (Lies CqC Cqr) (ydd CqP.raw.rules)]⟩)),(3,.one (some ⟨27,true,2,1,fun _=>[ybc g.ids,yu g.ports]⟩))]
 let fx:List (Nat×SV):=[(6,.pt (6,0) 0 0),(5,.pt (5,0) 0 0),(4,.pt (4,0) 0 0),(3,.pt (3,0) 0 0)]
 obtain⟨st,hst1,hst2⟩:∃st:Nat->SS,(∀k,k<N->st k=⟨(9,.i .i64 k)::(8,.os (70,0) 0 k true)::fx,(70,.one (some ⟨4,false,1,k,fun i=>[.b (lg i)]⟩))::Bx⟩)/\st N=⟨(9,.i .i64 N)::(8,.sl 1 N fun i=>[.b (lg i)])::fx,Bx⟩ :=
  ⟨fun k=>if k<N then⟨(9,.i .i64 k)::(8,.os (70,0) 0 k true)::fx,(70,.one (some ⟨4,false,1,k,fun i=>[.b (lg i)]⟩))::Bx⟩else⟨(9,.i .i64 N)::(8,.sl 1 N fun i=>[.b (lg i)])::fx,Bx⟩,fun k hk=>if_pos hk,if_neg (Nat.lt_irrefl _)⟩
 refine ybd (σ:=Nat) st (fun k=>k<=N) (fun k=>N-k) 0 (zI _) ?_ ?_
 .rw[hst1 0 hpos];refine yh [] [70] [] ?_;simp only[fx,Bx,allQ,live,yc,zF,go_sem,zA,zC,Nat.reduceBEq,↓reduceIte,reduceCtorEq];exact⟨(70,0),rfl,rfl,rfl⟩
 .intro k hk
  by_cases hlt:k<N
  .have d1:=dec_lt hlt;have hUk:=hU k hlt;have hLk:=hLg k;rw[hst1 k hlt];simp only[c7_9,ydsu,fx,Bx,d1,clash,go_sem,zA,zB,↓reduceIte,reduceCtorEq];refine hUk.use ?_;simp only[ybg,ydrr,ydru,splice,clash,zJ,go_sem,zA,zB,zC,↓reduceIte,reduceCtorEq];refine hLk.use ?_;simp only[ydsn,clash,go_sem,zA,zB,zD,↓reduceIte,reduceCtorEq]
   repeat refine zG (by first|omega|decide|exact ikw (by omega) (by omega)) ?_
   refine yj (k+1) hlt (by omega) ?_
   have hsn:∀i,i<k+1->(if i<k then[SV.b (lg i)]else List.take 1 (List.drop ((i-k)*1) [SV.b (lg k)]))=[SV.b (lg i)]:=fun i hi=>by
    by_cases q:i<k
    .rw[if_pos q]
    .obtain rfl:i=k:=by omega
     rw[if_neg q,Nat.sub_self];rfl
   by_cases hlt2:k+1<N
   .rw[hst1 (k+1) hlt2];refine yh [(70,fun i=>(65,i))] [] [] ?_;simp only[fx,Bx,allQ,live,yc,yx,go_sem,zA,zC,↓reduceIte,reduceCtorEq];exact⟨by omega,fun i hi=>ycas (hsn i hi)⟩
   .obtain rfl:k+1=N:=by omega
    rw[hst2];refine yh [] [] [(65,0)] ?_;simp only[fx,Bx,allQ,live,yc,yx,go_sem,zA,zD,zC,↓reduceIte,reduceCtorEq];exact⟨fun i hi=>by rw[hsn i hi];rfl,by omega,ydp fun i hi=>by rw[hsn i hi];exact⟨⟨Sim.refl _,trivial⟩,rfl⟩⟩
  .obtain rfl:k=N:=by omega
   rw[hst2];simp only[c7_9,ydse,fx,Bx,zH,clash,go_sem,zA,zB,↓reduceIte,reduceCtorEq];refine hCo.use ?_;simp only[ybg,ydxl,clash,go_sem,zA,zB,↓reduceIte,reduceCtorEq];refine hCd.use ?_;simp only[ydqf,ydra,clash,bne_self_eq_false,go_sem,zA,zB,↓reduceIte,reduceCtorEq];refine ybd (σ:=Nat) (fun j=>⟨(16,.i .i64 j)::(12,.sl 1 k fun _=>[.b false])::(8,.sl 1 k fun i=>[.b (lg i)])::fx,Bx⟩) (fun j=>j<=k) (fun j=>k-j) 0 (zI _) ?_ ?_
   .refine yh [] [] [] ?_;simp only[fx,Bx,allQ,live,yc,zF,go_sem,zA,zC,↓reduceIte,reduceCtorEq]
   .intro j hj
    by_cases hltj:j<k
    .have d2:=dec_lt hltj;simp only[ydfy,ydup,ydor,fx,Bx,d2,clash,go_sem,zA,zB,↓reduceIte,reduceCtorEq]
     repeat refine zG (by first|omega|decide|exact ikw (by omega) (by omega)) ?_
     refine yj (j+1) hltj (by omega) ?_
     refine yh [] [] [] ?_;simp only[allQ,live,yc,yx,go_sem,zA,zC,↓reduceIte,reduceCtorEq];omega
    .obtain rfl:j=k:=by omega
     simp only[ydfy,ydon,fx,Bx,zH,clash,go_sem,zA,zB,↓reduceIte,reduceCtorEq];refine hRd.found (V:=fun f=>.tp [.sl 1 j fun q=>[.i .i64 (f q:Nat)],.i .i64 0]) (fun r f h=>h.1) fun r f h=>?_;obtain⟨-,hf⟩:=h;simp only[ybg,ydpw,clash,go_sem,zA,zB,↓reduceIte,reduceCtorEq];refine hMv.found (V:=fun f=>.tp [.sl 1 j fun q=>[.i .i64 (f q:Nat)],.i .i64 0]) (fun r f h=>h.1) fun r m h=>?_;obtain⟨-,hm,hm6⟩:=h;simp only[ydsw,ydlq,clash,bne_self_eq_false,go_sem,zA,zB,↓reduceIte,reduceCtorEq]
     refine ybd (σ:=Nat) (fun q=>⟨(21,.i .i64 q)::(19,.sl 1 j fun q=>[.i .i64 (m q:Nat)])::(17,.sl 1 j fun q=>[.i .i64 (f q:Nat)])::fx,Bx⟩) (fun q=>q<=j) (fun q=>j-q) 0 (zI _) ?_ ?_
     .refine yh [] [] [] ?_;simp only[fx,Bx,allQ,live,yc,zF,go_sem,zA,zC,↓reduceIte,reduceCtorEq]
     .intro q hq
      by_cases hltq:q<j
      .have d3:=dec_lt hltq;have r1:=hRle q (f q) (hf q hltq);have m1:=hMle q (m q) (hm q hltq);have r2:decide (((f q:Nat):Int)>(ykb g/2+1))=false:=decide_eq_false (by omega)
       simp only[ydjz,ydnq,fx,Bx,d3,r2,ge_iff_le,Int.reduceLE,Int.reduceNeg,clash,go_sem,zA,zB,zD,↓reduceIte,reduceCtorEq]
       repeat refine zG (by first|omega|decide|exact ikw (by omega) (by omega)) ?_
       simp only[clash,go_sem,zA,zB,↓reduceIte,reduceCtorEq]
       repeat refine zG (by first|omega|decide|exact ikw (by omega) (by omega)) ?_
       refine yj (q+1) hltq (by omega) ?_
       refine yh [] [] [] ?_;simp only[allQ,live,yc,yx,go_sem,zA,zC,↓reduceIte,reduceCtorEq];omega
      .obtain rfl:q=j:=by omega
       have hK:=ybgi;simp only[ydjz,ydsy,fx,Bx,zH,clash,go_sem,zA,zB,↓reduceIte,reduceCtorEq];refine hK.use ?_;simp only[ybg,clash,go_sem,zB,↓reduceIte,reduceCtorEq];exact Sim.refl _
end Sh
end
end Go.Proofs.YthclbjjgfcgbgaaGreatDoor
