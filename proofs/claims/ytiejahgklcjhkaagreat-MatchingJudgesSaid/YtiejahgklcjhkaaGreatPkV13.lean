/- Joined. -/
import Derived.Test.YtiejahgklcjhkaaGreatPkV12
import Derived.Lib.TrailingZeros
import Derived.Deep.RegionHeld3
set_option linter.unusedSimpArgs false
set_option linter.unusedVariables false
set_option maxRecDepth 8000
open Nat renaming reduceEqDiff→zA,reduceAdd→zB,reduceLT→zC,reduceLeDiff→zF,reduceBEq→zJ,reduceBNe→zK,reduceMul→zL,le_refl→zQ,zero_le→zV,not_lt_zero→zAI
open Go.Lib renaming hid→zD
open List renaming getElem?_eq_getElem→zG,getElem_mem→zM,all_eq_true→zT,getElem_of_mem→zU,range→zX,getD_cons_zero→zAA,all_eq_false→zAD,take_length→zAF,not_mem_nil→zAG,map_append→zAH,getD→zAM
open Go.Proofs.Tryz renaming prog→zH,func48→zY,ntmps48→zAC
open Int renaming reduceToNat→zI,natCast_zero→zS,toNat_of_nonneg→zAB,toNat_natCast→zAE,mul_nonneg→zAK,mul_le_mul→zAL
open Bool renaming true_and→zN,and_eq_true→zO,not_eq_true'→zW,and_eq_false_iff→zZ,false_and→zAJ
open Go
namespace Go.Proofs.YtiejahgklcjhkaaGreat
section
def ydh(g:Gr)(k:Nat):Nat:=((g.ports.take k).map List.length).sum
theorem ygx{g:Gr}{k:Nat}(h:k<g.ports.length):ydh g (k+1)=ydh g k+(g.ports.getD k []).length:=by
 unfold ydh;rw[List.take_succ_eq_append_getElem h,zAH,List.sum_append,Sh.getD_at h];simp
theorem ydr{g:Gr}(hg:ybf g):∀k,k<=g.ports.length->ydh g k<=24*k
 |0,_=>by simp[ydh]
 | k+1,h=>by
   rw[ygx (by omega)]
   have:=ydr hg k (by omega)
   have:=hg.deg_lt (v:=k);omega
theorem yfx(g:Gr):ydh g g.ports.length=yhq g:=by unfold ydh yhq;rw[zAF]
def yfu(g:Gr):Nat:=yhq g/2
namespace Sh
open Ev Go.RowKit
def yban(g:Gr):List SV:=if ybq g=true then[.i .i64 g.ports.length,.i .i64 (yfu g)]else[.i .i64 0,.i .i64 0]
theorem yxv(n:Nat):((n:Nat):Int).tdiv 2=((n/2:Nat):Int):=by
 rw[Int.tdiv_eq_ediv_of_nonneg (by omega)]
 omega
theorem ybdt{g:Gr}(hI:GrI g):Returns zH 71 [grV g] (.tp (yban g)):=by
 refine Returns.of (ybte _ _ ?_);have hV:=yji hI;unfold yban;cases hv:ybq g with
 | false =>
   rw[hv]at hV;simp only[grV]at hV;simp only[c71,ybpw,ybnz,ybwx,grV,clash,go_sem,zA,zB,zC,↓reduceIte];refine hV.use ?_;simp only[ybx,clash,go_sem,zA,zB,↓reduceIte];exact Sim.refl _
 | true =>
   have hg:=(ycp g).1 hv;have h24:=hg.2.1;have hpl:=hg.2.2.1;obtain⟨n,hn⟩:∃n,g.ports.length=n:=⟨_,rfl⟩;rw[hv]at hV;simp only[grV]at hV;rw[hn]at h24 hpl;simp only[c71,ybpw,ybnz,ybsl,grV,clash,go_sem,zA,zB,zC,↓reduceIte];refine hV.use ?_;simp only[ybx,yba,hn,clash,go_sem,zA,zB,↓reduceIte,reduceCtorEq];refine yfm (σ:=Nat) (fun k=>⟨[(12,.i .i64 k),(11,.i .i64 n),(10,yba g.ports),(3,.i .i64 (ydh g k:Nat)),(1,.pt (1,0) 0 0)],[(1,.one (some ⟨25,true,2,1,fun _=>[ybi g.ids,yba g.ports]⟩))]⟩) (fun k=>k<=n) (fun k=>n-k) 0 (zV _) ?_ ?_
   ·refine ybd [] [] [] ?_;simp only[yba,hn,allQ,live,yw,yfn,zS,go_sem,zA,↓reduceIte,reduceCtorEq];rfl
   intro k hk
   by_cases hlt:k<n
   ·have t1:decide ((k:Int)<(n:Int))=true:=decide_eq_true (by omega)
    have hs:=ygx (g:=g) (k:=k) (by omega)
    have hb:=ydr hg k (by omega)
    have hd:=hg.deg_lt (v:=k);obtain⟨d,hdd⟩:∃d,(g.ports.getD k []).length=d:=⟨_,rfl⟩;rw[hdd]at hs hd;have e:(ydh g k:Int)+(d:Int)=((ydh g (k+1):Nat):Int):=by rw[hs];omega
    simp only[ybmu,ybtq,ybrl,ybsa,yba,ybc,hn,t1,hdd,e,clash,go_sem,zA,zB,↓reduceIte,reduceCtorEq];refine⟨by omega,ikw (by omega) (by omega),ikw (by omega) (by omega),?_⟩
    refine ybj (k+1) (by omega) (by omega) ?_
    refine ybd [] [] [] ?_;simp only[allQ,live,yw,yfn,go_sem,zA,↓reduceIte,reduceCtorEq];omega
   ·obtain rfl:k=n:=by omega
    have t1:decide ((k:Int)<(k:Int))=false:=decide_eq_false (by omega)
    have hb:=ydr hg k (by omega)
    have e:=yfx g;rw[hn]at e;have e2:=yxv (ydh g k);simp only[ybmu,ybvv,yba,ybi,hn,hpl,t1,e2,clash,go_sem,zA,zB,zF,↓reduceIte,reduceCtorEq];unfold yfu;rw[<-e];exact⟨⟨by decide,ikw (by omega) (by omega)⟩,Sim.refl _⟩
theorem ybcl{g:Gr}(hI:GrI g):Returns zH 72 [grV g] (.tp (yban g)):=by
 refine Returns.of (ybtl _ _ ?_);have hV:=yjy hI;unfold yban;cases hv:ybq g with
 | false =>
   rw[hv]at hV;simp only[grV]at hV;simp only[c72,ybqn,ybpe,ybtg,grV,clash,go_sem,zA,zB,zC,↓reduceIte];refine hV.use ?_;simp only[ybx,clash,go_sem,zA,zB,↓reduceIte];exact Sim.refl _
 | true =>
   have hg:=(ycp g).1 hv;have h24:=hg.2.1;obtain⟨n,hn⟩:∃n,g.ports.length=n:=⟨_,rfl⟩;rw[hv]at hV;simp only[grV]at hV;rw[hn]at h24;simp only[c72,ybqn,ybpe,ybsg,ybwr,grV,clash,go_sem,zA,zB,zC,↓reduceIte];refine hV.use ?_;simp only[ybx,clash,go_sem,zB,↓reduceIte];refine yfm (σ:=Nat) (fun k=>⟨[(5,.i .i64 k),(4,.i .i64 (ydh g k:Nat)),(1,.pt (1,0) 0 0)],[(1,.one (some ⟨25,true,2,1,fun _=>[ybi g.ids,yba g.ports]⟩))]⟩) (fun k=>k<=n) (fun k=>n-k) 0 (zV _) ?_ ?_
   ·refine ybd [] [] [] ?_;simp only[go_sem,allQ,live,yw,yfn,zS,go_sem,zA,↓reduceIte,reduceCtorEq];rfl
   intro k hk
   by_cases hlt:k<n
   ·have t1:decide ((k:Int)<(n:Int))=true:=decide_eq_true (by omega)
    have hs:=ygx (g:=g) (k:=k) (by omega)
    have hb:=ydr hg k (by omega)
    have hd:=hg.deg_lt (v:=k);obtain⟨d,hdd⟩:∃d,(g.ports.getD k []).length=d:=⟨_,rfl⟩;rw[hdd]at hs hd;have e:(ydh g k:Int)+(d:Int)=((ydh g (k+1):Nat):Int):=by rw[hs];omega
    simp only[ybmw,ybwy,ybuy,yba,ybc,hn,t1,hdd,e,clash,go_sem,zA,zB,↓reduceIte,reduceCtorEq];refine⟨⟨by omega,by omega⟩,ikw (by omega) (by omega),ikw (by omega) (by omega),?_⟩
    refine ybj (k+1) (by omega) (by omega) ?_
    refine ybd [] [] [] ?_;simp only[allQ,live,yw,yfn,go_sem,zA,↓reduceIte,reduceCtorEq];omega
   ·obtain rfl:k=n:=by omega
    have t1:decide ((k:Int)<(k:Int))=false:=decide_eq_false (by omega)
    have e:=yfx g;rw[hn]at e;have e2:=yxv (ydh g k);have hb:=ydr hg k (by omega)
    simp only[ybmw,ybve,yba,hn,t1,e2,clash,go_sem,zA,zB,↓reduceIte,reduceCtorEq];unfold yfu;rw[<-e];exact⟨⟨by decide,ikw (by omega) (by omega)⟩,Sim.refl _⟩
end Sh
end
section
def yci(g:Gr)(c:Conf):Bool:=ybq g&&yku g.ports.length (yct g [-1]) c
def mtW(g:Gr)(c:Conf)(v:Nat):Int:=(Sh.towP g c 0).getD v 0
def yyl(g:Gr)(c:Conf):Bool:=(zX c.length).all fun v=>!(decide (mtW g c v>=0)&&(mtW g c (mtW g c v).toNat != (v:Int)))
def yxu(g:Gr)(c:Conf):Bool:=(Ev.flatAt 0 g.ports).all fun e=>!(decide (mtW g c e.v<0)&&decide (mtW g c e.a.toNat<0))
def ybo(g:Gr)(c:Conf):Bool:=yci g c&&(yyl g c&&yxu g c)
theorem yez{g:Gr}{c:Conf}(h:yci g c=true):ybf g/\c.length=g.ports.length/\∀v,v<c.length->(c.getD v []).length=1 /\ -1<=(c.getD v []).getD 0 0/\(c.getD v []).getD 0 0<((g.ports.getD v []).length:Int):=by
 unfold yci at h;rw[zO]at h;have hck:=(ymm _ _ _).1 h.2;refine⟨(ycp g).1 h.1,hck.1,fun v hv=>?_⟩;have h2:=hck.2 v _ (zG hv);have e:c[v]=c.getD v []:=by rw[Sh.getD_at hv]
 rw[e]at h2;have hl:(c.getD v []).length=1:=by simpa[yct]using h2.1
 have h3:=h2.2 0 (-1,(yrz g v:Int)-1) ((c.getD v []).getD 0 0) (by simp[yct]) (by rw[Sh.getD_at (show 0<(c.getD v []).length by omega)];exact zG _)
 unfold yrz at h3;simp only at h3;omega
theorem yox{g:Gr}{c:Conf}(h:yci g c=true):MtC g c:=by
 obtain⟨hg,h1,h2⟩:=yez h;have hpl:=hg.2.2.1;refine⟨by omega,fun v hv=>?_⟩
 obtain⟨a,b,d⟩:=h2 v (by omega)
 exact⟨a,b,d⟩
theorem ybew{g:Gr}(hg:ybf g){c:Conf}(h:MtC g c){v:Nat}(hv:v<g.ids.length):mtW g c v=mtT g c v:=by
 have hpl:=hg.2.2.1;obtain⟨h1,h2⟩:=ybbx hg h hv;have hr:=(h.row v hv).2;have hat:mtW g c v=if pAt c v>=0 then((g.ports.getD v []).getD (pAt c v).toNat (0,0)).1 else -1:=Sh.ypl (by rw[h.len];exact hv)
 rw[hat]
 by_cases q:0<=pAt c v
 ·have hk:(pAt c v).toNat<(g.ports.getD v []).length:=by omega
  have e:toP g c v=some ((g.ports.getD v []).getD (pAt c v).toNat (0,0)).1.toNat:=by unfold toP;rw[if_pos ⟨by omega,q⟩]
  rw[if_pos q,h1 _ e];have hm:=(ych hg (show v<g.ports.length by omega) (zM hk)).1
  rw[Sh.getD_at hk];omega
 ·rw[if_neg (by omega),h2 ((yhc hg h hv).2 (by omega))]
section
variable {nm np na nb nw:ByteArray}{g:Gr}
theorem yoy{c:Conf}(hq:yci g c=true):ybo g c=true↔ybdu g c:=by
 obtain⟨hg,hl,_⟩:=yez hq;have hC:=yox hq;have hpl:=hg.2.2.1;have eW:=fun v hv=>ybew hg hC (v:=v) hv;unfold ybo yyl yxu;rw[hq,zN,zO,zT,zT,<-ybiq hg hC]
 have inn:∀v,v<g.ids.length->0<=mtT g c v->(mtT g c v).toNat<g.ids.length:=fun v hv h0=>by
  have e:mtT g c v=((mtT g c v).toNat:Int):=by omega
  have:=(hg.adj_lt (yls hg hC ((ygf hg hC hv).1 e))).2;omega
 refine and_congr ?_ ?_
 ·constructor
  ·intro h v hv h0;have:=h v (List.mem_range.2 (by omega))
   rw[eW v hv,eW _ (inn v hv h0),decide_eq_true h0,zN,zW,bne_eq_false_iff_eq]at this;exact this
  ·intro h v hv;have hv:=List.mem_range.1 hv;rw[eW v (by omega),zW,zZ]
   by_cases h0:0<=mtT g c v
   ·right
    rw[eW _ (inn v (by omega) h0),bne_eq_false_iff_eq]
    exact h v (by omega) h0
   ·exact .inl (decide_eq_false h0)
 ·constructor
  ·intro h v l hv hlm ⟨q1,q2⟩;have hm:=ybik (ps:=g.ports) (v:=v) (l:=l) (by omega) hlm
   have:=h _ hm;have hu:=(ych hg (show v<g.ports.length by omega) hlm).2.1
   simp only at this;rw[eW v hv,eW l.1.toNat (by omega),decide_eq_true q1,decide_eq_true q2]at this
   cases this
  ·intro h e he;obtain⟨k,hk,rfl⟩:=zU he;obtain⟨h1,h2⟩:=yth hg hk;have e0:Sh.yck g.ports k=(Ev.flatAt 0 g.ports)[k]:=by unfold Sh.yck;rw[Sh.getD_at hk]
   rw[e0]at h1 h2;have hu:((Ev.flatAt 0 g.ports)[k]).a.toNat<g.ports.length:=(ych hg h1 h2).2.1;have hn:=h _ _ (show _<g.ids.length by omega) h2
   rw[eW _ (by omega),eW _ (by omega),zW,zZ]
   by_cases q:mtT g c ((Ev.flatAt 0 g.ports)[k]).v<0
   ·exact .inr (decide_eq_false fun q2=>hn ⟨q,q2⟩)
   ·exact .inl (decide_eq_false q)
end
end
section
namespace Sh
open Go Ev
def ybsk:LO:=[o3 (.box 25 (.tmp 0)) 1 0,o3 (.mv (.const (.bool false))) 2 0]
def ybsn:LO:=[ld' true 2 1 3 0,cl' 64 [3] 4 1,mv' 4 2 3]
def c27:SC:=(.seq (.reg false ybsk) (.seq (.reg false ybsn) .ret))
theorem ybvp:Fn 27 c27 [.t 2]:=fn_0 Tryz.func27 (by kernel_rfl) (by kernel_rfl)
def ybrj:LO:=[o3 (.box 25 (.tmp 0)) 2 0,o3 (.mv (.const (.bool false))) 4 0]
def ybnd:LO:=[ld' true 2 2 5 0,cl' 27 [5] 6 1,mv' 6 7 3,⟨.load true 2 (.tmp 2),some 8,some (7,true),7⟩,⟨.mv (.tmp 1),some 9,some (7,true),7⟩,⟨.bslice 3 1 1 [.i .i64 0] [(0,1,(.const (.int .i64 (-1))))],some 10,some (7,true),7⟩,⟨.call (.func 41) [(.tmp 8),(.tmp 9),(.tmp 10)],some 11,some (7,true),63⟩,o3 (.pick (.tmp 7) (.tmp 11) (.const (.bool false))) 12 127,mv' 12 4 255]
def c66:SC:=(.seq (.reg false ybrj) (.seq (.reg false ybnd) .ret))
theorem ybvf:Fn 66 c66 [.t 4]:=fn_0 Tryz.func66 (by kernel_rfl) (by kernel_rfl)
def ybpm:LO:=[o3 (.box 25 (.tmp 0)) 2 0,o3 (.alloc 4 1 [.b false]) 4 0]
def yboe:LO:=[ld' true 2 2 10 0,mv' 1 11 0,cl' 66 [10,11] 12 3,o3 (.un .not (.tmp 12)) 13 7]
def ybtk:LO:=[o0 (.store 1 (.tmp 4) (.const (.bool false))) 0]
def ybwi:LO:=[ld' true 2 2 14 0,mv' 1 15 0,o3 (.call (.func 67) [(.tmp 14),(.tmp 15),(ci' 0)]) 16 3,o3 (.alloc 22 1 [.a (.slice none 0 0)]) 5 0,o0 (.store 1 (.tmp 5) (.tmp 16)) 15]
def ybuk:LO:=[ld' false 1 5 17 0,ln' 17 18 1,o3 (.mv (ci' 0)) 19 0]
def ybfi:LO:=[bn' .lss 19 18 20 0]
def ybis:LO:=[mv' 19 21 0,ix' 1 17 19 22 0,ld' false 1 22 23 2,mv' 21 6 7,mv' 23 7 15]
def ybki:LO:=[mv' 7 24 0,o3 (.bin .geq (.tmp 24) (ci' 0)) 25 1,mv' 25 26 3,⟨.load false 1 (.tmp 5),some 27,some (26,true),7⟩,⟨.mv (.tmp 7),some 28,some (26,true),7⟩,⟨.idx 1 (.tmp 27) (.tmp 28),some 29,some (26,true),31⟩,⟨.load false 1 (.tmp 29),some 30,some (26,true),63⟩,⟨.mv (.tmp 6),some 31,some (26,true),7⟩,⟨.bin .neq (.tmp 30) (.tmp 31),some 32,some (26,true),255⟩,o3 (.pick (.tmp 26) (.tmp 32) (.const (.bool false))) 33 511]
def ybvn:LO:=[o0 (.store 1 (.tmp 4) (.const (.bool false))) 0]
def ybpr:LO:=[o3 (.bin .add (.tmp 19) (ci' 1)) 34 0,mv' 34 19 1]
def ybmo:LO:=[ld' true 2 2 35 0,cl' 68 [35] 36 1]
def yyb:LO:=[mv' 37 8 0]
def yyi:LO:=[o3 (.alloc 81 1 [.i .i64 0,.i .i64 0]) 9 0,o0 (.store 2 (.tmp 9) (.tmp 38)) 1]
def yyk:LO:=[ld' false 1 5 39 0,mv' 8 40 0,ix' 1 39 40 41 3,ld' false 1 41 42 7,o3 (.bin .lss (.tmp 42) (ci' 0)) 43 15,mv' 43 44 31,⟨.load false 1 (.tmp 5),some 45,some (44,true),63⟩,⟨.faddr 0 1 (.tmp 9),some 46,some (44,true),63⟩,⟨.load false 1 (.tmp 46),some 47,some (44,true),191⟩,⟨.idx 1 (.tmp 45) (.tmp 47),some 48,some (44,true),511⟩,⟨.load false 1 (.tmp 48),some 49,some (44,true),1023⟩,⟨.bin .lss (.tmp 49) (ci' 0),some 50,some (44,true),2047⟩,o3 (.pick (.tmp 44) (.tmp 50) (.const (.bool false))) 51 4095]
def ybmj:LO:=[o0 (.store 1 (.tmp 4) (.const (.bool false))) 0]
def ybmr:LO:=[o0 (.store 1 (.tmp 4) (.const (.bool true))) 0]
def c29:SC:=(.seq (.reg false ybpm) (.seq (.seq (.reg false yboe) (.cond (.tmp 13) (.seq (.reg false ybtk) .ret) .skip)) (.seq (.reg false ybwi) (.seq (.seq (.reg false ybuk) (.block 0 (.loop (.seq (.reg false ybfi) (.seq (.cond (.tmp 20) .skip (.exit 0)) (.seq (.block 1 (.seq (.reg false ybis) (.seq (.reg false ybki) (.cond (.tmp 33) (.seq (.reg false ybvn) .ret) .skip)))) (.reg false ybpr))))))) (.seq (.seq (.reg false ybmo) (.block 2 (.range (.tmp 36) [37,38] (.seq (.reg false yyb) (.reg false yyi)) (.block 3 (.seq (.reg false yyk) (.cond (.tmp 51) (.seq (.reg false ybmj) .ret) .skip)))))) (.seq (.reg false ybmr) .ret))))))
theorem ybtr:Fn 29 c29 [.c 4 false 1]:=fn_0 Tryz.func29 (by kernel_rfl) (by kernel_rfl)
def ybqy:LO:=[o3 (.box 25 (.tmp 0)) 1 0,o3 (.alloc 31 1 [.i .i64 0,.b false,.b false,.i .i64 0,.i .i64 0]) 2 0]
def ybok:LO:=[ld' true 2 1 5 0,cl' 27 [5] 6 1,o3 (.un .not (.tmp 6)) 7 3]
def ybrm:LO:=[o3 (.build [.i .i64 0,.b false,.b false,.i .i64 0,.i .i64 0] []) 8 0,o0 (.store 5 (.tmp 2) (.tmp 8)) 1]
def ybuv:LO:=[ld' true 2 1 10 0,cl' 71 [10] 11 1,mv' 11 9 3,xt' 9 0 12 7,xt' 9 1 13 7,mv' 12 3 15,mv' 13 4 63]
def ybxf:LO:=[mv' 4 14 0,o3 (.bin .mul (ci' 2) (.tmp 14)) 15 1,mv' 3 16 0,bn' .add 15 16 17 7,mv' 4 18 0,o3 (.bin .mul (ci' 2) (.tmp 18)) 19 16,mv' 3 20 0,bn' .add 19 20 21 112,o3 (.build [.i .i64 0,.b false,.b false,.i .i64 0,.i .i64 0] [(0,1,(ci' 2)),(2,1,(.const (.bool true))),(3,1,(.tmp 17)),(4,1,(.tmp 21))]) 22 255,o0 (.store 5 (.tmp 2) (.tmp 22)) 511]
def c31:SC:=(.seq (.reg false ybqy) (.seq (.seq (.reg false ybok) (.cond (.tmp 7) (.seq (.reg false ybrm) .ret) .skip)) (.seq (.reg false ybuv) (.seq (.reg false ybxf) .ret))))
theorem ybvk:Fn 31 c31 [.c 2 true 5]:=fn_0 Tryz.func31 (by kernel_rfl) (by kernel_rfl)
def ybpf:LO:=[o3 (.box 25 (.tmp 0)) 2 0,o3 (.mv (.const (.slice none 0 0))) 4 0]
def ybod:LO:=[ld' true 2 2 9 0,mv' 1 10 0,cl' 66 [9,10] 11 3,o3 (.un .not (.tmp 11)) 12 7]
def ybvx:LO:=[o3 (.mv (.const (.slice none 0 0))) 4 0]
def ybsw:LO:=[ld' true 2 2 13 0,mv' 1 14 0,o3 (.call (.func 67) [(.tmp 13),(.tmp 14),(ci' 0)]) 15 3,mv' 15 5 7]
def ybti:LO:=[o3 (.mv (.const (.slice none 0 0))) 6 0]
def ybrn:LO:=[mv' 5 16 0,ln' 16 17 1,o3 (.mv (ci' 0)) 18 0]
def ybft:LO:=[bn' .lss 18 17 19 0]
def ybko:LO:=[mv' 18 20 0,ix' 1 16 18 21 0,ld' false 1 21 22 2,mv' 20 7 7,mv' 22 8 15]
def ybja:LO:=[mv' 8 23 0,mv' 7 24 0,bn' .gtr 23 24 25 3,mv' 25 26 7,⟨.mv (.tmp 5),some 27,some (26,true),15⟩,⟨.mv (.tmp 8),some 28,some (26,true),15⟩,⟨.idx 1 (.tmp 27) (.tmp 28),some 29,some (26,true),63⟩,⟨.load false 1 (.tmp 29),some 30,some (26,true),127⟩,⟨.mv (.tmp 7),some 31,some (26,true),15⟩,⟨.bin .eql (.tmp 30) (.tmp 31),some 32,some (26,true),511⟩,o3 (.pick (.tmp 26) (.tmp 32) (.const (.bool false))) 33 1023]
def ybwf:LO:=[mv' 6 34 0,mv' 7 35 0,mv' 8 36 0,o3 (.build [.i .i64 0,.i .i64 0] [(0,1,(.tmp 35)),(1,1,(.tmp 36))]) 37 6,o3 (.bslice 75 2 1 [.i .i64 0,.i .i64 0] [(0,2,(.tmp 37))]) 38 14,o3 (.app 75 2 16 (.tmp 34) (.tmp 38)) 39 31,mv' 39 6 63]
def yxp:LO:=[o3 (.bin .add (.tmp 18) (ci' 1)) 40 0,mv' 40 18 1]
def ybma:LO:=[mv' 6 41 0,mv' 41 4 1]
def c34:SC:=(.seq (.reg false ybpf) (.seq (.seq (.reg false ybod) (.cond (.tmp 12) (.seq (.reg false ybvx) .ret) .skip)) (.seq (.reg false ybsw) (.seq (.reg false ybti) (.seq (.seq (.reg false ybrn) (.block 0 (.loop (.seq (.reg false ybft) (.seq (.cond (.tmp 19) .skip (.exit 0)) (.seq (.block 1 (.seq (.reg false ybko) (.seq (.reg false ybja) (.cond (.tmp 33) (.reg false ybwf) .skip)))) (.reg false yxp))))))) (.seq (.reg false ybma) .ret))))))
theorem ybuf:Fn 34 c34 [.t 4]:=fn_0 Tryz.func34 (by kernel_rfl) (by kernel_rfl)
def ybrk:LO:=[o3 (.mv (.const (.slice none 0 0))) 0 0]
def ybst:LO:=[o3 (.call (.func 108) [(.const (.string (ByteArray.mk #[112])))]) 1 0,o3 (.bslice 93 6 1 [.a (.string (ByteArray.mk #[])),.i .i64 0,.i .i64 0,.i .i64 0,.i .i64 0,.i .i64 0] [(0,6,(.tmp 1))]) 2 1,mv' 2 0 3]
def c69:SC:=(.seq (.reg false ybrk) (.seq (.reg false ybst) .ret))
theorem ybsq:Fn 69 c69 [.t 0]:=fn_0 Tryz.func69 (by kernel_rfl) (by kernel_rfl)
def ybrt:LO:=[o3 (.box 25 (.tmp 0)) 1 0,o3 (.mv (.const (.bool false))) 2 0]
def ybug:LO:=[ld' true 2 1 3 0,cl' 65 [3] 4 1,mv' 4 2 3]
def c28:SC:=(.seq (.reg false ybrt) (.seq (.reg false ybug) .ret))
theorem ybwh:Fn 28 c28 [.t 2]:=fn_0 Tryz.func28 (by kernel_rfl) (by kernel_rfl)
def ybpi:LO:=[o3 (.box 25 (.tmp 0)) 1 0,o3 (.alloc 31 1 [.i .i64 0,.b false,.b false,.i .i64 0,.i .i64 0]) 2 0]
def ybpt:LO:=[ld' true 2 1 5 0,cl' 28 [5] 6 1,o3 (.un .not (.tmp 6)) 7 3]
def ybrx:LO:=[o3 (.build [.i .i64 0,.b false,.b false,.i .i64 0,.i .i64 0] []) 8 0,o0 (.store 5 (.tmp 2) (.tmp 8)) 1]
def ybsd:LO:=[ld' true 2 1 10 0,cl' 72 [10] 11 1,mv' 11 9 3,xt' 9 0 12 7,xt' 9 1 13 7,mv' 12 3 15,mv' 13 4 63]
def ybud:LO:=[mv' 4 14 0,o3 (.bin .mul (ci' 2) (.tmp 14)) 15 1,mv' 3 16 0,bn' .add 15 16 17 7,mv' 4 18 0,o3 (.bin .mul (ci' 2) (.tmp 18)) 19 16,mv' 3 20 0,bn' .add 19 20 21 112,o3 (.build [.i .i64 0,.b false,.b false,.i .i64 0,.i .i64 0] [(0,1,(ci' 2)),(2,1,(.const (.bool true))),(3,1,(.tmp 17)),(4,1,(.tmp 21))]) 22 255,o0 (.store 5 (.tmp 2) (.tmp 22)) 511]
def c32:SC:=(.seq (.reg false ybpi) (.seq (.seq (.reg false ybpt) (.cond (.tmp 7) (.seq (.reg false ybrx) .ret) .skip)) (.seq (.reg false ybsd) (.seq (.reg false ybud) .ret))))
theorem ybwd:Fn 32 c32 [.c 2 true 5]:=fn_0 Tryz.func32 (by kernel_rfl) (by kernel_rfl)
end Sh
end
section
theorem yben{g:Gr}(hg:ybf g){c:Conf}(h:MtC g c){v:Nat}(hv:v<g.ids.length):-1<=mtW g c v/\mtW g c v<(g.ports.length:Int):=by
 have hpl:=hg.2.2.1;have hr:=(h.row v hv).2;have hat:mtW g c v=if pAt c v>=0 then((g.ports.getD v []).getD (pAt c v).toNat (0,0)).1 else -1:=Sh.ypl (by rw[h.len];exact hv)
 rw[hat];have h1:=hg.1;split
 ·have hk:(pAt c v).toNat<(g.ports.getD v []).length:=by omega
  have hm:=ych hg (show v<g.ports.length by omega) (zM hk)
  rw[Sh.getD_at hk];omega
 ·omega
def mtPB(g:Gr)(c:Conf)(v:Nat):Bool:=decide (mtW g c v>(v:Int))&&(mtW g c (mtW g c v).toNat==(v:Int))
def ycs(g:Gr)(c:Conf)(k:Nat):List (Int×Int):=((zX k).filter (mtPB g c)).map fun v=>((v:Nat),mtW g c v)
def yjk(g:Gr)(c:Conf):List (Int×Int):=if yci g c=true then ycs g c c.length else[]
theorem ykr(g:Gr)(c:Conf)(k:Nat):ycs g c (k+1)=if mtPB g c k=true then ycs g c k++[(((k:Nat):Int),mtW g c k)]else ycs g c k:=by
 unfold ycs;rw[List.range_succ,List.filter_append,zAH];cases h:mtPB g c k<;>simp[List.filter,h]
theorem yia(g:Gr)(c:Conf):∀k,(ycs g c k).length<=k:=fun k=>by
 unfold ycs;rw[List.length_map];exact Nat.le_trans (List.length_filter_le _ _) (by simp)
def ygg(g:Gr):Sh.SV:=if ybq g=true then .ag (Sh.clmV 2 false true (2*yfu g+g.ports.length:Nat) (2*yfu g+g.ports.length:Nat))else .ag (Sh.clmV 0 false false 0 0)
namespace Sh
open Ev Go.RowKit
theorem yqg{g:Gr}(hI:GrI g):Returns zH 27 [grV g] (.b (ybq g)):=by
 refine Returns.of (ybvp _ _ ?_);have hC:=yji hI;simp only[grV]at hC;simp only[c27,ybsk,ybsn,grV,go_sem,zA,zB,zC,↓reduceIte];refine hC.use ?_;simp only[ybx,ybri,go_sem,zA,zB,↓reduceIte,reduceCtorEq]
theorem yhh{g:Gr}(hI:GrI g):Returns zH 28 [grV g] (.b (ybq g)):=by
 refine Returns.of (ybwh _ _ ?_);have hC:=yjy hI;simp only[grV]at hC;simp only[c28,ybrt,ybug,grV,go_sem,zA,zB,zC,↓reduceIte];refine hC.use ?_;simp only[ybx,ybri,go_sem,zA,zB,↓reduceIte,reduceCtorEq]
theorem yss{g:Gr}(hI:GrI g){c:Conf}(hR:yml c):Returns zH 66 [grV g,ybu c] (.b (yci g c)):=by
 refine Returns.of (ybvf _ _ ?_);have hF:=yqg hI;unfold yci;cases ht:ybq g with
 | false =>
   rw[ht]at hF;simp only[grV]at hF;simp only[c66,ybrj,ybnd,grV,clash,go_sem,zA,zB,zC,↓reduceIte];refine hF.use ?_;simp only[ybx,clash,go_sem,zA,zB,↓reduceIte,reduceCtorEq];exact Sim.refl _
 | true =>
   have hg:=(ycp g).1 ht
   have hC:=ybhb hg hR (G:=[-1]) (fun x hx=>by
    simp at hx;subst hx;exact ikw (by omega) (by omega))
   rw[ht]at hF;simp only[grV]at hF;simp only[c66,ybrj,ybnd,grV,clash,go_sem,zA,zB,zC,↓reduceIte];refine hF.use ?_;simp only[ybx,ybi,splice,clash,go_sem,zA,zB,zC,↓reduceIte,reduceCtorEq];have one:∀{q:Nat},q<1->q=0:=fun {q} h=>by omega
   refine .inl ⟨fun q hq=>by obtain rfl:=one hq;simp only[go_sem],hC.useS ?_ ?_⟩
   ·refine⟨Sim.refl (grV g),Sim.refl _,?_,trivial⟩;refine yqm fun q hq=>?_;obtain rfl:=one hq;simp only[zAA,go_sem];exact⟨Sim.refl _,trivial⟩
   simp only[go_sem];exact Sim.refl _
set_option maxHeartbeats 2000000 in
theorem yyv{g:Gr}(hI:GrI g){c:Conf}(hR:yml c):Returns zH 29 [grV g,ybu c] (.b (ybo g c)):=by
 refine Returns.of (ybtr _ _ ?_);have hC:=yss hI hR;cases hcf:yci g c with
 | false =>
   have e:ybo g c=false:=by unfold ybo;rw[hcf];rfl
   rw[hcf]at hC;rw[e];simp only[grV]at hC;simp only[c29,ybpm,yboe,ybtk,grV,clash,go_sem,zA,zB,zC,↓reduceIte,reduceCtorEq];refine hC.use ?_;simp only[ybx,clash,go_sem,zA,zB,↓reduceIte];exact Sim.refl _
 | true =>
   obtain⟨hg,hcl,hc1⟩:=yez hcf;have hM:=yox hcf;have h24:=hg.2.1;have hpl:=hg.2.2.1;have hT:=ymj (g:=g) (c:=c) (x:=0) (by omega) (by omega) (by omega) (fun v hv=>by obtain⟨a,b,d⟩:=hc1 v hv;exact⟨by omega,d⟩)
   have hLk:=ybbw (g:=g);have hTl:=ypq g c 0;have hWi:=fun v (hv:v<g.ids.length)=>yben hg hM hv;have hLe:ybo g c=(yyl g c&&yxu g c):=by unfold ybo;rw[hcf];rfl
   have hPe:yyl g c=(zX c.length).all fun v=>!(decide (mtW g c v>=0)&&(mtW g c (mtW g c v).toNat != (v:Int))):=rfl;have hQe:yxu g c=(flatAt 0 g.ports).all fun e=>!(decide (mtW g c e.v<0)&&decide (mtW g c e.a.toNat<0)):=rfl;obtain⟨W,hW⟩:∃W:Nat->Int,(fun v=>mtW g c v)=W:=⟨_,rfl⟩;have hW':∀v,mtW g c v=W v:=fun v=>by rw[<-hW]
   have hTW:∀v,(towP g c 0).getD v 0=W v:=fun v=>hW' v;obtain⟨T,hTe⟩:∃T,towP g c 0=T:=⟨_,rfl⟩;obtain⟨n,hn⟩:∃n,c.length=n:=⟨_,rfl⟩;simp only[hW']at hPe hQe hWi;rw[hTe]at hT hTl hTW;rw[hn]at hTl hPe hcl;rw[hcf]at hC;rw[hLe];simp only[grV]at hC hT hLk;simp only[ybi,hTl]at hT;simp only[c29,ybpm,yboe,ybwi,grV,clash,go_sem,zA,zB,zC,↓reduceIte,reduceCtorEq];refine hC.use ?_;simp only[ybx,clash,go_sem,zA,zB,zC,↓reduceIte,reduceCtorEq]
   refine hT.use ?_;simp only[ybuk,clash,go_sem,zB,↓reduceIte]
   refine yfm (σ:=Nat) (fun k=>⟨[(19,.i .i64 k),(18,.i .i64 n),(17,.sl 1 n fun v=>[.i .i64 (T.getD v 0)]),(2,.pt (2,0) 0 0),(4,.pt (4,0) 0 0),(5,.pt (5,0) 0 0)],
    [(2,.one (some ⟨25,true,2,1,fun _=>[ybi g.ids,yba g.ports]⟩)),(4,.one (some ⟨4,true,1,1,fun _=>[.b false]⟩)),(5,.one (some ⟨22,true,1,1,fun _=>[.sl 1 n fun v=>[.i .i64 (T.getD v 0)]]⟩))]⟩)
      (fun k=>k<=n/\∀j,j<k->(decide (W j>=0)&&(W (W j).toNat != (j:Int)))=false) (fun k=>n-k) 0 ⟨zV _,fun j hj=>absurd hj (zAI j)⟩ ?_ ?_
   ·refine ybd [] [] [] ?_;simp only[go_sem,allQ,live,yw,zS,go_sem,zA,↓reduceIte,reduceCtorEq]
   rintro k ⟨hk,hall⟩
   by_cases hlt:k<n
   ·have t1:decide ((k:Int)<(n:Int))=true:=decide_eq_true (by omega)
    obtain⟨w1,w2⟩:=hWi k (by omega)
    have hTk:=hTW k;obtain⟨x,hx⟩:∃x,W k=x:=⟨_,rfl⟩;rw[hx]at w1 w2 hTk;have hTx:=hTW x.toNat;obtain⟨y,hy⟩:∃y,W x.toNat=y:=⟨_,rfl⟩;rw[hy]at hTx
    by_cases q:x>=0
    ·have t2:decide (x>=0)=true:=decide_eq_true q
     by_cases r:y=(k:Int)
     ·have t3:(y != (k:Int))=false:=by rw[r];simp
      simp only[ybfi,ybis,ybki,ybpr,hTk,hTx,t1,t2,t3,clash,go_sem,zA,zB,↓reduceIte,reduceCtorEq]
      repeat (refine⟨by omega,?_⟩)
      refine⟨ikw (by omega) (by omega),?_⟩
      refine ybj (k+1) ⟨by omega,fun j hj=>?_⟩ (by omega) ?_
      ·by_cases q2:j=k
       ·rw[q2,hx,hy,t2,t3];rfl
       ·exact hall j (by omega)
      ·refine ybd [] [] [] ?_;simp only[go_sem,allQ,live,yw,yfn,go_sem,zA,↓reduceIte,reduceCtorEq];omega
     ·have t3:(y != (k:Int))=true:=by rw[bne_iff_ne];exact r
      have e:(zX n).all (fun v=>!(decide (W v>=0)&&(W (W v).toNat != (v:Int))))=false:=by
       rw[zAD];exact⟨k,List.mem_range.2 hlt,by rw[hx,hy,t2,t3];decide⟩
      rw[hPe,e,zAJ];simp only[ybfi,ybis,ybki,ybvn,hTk,hTx,t1,t2,t3,clash,go_sem,zA,zB,↓reduceIte,reduceCtorEq]
      repeat (refine⟨by omega,?_⟩)
      exact Sim.refl _
    ·have t2:decide (x>=0)=false:=decide_eq_false q;simp only[ybfi,ybis,ybki,ybpr,hTk,t1,t2,clash,go_sem,zA,zB,↓reduceIte,reduceCtorEq]
     repeat (refine⟨by omega,?_⟩)
     refine⟨ikw (by omega) (by omega),?_⟩
     refine ybj (k+1) ⟨by omega,fun j hj=>?_⟩ (by omega) ?_
     ·by_cases q2:j=k
      ·rw[q2,hx,t2];rfl
      ·exact hall j (by omega)
     ·refine ybd [] [] [] ?_;simp only[go_sem,allQ,live,yw,yfn,go_sem,zA,↓reduceIte,reduceCtorEq];omega
   ·obtain rfl:k=n:=by omega
    have t1:decide ((k:Int)<(k:Int))=false:=decide_eq_false (by omega)
    have e:(zX k).all (fun v=>!(decide (W v>=0)&&(W (W v).toNat != (v:Int))))=true:=by
     rw[zT];exact fun v hv=>by rw[hall v (List.mem_range.1 hv)];rfl
    rw[hPe,e,zN];simp only[ybfi,ybmo,t1,go_sem,zA,zB,↓reduceIte];refine hLk.use ?_;simp only[ybx,clash,go_sem]
    refine ybjb (ybkl (ybfz hg)) [(2,0),(4,0),(5,0)] (fun i (_:Unit)=>⟨[(36,.fn 107 [] [.rf [ybi g.ids,yba g.ports]]),(2,.pt (2,0) 0 0),(4,.pt (4,0) 0 0),(5,.pt (5,0) 0 0)],
     [(2,.one (some ⟨25,true,2,1,fun _=>[ybi g.ids,yba g.ports]⟩)),(4,.one (some ⟨4,true,1,1,fun _=>[.b false]⟩)),(5,.one (some ⟨22,true,1,1,fun _=>[.sl 1 k fun v=>[.i .i64 (T.getD v 0)]]⟩))]⟩)
       (fun i _=>i<=(flatAt 0 g.ports).length/\∀j,j<i->(decide (W (yck g.ports j).v<0)&&decide (W (yck g.ports j).a.toNat<0))=false) () ⟨zV _,fun j hj=>absurd hj (zAI j)⟩ ⟨fun _ h=>absurd h zAG,fun _ h=>absurd h zAG⟩ ?_ (fun _=>rfl) ?_ ?_ ?_
    ·refine ybd [] [] [] ?_;simp only[go_sem,allQ,live,yw,go_sem,zA,↓reduceIte,reduceCtorEq]
    ·intro i _ hi _;refine⟨trivial,?_⟩;simp only[go_sem,allQ,go_sem,zA]
    ·intro i _ hi hlti;obtain⟨hi,hgood⟩:=hi;have hlti:i<(flatAt 0 g.ports).length:=hlti;obtain⟨e1,e2⟩:=yth hg hlti;have hel:yck g.ports i∈flatAt 0 g.ports:=by unfold yck;rw[getD_at hlti];exact zM hlti
     obtain⟨E,hE⟩:∃E,yck g.ports i=E:=⟨_,rfl⟩;rw[hE]at e1 e2 hel;obtain⟨a1,a2,_⟩:=ych hg e1 e2;have a1:0<=E.a:=a1;have a2:E.a.toNat<g.ports.length:=a2;have h1:=hTW E.v;have h2:=hTW E.a.toNat;obtain⟨x,hx⟩:∃x,W E.v=x:=⟨_,rfl⟩;obtain⟨y,hy⟩:∃y,W E.a.toNat=y:=⟨_,rfl⟩;rw[hx]at h1;rw[hy]at h2;refine⟨_,rfl,?_⟩;simp only[ybmk]
     have next:(decide (x<0)&&decide (y<0))=false->i+1<=(flatAt 0 g.ports).length/\∀j,j<i+1->(decide (W (yck g.ports j).v<0)&&decide (W (yck g.ports j).a.toNat<0))=false:=fun hb=>⟨hlti,fun j hj=>by
      by_cases q:j=i
      ·rw[q,hE,hx,hy];exact hb
      ·exact hgood j (by omega)⟩
     by_cases q:x<0
     ·have t2:decide (x<0)=true:=decide_eq_true q
      by_cases r:y<0
      ·have t3:decide (y<0)=true:=decide_eq_true r
       have e:(flatAt 0 g.ports).all (fun e=>!(decide (W e.v<0)&&decide (W e.a.toNat<0)))=false:=by
        rw[zAD];exact⟨E,hel,by rw[hx,hy,t2,t3];decide⟩
       rw[hQe,e];simp only[yyb,yyi,yyk,ybmj,hE,h1,h2,t2,t3,splice,clash,go_sem,zA,zB,zF,zC,↓reduceIte,reduceCtorEq]
       repeat (refine⟨by omega,?_⟩)
       exact Sim.refl _
      ·have t3:decide (y<0)=false:=decide_eq_false r;rw[t2,t3]at next
       simp only[yyb,yyi,yyk,hE,h1,h2,t2,t3,splice,clash,go_sem,zA,zB,zF,zC,↓reduceIte,reduceCtorEq]
       repeat (first|refine⟨(by omega:(_:Prop)),?_⟩|refine⟨(by decide:(_:Prop)),?_⟩)
       refine⟨next rfl,?_⟩
       refine yri [] [] [] ?_;simp only[go_sem,allQ,live,yw,go_sem,zA,↓reduceIte,reduceCtorEq]
     ·have t2:decide (x<0)=false:=decide_eq_false q;rw[t2]at next
      simp only[yyb,yyi,yyk,hE,h1,t2,splice,clash,go_sem,zA,zB,zC,↓reduceIte,reduceCtorEq]
      repeat (first|refine⟨(by omega:(_:Prop)),?_⟩|refine⟨(by decide:(_:Prop)),?_⟩)
      refine⟨next rfl,?_⟩
      refine yri [] [] [] ?_;simp only[go_sem,allQ,live,yw,go_sem,zA,↓reduceIte,reduceCtorEq]
    ·intro _ hgood;obtain⟨_,hgood⟩:=hgood
     have e:(flatAt 0 g.ports).all (fun e=>!(decide (W e.v<0)&&decide (W e.a.toNat<0)))=true:=by
      rw[zT];intro e he;obtain⟨j,hj,rfl⟩:=zU he;have:=hgood j hj;unfold yck at this;rw[getD_at hj]at this;rw[this];rfl
     rw[hQe,e];simp only[ybmr,splice,go_sem,zA,↓reduceIte];exact Sim.refl _
theorem yzw{g:Gr}(hI:GrI g):Returns zH 31 [grV g] (ygg g):=by
 refine Returns.of (ybvk _ _ ?_);have hF:=yqg hI;have hS:=ybdt hI;unfold ygg;unfold yban at hS;cases ht:ybq g with
 | false =>
   rw[ht]at hF;simp only[grV]at hF;simp only[c31,ybqy,ybok,ybrm,grV,clmV,clash,go_sem,zA,zB,zC,↓reduceIte];refine hF.use ?_;simp only[ybx,splice,clash,go_sem,zA,zB,↓reduceIte];exact Sim.refl _
 | true =>
   have hg:=(ycp g).1 ht;have h24:=hg.2.1;have hb:=ydr hg g.ports.length (zQ _);rw[yfx]at hb;have hl:yfu g<=288:=by unfold yfu;omega
   have e:2*((yfu g:Nat):Int)+((g.ports.length:Nat):Int)=((2*yfu g+g.ports.length:Nat):Int):=by omega
   rw[ht]at hF;rw[ht,if_pos rfl]at hS;simp only[grV]at hF hS;simp only[c31,ybqy,ybok,ybuv,ybxf,grV,clmV,clash,go_sem,zA,zB,zC,↓reduceIte];refine hF.use ?_;simp only[ybx,splice,clash,go_sem,zA,zB,zF,↓reduceIte,reduceCtorEq];refine hS.use ?_;simp only[e,go_sem,zA,zB,↓reduceIte];exact⟨ikw (by omega) (by omega),ikw (by omega) (by omega),ikw (by omega) (by omega),ikw (by omega) (by omega),Sim.refl _⟩
theorem ytk{g:Gr}(hI:GrI g):Returns zH 32 [grV g] (ygg g):=by
 refine Returns.of (ybwd _ _ ?_);have hF:=yhh hI;have hS:=ybcl hI;unfold ygg;unfold yban at hS;cases ht:ybq g with
 | false =>
   rw[ht]at hF;simp only[grV]at hF;simp only[c32,ybpi,ybpt,ybrx,grV,clmV,clash,go_sem,zA,zB,zC,↓reduceIte];refine hF.use ?_;simp only[ybx,splice,clash,go_sem,zA,zB,↓reduceIte];exact Sim.refl _
 | true =>
   have hg:=(ycp g).1 ht;have h24:=hg.2.1;have hb:=ydr hg g.ports.length (zQ _);rw[yfx]at hb;have hl:yfu g<=288:=by unfold yfu;omega
   have e:2*((yfu g:Nat):Int)+((g.ports.length:Nat):Int)=((2*yfu g+g.ports.length:Nat):Int):=by omega
   rw[ht]at hF;rw[ht,if_pos rfl]at hS;simp only[grV]at hF hS;simp only[c32,ybpi,ybpt,ybsd,ybud,grV,clmV,clash,go_sem,zA,zB,zC,↓reduceIte];refine hF.use ?_;simp only[ybx,splice,clash,go_sem,zA,zB,zF,↓reduceIte,reduceCtorEq];refine hS.use ?_;simp only[e,go_sem,zA,zB,↓reduceIte];exact⟨ikw (by omega) (by omega),ikw (by omega) (by omega),ikw (by omega) (by omega),ikw (by omega) (by omega),Sim.refl _⟩
theorem ysz:Returns zH 69 [] (yfa [⟨⟨#[112]⟩,3,0,0,0,0⟩]):=by
 refine Returns.of (ybsq _ _ ?_);have h1:=yxc ⟨#[112]⟩;simp only[varC]at h1;simp only[c69,ybrk,ybst,go_sem,↓reduceIte];refine h1.use ?_;simp only[ybx,splice,clash,go_sem,zA,zB,zC,↓reduceIte,reduceCtorEq];have one:∀{q:Nat},q<1->q=0:=fun {q} h=>by omega
 refine⟨fun q hq=>by obtain rfl:=one hq;simp only[go_sem],?_⟩
 refine yqm fun q hq=>?_;obtain rfl:=one hq;simp only[varC,zAA,go_sem];exact⟨Sim.refl _,Sim.refl _,Sim.refl _,Sim.refl _,Sim.refl _,Sim.refl _,trivial⟩
set_option maxHeartbeats 2000000 in
theorem ybal{g:Gr}(hI:GrI g){c:Conf}(hR:yml c):Returns zH 34 [grV g,ybu c] (ybc (yjk g c)):=by
 refine Returns.of (ybuf _ _ ?_);have hC:=yss hI hR;unfold yjk;cases hcf:yci g c with
 | false =>
   rw[hcf]at hC;simp only[grV]at hC;simp only[c34,ybpf,ybod,ybvx,grV,clash,go_sem,zA,zB,zC,↓reduceIte,reduceCtorEq];refine hC.use ?_;simp only[ybx,clash,ybc,go_sem,zB,↓reduceIte];exact yvl
 | true =>
   obtain⟨hg,hcl,hc1⟩:=yez hcf;have hM:=yox hcf;have h24:=hg.2.1;have hpl:=hg.2.2.1;have hT:=ymj (g:=g) (c:=c) (x:=0) (by omega) (by omega) (by omega) (fun v hv=>by obtain⟨a,b,d⟩:=hc1 v hv;exact⟨by omega,d⟩)
   have hTl:=ypq g c 0;have hWi:=fun v (hv:v<g.ids.length)=>yben hg hM hv;have hsu:=fun k=>ykr g c k;have hpl2:=fun k=>yia g c k;obtain⟨P,hP⟩:∃P:Nat->List (Int×Int),(fun k=>ycs g c k)=P:=⟨_,rfl⟩;have hP':∀k,ycs g c k=P k:=fun k=>by rw[<-hP]
   have hP0:P 0=[]:=by rw[<-hP'];rfl
   simp only[hP']at hsu hpl2;unfold mtPB at hsu;obtain⟨W,hW⟩:∃W:Nat->Int,(fun v=>mtW g c v)=W:=⟨_,rfl⟩;have hW':∀v,mtW g c v=W v:=fun v=>by rw[<-hW]
   have hTW:∀v,(towP g c 0).getD v 0=W v:=fun v=>hW' v;obtain⟨T,hTe⟩:∃T,towP g c 0=T:=⟨_,rfl⟩;obtain⟨n,hn⟩:∃n,c.length=n:=⟨_,rfl⟩;simp only[hW']at hsu hWi;rw[hTe]at hT hTl hTW;rw[hn]at hTl hcl;rw[hcf]at hC;rw[if_pos rfl,hP',hn];simp only[grV]at hC hT;simp only[ybi,hTl]at hT;simp only[c34,ybpf,ybod,ybsw,grV,clash,go_sem,zA,zB,zC,↓reduceIte,reduceCtorEq];refine hC.use ?_;simp only[ybx,clash,go_sem,zA,zB,↓reduceIte,reduceCtorEq]
   refine hT.use ?_;simp only[ybti,ybrn,clash,go_sem,zA,zB,↓reduceIte]
   refine yfm (σ:=Nat) (fun k=>⟨[(18,.i .i64 k),(17,.i .i64 n),(16,.sl 1 n fun v=>[.i .i64 (T.getD v 0)]),(5,.sl 1 n fun v=>[.i .i64 (T.getD v 0)]),(6,.os (100,0) 0 (P k).length true),(2,.pt (2,0) 0 0)],
    [(100,.one (some ⟨75,false,2,(P k).length,fun j=>[.i .i64 ((P k).getD j (0,0)).1,.i .i64 ((P k).getD j (0,0)).2]⟩)),(2,.one (some ⟨25,true,2,1,fun _=>[ybi g.ids,yba g.ports]⟩))]⟩)
      (fun k=>k<=n) (fun k=>n-k) 0 (zV _) ?_ ?_
   ·refine ybd [] [100] [] ?_;simp only[hP0,List.length_nil,allQ,live,yw,zS,go_sem,zA,zJ,↓reduceIte,reduceCtorEq];exact⟨(100,0),rfl,rfl,rfl⟩
   intro k hk
   by_cases hlt:k<n
   ·have t1:decide ((k:Int)<(n:Int))=true:=decide_eq_true (by omega)
    obtain⟨w1,w2⟩:=hWi k (by omega)
    have hTk:=hTW k;have hs:=hsu k;have hl:=hpl2 k;obtain⟨L,hL⟩:∃L,P k=L:=⟨_,rfl⟩;rw[hL]at hs hl;obtain⟨x,hx⟩:∃x,W k=x:=⟨_,rfl⟩;rw[hx]at w1 w2 hTk hs;have hTx:=hTW x.toNat;obtain⟨y,hy⟩:∃y,W x.toNat=y:=⟨_,rfl⟩;rw[hy]at hTx hs
    by_cases q:x>(k:Int)
    ·have t2:decide (x>(k:Int))=true:=decide_eq_true q
     by_cases r:y=(k:Int)
     ·have t3:(y==(k:Int))=true:=by rw[r];simp
      rw[t2,t3,zN,if_pos rfl]at hs;simp only[ybft,ybko,ybja,ybwf,yxp,hL,hTk,hTx,t1,t2,t3,splice,clash,go_sem,zA,zB,zF,zC,↓reduceIte,reduceCtorEq]
      repeat (refine⟨by omega,?_⟩)
      repeat (first|refine⟨ikw (by omega) (by omega),?_⟩|refine⟨⟨by omega,by omega⟩,?_⟩|refine⟨(by omega:(_:Prop)),?_⟩)
      refine ybj (k+1) (by omega) (by omega) ?_
      refine ybd [(100,fun i=>(39,i))] [] [] ?_;simp only[hs,List.length_append,allQ,live,yw,yfn,go_sem,zA,↓reduceIte,reduceCtorEq];refine⟨by omega,fun i hi=>?_⟩
      rw[ybvy]
      by_cases q2:i<L.length
      ·simp only[if_pos q2];simp only[go_sem,live,yw,go_sem,reduceCtorEq]
      ·obtain rfl:i=L.length:=by omega
       simp only[if_neg q2,Nat.sub_self,Nat.zero_mul];simp only[go_sem,live,yw,go_sem,↓reduceIte,reduceCtorEq]
     ·have t3:(y==(k:Int))=false:=by rw[beq_eq_false_iff_ne];exact r
      rw[t3,Bool.and_false,if_neg (by decide)]at hs
      simp only[ybft,ybko,ybja,yxp,hL,hTk,hTx,t1,t2,t3,clash,go_sem,zA,zB,↓reduceIte,reduceCtorEq]
      repeat (refine⟨by omega,?_⟩)
      refine⟨ikw (by omega) (by omega),?_⟩
      refine ybj (k+1) (by omega) (by omega) ?_
      refine ybd [] [] [] ?_;simp only[hs,allQ,live,yw,yfn,go_sem,zA,↓reduceIte,reduceCtorEq];omega
    ·have t2:decide (x>(k:Int))=false:=decide_eq_false q;rw[t2,zAJ,if_neg (by decide)]at hs
     simp only[ybft,ybko,ybja,yxp,hL,hTk,t1,t2,clash,go_sem,zA,zB,↓reduceIte,reduceCtorEq]
     repeat (refine⟨by omega,?_⟩)
     refine⟨ikw (by omega) (by omega),?_⟩
     refine ybj (k+1) (by omega) (by omega) ?_
     refine ybd [] [] [] ?_;simp only[hs,allQ,live,yw,yfn,go_sem,zA,↓reduceIte,reduceCtorEq];omega
   ·obtain rfl:k=n:=by omega
    have t1:decide ((k:Int)<(k:Int))=false:=decide_eq_false (by omega)
    simp only[ybft,ybma,t1,clash,ybc,go_sem,zA,zB,↓reduceIte,reduceCtorEq];refine yqm fun q hq=>?_;exact⟨⟨Sim.refl _,Sim.refl _,trivial⟩,rfl⟩
end Sh
end
section
end
section
end
section
def yxl(g:Gr)(c:Conf)(v:Nat):Bool:=decide ((v:Int)<mtT g c v)&&(mtT g c (mtT g c v).toNat==(v:Int))
section
variable {g:Gr}{c:Conf}{u v k i:Nat}
theorem yza(hg:ybf g)(h:MtC g c)(hv:v<g.ids.length):yxl g c v=true↔∃u,toP g c v=some u/\toP g c u=some v/\v<u:=by
 have hpl:=hg.2.2.1;unfold yxl;rw[zO,decide_eq_true_iff,beq_iff_eq];constructor
 ·rintro⟨h1,h2⟩;cases e:toP g c v with
  |none=>have:=(yjm hg h hv).2 e;omega
  | some u =>
    have ev:=(ygf hg h hv).2 e;have hu:=(hg.adj_lt (yls hg h e)).2;rw[ev,zAE]at h2;exact⟨u,rfl,(ygf hg h (by omega)).1 h2,by omega⟩
 ·rintro⟨u,h1,h2,h3⟩;have ev:=(ygf hg h hv).2 h1;have hu:=(hg.adj_lt (yls hg h h1)).2;rw[ev,zAE];exact⟨by omega,(ygf hg h (by omega)).2 h2⟩
end
end
section
theorem Sys.run_next(S:Sys)(res:Nat->Nat->Nat):∀(ws:List Nat) (c:Conf) (k:Cnt) (i:Nat) (p q:Conf×Cnt),((c,k)::S.run res ws c k)[i]?=some p->((c,k)::S.run res ws c k)[i+1]?=some q ->
 S.en p.1≠0/\∃w,q.1=S.mv p.1 (res (S.en p.1) w)
 | [],c,k,i,p,q,_,h2=>by
   have h2:(S.run res [] c k)[i]?=some q:=h2;unfold Sys.run at h2;simp at h2
 | w :: ws,c,k,i,p,q,h1,h2=>by
   by_cases h0:S.en c=0
   ·have h2:(S.run res (w::ws) c k)[i]?=some q:=h2;unfold Sys.run at h2;rw[if_pos h0]at h2;simp at h2
   ·have e:S.run res (w::ws) c k=(S.mv c (res (S.en c) w),addP k (res (S.en c) w) (S.en (S.mv c (res (S.en c) w))))::S.run res ws (S.mv c (res (S.en c) w)) (addP k (res (S.en c) w) (S.en (S.mv c (res (S.en c) w)))):=by
     conv=>lhs;unfold Sys.run
     exact if_neg h0
    rw[e]at h1 h2;cases i with
    | zero =>
      have h1:some (c,k)=some p:=h1;have h2:some (S.mv c (res (S.en c) w),_)=some q:=h2;cases h1
      cases h2
      exact⟨h0,w,rfl⟩
    |succ i=>exact Sys.run_next S res ws _ _ i p q h1 h2
theorem Sh.RunD.next{S:Sys}{res:Nat->Nat->Nat}{ws:List Nat}{c:Conf}{n:Nat}{Cs:List Conf}{Ks:List Cnt}(h:Sh.RunD S res ws c n Cs Ks){k:Nat}(hk:k+1<n) :
 S.en (Cs.getD k [])≠0/\∃w,Cs.getD (k+1) []=S.mv (Cs.getD k []) (res (S.en (Cs.getD k [])) w) :=
 Sys.run_next S res ws c _ k _ _ (h.at_ (show k<n by omega)).2 (h.at_ hk).2
section
variable {nm np na nb nw:ByteArray}{g:Gr}{c:Conf}{v s:Nat}
theorem ybom(hg:ybf g)(h:MtC g c)(hv:v<g.ids.length):mtPB g c v=yxl g c v:=by
 have hpl:=hg.2.2.1;have e:=ybew hg h hv;unfold mtPB yxl;rw[e]
 by_cases q:(v:Int)<mtT g c v
 ·have hi:=yben hg h hv;rw[e]at hi;rw[ybew hg h (show(mtT g c v).toNat<g.ids.length by omega)]
 ·have q1:decide (mtT g c v>(v:Int))=false:=decide_eq_false q;have q2:decide ((v:Int)<mtT g c v)=false:=decide_eq_false q;rw[q1];rfl
end
end
section
namespace Sh
open Go Ev
end Sh
end
section
structure LdC(g:Gr)(c:Conf):Prop where
 len:c.length=g.ids.length
 row:∀v,v<g.ids.length->(c.getD v []).length=3/\(0<=(c.getD v []).getD 0 0/\(c.getD v []).getD 0 0<=ygr g)/\(0<=(c.getD v []).getD 1 0/\(c.getD v []).getD 1 0<g.ids.length)/\(-1<=(c.getD v []).getD 2 0/\(c.getD v []).getD 2 0<(g.ports.getD v []).length)
section
variable {nm nl nd np no nj:ByteArray}{g:Gr}{c:Conf}{v:Nat}
theorem LdC.link(h:LdC g c)(hg:ybf g)(hv:v<g.ids.length){l:Int×Int}(hl:l∈g.ports.getD v []):0<=l.1/\l.1.toNat<g.ids.length/\adj g v l.1.toNat/\(0<=endP c 0 l/\endP c 0 l<=ygr g)/\(0<=endP c 1 l/\endP c 1 l<g.ids.length):=by
 have hpl:=hg.2.2.1;obtain⟨h1,h2,h3,_⟩:=ych hg (by omega) hl
 have h4:=h.row l.1.toNat (by omega)
 exact⟨h1,by omega,h3,h4.2.1,h4.2.2.1⟩
end
end
section
section
variable {nm nl nd np no nj:ByteArray}{g:Gr}{c:Conf}{v:Nat}
end
end
section
section
variable {nm nl nd np no nj:ByteArray}{g:Gr}{c:Conf}{v:Nat}
end
end
section
namespace Sh
open Ev Go.RowKit
end Sh
end
section
namespace Sh
open Go Ev
end Sh
end
section
namespace Sh
open Ev Go.RowKit
end Sh
end
section
open Go.RowKit
theorem ybpp(gv:Value)(g:Gr)(w:World)(hg:GrAt w gv g) :
 Calls zH 83 #[gv] w fun e w'=>e = .returned (.int .i64 (ygr g))/\Below w.heap.size w w':=by
 obtain⟨i,p,rfl,hi,hp⟩:=hg;obtain⟨A,c,rfl,hA1,hA2⟩:=ybh hi;have Hi:=zD hi
 clear hi hp
 go_enter Tryz.func83,Tryz.ntmps83
 go_wp2
 obtain⟨W1,hW1⟩:∃W,W=w.alloc (.cells #[.slice A g.ids.length c,p] 25):=⟨_,rfl⟩;have hbox:W1.cell? ⟨w.heap.size,0,none⟩=some (.slice A g.ids.length c):=by subst hW1;simp
 have HbW:=zD (show Below w.heap.size w W1 by subst hW1;exact(Below.refl _ _).alloc (zQ _) _)
 rw[<-hW1]
 clear hW1
 go_loopg [3,4] g.ids.length (fun q m t wr=>∃k:Nat,q+k=g.ids.length/\t = .int .i64 k/\wr=W1/\m = .int .i64 ((g.ids.take k).foldl max 0))
 case atStart=>exact⟨0,by omega,rfl,rfl,by simp⟩
 case round =>
  obtain⟨k,hq,rfl,rfl,rfl⟩:=hrel
  by_cases hlt:k<g.ids.length
  ·obtain⟨b,off,rfl,hb,hc,hr⟩:=ydz (Hi.out.below Stable.int HbW.out) hlt;have Hs:=zD (yzf g.ids k hlt)
   go_wp2
   all_goals
    go_roundg (gk-1)
    case measure=>omega
    case rel=>exact⟨k+1,by omega,by go_num,rfl,by rw[Hs.out];try (congr 1;omega)⟩
  ·obtain rfl:k=g.ids.length:=by omega
   go_wp2
   go_ret
   exact⟨yub (by rw[zAF];rfl),HbW.out⟩
theorem yhs(g:Gr)(vars:List VarR)(v:Nat):(yew g vars v).length=vars.length:=by simp[yew]
set_option maxHeartbeats 4000000 in
set_option maxRecDepth 100000 in
theorem yzs(gv cv vv:Value)(g:Gr)(c:Conf)(vars:List VarR)(w:World)(hg:GrAt w gv g)(hc:ybgo w cv c)(hv:yblz w vv vars)(hfit:∀x∈vars,ybfq x) :
 Calls zH 48 #[gv,cv,vv] w fun e w'=>e = .returned (.bool (ydj g c vars))/\Below w.heap.size w w':=by
 have hg0:=zD hg;obtain⟨i,p,rfl,hi,hp⟩:=hg;obtain⟨A2,c2,rfl,hB1,hB2⟩:=ybh hp;obtain⟨A3,c3,rfl,hC1,hC2⟩:=ybh hc;obtain⟨A4,c4,rfl,hD1,hD2⟩:=ybh hv;have Hp:=zD hp;have Hc:=zD hc;have Hv:=zD hv;have Hfit:=zD hfit
 clear hi hp hc hv hfit
 cases hvd:ybq g with
 | false =>
   have Hf:=zD (show ydj g c vars=false by unfold ydj;rw[hvd];rfl)
   go_enter zY,zAC
   go_wp2_with fail
   refine(yfg _ g _ (hg0.out.below ((Below.refl _ _).alloc (zQ _) _))).mono ?_;rintro e w1 ⟨rfl,hb1⟩
   go_wp2_with fail
   go_ret
   exact⟨yu Hf.out.symm,ymc hb1⟩
 | true =>
   have hgood:=(ycp g).1 hvd;have hn24:=hgood.2.1;have htop:=yuo hgood;obtain⟨htop1,htop2⟩:=htop;have Hrc:=zD (show ydj g c vars=yku g.ports.length (yew g vars) c by unfold ydj;rw[hvd];rfl)
   clear hgood
   by_cases n1:c.length=g.ports.length
   ·have n1':((c.length:Int)!=(g.ports.length:Int))=false:=by simp[n1]
    have Hn:=zD n1;have hcn:c.length<=24:=by omega
    clear n1
    go_enter zY,zAC
    go_wp2_with fail
    refine(yfg _ g _ (hg0.out.below ((Below.refl _ _).alloc (zQ _) _))).mono ?_;rintro e w1 ⟨rfl,hb1⟩;obtain⟨q0,q1⟩:=ybcf hb1;have Hb1:=zD (ymc hb1);have hsz1:w.heap.size<w1.heap.size:=World.block_lt_of_cell? _ _ q0
    clear hb1
    go_wp2
    go_loopg [8] g.ports.length (fun q t wr=>∃v:Nat,q+v=g.ports.length/\t = .int .i64 v/\Hid (Below w1.heap.size w1 wr)/\Hid (∀(u:Nat) s,u<v->c[u]?=some s->yhy (yew g vars u) s))
    case atStart=>exact⟨0,by omega,rfl,zD (Below.refl _ _),zD (fun u s hu=>absurd hu (by omega))⟩
    case round =>
     obtain⟨v,hq,rfl,hbel,hok⟩:=hrel;have Hbw:=zD (Hb1.out.trans (hbel.out.mono Hb1.out.size))
     by_cases hlt:v<g.ports.length
     ·have hvc:v<c.length:=by rw[Hn.out];exact hlt
      obtain⟨b3,off3,sv,rfl,hb3,hcs0,hs⟩:=ydy Hc.out (zG hvc);obtain⟨A5,c5,rfl,hE1,hE2⟩:=ybh hs;have hcs:=ybn Hbw.out _ _ hcs0;obtain⟨s,hse⟩:∃s,c[v]=s:=⟨_,rfl⟩;have Hs?:=zD (show c[v]?=some s by rw[zG hvc,hse])
      rw[hse]at hs hcs hcs0 hE1;have Hbad:=zD (show ¬yhy (yew g vars v) s->ydj g c vars=false from fun h=>by rw[Hrc.out];exact ygd (fun hc=>h (hc.2 v s Hs?.out)))
      have Hs:=zD hs
      clear hs hse
      by_cases k1:s.length=vars.length
      ·have k1':((s.length:Int)!=(vars.length:Int))=false:=by simp[k1]
       have Hsl:=zD k1
       clear k1
       go_wp2
       obtain⟨go,rfl⟩:∃go,go=gk:=⟨_,rfl⟩
       go_loopg [9] vars.length (fun q t wr=>∃x:Nat,q+x=vars.length/\t = .int .i64 x/\Hid (Below w1.heap.size w1 wr)/\Hid (∀(j:Nat) b z,j<x->(yew g vars v)[j]?=some b->s[j]?=some z->b.1<=z/\z<=b.2))
       case atStart=>exact⟨0,by omega,rfl,hbel,zD (fun j b z hj=>absurd hj (by omega))⟩
       case round =>
        clear hbel Hbw hcs
        obtain⟨x,hqx,rfl,hbel,hst⟩:=hrel;have Hbw:=zD (Hb1.out.trans (hbel.out.mono Hb1.out.size));have p0:=ybn hbel.out _ _ q0;have p1:=ybn hbel.out _ _ q1;have hszr:w.heap.size<wr.heap.size:=World.block_lt_of_cell? _ _ p0
        by_cases hxl:x<vars.length
        ·obtain⟨b4,o4,rfl,hb4,hE⟩:=(show ∃b off,A4=some ⟨b,off,none⟩/\b<w.heap.size/\∀j y,vars[j]?=some y->varE w b (off+j*6) y by
          obtain⟨_,_,e,_,_,hh⟩:=Hv.out;cases e
          exact hh (by omega))
         obtain⟨⟨nm,kd,lo,hi',pn,pid⟩,hy⟩:∃y,vars[x]=y:=⟨_,rfl⟩;have hy?:vars[x]?=some ⟨nm,kd,lo,hi',pn,pid⟩:=by rw[zG hxl,hy]
         obtain⟨_,e1,e2,e3,e4,e5⟩:=hE x _ hy?;simp only at e1 e2 e3 e4 e5;obtain⟨f1,f2,f3,f4⟩:=Hfit.out _ (List.mem_of_getElem? hy?);simp only at f1 f2 f3 f4;have g1:=ybn Hbw.out _ _ e1;have g2:=ybn Hbw.out _ _ e2;have g3:=ybn Hbw.out _ _ e3;have g4:=ybn Hbw.out _ _ e4;have g5:=ybn Hbw.out _ _ e5
         clear hE hy e1 e2 e3 e4 e5
         obtain⟨f1a,f1b⟩:=f1;obtain⟨f2a,f2b⟩:=f2;obtain⟨f3a,f3b⟩:=f3;obtain⟨f4a,f4b⟩:=f4;have m1:0<=pn*(g.ports.length:Int):=zAK f3a (by omega)
         have m2:pn*(g.ports.length:Int)<=1000*24:=zAL f3b (by omega) (by omega) (by omega)
         have m3:0<=pid*ygr g:=zAK f4a htop1;have m4:pid*ygr g<=1000*255:=zAL f4b htop2 htop1 (by omega)
         have hbb?:(yew g vars v)[x]?=some (yqx g v ⟨nm,kd,lo,hi',pn,pid⟩):=by simp[yew,hy?]
         obtain⟨b7,o7,lv,rfl,hb7,hc70,hl7⟩:=ydy Hp.out (zG hlt);obtain⟨A8,c8,rfl,hF1,hF2⟩:=ybh hl7;obtain⟨ds,hds⟩:∃ds,g.ports[v]=ds:=⟨_,rfl⟩;have hdeg:yrz g v=ds.length:=by simp[yrz,zAM,zG hlt,hds]
         rw[hds]at hc70 hF1;have hxs:x<s.length:=by rw[Hsl.out];exact hxl
         obtain⟨b5,o5,rfl,hb5,hc50,hr5⟩:=ydz Hs.out hxs;obtain⟨z,hz⟩:∃z,s[x]=z:=⟨_,rfl⟩;have Hz?:=zD (show s[x]?=some z by rw[zG hxs,hz])
         rw[hz]at hc50 hr5;obtain⟨hr5a,hr5b⟩:=hr5;have Hbv:=zD (show yqx g v ⟨nm,kd,lo,hi',pn,pid⟩=if kd=2 then(0,1)else if kd=3 then(-1,(ds.length:Int)-1)else(lo,hi'+pn*(g.ports.length:Int)+pid*ygr g)by unfold yqx;rw[hdeg])
         have Hb?:=zD hbb?;have HX:=zD (show _/\_/\_ from⟨hc70,hc50,hcs0⟩)
         clear hbb? hl7 hds hdeg hz hy? hc70 hc50
         have s1:IntKind.i64.wrap (pn*(g.ports.length:Int))=pn*(g.ports.length:Int):=IntWalk.i64_in _ (by omega)
         have s2:IntKind.i64.wrap (pid*ygr g)=pid*ygr g:=IntWalk.i64_in _ (by omega)
         have s3:IntKind.i64.wrap (hi'+pn*(g.ports.length:Int))=hi'+pn*(g.ports.length:Int):=IntWalk.i64_in _ (by omega)
         have s4:IntKind.i64.wrap (hi'+pn*(g.ports.length:Int)+pid*ygr g)=hi'+pn*(g.ports.length:Int)+pid*ygr g:=IntWalk.i64_in _ (by omega)
         go_wp2
         go_region_held3 (fun w'=>w'.cell? ⟨b4,o4+x*6+2,none⟩=some (.int .i64 lo)/\w'.cell? ⟨b4,o4+x*6+3,none⟩=some (.int .i64 hi')/\w'.cell? ⟨b4,o4+x*6+4,none⟩=some (.int .i64 pn)/\w'.cell? ⟨b4,o4+x*6+5,none⟩=some (.int .i64 pid)/\w'.cell? ⟨w.heap.size,0,none⟩=some i/\w'.cell? ⟨w.heap.size,1,none⟩=some (.slice (some ⟨b7,o7,none⟩) g.ports.length c2)) (first|go_keep|(refine⟨?_,?_,?_,?_,?_,?_⟩<;>exact ybn hbt _ _ (by assumption)))
          (first|(go_at_call 83;refine(ybpp _ g _ (hg0.out.below (by exact Hbw.out.drew))).mono ?_;rintro e wt ⟨rfl,hbt⟩))
         clear s1 s2 s3 s4 g2 g3 g4 g5 p0
         have HbT:=zD (show Below w1.heap.size w1 wt from hbel.out.drew.trans (hbt.mono hbel.out.size))
         have HbU:=zD (Hb1.out.trans (HbT.out.mono Hb1.out.size));have u1:=ybn hbt _ _ g1;have u2:=ybn HbT.out _ _ q1;have u3:=ybn HbU.out _ _ HX.out.1;have u4:=ybn HbU.out _ _ HX.out.2.1;have u5:=ybn HbU.out _ _ HX.out.2.2;have hH1:-100000<=hi'+pn*(g.ports.length:Int)+pid*ygr g:=by omega
         have hH2:hi'+pn*(g.ports.length:Int)+pid*ygr g<=1000000:=by omega
         clear hbt g1 p1 m1 m2 m3 m4
         obtain⟨H,hH⟩:∃H,hi'+pn*(g.ports.length:Int)+pid*ygr g=H:=⟨_,rfl⟩;rw[hH]at Hbv hH1 hH2 ⊢
         clear hH
         by_cases d1:kd=2
         ·have d1':(kd==2)=true:=by simp[d1]
          rw[if_pos d1]at Hbv
          clear d1
          by_cases t1:0<=z/\z<=1
          ·obtain⟨t1a,t1b⟩:=t1
           go_wp2_with fail
           refine(In_t _ _ _ _ (by omega) (by omega)).mono ?_
           rintro e w' ⟨rfl,rfl⟩
           go_wp2
           go_roundg (gk-1)
           case measure=>omega
           case rel =>
            refine⟨x+1,by omega,by go_num,zD (by first|exact HbT.out|exact HbT.out.drew|exact below_drewN HbT.out _|exact below_drewN HbT.out.drew _),zD (fun j b z' hj hb hz'=>?_)⟩
            by_cases hjx:j<x
            ·exact hst.out j b z' hjx hb hz'
            ·obtain rfl:j=x:=by omega
             rw[Hb?.out,Hbv.out]at hb;rw[Hz?.out]at hz';cases hb
             cases hz'
             exact⟨t1a,t1b⟩
          ·have Hf:=zD (Hbad.out (fun h=>t1 (by have:=h.2 x _ z Hb?.out Hz?.out;rw[Hbv.out]at this;exact this)))
           have t2:z<0\/1<z:=by omega
           clear t1
           go_wp2_with fail
           refine(In_f _ _ _ _ (by omega)).mono ?_
           rintro e w' ⟨rfl,rfl⟩
           go_wp2
           go_ret
           exact⟨yu Hf.out.symm,by first|exact HbU.out|exact HbU.out.drew|exact below_drewN HbU.out _|exact below_drewN HbU.out.drew _⟩
         ·have d1':(kd==2)=false:=by simp[d1]
          rw[if_neg d1]at Hbv
          clear d1
          by_cases d2:kd=3
          ·have d2':(kd==3)=true:=by simp[d2]
           rw[if_pos d2]at Hbv
           clear d2
           by_cases t1:-1<=z/\z<=(ds.length:Int)-1
           ·obtain⟨t1a,t1b⟩:=t1
            go_wp2
            go_quiet (fail)
            go_wp2_with fail
            refine(In_t _ _ _ _ (by omega) (by omega)).mono ?_
            rintro e w' ⟨rfl,rfl⟩
            go_wp2
            go_roundg (gk-1)
            case measure=>omega
            case rel =>
             refine⟨x+1,by omega,by go_num,zD (by first|exact HbT.out|exact HbT.out.drew|exact below_drewN HbT.out _|exact below_drewN HbT.out.drew _),zD (fun j b z' hj hb hz'=>?_)⟩
             by_cases hjx:j<x
             ·exact hst.out j b z' hjx hb hz'
             ·obtain rfl:j=x:=by omega
              rw[Hb?.out,Hbv.out]at hb;rw[Hz?.out]at hz';cases hb
              cases hz'
              exact⟨t1a,t1b⟩
           ·have Hf:=zD (Hbad.out (fun h=>t1 (by have:=h.2 x _ z Hb?.out Hz?.out;rw[Hbv.out]at this;exact this)))
            have t2:z < -1\/(ds.length:Int)-1<z:=by omega
            clear t1
            go_wp2
            go_quiet (fail)
            go_wp2_with fail
            refine(In_f _ _ _ _ (by omega)).mono ?_
            rintro e w' ⟨rfl,rfl⟩
            go_wp2
            go_ret
            exact⟨yu Hf.out.symm,by first|exact HbU.out|exact HbU.out.drew|exact below_drewN HbU.out _|exact below_drewN HbU.out.drew _⟩
          ·have d2':(kd==3)=false:=by simp[d2]
           rw[if_neg d2]at Hbv
           clear d2
           by_cases t1:lo<=z/\z<=H
           ·obtain⟨t1a,t1b⟩:=t1
            go_wp2_with fail
            refine(In_t _ _ _ _ (by omega) (by omega)).mono ?_
            rintro e w' ⟨rfl,rfl⟩
            go_wp2
            go_roundg (gk-1)
            case measure=>omega
            case rel =>
             refine⟨x+1,by omega,by go_num,zD (by first|exact HbT.out|exact HbT.out.drew|exact below_drewN HbT.out _|exact below_drewN HbT.out.drew _),zD (fun j b z' hj hb hz'=>?_)⟩
             by_cases hjx:j<x
             ·exact hst.out j b z' hjx hb hz'
             ·obtain rfl:j=x:=by omega
              rw[Hb?.out,Hbv.out]at hb;rw[Hz?.out]at hz';cases hb
              cases hz'
              exact⟨t1a,t1b⟩
           ·have Hf:=zD (Hbad.out (fun h=>t1 (by have:=h.2 x _ z Hb?.out Hz?.out;rw[Hbv.out]at this;exact this)))
            have t2:z<lo\/H<z:=by omega
            clear t1
            go_wp2_with fail
            refine(In_f _ _ _ _ (by omega)).mono ?_
            rintro e w' ⟨rfl,rfl⟩
            go_wp2
            go_ret
            exact⟨yu Hf.out.symm,by first|exact HbU.out|exact HbU.out.drew|exact below_drewN HbU.out _|exact below_drewN HbU.out.drew _⟩
        ·obtain rfl:x=vars.length:=by omega
         go_wp2
         go_roundg (go-1)
         case measure=>omega
         case rel =>
          refine⟨v+1,by omega,by go_num,hbel,zD (fun u s' hu hs'=>?_)⟩
          by_cases huv:u<v
          ·exact hok.out u s' huv hs'
          ·obtain rfl:u=v:=by omega
           rw[Hs?.out]at hs';cases hs'
           refine⟨by rw[yhs,Hsl.out],fun j b z hb hz=>hst.out j b z ?_ hb hz⟩
           rw[<-Hsl.out];exact(List.getElem?_eq_some_iff.1 hz).1
      ·have k1':((s.length:Int)!=(vars.length:Int))=true:=by simp;omega
       have Hf:=zD (Hbad.out (fun h=>k1 (by rw[h.1,yhs])))
       clear k1
       go_wp2
       go_ret
       exact⟨yu Hf.out.symm,Hbw.out⟩
     ·obtain rfl:v=g.ports.length:=by omega
      have Ht:=zD (show ydj g c vars=true by rw[Hrc.out];exact ynz ⟨Hn.out,fun v s hs=>hok.out v s (by rw[<-Hn.out];exact(List.getElem?_eq_some_iff.1 hs).1) hs⟩)
      go_wp2
      go_ret
      exact⟨yu Ht.out.symm,Hbw.out⟩
   ·have n1':((c.length:Int)!=(g.ports.length:Int))=true:=by simp;omega
    have Hf:=zD (show ydj g c vars=false by rw[Hrc.out];exact ygd (fun h=>n1 h.1))
    clear n1
    go_enter zY,zAC
    go_wp2_with fail
    refine(yfg _ g _ (hg0.out.below ((Below.refl _ _).alloc (zQ _) _))).mono ?_;rintro e w1 ⟨rfl,hb1⟩
    go_wp2_with fail
    go_ret
    exact⟨yu Hf.out.symm,ymc hb1⟩
end
section
open Go.RowKit
def ybms(g:Gr)(D:List Int)(c:Conf)(d p v:Nat):Prop:=(c.getD v []).getD d 0=D.getD v 0/\(c.getD v []).getD p 0=wayP g D v
instance(g:Gr)(D:List Int)(c:Conf)(d p v:Nat):Decidable (ybms g D c d p v):=by unfold ybms;infer_instance
end
section
namespace Sh
open Ev Go.RowKit
end Sh
end
section
namespace Sh
open Ev Go.RowKit
theorem ybob {G:AM}{m:Mem}{φ:Phi}{M:AM}{w:World}{u u':Value}{l:List VarR}(hG:Le G m.b.get)(hr:RV G om0 (yfa l) u)(hv:VR φ u u')(hR:Rel φ M w)(hs:Sub m M):yblz w u' l:=by
 refine ybdf hG hr hv hR hs rfl fun k x b o L L' hx hL hL' hc=>?_;have hxe:l.getD k default=x:=by simp[zAM,hx]
 rw[hxe]at hL;obtain⟨L2,rfl,h1⟩:∃L2,L=L2/\RVL G om0 (varC x) L2:=⟨L,rfl,hL⟩;cases h1 with
 | cons a b=>cases b with
   | cons a2 b2=>cases b2 with
     | cons a3 b3=>cases b3 with
       | cons a4 b4=>cases b4 with
         | cons a5 b5=>cases b5 with
           | cons a6 b6 =>
             cases b6
             cases a2.int_inv
             cases a3.int_inv
             cases a4.int_inv
             cases a5.int_inv
             cases a6.int_inv
             cases a
             cases hL' with
             | cons p1 q1=>cases q1 with
               | cons p2 q2=>cases q2 with
                 | cons p3 q3=>cases q3 with
                   | cons p4 q4=>cases q4 with
                     | cons p5 q5=>cases q5 with
                       | cons p6 q6 =>
                         cases q6
                         have e1:=p1.eq_simple rfl;have e2:=p2.eq_simple rfl;have e3:=p3.eq_simple rfl;have e4:=p4.eq_simple rfl;have e5:=p5.eq_simple rfl;have e6:=p6.eq_simple rfl;subst e1 e2 e3 e4 e5 e6;exact⟨hc 0 _ rfl,hc 1 _ rfl,hc 2 _ rfl,hc 3 _ rfl,hc 4 _ rfl,hc 5 _ rfl⟩
theorem ywi{g:Gr}(hI:GrI g){c:Conf}(hR:yml c){vars:List VarR}(hf:∀x∈vars,ybfq x):Returns zH 48 [grV g,ybu c,yfa vars] (.b (ydj g c vars)):=by
 refine yod ⟨_,_,zY,rfl⟩ (fun _=>.b) (fun _=>.simple rfl) fun H m us hH hr φ M w us' hRl hs hv=>?_
 obtain⟨u,us2,rfl,h1,h2⟩:∃u us2,us=u::us2/\RV H om0 (grV g) u/\RVL H om0 [ybu c,yfa vars] us2:=by
  cases hr with|cons x y=>exact⟨_,_,rfl,x,y⟩
 obtain⟨u2,u3,rfl,h3,h4⟩:=rvl2 h2
 obtain⟨u',us3,rfl,h5,h6⟩:∃u' us3,us'=u'::us3/\VR φ u u'/\VRL φ [u2,u3] us3:=by
  cases hv with|cons x y=>exact⟨_,_,rfl,x,y⟩
 obtain⟨u2',u3',rfl,h7,h8⟩:=yjh h6;exact yzs u' u2' u3' g c vars w (ybgf hH h1 h5 hRl hs hI) (ybfe hH h3 h7 hRl hs hR) (ybob hH h4 h8 hRl hs) hf
end Sh
end
section
namespace Sh
open Go Ev
def c5_0:LO:=[o3 (.box 25 (.tmp 0)) 2 0,o3 (.mv (.const (.bool false))) 4 0]
def c5_1:LO:=[ld' true 2 2 5 0,mv' 1 6 0,cl' 25 [5,6] 7 3]
def c5_2:LO:=[cl' 26 [] 8 0,mv' 8 4 1]
def c5_3:LO:=[cl' 26 [] 9 0,mv' 9 10 1,⟨.load true 2 (.tmp 2),some 11,some (10,true),3⟩,⟨.call (.func 27) [(.tmp 11)],some 12,some (10,true),7⟩,⟨.load true 2 (.tmp 2),some 13,some (10,true),3⟩,⟨.call (.func 28) [(.tmp 13)],some 14,some (10,true),31⟩,⟨.beq false (.tmp 12) (.tmp 14),some 15,some (10,true),63⟩,o3 (.pick (.tmp 10) (.tmp 15) (.const (.bool false))) 16 127,mv' 16 17 255,⟨.load true 2 (.tmp 2),some 18,some (17,true),511⟩,⟨.mv (.tmp 1),some 19,some (17,true),511⟩,⟨.call (.func 29) [(.tmp 18),(.tmp 19)],some 20,some (17,true),2047⟩,⟨.load true 2 (.tmp 2),some 21,some (17,true),511⟩,⟨.mv (.tmp 1),some 22,some (17,true),511⟩,⟨.call (.func 30) [(.tmp 21),(.tmp 22)],some 23,some (17,true),16383⟩,⟨.beq false (.tmp 20) (.tmp 23),some 24,some (17,true),32767⟩,o3 (.pick (.tmp 17) (.tmp 24) (.const (.bool false))) 25 65535,mv' 25 26 131071,⟨.load true 2 (.tmp 2),some 27,some (26,true),262143⟩,⟨.call (.func 31) [(.tmp 27)],some 28,some (26,true),524287⟩,⟨.load true 2 (.tmp 2),some 29,some (26,true),262143⟩,⟨.call (.func 32) [(.tmp 29)],some 30,some (26,true),2097151⟩,⟨.seq false [false,true,true,false,false] (.tmp 28) (.tmp 30),some 31,some (26,true),4194303⟩,o3 (.pick (.tmp 26) (.tmp 31) (.const (.bool false))) 32 8388607,mv' 32 33 16777215,⟨.load true 2 (.tmp 2),some 34,some (33,true),33554431⟩,⟨.mv (.tmp 1),some 35,some (33,true),33554431⟩,⟨.call (.func 34) [(.tmp 34),(.tmp 35)],some 36,some (33,true),134217727⟩,⟨.load true 2 (.tmp 2),some 37,some (33,true),33554431⟩,⟨.mv (.tmp 1),some 38,some (33,true),33554431⟩,⟨.call (.func 35) [(.tmp 37),(.tmp 38)],some 39,some (33,true),1073741823⟩,⟨.call (.func 33) [(.tmp 36),(.tmp 39)],some 40,some (33,true),2147483647⟩,o3 (.pick (.tmp 33) (.tmp 40) (.const (.bool false))) 41 4294967295,mv' 41 4 8589934591]
def c5:SC:=(.seq (.reg false c5_0) (.seq (.seq (.reg false c5_1) (.cond (.tmp 7) (.seq (.reg false c5_2) .ret) .skip)) (.seq (.reg true c5_3) .ret)))
theorem ybzb:Fn 5 c5 [.t 4]:=fn_0 Tryz.func5 (by kernel_rfl) (by kernel_rfl)
def ybiy:LO:=[o3 (.box 25 (.tmp 0)) 2 0,o3 (.mv (.const (.bool false))) 4 0]
def ybkh:LO:=[fa' 1 1 2 5 0,ld' false 1 5 6 1,ln' 6 7 3,o3 (.bin .gtr (.tmp 7) (ci' 60)) 8 7,mv' 8 9 15,⟨.faddr 0 1 (.tmp 2),some 10,some (9,false),31⟩,⟨.load false 1 (.tmp 10),some 11,some (9,false),63⟩,⟨.len (.tmp 11),some 12,some (9,false),127⟩,⟨.bin .gtr (.tmp 12) (ci' 60),some 13,some (9,false),255⟩,o3 (.pick (.tmp 9) (.const (.bool true)) (.tmp 13)) 14 511,mv' 14 15 1023,⟨.mv (.tmp 1),some 16,some (15,false),2047⟩,⟨.len (.tmp 16),some 17,some (15,false),4095⟩,⟨.bin .gtr (.tmp 17) (ci' 60),some 18,some (15,false),8191⟩,o3 (.pick (.tmp 15) (.const (.bool true)) (.tmp 18)) 19 16383,mv' 19 4 32767]
def c25:SC:=(.seq (.reg false ybiy) (.seq (.reg false ybkh) .ret))
theorem ybuc:Fn 25 c25 [.t 4]:=fn_0 Tryz.func25 (by kernel_rfl) (by kernel_rfl)
def ybrr:LO:=[o3 (.mv (.const (.bool false))) 4 0]
def ybts:LO:=[mv' 0 6 0,ln' 6 7 1,mv' 1 8 0,ln' 8 9 4,bn' .neq 7 9 10 15]
def ybxn:LO:=[o3 (.mv (.const (.bool false))) 4 0]
def ybup:LO:=[o3 (.mv (ci' 0)) 5 0]
def ybot:LO:=[mv' 5 11 0,mv' 0 12 0,ln' 12 13 2,bn' .lss 11 13 14 7]
def ybwk:LO:=[mv' 0 17 0,mv' 5 18 0,ix' 2 17 18 19 3,ld' true 2 19 20 7,mv' 1 21 0,mv' 5 22 0,ix' 2 21 22 23 48,ld' true 2 23 24 112,o3 (.seq true [false,false] (.tmp 20) (.tmp 24)) 25 255]
def ybzm:LO:=[o3 (.mv (.const (.bool false))) 4 0]
def ybvt:LO:=[mv' 5 15 0,o3 (.bin .add (.tmp 15) (ci' 1)) 16 1,mv' 16 5 3]
def ybtp:LO:=[o3 (.mv (.const (.bool true))) 4 0]
def c33:SC:=(.seq (.reg false ybrr) (.seq (.seq (.reg false ybts) (.cond (.tmp 10) (.seq (.reg false ybxn) .ret) .skip)) (.seq (.seq (.reg false ybup) (.block 0 (.loop (.seq (.seq (.reg false ybot) (.cond (.tmp 14) .skip (.exit 0))) (.seq (.block 1 (.seq (.reg true ybwk) (.cond (.tmp 25) (.seq (.reg false ybzm) .ret) .skip))) (.reg false ybvt)))))) (.seq (.reg false ybtp) .ret))))
theorem ybrp:Fn 33 c33 [.t 4]:=fn_0 Tryz.func33 (by kernel_rfl) (by kernel_rfl)
def ybpo:LO:=[o3 (.box 25 (.tmp 0)) 3 0,o3 (.mv (.const (.bool false))) 6 0]
def ybps:LO:=[mv' 1 7 0,mv' 2 8 0,ix' 1 7 8 9 3,ld' false 1 9 10 7,o3 (.idx 1 (.tmp 10) (ci' 0)) 11 15,ld' false 1 11 12 31,o3 (.bin .geq (.tmp 12) (ci' 0)) 13 63,mv' 13 14 127,⟨.mv (.tmp 1),some 15,some (14,true),255⟩,⟨.faddr 1 1 (.tmp 3),some 16,some (14,true),255⟩,⟨.load false 1 (.tmp 16),some 17,some (14,true),767⟩,⟨.mv (.tmp 2),some 18,some (14,true),255⟩,⟨.idx 1 (.tmp 17) (.tmp 18),some 19,some (14,true),3839⟩,⟨.load false 1 (.tmp 19),some 20,some (14,true),7935⟩,⟨.mv (.tmp 1),some 21,some (14,true),255⟩,⟨.mv (.tmp 2),some 22,some (14,true),255⟩,⟨.idx 1 (.tmp 21) (.tmp 22),some 23,some (14,true),49407⟩,⟨.load false 1 (.tmp 23),some 24,some (14,true),114943⟩,⟨.idx 1 (.tmp 24) (ci' 0),some 25,some (14,true),246015⟩,⟨.load false 1 (.tmp 25),some 26,some (14,true),508159⟩,⟨.idx 2 (.tmp 20) (.tmp 26),some 27,some (14,true),1048319⟩,⟨.faddr 0 1 (.tmp 27),some 28,some (14,true),2096895⟩,⟨.load false 1 (.tmp 28),some 29,some (14,true),4194047⟩,⟨.idx 1 (.tmp 15) (.tmp 29),some 30,some (14,true),8388607⟩,⟨.load false 1 (.tmp 30),some 31,some (14,true),16777215⟩,⟨.idx 1 (.tmp 31) (ci' 0),some 32,some (14,true),33554431⟩,⟨.load false 1 (.tmp 32),some 33,some (14,true),67108863⟩,⟨.load true 2 (.tmp 3),some 34,some (14,true),255⟩,⟨.mv (.tmp 2),some 35,some (14,true),255⟩,⟨.mv (.tmp 1),some 36,some (14,true),255⟩,⟨.mv (.tmp 2),some 37,some (14,true),255⟩,⟨.idx 1 (.tmp 36) (.tmp 37),some 38,some (14,true),1610612991⟩,⟨.load false 1 (.tmp 38),some 39,some (14,true),3758096639⟩,⟨.idx 1 (.tmp 39) (ci' 0),some 40,some (14,true),8053063935⟩,⟨.load false 1 (.tmp 40),some 41,some (14,true),16642998527⟩,⟨.call (.func 109) [(.tmp 34),(.tmp 35),(.tmp 41)],some 42,some (14,true),34225520895⟩,⟨.bin .eql (.tmp 33) (.tmp 42),some 43,some (14,true),68719476735⟩,o3 (.pick (.tmp 14) (.tmp 43) (.const (.bool false))) 44 137438953471,mv' 44 6 274877906943]
def c70:SC:=(.seq (.reg false ybpo) (.seq (.reg true ybps) .ret))
theorem ybvq:Fn 70 c70 [.t 6]:=fn_0 Tryz.func70 (by kernel_rfl) (by kernel_rfl)
def ybhq:LO:=[o3 (.box 25 (.tmp 0)) 2 0,o3 (.mv (.const (.slice none 0 0))) 4 0]
def ybhx:LO:=[ld' true 2 2 7 0,cl' 28 [7] 8 1,o3 (.un .not (.tmp 8)) 9 3,mv' 9 10 7,⟨.load true 2 (.tmp 2),some 11,some (10,false),15⟩,⟨.mv (.tmp 1),some 12,some (10,false),15⟩,⟨.call (.func 69) [],some 13,some (10,false),15⟩,⟨.call (.func 48) [(.tmp 11),(.tmp 12),(.tmp 13)],some 14,some (10,false),127⟩,⟨.un .not (.tmp 14),some 15,some (10,false),255⟩,o3 (.pick (.tmp 10) (.const (.bool true)) (.tmp 15)) 16 511]
def ybqt:LO:=[o3 (.mv (.const (.slice none 0 0))) 4 0]
def ybun:LO:=[o3 (.mv (.const (.slice none 0 0))) 5 0]
def ybsv:LO:=[o3 (.mv (ci' 0)) 6 0]
def ybgp:LO:=[mv' 6 17 0,mv' 1 18 0,ln' 18 19 2,bn' .lss 17 19 20 7]
def ybjj:LO:=[ld' true 2 2 23 0,mv' 1 24 0,mv' 6 25 0,cl' 70 [23,24,25] 26 7,mv' 26 27 15,⟨.faddr 1 1 (.tmp 2),some 28,some (27,true),31⟩,⟨.load false 1 (.tmp 28),some 29,some (27,true),63⟩,⟨.mv (.tmp 6),some 30,some (27,true),31⟩,⟨.idx 1 (.tmp 29) (.tmp 30),some 31,some (27,true),255⟩,⟨.load false 1 (.tmp 31),some 32,some (27,true),511⟩,⟨.mv (.tmp 1),some 33,some (27,true),31⟩,⟨.mv (.tmp 6),some 34,some (27,true),31⟩,⟨.idx 1 (.tmp 33) (.tmp 34),some 35,some (27,true),3103⟩,⟨.load false 1 (.tmp 35),some 36,some (27,true),7199⟩,⟨.idx 1 (.tmp 36) (ci' 0),some 37,some (27,true),15391⟩,⟨.load false 1 (.tmp 37),some 38,some (27,true),31775⟩,⟨.idx 2 (.tmp 32) (.tmp 38),some 39,some (27,true),65535⟩,⟨.faddr 0 1 (.tmp 39),some 40,some (27,true),131071⟩,⟨.load false 1 (.tmp 40),some 41,some (27,true),262143⟩,⟨.mv (.tmp 6),some 42,some (27,true),31⟩,⟨.bin .gtr (.tmp 41) (.tmp 42),some 43,some (27,true),1048575⟩,o3 (.pick (.tmp 27) (.tmp 43) (.const (.bool false))) 44 2097151]
def ybxa:LO:=[mv' 5 45 0,mv' 6 46 0,fa' 1 1 2 47 0,ld' false 1 47 48 4,mv' 6 49 0,ix' 1 48 49 50 28,ld' false 1 50 51 60,mv' 1 52 0,mv' 6 53 0,ix' 1 52 53 54 384,ld' false 1 54 55 896,o3 (.idx 1 (.tmp 55) (ci' 0)) 56 1920,ld' false 1 56 57 3968,ix' 2 51 57 58 8188,fa' 0 1 58 59 16380,ld' false 1 59 60 32764,o3 (.build [.i .i64 0,.i .i64 0] [(0,1,(.tmp 46)),(1,1,(.tmp 60))]) 61 65534,o3 (.bslice 75 2 1 [.i .i64 0,.i .i64 0] [(0,2,(.tmp 61))]) 62 131070,o3 (.app 75 2 16 (.tmp 45) (.tmp 62)) 63 262143,mv' 63 5 524287]
def ybhj:LO:=[mv' 6 21 0,o3 (.bin .add (.tmp 21) (ci' 1)) 22 1,mv' 22 6 3]
def ybtd:LO:=[mv' 5 64 0,mv' 64 4 1]
def c35:SC:=(.seq (.reg false ybhq) (.seq (.seq (.reg true ybhx) (.cond (.tmp 16) (.seq (.reg false ybqt) .ret) .skip)) (.seq (.reg false ybun) (.seq (.seq (.reg false ybsv) (.block 0 (.loop (.seq (.seq (.reg false ybgp) (.cond (.tmp 20) .skip (.exit 0))) (.seq (.block 1 (.seq (.reg true ybjj) (.cond (.tmp 44) (.reg true ybxa) .skip))) (.reg false ybhj)))))) (.seq (.reg false ybtd) .ret)))))
theorem ybtw:Fn 35 c35 [.t 4]:=fn_0 Tryz.func35 (by kernel_rfl) (by kernel_rfl)
def ybhp:LO:=[o3 (.box 25 (.tmp 0)) 2 0,o3 (.mv (.const (.bool false))) 4 0]
def ybhr:LO:=[ld' true 2 2 7 0,cl' 28 [7] 8 1,o3 (.un .not (.tmp 8)) 9 3,mv' 9 10 7,⟨.load true 2 (.tmp 2),some 11,some (10,false),15⟩,⟨.mv (.tmp 1),some 12,some (10,false),15⟩,⟨.call (.func 69) [],some 13,some (10,false),15⟩,⟨.call (.func 48) [(.tmp 11),(.tmp 12),(.tmp 13)],some 14,some (10,false),127⟩,⟨.un .not (.tmp 14),some 15,some (10,false),255⟩,o3 (.pick (.tmp 10) (.const (.bool true)) (.tmp 15)) 16 511]
def yboa:LO:=[o3 (.mv (.const (.bool false))) 4 0]
def ybux:LO:=[o3 (.mv (ci' 0)) 5 0]
def ybed:LO:=[mv' 5 17 0,mv' 1 18 0,ln' 18 19 2,bn' .lss 17 19 20 7]
def ybjk:LO:=[mv' 1 23 0,mv' 5 24 0,ix' 1 23 24 25 3,ld' false 1 25 26 7,o3 (.idx 1 (.tmp 26) (ci' 0)) 27 15,ld' false 1 27 28 31,o3 (.bin .geq (.tmp 28) (ci' 0)) 29 63,mv' 29 30 127,⟨.load true 2 (.tmp 2),some 31,some (30,true),255⟩,⟨.mv (.tmp 1),some 32,some (30,true),255⟩,⟨.mv (.tmp 5),some 33,some (30,true),255⟩,⟨.call (.func 70) [(.tmp 31),(.tmp 32),(.tmp 33)],some 34,some (30,true),2047⟩,⟨.un .not (.tmp 34),some 35,some (30,true),4095⟩,o3 (.pick (.tmp 30) (.tmp 35) (.const (.bool false))) 36 8191]
def ybwo:LO:=[o3 (.mv (.const (.bool false))) 4 0]
def ybpn:LO:=[o3 (.mv (ci' 0)) 6 0]
def ypm:LO:=[mv' 6 37 0,fa' 1 1 2 38 0,ld' false 1 38 39 2,mv' 5 40 0,ix' 1 39 40 41 14,ld' false 1 41 42 30,ln' 42 43 62,bn' .lss 37 43 44 127]
def ylx:LO:=[mv' 1 47 0,mv' 5 48 0,ix' 1 47 48 49 3,ld' false 1 49 50 7,o3 (.idx 1 (.tmp 50) (ci' 0)) 51 15,ld' false 1 51 52 31,o3 (.bin .lss (.tmp 52) (ci' 0)) 53 63,mv' 53 54 127,⟨.mv (.tmp 1),some 55,some (54,true),255⟩,⟨.faddr 1 1 (.tmp 2),some 56,some (54,true),255⟩,⟨.load false 1 (.tmp 56),some 57,some (54,true),767⟩,⟨.mv (.tmp 5),some 58,some (54,true),255⟩,⟨.idx 1 (.tmp 57) (.tmp 58),some 59,some (54,true),3839⟩,⟨.load false 1 (.tmp 59),some 60,some (54,true),7935⟩,⟨.mv (.tmp 6),some 61,some (54,true),255⟩,⟨.idx 2 (.tmp 60) (.tmp 61),some 62,some (54,true),32511⟩,⟨.faddr 0 1 (.tmp 62),some 63,some (54,true),65279⟩,⟨.load false 1 (.tmp 63),some 64,some (54,true),130815⟩,⟨.idx 1 (.tmp 55) (.tmp 64),some 65,some (54,true),262143⟩,⟨.load false 1 (.tmp 65),some 66,some (54,true),524287⟩,⟨.idx 1 (.tmp 66) (ci' 0),some 67,some (54,true),1048575⟩,⟨.load false 1 (.tmp 67),some 68,some (54,true),2097151⟩,⟨.bin .lss (.tmp 68) (ci' 0),some 69,some (54,true),4194303⟩,o3 (.pick (.tmp 54) (.tmp 69) (.const (.bool false))) 70 8388607]
def ybcs:LO:=[o3 (.mv (.const (.bool false))) 4 0]
def yso:LO:=[mv' 6 45 0,o3 (.bin .add (.tmp 45) (ci' 1)) 46 1,mv' 46 6 3]
def ybqg:LO:=[mv' 5 21 0,o3 (.bin .add (.tmp 21) (ci' 1)) 22 1,mv' 22 5 3]
def ybmp:LO:=[o3 (.mv (.const (.bool true))) 4 0]
def c30:SC:=(.seq (.reg false ybhp) (.seq (.seq (.reg true ybhr) (.cond (.tmp 16) (.seq (.reg false yboa) .ret) .skip)) (.seq (.seq (.reg false ybux) (.block 0 (.loop (.seq (.seq (.reg false ybed) (.cond (.tmp 20) .skip (.exit 0))) (.seq (.block 1 (.seq (.seq (.reg false ybjk) (.cond (.tmp 36) (.seq (.reg false ybwo) .ret) .skip)) (.seq (.reg false ybpn) (.block 2 (.loop (.seq (.seq (.reg false ypm) (.cond (.tmp 44) .skip (.exit 2))) (.seq (.block 3 (.seq (.reg false ylx) (.cond (.tmp 70) (.seq (.reg false ybcs) .ret) .skip))) (.reg false yso)))))))) (.reg false ybqg)))))) (.seq (.reg false ybmp) .ret))))
theorem ybtb:Fn 30 c30 [.t 4]:=fn_0 Tryz.func30 (by kernel_rfl) (by kernel_rfl)
def c3_0:LO:=[o3 (.box 25 (.tmp 0)) 2 0,o3 (.mv (.const (.bool false))) 4 0]
def c3_1:LO:=[ld' true 2 2 5 0,mv' 1 6 0,cl' 6 [5,6] 7 3]
def c3_2:LO:=[cl' 7 [] 8 0,mv' 8 4 1]
def c3_3:LO:=[cl' 7 [] 9 0,mv' 9 10 1,⟨.load true 2 (.tmp 2),some 11,some (10,true),3⟩,⟨.call (.func 8) [(.tmp 11)],some 12,some (10,true),7⟩,⟨.load true 2 (.tmp 2),some 13,some (10,true),3⟩,⟨.call (.func 9) [(.tmp 13)],some 14,some (10,true),31⟩,⟨.beq false (.tmp 12) (.tmp 14),some 15,some (10,true),63⟩,o3 (.pick (.tmp 10) (.tmp 15) (.const (.bool false))) 16 127,mv' 16 17 255,⟨.load true 2 (.tmp 2),some 18,some (17,true),511⟩,⟨.mv (.tmp 1),some 19,some (17,true),511⟩,⟨.call (.func 10) [(.tmp 18),(.tmp 19)],some 20,some (17,true),2047⟩,⟨.load true 2 (.tmp 2),some 21,some (17,true),511⟩,⟨.mv (.tmp 1),some 22,some (17,true),511⟩,⟨.call (.func 11) [(.tmp 21),(.tmp 22)],some 23,some (17,true),16383⟩,⟨.beq false (.tmp 20) (.tmp 23),some 24,some (17,true),32767⟩,o3 (.pick (.tmp 17) (.tmp 24) (.const (.bool false))) 25 65535,mv' 25 26 131071,⟨.load true 2 (.tmp 2),some 27,some (26,true),262143⟩,⟨.call (.func 12) [(.tmp 27)],some 28,some (26,true),524287⟩,⟨.load true 2 (.tmp 2),some 29,some (26,true),262143⟩,⟨.call (.func 13) [(.tmp 29)],some 30,some (26,true),2097151⟩,⟨.seq false [false,true,true,false,false] (.tmp 28) (.tmp 30),some 31,some (26,true),4194303⟩,o3 (.pick (.tmp 26) (.tmp 31) (.const (.bool false))) 32 8388607,mv' 32 33 16777215,⟨.load true 2 (.tmp 2),some 34,some (33,true),33554431⟩,⟨.mv (.tmp 1),some 35,some (33,true),33554431⟩,⟨.call (.func 14) [(.tmp 34),(.tmp 35)],some 36,some (33,true),134217727⟩,⟨.load true 2 (.tmp 2),some 37,some (33,true),33554431⟩,⟨.mv (.tmp 1),some 38,some (33,true),33554431⟩,⟨.call (.func 15) [(.tmp 37),(.tmp 38)],some 39,some (33,true),1073741823⟩,⟨.bin .eql (.tmp 36) (.tmp 39),some 40,some (33,true),2147483647⟩,o3 (.pick (.tmp 33) (.tmp 40) (.const (.bool false))) 41 4294967295,mv' 41 4 8589934591]
def c3:SC:=(.seq (.reg false c3_0) (.seq (.seq (.reg false c3_1) (.cond (.tmp 7) (.seq (.reg false c3_2) .ret) .skip)) (.seq (.reg true c3_3) .ret)))
def c6_0:LO:=[o3 (.box 25 (.tmp 0)) 2 0,o3 (.mv (.const (.bool false))) 4 0]
def c6_1:LO:=[fa' 1 1 2 5 0,ld' false 1 5 6 1,ln' 6 7 3,o3 (.bin .gtr (.tmp 7) (ci' 60)) 8 7,mv' 8 9 15,⟨.faddr 0 1 (.tmp 2),some 10,some (9,false),31⟩,⟨.load false 1 (.tmp 10),some 11,some (9,false),63⟩,⟨.len (.tmp 11),some 12,some (9,false),127⟩,⟨.bin .gtr (.tmp 12) (ci' 60),some 13,some (9,false),255⟩,o3 (.pick (.tmp 9) (.const (.bool true)) (.tmp 13)) 14 511,mv' 14 15 1023,⟨.mv (.tmp 1),some 16,some (15,false),2047⟩,⟨.len (.tmp 16),some 17,some (15,false),4095⟩,⟨.bin .gtr (.tmp 17) (ci' 60),some 18,some (15,false),8191⟩,o3 (.pick (.tmp 15) (.const (.bool true)) (.tmp 18)) 19 16383,mv' 19 4 32767]
def c6:SC:=(.seq (.reg false c6_0) (.seq (.reg false c6_1) .ret))
def ybls:LO:=[o3 (.box 25 (.tmp 0)) 3 0,o3 (.mv (ci' 0)) 6 0]
def yblt:LO:=[mv' 2 7 0,ld' true 2 3 8 0,mv' 1 9 0,cl' 137 [8,9] 10 6,o3 (.bin .sub (.tmp 10) (ci' 1)) 11 14,o3 (.call (.func 84) [(.tmp 7),(ci' 0),(.tmp 11)]) 12 31,o3 (.un .not (.tmp 12)) 13 63]
def ybto:LO:=[o3 (.mv (.const (.int .i64 (-1)))) 6 0]
def yblr:LO:=[ld' true 2 3 14 0,fa' 1 1 3 15 0,ld' false 1 15 16 2,mv' 1 17 0,ix' 1 16 17 18 14,ld' false 1 18 19 30,mv' 2 20 0,ix' 2 19 20 21 126,fa' 0 1 21 22 254,ld' false 1 22 23 510,mv' 1 24 0,cl' 106 [14,23,24] 25 2047,mv' 25 6 4095]
def c109:SC:=(.seq (.reg false ybls) (.seq (.seq (.reg false yblt) (.cond (.tmp 13) (.seq (.reg false ybto) .ret) .skip)) (.seq (.reg true yblr) .ret)))
theorem ybmz:Fn 109 c109 [.t 6]:=fn_0 Tryz.func109 (by kernel_rfl) (by kernel_rfl)
def ybmd:LO:=[o3 (.box 25 (.tmp 0)) 2 0,o3 (.mv (ci' 0)) 4 0]
def ybly:LO:=[ld' true 2 2 5 0,cl' 65 [5] 6 1,o3 (.un .not (.tmp 6)) 7 3,mv' 7 8 7,⟨.mv (.tmp 1),some 9,some (8,false),15⟩,⟨.faddr 1 1 (.tmp 2),some 10,some (8,false),15⟩,⟨.load false 1 (.tmp 10),some 11,some (8,false),47⟩,⟨.len (.tmp 11),some 12,some (8,false),111⟩,⟨.bin .sub (.tmp 12) (ci' 1),some 13,some (8,false),239⟩,⟨.call (.func 84) [(.tmp 9),(ci' 0),(.tmp 13)],some 14,some (8,false),511⟩,⟨.un .not (.tmp 14),some 15,some (8,false),1023⟩,o3 (.pick (.tmp 8) (.const (.bool true)) (.tmp 15)) 16 2047]
def ybwc:LO:=[o3 (.mv (ci' 0)) 4 0]
def ybmi:LO:=[fa' 1 1 2 17 0,ld' false 1 17 18 1,mv' 1 19 0,ix' 1 18 19 20 7,ld' false 1 20 21 15,ln' 21 22 31,mv' 22 4 63]
def c137:SC:=(.seq (.reg false ybmd) (.seq (.seq (.reg false ybly) (.cond (.tmp 16) (.seq (.reg false ybwc) .ret) .skip)) (.seq (.reg false ybmi) .ret)))
theorem ybph:Fn 137 c137 [.t 4]:=fn_0 Tryz.func137 (by kernel_rfl) (by kernel_rfl)
end Sh
end
section
def ytj:List VarR:=[⟨⟨#[112]⟩,3,0,0,0,0⟩]
theorem ybfd:∀x∈ytj,ybfq x:=by
 intro x hx;simp only[ytj,List.mem_singleton]at hx;subst hx;exact⟨⟨by decide,by decide⟩,⟨by decide,by decide⟩,⟨by decide,by decide⟩,⟨by decide,by decide⟩⟩
theorem yzg(g:Gr)(c:Conf):ydj g c ytj=yci g c:=by
 unfold yci ydj;rw[show yew g ytj=yct g [-1]from funext fun v=>by simp[yew,yct,ytj,yqx]]
def ansB(g:Gr)(c:Conf)(v:Nat):Bool:=decide (pAt c v>=0)&&yym g c v (ybg g v (pAt c v).toNat)
section
variable {g:Gr}{c:Conf}{u v:Nat}
theorem yos(hg:ybf g)(h:MtC g c)(hv:v<g.ids.length)(h0:pAt c v>=0):(pAt c v).toNat<(g.ports.getD v []).length/\ybg g v (pAt c v).toNat∈g.ports.getD v []/\toP g c v=some (ybg g v (pAt c v).toNat).1.toNat:=by
 have hpl:=hg.2.2.1;have hr:=(h.row v hv).2;have hk:(pAt c v).toNat<(g.ports.getD v []).length:=by omega
 refine⟨hk,?_,?_⟩
 ·unfold ybg;rw[Sh.getD_at hk];exact zM hk
 ·unfold toP;rw[if_pos ⟨by omega,h0⟩]
  rfl
theorem yue(hg:ybf g)(h:MtC g c)(hv:v<g.ids.length):ansB g c v=true↔∃u,toP g c v=some u/\toP g c u=some v:=by
 have hpl:=hg.2.2.1;unfold ansB;rw[zO,decide_eq_true_iff];constructor
 ·rintro⟨h0,hb⟩;obtain⟨_,hm,e⟩:=yos hg h hv h0;exact⟨_,e,(yxw hg h (by omega) hm).1 hb⟩
 ·rintro⟨u,e1,e2⟩
  have h0:pAt c v>=0:=by
   have:=(h.row v hv).2
   by_cases q:pAt c v = -1
   ·rw[(yhc hg h hv).2 q]at e1;cases e1
   ·omega
  obtain⟨_,hm,e⟩:=yos hg h hv h0;rw[e]at e1;cases e1
  exact⟨h0,(yxw hg h (by omega) hm).2 e2⟩
theorem yxd(hcf:yci g c=true):ybo g c=true↔(∀v,v<g.ids.length->pAt c v>=0->ansB g c v=true)/\∀v,v<g.ids.length->∀i,i<(g.ports.getD v []).length->¬(pAt c v<0/\pAt c (ybg g v i).1.toNat<0):=by
 obtain⟨hg,hl,_⟩:=yez hcf;have hC:=yox hcf;have hpl:=hg.2.2.1
 have hneg:∀x,x<g.ids.length->(pAt c x<0↔toP g c x=none):=fun x hx=>by
  have:=(hC.row x hx).2;rw[yhc hg hC hx];omega
 rw[yoy hcf];constructor
 ·rintro⟨h1,h2⟩;refine⟨fun v hv h0=>?_,fun v hv i hi ⟨q1,q2⟩=>?_⟩
  ·obtain⟨_,_,e⟩:=yos hg hC hv h0;exact(yue hg hC hv).2 ⟨_,e,h1 _ _ e⟩
  ·have hm:ybg g v i∈g.ports.getD v []:=by unfold ybg;rw[Sh.getD_at hi];exact zM hi
   obtain⟨_,a2,a3,_⟩:=ych hg (by omega) hm
   exact h2 v _ a3 ((hneg v hv).1 q1) ((hneg _ (by omega)).1 q2)
 ·rintro⟨h1,h2⟩;refine⟨fun v u e=>?_,fun v u hu e1 e2=>?_⟩
  ·have hv:v<g.ids.length:=by have:=(hg.adj_lt (yls hg hC e)).1;omega
   have h0:pAt c v>=0:=by
    have:=(hC.row v hv).2
    by_cases q:pAt c v = -1
    ·rw[(yhc hg hC hv).2 q]at e;cases e
    ·omega
   obtain⟨w,e3,e4⟩:=(yue hg hC hv).1 (h1 v hv h0);rw[e]at e3;cases e3
   exact e4
  ·obtain⟨a1,a2⟩:=hg.adj_lt hu;obtain⟨l,hl,el⟩:=ypz hu;obtain⟨i,hi,rfl⟩:=zU hl;refine h2 v (by omega) i hi ⟨(hneg v (by omega)).2 e1,?_⟩
   have e:ybg g v i=(g.ports.getD v [])[i]:=by unfold ybg;rw[Sh.getD_at hi]
   rw[e,el];exact(hneg u (by omega)).2 e2
theorem ybhy(hg:ybf g)(h:MtC g c)(hv:v<g.ids.length):mtPB g c v=(ansB g c v&&decide ((ybg g v (pAt c v).toNat).1>(v:Int))):=by
 rw[ybom hg h hv,Bool.eq_iff_iff,yza hg h hv,zO,yue hg h hv,decide_eq_true_iff];have hpl:=hg.2.2.1
 have key:∀{u},toP g c v=some u->((ybg g v (pAt c v).toNat).1>(v:Int)↔v<u):=fun {u} e=>by
  have h0:pAt c v>=0:=by
   have:=(h.row v hv).2
   by_cases q:pAt c v = -1
   ·rw[(yhc hg h hv).2 q]at e;cases e
   ·omega
  obtain⟨_,hm,e'⟩:=yos hg h hv h0;have:=(ych hg (by omega) hm).1
  rw[e']at e;cases e
  omega
 constructor
 ·rintro⟨u,e1,e2,hlt⟩;exact⟨⟨u,e1,e2⟩,(key e1).2 hlt⟩
 ·rintro⟨⟨u,e1,e2⟩,hgt⟩;exact⟨u,e1,e2,(key e1).1 hgt⟩
theorem ybuj(h:MtC g c)(hv:v<g.ids.length)(h0:pAt c v>=0):mtW g c v=(ybg g v (pAt c v).toNat).1:=by
 have hat:mtW g c v=if pAt c v>=0 then((g.ports.getD v []).getD (pAt c v).toNat (0,0)).1 else -1:=Sh.ypl (by rw[h.len];exact hv)
 rw[hat,if_pos h0];rfl
end
namespace Sh
open Ev Go.RowKit
theorem ybef{g:Gr}(hI:GrI g){v:Nat}(hv:v<g.ports.length)(u:Int):Returns zH 106 [grV g,.i .i64 v,.i .i64 u] (.i .i64 (ydo (g.ports.getD v []) u)):=by
 refine yod ⟨_,_,Tryz.func106,rfl⟩ (fun _=>.i) (fun _=>.simple rfl) fun G m us hG hr φ M w us' hRl hs hv'=>?_
 obtain⟨u0,us2,rfl,h1,h2⟩:∃z us2,us=z::us2/\RV G om0 (grV g) z/\RVL G om0 [.i .i64 (v:Int),.i .i64 u] us2:=by
  cases hr with|cons x y=>exact⟨_,_,rfl,x,y⟩
 obtain⟨u2,u3,rfl,h3,h4⟩:=rvl2 h2
 obtain⟨u',us3,rfl,h5,h6⟩:∃z' us3,us'=z'::us3/\VR φ u0 z'/\VRL φ [u2,u3] us3:=by
  cases hv' with|cons x y=>exact⟨_,_,rfl,x,y⟩
 obtain⟨u2',u3',rfl,h7,h8⟩:=yjh h6;cases h3.int_inv
 cases h4.int_inv
 have e1:=h7.eq_simple rfl;have e2:=h8.eq_simple rfl;subst e1 e2;exact ylg u' g v (g.ports.getD v []) u w (ybgf hG h1 h5 hRl hs hI) (by rw[getD_at hv];exact zG hv)
theorem ybhv{g:Gr}(hg:ybf g){v:Nat}(hv:v<g.ports.length):Returns zH 137 [grV g,.i .i64 v] (.i .i64 (g.ports.getD v []).length):=by
 refine Returns.of (ybph _ _ ?_);have hV:=yjy (ybla hg);rw[(ycp g).2 hg]at hV;have h24:=hg.2.1;obtain⟨n,hn⟩:∃n,g.ports.length=n:=⟨_,rfl⟩;have hIn:=ybfo (v:Int) 0 ((n:Int)-1);rw[hn]at hv h24;have t1:decide ((v:Int)>=0)=true:=decide_eq_true (by omega)
 have t2:decide ((v:Int)<=(n:Int)-1)=true:=decide_eq_true (by omega)
 rw[t1,t2,zN]at hIn;simp only[grV]at hV;simp only[c137,ybmd,ybly,ybmi,grV,clash,go_sem,zI,zA,zB,zF,zC,zJ,zK,zL,↓reduceIte,reduceCtorEq];refine hV.use ?_;simp only[ybx,yba,hn,clash,go_sem,zI,zA,zB,zF,zC,zJ,zK,zL,↓reduceIte,reduceCtorEq];refine⟨ikw (by omega) (by omega),hIn.use ?_⟩
 simp only[ybx,yba,ybc,hn,clash,go_sem,zI,zA,zB,zF,zC,zJ,zK,zL,↓reduceIte,reduceCtorEq]
 repeat (first|refine⟨(by omega:(_:Prop)),?_⟩|refine⟨(⟨by omega,by omega⟩:_/\_),?_⟩)
 exact Sim.refl _
theorem ybci{g:Gr}(hg:ybf g){v:Nat}(hv:v<g.ports.length){p:Nat}(hp:p<(g.ports.getD v []).length) :
 Returns zH 109 [grV g,.i .i64 v,.i .i64 p] (.i .i64 (ydo (g.ports.getD (ybg g v p).1.toNat []) v)):=by
 refine Returns.of (ybmz _ _ ?_);have hI:=ybla hg;have h24:=hg.2.1;have hD:=ybhv hg hv;have hdeg:=hg.deg_lt (v:=v);have hm:ybg g v p∈g.ports.getD v []:=by unfold ybg;rw[getD_at hp];exact zM hp
 obtain⟨a1,a2,_⟩:=ych hg hv hm;have hP:=ybef hI a2 (v:Int);rw[zAB a1]at hP;obtain⟨d,hd⟩:∃d,(g.ports.getD v []).length=d:=⟨_,rfl⟩;obtain⟨n,hn⟩:∃n,g.ports.length=n:=⟨_,rfl⟩;have hl:(g.ports.getD v []).getD p (0,0)=ybg g v p:=rfl;obtain⟨l,hle⟩:∃l,ybg g v p=l:=⟨_,rfl⟩;obtain⟨L,hL⟩:∃L,g.ports.getD v []=L:=⟨_,rfl⟩;rw[hle]at hl hP;rw[hle];rw[hd]at hD hdeg hp;rw[hL]at hl hd;rw[hn]at hv h24;have hIn:=ybfo (p:Int) 0 ((d:Int)-1)
 have t1:decide ((p:Int)>=0)=true:=decide_eq_true (by omega)
 have t2:decide ((p:Int)<=(d:Int)-1)=true:=decide_eq_true (by omega)
 rw[t1,t2,zN]at hIn;simp only[grV]at hD hP;simp only[c109,ybls,yblt,yblr,grV,clash,go_sem,zI,zA,zB,zF,zC,zJ,zK,zL,↓reduceIte,reduceCtorEq];refine hD.use ?_;simp only[ybx,clash,go_sem,zI,zA,zB,zF,zC,zJ,zK,zL,↓reduceIte,reduceCtorEq];refine⟨ikw (by omega) (by omega),hIn.use ?_⟩
 simp only[ybx,yba,ybc,hn,hL,hd,hl,clash,go_sem,zI,zA,zB,zF,zC,zJ,zK,zL,↓reduceIte,reduceCtorEq]
 repeat (first|refine⟨(by omega:(_:Prop)),?_⟩|refine⟨(⟨by omega,by omega⟩:_/\_),?_⟩)
 simp only[yba,ybc,hn]at hP;refine hP.use ?_;simp only[ybx,clash,go_sem,zI,zA,zB,zF,zC,zJ,zK,zL,↓reduceIte,reduceCtorEq];exact Sim.refl _
theorem ybgb{g:Gr}(hg:ybf g){c:Conf}(h:MtC g c){v:Nat}(hv:v<g.ids.length):Returns zH 70 [grV g,ybu c,.i .i64 v] (.b (ansB g c v)):=by
 refine Returns.of (ybvq _ _ ?_);have hpl:=hg.2.2.1;have h24:=hg.2.1;have hcl:=h.len;obtain⟨r1,r2,r3⟩:=h.row v hv;have hx:pAt c v=(c.getD v []).getD 0 0:=rfl;obtain⟨n,hn⟩:∃n,g.ports.length=n:=⟨_,rfl⟩;obtain⟨m,hm⟩:∃m,c.length=m:=⟨_,rfl⟩
 by_cases q:pAt c v>=0
 ·obtain⟨p1,p2,p3⟩:=yos hg h hv q;obtain⟨a1,a2,_⟩:=ych hg (show v<g.ports.length by omega) p2
  obtain⟨s1,s2,s3⟩:=h.row (ybg g v (pAt c v).toNat).1.toNat (by omega)
  have hB:=ybci hg (show v<g.ports.length by omega) p1
  have e:ansB g c v=(pAt c (ybg g v (pAt c v).toNat).1.toNat==ydo (g.ports.getD (ybg g v (pAt c v).toNat).1.toNat []) v):=by
   unfold ansB yym;rw[decide_eq_true q,zN];rfl
  have hy:pAt c (ybg g v (pAt c v).toNat).1.toNat=(c.getD (ybg g v (pAt c v).toNat).1.toNat []).getD 0 0:=rfl;have hl:(g.ports.getD v []).getD (pAt c v).toNat (0,0)=ybg g v (pAt c v).toNat:=rfl;have t1:decide (pAt c v>=0)=true:=decide_eq_true q;have ep:(((pAt c v).toNat:Nat):Int)=pAt c v:=zAB q;rw[ep]at hB;obtain⟨l,hle⟩:∃l,ybg g v (pAt c v).toNat=l:=⟨_,rfl⟩;rw[hle]at hB e hy hl a1 a2 s1;obtain⟨z,hz⟩:∃z,ydo (g.ports.getD l.1.toNat []) v=z:=⟨_,rfl⟩
  rw[hz]at hB e;rw[e];obtain⟨y,hye⟩:∃y,pAt c l.1.toNat=y:=⟨_,rfl⟩;rw[hye]at hy ⊢;obtain⟨x,hxe⟩:∃x,pAt c v=x:=⟨_,rfl⟩;rw[hxe]at hx hB hl t1 q p1 r2 r3;obtain⟨L,hL⟩:∃L,g.ports.getD v []=L:=⟨_,rfl⟩;rw[hL]at hl p1;obtain⟨R,hR⟩:∃R,c.getD v []=R:=⟨_,rfl⟩;rw[hR]at hx r1;obtain⟨S,hS⟩:∃S,c.getD l.1.toNat []=S:=⟨_,rfl⟩;rw[hS]at hy s1;simp only[grV]at hB;simp(maxSteps:=5000000) only [c70,ybpo,ybps,grV,ybu,ybi,yba,ybc,hn,hm,hR,hL,hS,<-hx,<-hy,hl,t1,clash,go_sem,zI,zA,zB,zF,zC,zJ,zK,zL,↓reduceIte,reduceCtorEq]
  simp only[yba,ybc,hn]at hB
  repeat (first|refine⟨(by omega:(_:Prop)),?_⟩|refine⟨(⟨by omega,by omega⟩:_/\_),?_⟩|refine hB.use ?_)
  simp(maxSteps:=5000000) only [ybx,clash,go_sem,zI,zA,zB,zF,zC,zJ,zK,zL,↓reduceIte,reduceCtorEq];exact Sim.refl _
 ·have t1:decide (pAt c v>=0)=false:=decide_eq_false q;have e:ansB g c v=false:=by unfold ansB;rw[t1];rfl
  rw[e];obtain⟨x,hxe⟩:∃x,pAt c v=x:=⟨_,rfl⟩;rw[hxe]at hx t1;obtain⟨R,hR⟩:∃R,c.getD v []=R:=⟨_,rfl⟩;rw[hR]at hx r1;simp(maxSteps:=5000000) only [c70,ybpo,ybps,grV,ybu,ybi,hm,hR,<-hx,t1,clash,go_sem,zI,zA,zB,zF,zC,zJ,zK,zL,↓reduceIte,reduceCtorEq]
  repeat (first|refine⟨(by omega:(_:Prop)),?_⟩|refine⟨(⟨by omega,by omega⟩:_/\_),?_⟩)
  exact Sim.refl _
end Sh
end
end Go.Proofs.YtiejahgklcjhkaaGreat
