/- Joined. -/
import Derived.Test.YthclbjjgfcgbgaaGreatDoorPkCm14
import Derived.Test.YthclbjjgfcgbgaaGreatDoorPkCm10
import Derived.Lib.TrailingZeros
set_option linter.unusedSimpArgs false
set_option linter.unusedVariables false
set_option maxRecDepth 1000000
open Nat renaming reduceEqDiff->zA,reduceAdd->zB,reduceLT->zD,beq_refl->zF,beq->zH,le_of_ble_eq_true->zI,eq_of_beq_eq_true->zK,reduceLeDiff->zM,ble_eq_true_of_le->zT,reduceBEq->zU,blt->zV,ble->zAB,testBit_two_pow_mul_add->zAC,not_lt_zero->zAF,le_refl->zAH,zero_le->zAR,testBit_succ->zAU,add_zero->zBC
open Bool renaming and_eq_true->zC,not_eq_true'->zL,true_and->zO,and_eq_false_iff->zY
open Go.Proofs.Tryz renaming prog->zG,ntmps173->zAZ,func173->zBD,func42->zBF
open List renaming map_congr_left->zJ,getElem?_eq_getElem->zN,range->zQ,length_map->zS,getElem_mem->zW,all_eq_true->zX,map_map->zAA,pairwise_map->zAD,drop_eq_getElem_cons->zAE,nodup_cons->zAG,mem_cons_of_mem->zAI,mem_of_mem_take->zAJ,mem_of_mem_drop->zAK,map_cons->zAL,getElem_of_mem->zAM,mem_cons_self->zAN,filter_append->zAO,all_eq_false->zAP,getElem?_map->zAQ,not_mem_nil->zAT,length_nil->zAV,nil_append->zAW,nodup_nil->zAX,drop_drop->zAY,length->zBE,getD->zBH
open Go.Lib renaming ctz->zZ,ctzFrom->zBG
open Int renaming natCast_zero->zAS
open Classical renaming byContradiction->zBA
open Eq renaming trans->zBB
open Go
namespace Go.Proofs.YthclbjjgfcgbgaaGreatDoor
section
namespace Sh
open Go Ev
def ybvn:LO:=[o3 (.box 27 (.tmp 0)) 1 0,o3 (.mv (ci' 0)) 2 0,o3 (.mv (ci' 0)) 3 2]
def ycao:LO:=[ld' true 2 1 6 0,cl' 131 [6] 7 1,o3 (.un .not (.tmp 7)) 8 3]
def ycns:LO:=[o3 (.mv (ci' 0)) 2 0,o3 (.mv (ci' 0)) 3 1]
def ycvr:LO:=[fa' 1 1 1 9 0,ld' false 1 9 10 1,ln' 10 11 3,o3 (.mv (ci' 0)) 12 0]
def ycck:LO:=[bn' .lss 12 11 13 0]
def ycuz:LO:=[ix' 1 10 12 14 0,ld' false 1 14 15 1,mv' 15 5 3]
def ycoq:LO:=[mv' 3 16 0,mv' 5 17 0,ln' 17 18 2,bn' .add 16 18 19 7,mv' 19 3 15]
def ycwe:LO:=[o3 (.bin .add (.tmp 12) (ci' 1)) 20 0,mv' 20 12 1]
def ycpz:LO:=[fa' 0 1 1 21 0,ld' false 1 21 22 1,ln' 22 23 3,mv' 3 24 0,o3 (.bin .quo (.tmp 24) (ci' 2)) 25 8,mv' 23 2 7,mv' 25 3 63]
def c105:SC:=(.seq (.reg false ybvn) (.seq (.seq (.reg false ycao) (.cond (.tmp 8) (.seq (.reg false ycns) .ret) .skip)) (.seq (.seq (.reg false ycvr) (.block 0 (.loop (.seq (.reg false ycck) (.seq (.cond (.tmp 13) .skip (.exit 0)) (.seq (.block 1 (.seq (.reg false ycuz) (.reg false ycoq))) (.reg false ycwe))))))) (.seq (.reg false ycpz) .ret))))
theorem ydgc:Fn 105 c105 [.t 2,.t 3]:=fn_0 Tryz.func105 (by kernel_rfl) (by kernel_rfl)
end Sh
end
section
def yhp(g:Gr)(k:Nat):Nat:=((g.ports.take k).map zBE).sum
theorem yrc{g:Gr}{k:Nat}(h:k<g.ports.length):yhp g (k+1)=yhp g k+(g.ports.getD k []).length:=by
 unfold yhp;rw[List.take_succ_eq_append_getElem h,List.map_append,List.sum_append,Sh.getD_at h];simp
theorem yjg{g:Gr}(hg:ybg g):∀k,k<=g.ports.length->yhp g k<=24*k
 |0,_=>by simp[yhp]
 | k+1,h=>by
   rw[yrc (by omega)]
   have:=yjg hg k (by omega)
   have:=hg.deg_lt (v:=k);omega
theorem ymq(g:Gr):yhp g g.ports.length=yfg g:=by unfold yhp yfg;rw[List.take_length]
def yel(g:Gr):Nat:=yfg g/2
namespace Sh
open Ev Go.RowKit
def ydgf(g:Gr):List SV:=if yfv g=true then[.i .i64 g.ports.length,.i .i64 (yel g)]else[.i .i64 0,.i .i64 0]
theorem ycjv(n:Nat):((n:Nat):Int).tdiv 2=((n/2:Nat):Int):=by
 rw[Int.tdiv_eq_ediv_of_nonneg (by omega)]
 omega
theorem ycet{g:Gr}(hI:GrI g):Returns zG 105 [grV g] (.tp (ydgf g)):=by
 refine Returns.of (ydgc _ _ ?_);have hV:=yoy hI;unfold ydgf;cases hv:yfv g with
 | false =>
   rw[hv]at hV;simp only[grV]at hV;simp only[c105,ybvn,ycao,ycns,grV,clash,go_sem,zA,zB,zD,↓reduceIte];refine hV.use ?_;simp only[ybh,clash,go_sem,zA,zB,↓reduceIte];exact Sim.refl _
 | true =>
   have hg:=(yff g).1 hv;have h24:=hg.2.1;have hpl:=hg.2.2.1;obtain⟨n,hn⟩:∃n,g.ports.length=n:=⟨_,rfl⟩;rw[hv]at hV;simp only[grV]at hV;rw[hn]at h24 hpl;simp only[c105,ybvn,ycao,ycvr,grV,clash,go_sem,zA,zB,zD,↓reduceIte];refine hV.use ?_;simp only[ybh,yu,hn,clash,go_sem,zA,zB,↓reduceIte,reduceCtorEq];refine ybf (σ:=Nat) (fun k=>⟨[(12,.i .i64 k),(11,.i .i64 n),(10,yu g.ports),(3,.i .i64 (yhp g k:Nat)),(1,.pt (1,0) 0 0)],[(1,.one (some ⟨27,true,2,1,fun _=>[ybc g.ids,yu g.ports]⟩))]⟩) (fun k=>k<=n) (fun k=>n-k) 0 (zAR _) ?_ ?_
   .refine yh [] [] [] ?_;simp only[yu,hn,allQ,live,yc,yx,zAS,go_sem,zA,zD,↓reduceIte,reduceCtorEq];rfl
   intro k hk
   by_cases hlt:k<n
   .have t1:decide ((k:Int)<(n:Int))=true:=decide_eq_true (by omega)
    have hs:=yrc (g:=g) (k:=k) (by omega)
    have hb:=yjg hg k (by omega)
    have hd:=hg.deg_lt (v:=k);obtain⟨d,hdd⟩:∃d,(g.ports.getD k []).length=d:=⟨_,rfl⟩;rw[hdd]at hs hd;have e:(yhp g k:Int)+(d:Int)=((yhp g (k+1):Nat):Int):=by rw[hs];omega
    simp only[ycck,ycuz,ycoq,ycwe,yu,ybb,hn,t1,hdd,e,clash,go_sem,zA,zB,↓reduceIte,reduceCtorEq];refine⟨by omega,ikw (by omega) (by omega),ikw (by omega) (by omega),?_⟩
    refine yj (k+1) (by omega) (by omega) ?_
    refine yh [] [] [] ?_;simp only[allQ,live,yc,yx,go_sem,zA,zD,↓reduceIte,reduceCtorEq];omega
   .obtain rfl:k=n:=by omega
    have t1:decide ((k:Int)<(k:Int))=false:=decide_eq_false (by omega)
    have hb:=yjg hg k (by omega)
    have e:=ymq g;rw[hn]at e;have e2:=ycjv (yhp g k);simp only[ycck,ycpz,yu,ybc,hn,hpl,t1,e2,clash,go_sem,zA,zB,zM,↓reduceIte,reduceCtorEq];unfold yel;rw[<-e];exact⟨⟨by decide,ikw (by omega) (by omega)⟩,Sim.refl _⟩
end Sh
end
section
def yio(g:Gr)(c:Conf):Bool:=yfv g&&yvy g.ports.length (yef g [-1]) c
def mtW(g:Gr)(c:Conf)(v:Nat):Int:=(Sh.towP g c 0).getD v 0
def ybll(g:Gr)(c:Conf):Bool:=(zQ c.length).all fun v=>!(decide (mtW g c v>=0)&&(mtW g c (mtW g c v).toNat != (v:Int)))
def ybok(g:Gr)(c:Conf):Bool:=(Ev.flatAt 0 g.ports).all fun e=>!(decide (mtW g c e.v<0)&&decide (mtW g c e.a.toNat<0))
def yek(g:Gr)(c:Conf):Bool:=yio g c&&(ybll g c&&ybok g c)
theorem ytu{g:Gr}{c:Conf}(h:yio g c=true):ybg g/\c.length=g.ports.length/\∀v,v<c.length->(c.getD v []).length=1 /\ -1<=(c.getD v []).getD 0 0/\(c.getD v []).getD 0 0<((g.ports.getD v []).length:Int):=by
 unfold yio at h;rw[zC]at h;have hck:=(yft _ _ _).1 h.2;refine⟨(yff g).1 h.1,hck.1,fun v hv=>?_⟩;have h2:=hck.2 v _ (zN hv);have e:c[v]=c.getD v []:=by rw[Sh.getD_at hv]
 rw[e]at h2;have hl:(c.getD v []).length=1:=by simpa[yef]using h2.1
 have h3:=h2.2 0 (-1,(ybfx g v:Int)-1) ((c.getD v []).getD 0 0) (by simp[yef]) (by rw[Sh.getD_at (show 0<(c.getD v []).length by omega)];exact zN _)
 unfold ybfx at h3;simp only at h3;omega
theorem ycnj{g:Gr}{c:Conf}(h:yio g c=true):MtC g c:=by
 obtain⟨hg,h1,h2⟩:=ytu h;have hpl:=hg.2.2.1;refine⟨by omega,fun v hv=>?_⟩
 obtain⟨a,b,d⟩:=h2 v (by omega)
 exact⟨a,b,d⟩
theorem ydtg{g:Gr}(hg:ybg g){c:Conf}(h:MtC g c){v:Nat}(hv:v<g.ids.length):mtW g c v=mtT g c v:=by
 have hpl:=hg.2.2.1;obtain⟨h1,h2⟩:=ycbl hg h hv;have hr:=(h.row v hv).2;have hat:mtW g c v=if pAt c v>=0 then((g.ports.getD v []).getD (pAt c v).toNat (0,0)).1 else -1:=Sh.ybjd (by rw[h.len];exact hv)
 rw[hat]
 by_cases q:0<=pAt c v
 .have hk:(pAt c v).toNat<(g.ports.getD v []).length:=by omega
  have e:toP g c v=some ((g.ports.getD v []).getD (pAt c v).toNat (0,0)).1.toNat:=by unfold toP;rw[if_pos ⟨by omega,q⟩]
  rw[if_pos q,h1 _ e];have hm:=(ydl hg (show v<g.ports.length by omega) (zW hk)).1
  rw[Sh.getD_at hk];omega
 .rw[if_neg (by omega),h2 ((ysj hg h hv).2 (by omega))]
section
variable {nm np na nb nw:ByteArray}{g:Gr}
theorem ydla(hg:ybg g){c:Conf}(hv:yfs (ybs nm np na nb nw) g c=true):yio g c=true:=by
 have hC:=ybav hv;have hpl:=hg.2.2.1;unfold yio;rw[(yff g).2 hg,zO,yft];refine⟨by rw[hC.len,hpl],fun v s hs=>?_⟩
 obtain⟨hvl,e⟩:=List.getElem?_eq_some_iff.1 hs;have e:c.getD v []=s:=by simp[zBH,hs]
 obtain⟨h1,h2,h3⟩:=hC.row v (by rw[<-hC.len];exact hvl)
 unfold pAt at h2 h3;rw[e]at h1 h2 h3;have eb:yef g [-1] v=[(-1,(ybfx g v:Int)-1)]:=by simp[yef]
 rw[eb];refine⟨h1,fun i b x hb hx=>?_⟩;have hi:=(List.getElem?_eq_some_iff.1 hb).1;have hi:i<1:=by simpa using hi
 obtain rfl:i=0:=by omega
 have hb:some (-1,(ybfx g v:Int)-1)=some b:=hb;cases hb
 have e2:s.getD 0 0=x:=by simp[zBH,hx]
 rw[e2]at h2 h3;unfold ybfx;exact⟨h2,by omega⟩
theorem yzy{c:Conf}(hq:yio g c=true):yek g c=true↔yzw g c:=by
 obtain⟨hg,hl,_⟩:=ytu hq;have hC:=ycnj hq;have hpl:=hg.2.2.1;have eW:=fun v hv=>ydtg hg hC (v:=v) hv;unfold yek ybll ybok;rw[hq,zO,zC,zX,zX,<-ychq hg hC]
 have inn:∀v,v<g.ids.length->0<=mtT g c v->(mtT g c v).toNat<g.ids.length:=fun v hv h0=>by
  have e:mtT g c v=((mtT g c v).toNat:Int):=by omega
  have:=(hg.adj_lt (ybal hg hC ((ytg hg hC hv).1 e))).2;omega
 refine and_congr ?_ ?_
 .constructor
  .intro h v hv h0;have:=h v (List.mem_range.2 (by omega))
   rw[eW v hv,eW _ (inn v hv h0),decide_eq_true h0,zO,zL,bne_eq_false_iff_eq]at this;exact this
  .intro h v hv;have hv:=List.mem_range.1 hv;rw[eW v (by omega),zL,zY]
   by_cases h0:0<=mtT g c v
   .right
    rw[eW _ (inn v (by omega) h0),bne_eq_false_iff_eq]
    exact h v (by omega) h0
   .exact .inl (decide_eq_false h0)
 .constructor
  .intro h v l hv hlm ⟨q1,q2⟩;have hm:=ychz (ps:=g.ports) (v:=v) (l:=l) (by omega) hlm
   have:=h _ hm;have hu:=(ydl hg (show v<g.ports.length by omega) hlm).2.1
   simp only at this;rw[eW v hv,eW l.1.toNat (by omega),decide_eq_true q1,decide_eq_true q2]at this
   cases this
  .intro h e he;obtain⟨k,hk,rfl⟩:=zAM he;obtain⟨h1,h2⟩:=ybdj hg hk;have e0:Sh.ydo g.ports k=(Ev.flatAt 0 g.ports)[k]:=by unfold Sh.ydo;rw[Sh.getD_at hk]
   rw[e0]at h1 h2;have hu:((Ev.flatAt 0 g.ports)[k]).a.toNat<g.ports.length:=(ydl hg h1 h2).2.1;have hn:=h _ _ (show _<g.ids.length by omega) h2
   rw[eW _ (by omega),eW _ (by omega),zL,zY]
   by_cases q:mtT g c ((Ev.flatAt 0 g.ports)[k]).v<0
   .exact .inr (decide_eq_false fun q2=>hn ⟨q,q2⟩)
   .exact .inl (decide_eq_false q)
theorem yma(hg:ybg g){c:Conf}(hv:yfs (ybs nm np na nb nw) g c=true):ybj (ybs nm np na nb nw) g c=0↔yek g c=true:=(ychh hg (ybav hv)).trans (yzy (ydla hg hv)).symm
theorem ybwu(hg:ybg g):2*yel g=yfg g:=by
 have:=ybpw hg;unfold yel;omega
end
end
section
namespace Sh
open Go Ev
def ydwl:LO:=[o3 (.mv (.const (.string (ByteArray.mk #[])))) 0 0]
def ydth:LO:=[o3 (.mv (.const (.string (ByteArray.mk #[112,114,111,103,114,97,109,32,109,97,116,99,104,105,110,103,59,10,118,97,114,32,112,32,58,32,112,111,114,116,59,10,114,117,108,101,32,97,99,99,101,112,116,58,32,112,32,61,61,32,110,111,110,101,32,38,38,32,115,111,109,101,40,113,46,112,32,61,61,32,113,46,98,97,99,107,41,32,45,62,32,112,32,58,61,32,102,105,114,115,116,40,113,46,112,32,61,61,32,113,46,98,97,99,107,41,59,10,114,117,108,101,32,112,114,111,112,111,115,101,58,32,112,32,61,61,32,110,111,110,101,32,38,38,32,115,111,109,101,40,113,46,112,32,61,61,32,110,111,110,101,41,32,45,62,32,112,32,58,61,32,102,105,114,115,116,40,113,46,112,32,61,61,32,110,111,110,101,41,59,10,114,117,108,101,32,119,105,116,104,100,114,97,119,58,32,115,111,109,101,40,113,32,61,61,32,112,32,38,38,32,113,46,112,32,33,61,32,110,111,110,101,32,38,38,32,113,46,112,32,33,61,32,113,46,98,97,99,107,41,32,45,62,32,112,32,58,61,32,110,111,110,101,59,10])))) 0 0]
def c39:SC:=(.seq (.reg false ydwl) (.seq (.reg false ydth) .ret))
theorem ydsh:Fn 39 c39 [.t 0]:=fn_0 Tryz.func39 (by kernel_rfl) (by kernel_rfl)
def ycys:LO:=[o3 (.box 27 (.tmp 0)) 1 0,o3 (.mv (.const (.bool false))) 2 0]
def yczc:LO:=[ld' true 2 1 3 0,cl' 131 [3] 4 1,mv' 4 2 3]
def c104:SC:=(.seq (.reg false ycys) (.seq (.reg false yczc) .ret))
theorem yddz:Fn 104 c104 [.t 2]:=fn_0 Tryz.func104 (by kernel_rfl) (by kernel_rfl)
def yccj:LO:=[o3 (.box 27 (.tmp 0)) 2 0,o3 (.mv (.const (.bool false))) 4 0]
def ybvc:LO:=[ld' true 2 2 5 0,cl' 104 [5] 6 1,mv' 6 7 3,⟨.load true 2 (.tmp 2),some 8,some (7,true),7⟩,⟨.mv (.tmp 1),some 9,some (7,true),7⟩,⟨.bslice 3 1 1 [.i .i64 0] [(0,1,(.const (.int .i64 (-1))))],some 10,some (7,true),7⟩,⟨.call (.func 89) [(.tmp 8),(.tmp 9),(.tmp 10)],some 11,some (7,true),63⟩,o3 (.pick (.tmp 7) (.tmp 11) (.const (.bool false))) 12 127,mv' 12 4 255]
def c106:SC:=(.seq (.reg false yccj) (.seq (.reg false ybvc) .ret))
theorem ydby:Fn 106 c106 [.t 4]:=fn_0 Tryz.func106 (by kernel_rfl) (by kernel_rfl)
def ydec:LO:=[o3 (.box 27 (.tmp 0)) 2 0,o3 (.alloc 4 1 [.b false]) 4 0]
def ydhw:LO:=[ld' true 2 2 10 0,mv' 1 11 0,cl' 106 [10,11] 12 3,o3 (.un .not (.tmp 12)) 13 7]
def ydus:LO:=[o0 (.store 1 (.tmp 4) (.const (.bool false))) 0]
def ydvg:LO:=[ld' true 2 2 14 0,mv' 1 15 0,o3 (.call (.func 107) [(.tmp 14),(.tmp 15),(ci' 0)]) 16 3,o3 (.alloc 22 1 [.a (.slice none 0 0)]) 5 0,o0 (.store 1 (.tmp 5) (.tmp 16)) 15]
def ydqf:LO:=[ld' false 1 5 17 0,ln' 17 18 1,o3 (.mv (ci' 0)) 19 0]
def yceu:LO:=[bn' .lss 19 18 20 0]
def ychf:LO:=[mv' 19 21 0,ix' 1 17 19 22 0,ld' false 1 22 23 2,mv' 21 6 7,mv' 23 7 15]
def yckx:LO:=[mv' 7 24 0,o3 (.bin .geq (.tmp 24) (ci' 0)) 25 1,mv' 25 26 3,⟨.load false 1 (.tmp 5),some 27,some (26,true),7⟩,⟨.mv (.tmp 7),some 28,some (26,true),7⟩,⟨.idx 1 (.tmp 27) (.tmp 28),some 29,some (26,true),31⟩,⟨.load false 1 (.tmp 29),some 30,some (26,true),63⟩,⟨.mv (.tmp 6),some 31,some (26,true),7⟩,⟨.bin .neq (.tmp 30) (.tmp 31),some 32,some (26,true),255⟩,o3 (.pick (.tmp 26) (.tmp 32) (.const (.bool false))) 33 511]
def ydsk:LO:=[o0 (.store 1 (.tmp 4) (.const (.bool false))) 0]
def ydfg:LO:=[o3 (.bin .add (.tmp 19) (ci' 1)) 34 0,mv' 34 19 1]
def ycpa:LO:=[ld' true 2 2 35 0,cl' 53 [35] 36 1]
def ybkw:LO:=[mv' 37 8 0]
def ybnu:LO:=[o3 (.alloc 68 1 [.i .i64 0,.i .i64 0]) 9 0,o0 (.store 2 (.tmp 9) (.tmp 38)) 1]
def ybkp:LO:=[ld' false 1 5 39 0,mv' 8 40 0,ix' 1 39 40 41 3,ld' false 1 41 42 7,o3 (.bin .lss (.tmp 42) (ci' 0)) 43 15,mv' 43 44 31,⟨.load false 1 (.tmp 5),some 45,some (44,true),63⟩,⟨.faddr 0 1 (.tmp 9),some 46,some (44,true),63⟩,⟨.load false 1 (.tmp 46),some 47,some (44,true),191⟩,⟨.idx 1 (.tmp 45) (.tmp 47),some 48,some (44,true),511⟩,⟨.load false 1 (.tmp 48),some 49,some (44,true),1023⟩,⟨.bin .lss (.tmp 49) (ci' 0),some 50,some (44,true),2047⟩,o3 (.pick (.tmp 44) (.tmp 50) (.const (.bool false))) 51 4095]
def ycyn:LO:=[o0 (.store 1 (.tmp 4) (.const (.bool false))) 0]
def ycvc:LO:=[o0 (.store 1 (.tmp 4) (.const (.bool true))) 0]
def c41:SC:=(.seq (.reg false ydec) (.seq (.seq (.reg false ydhw) (.cond (.tmp 13) (.seq (.reg false ydus) .ret) .skip)) (.seq (.reg false ydvg) (.seq (.seq (.reg false ydqf) (.block 0 (.loop (.seq (.reg false yceu) (.seq (.cond (.tmp 20) .skip (.exit 0)) (.seq (.block 1 (.seq (.reg false ychf) (.seq (.reg false yckx) (.cond (.tmp 33) (.seq (.reg false ydsk) .ret) .skip)))) (.reg false ydfg))))))) (.seq (.seq (.reg false ycpa) (.block 2 (.range (.tmp 36) [37,38] (.seq (.reg false ybkw) (.reg false ybnu)) (.block 3 (.seq (.reg false ybkp) (.cond (.tmp 51) (.seq (.reg false ycyn) .ret) .skip)))))) (.seq (.reg false ycvc) .ret))))))
theorem ydqq:Fn 41 c41 [.c 4 false 1]:=fn_0 Tryz.func41 (by kernel_rfl) (by kernel_rfl)
def ydkf:LO:=[o3 (.box 27 (.tmp 0)) 1 0,o3 (.alloc 36 1 [.i .i64 0,.b false,.b false,.i .i64 0,.i .i64 0]) 2 0]
def ydgi:LO:=[ld' true 2 1 5 0,cl' 104 [5] 6 1,o3 (.un .not (.tmp 6)) 7 3]
def ydoc:LO:=[o3 (.build [.i .i64 0,.b false,.b false,.i .i64 0,.i .i64 0] []) 8 0,o0 (.store 5 (.tmp 2) (.tmp 8)) 1]
def ydod:LO:=[ld' true 2 1 10 0,cl' 105 [10] 11 1,mv' 11 9 3,xt' 9 0 12 7,xt' 9 1 13 7,mv' 12 3 15,mv' 13 4 63]
def ydre:LO:=[mv' 4 14 0,o3 (.bin .mul (ci' 2) (.tmp 14)) 15 1,mv' 3 16 0,bn' .add 15 16 17 7,mv' 4 18 0,o3 (.bin .mul (ci' 2) (.tmp 18)) 19 16,mv' 3 20 0,bn' .add 19 20 21 112,o3 (.build [.i .i64 0,.b false,.b false,.i .i64 0,.i .i64 0] [(0,1,(ci' 2)),(2,1,(.const (.bool true))),(3,1,(.tmp 17)),(4,1,(.tmp 21))]) 22 255,o0 (.store 5 (.tmp 2) (.tmp 22)) 511]
def c40:SC:=(.seq (.reg false ydkf) (.seq (.seq (.reg false ydgi) (.cond (.tmp 7) (.seq (.reg false ydoc) .ret) .skip)) (.seq (.reg false ydod) (.seq (.reg false ydre) .ret))))
theorem ydue:Fn 40 c40 [.c 2 true 5]:=fn_0 Tryz.func40 (by kernel_rfl) (by kernel_rfl)
end Sh
end
section
theorem ydwa{g:Gr}(hg:ybg g){c:Conf}(h:MtC g c){v:Nat}(hv:v<g.ids.length):-1<=mtW g c v/\mtW g c v<(g.ports.length:Int):=by
 have hpl:=hg.2.2.1;have hr:=(h.row v hv).2;have hat:mtW g c v=if pAt c v>=0 then((g.ports.getD v []).getD (pAt c v).toNat (0,0)).1 else -1:=Sh.ybjd (by rw[h.len];exact hv)
 rw[hat];have h1:=hg.1;split
 .have hk:(pAt c v).toNat<(g.ports.getD v []).length:=by omega
  have hm:=ydl hg (show v<g.ports.length by omega) (zW hk)
  rw[Sh.getD_at hk];omega
 .omega
def ybit(g:Gr):Sh.SV:=if yfv g=true then .ag (Sh.clmV 2 false true (2*yel g+g.ports.length:Nat) (2*yel g+g.ports.length:Nat))else .ag (Sh.clmV 0 false false 0 0)
namespace Sh
open Ev Go.RowKit
theorem ybno{g:Gr}(hI:GrI g):Returns zG 104 [grV g] (.b (yfv g)):=by
 refine Returns.of (yddz _ _ ?_);have hC:=yoy hI;simp only[grV]at hC;simp only[c104,ycys,yczc,grV,go_sem,zA,zB,zD,↓reduceIte];refine hC.use ?_;simp only[ybh,yvd,go_sem,zA,zB,↓reduceIte,reduceCtorEq]
theorem ybyd{g:Gr}(hI:GrI g){c:Conf}(hR:ycew c):Returns zG 106 [grV g,ycz c] (.b (yio g c)):=by
 refine Returns.of (ydby _ _ ?_);have hF:=ybno hI;unfold yio;cases ht:yfv g with
 | false =>
   rw[ht]at hF;simp only[grV]at hF;simp only[c106,yccj,ybvc,grV,clash,go_sem,zA,zB,zD,↓reduceIte];refine hF.use ?_;simp only[ybh,clash,go_sem,zA,zB,↓reduceIte,reduceCtorEq];exact Sim.refl _
 | true =>
   have hg:=(yff g).1 ht
   have hC:=ycgp hg hR (G:=[-1]) (fun x hx=>by
    simp at hx;subst hx;exact ikw (by omega) (by omega))
   rw[ht]at hF;simp only[grV]at hF;simp only[c106,yccj,ybvc,grV,clash,go_sem,zA,zB,zD,↓reduceIte];refine hF.use ?_;simp only[ybh,ybc,splice,clash,go_sem,zA,zB,zD,↓reduceIte,reduceCtorEq];have one:∀{q:Nat},q<1->q=0:=fun {q} h=>by omega
   refine .inl ⟨fun q hq=>by obtain rfl:=one hq;simp only[go_sem],hC.useS ?_ ?_⟩
   .refine⟨Sim.refl (grV g),Sim.refl _,?_,trivial⟩;refine ydp fun q hq=>?_;obtain rfl:=one hq;simp only[List.getD_cons_zero,go_sem];exact⟨Sim.refl _,trivial⟩
   simp only[go_sem];exact Sim.refl _
set_option maxHeartbeats 2000000 in
theorem ybpm{g:Gr}(hI:GrI g){c:Conf}(hR:ycew c):Returns zG 41 [grV g,ycz c] (.b (yek g c)):=by
 refine Returns.of (ydqq _ _ ?_);have hC:=ybyd hI hR;cases hcf:yio g c with
 | false =>
   have e:yek g c=false:=by unfold yek;rw[hcf];rfl
   rw[hcf]at hC;rw[e];simp only[grV]at hC;simp only[c41,ydec,ydhw,ydus,grV,clash,go_sem,zA,zB,zD,↓reduceIte,reduceCtorEq];refine hC.use ?_;simp only[ybh,clash,go_sem,zA,zB,↓reduceIte];exact Sim.refl _
 | true =>
   obtain⟨hg,hcl,hc1⟩:=ytu hcf;have hM:=ycnj hcf;have h24:=hg.2.1;have hpl:=hg.2.2.1;have hT:=ybjm (g:=g) (c:=c) (x:=0) (by omega) (by omega) (by omega) (fun v hv=>by obtain⟨a,b,d⟩:=hc1 v hv;exact⟨by omega,d⟩)
   have hLk:=ycek (g:=g);have hTl:=ybml g c 0;have hWi:=fun v (hv:v<g.ids.length)=>ydwa hg hM hv;have hLe:yek g c=(ybll g c&&ybok g c):=by unfold yek;rw[hcf];rfl
   have hPe:ybll g c=(zQ c.length).all fun v=>!(decide (mtW g c v>=0)&&(mtW g c (mtW g c v).toNat != (v:Int))):=rfl;have hQe:ybok g c=(flatAt 0 g.ports).all fun e=>!(decide (mtW g c e.v<0)&&decide (mtW g c e.a.toNat<0)):=rfl;obtain⟨W,hW⟩:∃W:Nat->Int,(fun v=>mtW g c v)=W:=⟨_,rfl⟩;have hW':∀v,mtW g c v=W v:=fun v=>by rw[<-hW]
   have hTW:∀v,(towP g c 0).getD v 0=W v:=fun v=>hW' v;obtain⟨T,hTe⟩:∃T,towP g c 0=T:=⟨_,rfl⟩;obtain⟨n,hn⟩:∃n,c.length=n:=⟨_,rfl⟩;simp only[hW']at hPe hQe hWi;rw[hTe]at hT hTl hTW;rw[hn]at hTl hPe hcl;rw[hcf]at hC;rw[hLe];simp only[grV]at hC hT hLk;simp only[ybc,hTl]at hT;simp only[c41,ydec,ydhw,ydvg,grV,clash,go_sem,zA,zB,zD,↓reduceIte,reduceCtorEq];refine hC.use ?_;simp only[ybh,clash,go_sem,zA,zB,zD,↓reduceIte,reduceCtorEq]
   refine hT.use ?_;simp only[ydqf,clash,go_sem,zB,↓reduceIte]
   refine ybf (σ:=Nat) (fun k=>⟨[(19,.i .i64 k),(18,.i .i64 n),(17,.sl 1 n fun v=>[.i .i64 (T.getD v 0)]),(2,.pt (2,0) 0 0),(4,.pt (4,0) 0 0),(5,.pt (5,0) 0 0)],
    [(2,.one (some ⟨27,true,2,1,fun _=>[ybc g.ids,yu g.ports]⟩)),(4,.one (some ⟨4,true,1,1,fun _=>[.b false]⟩)),(5,.one (some ⟨22,true,1,1,fun _=>[.sl 1 n fun v=>[.i .i64 (T.getD v 0)]]⟩))]⟩)
      (fun k=>k<=n/\∀j,j<k->(decide (W j>=0)&&(W (W j).toNat != (j:Int)))=false) (fun k=>n-k) 0 ⟨zAR _,fun j hj=>absurd hj (zAF j)⟩ ?_ ?_
   .refine yh [] [] [] ?_;simp only[go_sem,allQ,live,yc,zAS,go_sem,zA,zD,↓reduceIte,reduceCtorEq]
   rintro k ⟨hk,hall⟩
   by_cases hlt:k<n
   .have t1:decide ((k:Int)<(n:Int))=true:=decide_eq_true (by omega)
    obtain⟨w1,w2⟩:=hWi k (by omega)
    have hTk:=hTW k;obtain⟨x,hx⟩:∃x,W k=x:=⟨_,rfl⟩;rw[hx]at w1 w2 hTk;have hTx:=hTW x.toNat;obtain⟨y,hy⟩:∃y,W x.toNat=y:=⟨_,rfl⟩;rw[hy]at hTx
    by_cases q:x>=0
    .have t2:decide (x>=0)=true:=decide_eq_true q
     by_cases r:y=(k:Int)
     .have t3:(y != (k:Int))=false:=by rw[r];simp
      simp only[yceu,ychf,yckx,ydfg,hTk,hTx,t1,t2,t3,clash,go_sem,zA,zB,↓reduceIte,reduceCtorEq]
      repeat (refine⟨by omega,?_⟩)
      refine⟨ikw (by omega) (by omega),?_⟩
      refine yj (k+1) ⟨by omega,fun j hj=>?_⟩ (by omega) ?_
      .by_cases q2:j=k
       .rw[q2,hx,hy,t2,t3];rfl
       .exact hall j (by omega)
      .refine yh [] [] [] ?_;simp only[go_sem,allQ,live,yc,yx,go_sem,zA,zD,↓reduceIte,reduceCtorEq];omega
     .have t3:(y != (k:Int))=true:=by rw[bne_iff_ne];exact r
      have e:(zQ n).all (fun v=>!(decide (W v>=0)&&(W (W v).toNat != (v:Int))))=false:=by
       rw[zAP];exact⟨k,List.mem_range.2 hlt,by rw[hx,hy,t2,t3];decide⟩
      rw[hPe,e,Bool.false_and];simp only[yceu,ychf,yckx,ydsk,hTk,hTx,t1,t2,t3,clash,go_sem,zA,zB,↓reduceIte,reduceCtorEq]
      repeat (refine⟨by omega,?_⟩)
      exact Sim.refl _
    .have t2:decide (x>=0)=false:=decide_eq_false q;simp only[yceu,ychf,yckx,ydfg,hTk,t1,t2,clash,go_sem,zA,zB,↓reduceIte,reduceCtorEq]
     repeat (refine⟨by omega,?_⟩)
     refine⟨ikw (by omega) (by omega),?_⟩
     refine yj (k+1) ⟨by omega,fun j hj=>?_⟩ (by omega) ?_
     .by_cases q2:j=k
      .rw[q2,hx,t2];rfl
      .exact hall j (by omega)
     .refine yh [] [] [] ?_;simp only[go_sem,allQ,live,yc,yx,go_sem,zA,zD,↓reduceIte,reduceCtorEq];omega
   .obtain rfl:k=n:=by omega
    have t1:decide ((k:Int)<(k:Int))=false:=decide_eq_false (by omega)
    have e:(zQ k).all (fun v=>!(decide (W v>=0)&&(W (W v).toNat != (v:Int))))=true:=by
     rw[zX];exact fun v hv=>by rw[hall v (List.mem_range.1 hv)];rfl
    rw[hPe,e,zO];simp only[yceu,ycpa,t1,go_sem,zA,zB,↓reduceIte];refine hLk.use ?_;simp only[ybh,clash,go_sem]
    refine yjl (yckf (ybul hg)) [(2,0),(4,0),(5,0)] (fun i (_:Unit)=>⟨[(36,.fn 122 [] [.rf [ybc g.ids,yu g.ports]]),(2,.pt (2,0) 0 0),(4,.pt (4,0) 0 0),(5,.pt (5,0) 0 0)],
     [(2,.one (some ⟨27,true,2,1,fun _=>[ybc g.ids,yu g.ports]⟩)),(4,.one (some ⟨4,true,1,1,fun _=>[.b false]⟩)),(5,.one (some ⟨22,true,1,1,fun _=>[.sl 1 k fun v=>[.i .i64 (T.getD v 0)]]⟩))]⟩)
       (fun i _=>i<=(flatAt 0 g.ports).length/\∀j,j<i->(decide (W (ydo g.ports j).v<0)&&decide (W (ydo g.ports j).a.toNat<0))=false) () ⟨zAR _,fun j hj=>absurd hj (zAF j)⟩ ⟨fun _ h=>absurd h zAT,fun _ h=>absurd h zAT⟩ ?_ (fun _=>rfl) ?_ ?_ ?_
    .refine yh [] [] [] ?_;simp only[go_sem,allQ,live,yc,go_sem,zA,zD,↓reduceIte,reduceCtorEq]
    .intro i _ hi _;refine⟨trivial,?_⟩;simp only[go_sem,allQ,go_sem,zA]
    .intro i _ hi hlti;obtain⟨hi,hgood⟩:=hi;have hlti:i<(flatAt 0 g.ports).length:=hlti;obtain⟨e1,e2⟩:=ybdj hg hlti;have hel:ydo g.ports i∈flatAt 0 g.ports:=by unfold ydo;rw[getD_at hlti];exact zW hlti
     obtain⟨E,hE⟩:∃E,ydo g.ports i=E:=⟨_,rfl⟩;rw[hE]at e1 e2 hel;obtain⟨a1,a2,_⟩:=ydl hg e1 e2;have a1:0<=E.a:=a1;have a2:E.a.toNat<g.ports.length:=a2;have h1:=hTW E.v;have h2:=hTW E.a.toNat;obtain⟨x,hx⟩:∃x,W E.v=x:=⟨_,rfl⟩;obtain⟨y,hy⟩:∃y,W E.a.toNat=y:=⟨_,rfl⟩;rw[hx]at h1;rw[hy]at h2;refine⟨_,rfl,?_⟩;simp only[ycue]
     have next:(decide (x<0)&&decide (y<0))=false->i+1<=(flatAt 0 g.ports).length/\∀j,j<i+1->(decide (W (ydo g.ports j).v<0)&&decide (W (ydo g.ports j).a.toNat<0))=false:=fun hb=>⟨hlti,fun j hj=>by
      by_cases q:j=i
      .rw[q,hE,hx,hy];exact hb
      .exact hgood j (by omega)⟩
     by_cases q:x<0
     .have t2:decide (x<0)=true:=decide_eq_true q
      by_cases r:y<0
      .have t3:decide (y<0)=true:=decide_eq_true r
       have e:(flatAt 0 g.ports).all (fun e=>!(decide (W e.v<0)&&decide (W e.a.toNat<0)))=false:=by
        rw[zAP];exact⟨E,hel,by rw[hx,hy,t2,t3];decide⟩
       rw[hQe,e];simp only[ybkw,ybnu,ybkp,ycyn,hE,h1,h2,t2,t3,splice,clash,go_sem,zA,zB,zM,zD,↓reduceIte,reduceCtorEq]
       repeat (refine⟨by omega,?_⟩)
       exact Sim.refl _
      .have t3:decide (y<0)=false:=decide_eq_false r;rw[t2,t3]at next
       simp only[ybkw,ybnu,ybkp,hE,h1,h2,t2,t3,splice,clash,go_sem,zA,zB,zM,zD,↓reduceIte,reduceCtorEq]
       repeat (first|refine⟨(by omega:(_:Prop)),?_⟩|refine⟨(by decide:(_:Prop)),?_⟩)
       refine⟨next rfl,?_⟩
       refine ybi [] [] [] ?_;simp only[go_sem,allQ,live,yc,go_sem,zA,zD,↓reduceIte,reduceCtorEq]
     .have t2:decide (x<0)=false:=decide_eq_false q;rw[t2]at next
      simp only[ybkw,ybnu,ybkp,hE,h1,t2,splice,clash,go_sem,zA,zB,zD,↓reduceIte,reduceCtorEq]
      repeat (first|refine⟨(by omega:(_:Prop)),?_⟩|refine⟨(by decide:(_:Prop)),?_⟩)
      refine⟨next rfl,?_⟩
      refine ybi [] [] [] ?_;simp only[go_sem,allQ,live,yc,go_sem,zA,zD,↓reduceIte,reduceCtorEq]
    .intro _ hgood;obtain⟨_,hgood⟩:=hgood
     have e:(flatAt 0 g.ports).all (fun e=>!(decide (W e.v<0)&&decide (W e.a.toNat<0)))=true:=by
      rw[zX];intro e he;obtain⟨j,hj,rfl⟩:=zAM he;have:=hgood j hj;unfold ydo at this;rw[getD_at hj]at this;rw[this];rfl
     rw[hQe,e];simp only[ycvc,splice,go_sem,zA,↓reduceIte];exact Sim.refl _
theorem ybro{g:Gr}(hI:GrI g):Returns zG 40 [grV g] (ybit g):=by
 refine Returns.of (ydue _ _ ?_);have hF:=ybno hI;have hS:=ycet hI;unfold ybit;unfold ydgf at hS;cases ht:yfv g with
 | false =>
   rw[ht]at hF;simp only[grV]at hF;simp only[c40,ydkf,ydgi,ydoc,grV,clmV,clash,go_sem,zA,zB,zD,↓reduceIte];refine hF.use ?_;simp only[ybh,splice,clash,go_sem,zA,zB,↓reduceIte];exact Sim.refl _
 | true =>
   have hg:=(yff g).1 ht;have h24:=hg.2.1;have hb:=yjg hg g.ports.length (zAH _);rw[ymq]at hb;have hl:yel g<=288:=by unfold yel;omega
   have e:2*((yel g:Nat):Int)+((g.ports.length:Nat):Int)=((2*yel g+g.ports.length:Nat):Int):=by omega
   rw[ht]at hF;rw[ht,if_pos rfl]at hS;simp only[grV]at hF hS;simp only[c40,ydkf,ydgi,ydod,ydre,grV,clmV,clash,go_sem,zA,zB,zD,↓reduceIte];refine hF.use ?_;simp only[ybh,splice,clash,go_sem,zA,zB,zM,↓reduceIte,reduceCtorEq];refine hS.use ?_;simp only[e,go_sem,zA,zB,↓reduceIte];exact⟨ikw (by omega) (by omega),ikw (by omega) (by omega),ikw (by omega) (by omega),ikw (by omega) (by omega),Sim.refl _⟩
end Sh
end
section
namespace Sh
open Go Ev
def ycyv:LO:=[o3 (.box 77 (.tmp 0)) 1 0,o3 (.mv (.const (.nilFunc))) 2 0]
def ycxe:LO:=[o3 (.mkfn 172 [] [(.tmp 1)]) 3 0,mv' 3 2 1]
def c129:SC:=(.seq (.reg false ycyv) (.seq (.reg false ycxe) .ret))
theorem yckp:FnM 129 c129 [.t 2]:=fn_m Tryz.func129 (by kernel_rfl) (by kernel_rfl)
def ycqg:LO:=[o3 (.box 83 (.tmp 0)) 2 0,o3 (.box 77 (.tmp 1)) 3 0,o3 (.alloc 4 1 [.b false]) 4 0]
def ycsc:LO:=[ld' false 1 3 6 0,cl' 129 [6] 7 1]
def ybtd:LO:=[mv' 8 5 0]
def ycby:LO:=[ld' false 1 2 9 0,mv' 5 10 0,ix' 1 9 10 11 3,ld' false 1 11 12 7,ld' false 1 3 13 0,bn' .and 12 13 14 31,o3 (.bin .neq (.tmp 14) (.const (.int .u32 0))) 15 63]
def ycwg:LO:=[o0 (.store 1 (.tmp 4) (.const (.bool false))) 0]
def ycrx:LO:=[o0 (.store 1 (.tmp 4) (.const (.bool true))) 0]
def c206:SC:=(.seq (.reg false ycqg) (.seq (.seq (.reg false ycsc) (.block 0 (.range (.tmp 7) [8] (.reg false ybtd) (.block 1 (.seq (.reg true ycby) (.cond (.tmp 15) (.seq (.reg false ycwg) .ret) .skip)))))) (.seq (.reg false ycrx) .ret)))
theorem ycky:FnU 206 c206 [.c 4 false 1]:=fn_u Tryz.func206 (by kernel_rfl) (by kernel_rfl)
def ydhd:LO:=[o3 (.box 24 (.tmp 0)) 2 0,o3 (.alloc 27 1 [.a (.slice none 0 0),.a (.slice none 0 0)]) 4 0]
def ydbi:LO:=[fa' 4 1 2 5 0,ld' false 1 5 6 1,o3 (.un .not (.tmp 6)) 7 3]
def ydly:LO:=[ld' true 6 2 8 0,mv' 1 9 0,cl' 79 [8,9] 10 3,o0 (.store 2 (.tmp 4) (.tmp 10)) 7]
def ydxm:LO:=[ld' true 6 2 11 0,ld' true 6 2 12 0,mv' 1 13 0,cl' 47 [12,13] 14 6,cl' 80 [11,14] 15 15,o0 (.store 2 (.tmp 4) (.tmp 15)) 31]
def c22:SC:=(.seq (.reg false ydhd) (.seq (.seq (.reg false ydbi) (.cond (.tmp 7) (.seq (.reg false ydly) .ret) .skip)) (.seq (.reg true ydxm) .ret)))
theorem ydip:FnU 22 c22 [.c 4 true 2]:=fn_u Tryz.func22 (by kernel_rfl) (by kernel_rfl)
end Sh
end
section
namespace Sh
open Ev Go.RowKit
theorem ycbh{x:NetR}(hx:x.ok){most:Nat}(hm:1<=most/\most<=24) :
 Cm zG 47 [] [] [.ag (netC x),.i .i64 most] fun r o=>∃g,ybg g/\g.ports.length<=most/\r=yfu g/\o=ycr g.ports :=
 (ybnr hx hm).weak fun r o' ⟨ids,h1,h2,h3,e1,e2⟩=>by
   subst e1 e2;obtain⟨n,hn⟩:∃n,ids.length=n:=⟨_,rfl⟩;have b1:(bare ids).ids=ids:=rfl;have b2:(bare ids).ports.length=n:=by simp[bare,hn]
   have b3:∀v,(bare ids).ports.getD v []=[]:=ylc ids;refine⟨yfu (bare ids),ycr (bare ids).ports,?_,?_,bare ids,ybgb (by omega) (by omega) h2 h3,by rw[b2];omega,rfl,rfl⟩
   .refine yh [(211,fun i=>(17,i))] [212] [] ?_;simp only[yfu,ycr,rowO,b1,b2,b3,hn,zAV,allQ,live,yc,go_sem,zA,zD,zU,↓reduceIte,reduceCtorEq];refine⟨fun i hi=>⟨(212,i),rfl,rfl,by simp[hi]⟩,fun i b hb=>?_⟩
    obtain⟨_,rfl⟩:=ycx hb;exact⟨rfl,rfl⟩
   .simp only[ycr,yfu,yby,ydn,allQ,live,go_sem,zA,↓reduceIte];refine⟨fun i hi=>by rw[if_pos hi],fun i b hb k hk=>?_⟩
    obtain⟨hi,rfl⟩:=ycx hb;simp only[rowO,go_sem]
theorem ydds{x:NetR}(hx:x.ok){most:Nat}(hm:1<=most/\most<=24) :
 Ct zG 22 [.ag (netC x),.i .i64 most] fun r=>∃g,ybg g/\g.ports.length<=most/\Sim r (grV g):=by
 refine ydip [47,80] _ _ ?_;have hC:=ybaa hx hm;have hN:=ycbh hx hm;simp only[netC]at hC hN;cases hap:x.apart with
 | false =>
   rw[hap]at hC;simp only[c22,ydhd,ydbi,ydly,netC,hap,clash,go_sem,zA,zB,zM,zD,zU,↓reduceIte,reduceCtorEq];refine hC.found (V:=grV) (fun r g h=>h.2.2.2) fun r g h=>?_;simp only[ybh,grV,splice,clash,go_sem,zA,zB,↓reduceIte];exact⟨g,h.1,h.2.2.1,Sim.refl _⟩
 | true =>
   rw[hap]at hN;simp only[c22,ydhd,ydbi,ydxm,netC,hap,clash,go_sem,zA,zB,zM,zD,↓reduceIte,reduceCtorEq];refine yco hN [(211,211),(212,212)] 0 [2,4,11] [2,4] ?_ ?_
   .simp only[okN,yby,ydn,ycs,yck,allQ,live,yc,go_sem,zA,zB,zU,↓reduceIte,reduceCtorEq]
   rintro r o' ⟨g,hg,hn,rfl,rfl⟩;have hM:=ycab (Q:=fun _=>True) hx hg trivial (fun G a b w gG gl ga gb gw gQ=>trivial);simp only[netC,hap]at hM;simp only[ycr,yfu,yiq,yhr,nuF,nu,difN,ycs,yck,Fam.ren,OB.ren,dim,yyf,yfx,go_sem,zA,zB,zU,↓reduceIte];refine yco hM [(211,211),(212,212)] 0 [4] [4] ?_ ?_
   .simp only[yfu,ycr,to1,okN,yby,ydn,ycs,yck,allQ,live,yc,go_sem,zA,zB,zD,zU,↓reduceIte,reduceCtorEq];refine⟨⟨fun i _ j _ e=>e,fun i hi=>by rw[if_pos hi],fun i b hb=>?_⟩,by decide⟩
    obtain⟨hi,rfl⟩:=ycx hb;refine⟨_,yry (f:=ren (nu [(211,211),(212,212)] 0) 5) (fun _ _=>rfl) hi,⟨rfl,rfl,rfl,rfl⟩,fun e=>absurd (show false=true from e) Bool.false_ne_true,fun k hk=>?_⟩
    simp only[rowO,live,yc,go_sem,reduceCtorEq]
   rintro r o' ⟨G,gg,-,gn,rfl,rfl⟩;simp only[ycr,yfu,clash,splice,yiq,yhr,nuF,nu,difN,ycs,yck,Fam.ren,OB.ren,dim,yyf,yfx,go_sem,zA,zB,zU,↓reduceIte];refine⟨by decide,fun q hq=>?_,G,gg,by omega,?_⟩
   .simp only[if_pos hq];exact⟨zAH _,fun k hk=>by simp only[rowO,go_sem]⟩
   .refine ybca ⟨Sim.refl _,?_,trivial⟩;refine ydp fun q hq=>?_;simp only[if_pos hq];simp only[rowO,ybb,ygr,go_sem];exact⟨Sim.refl _,trivial⟩
end Sh
end
section
namespace Ev
def Mzb0:BlkL:=⟨5,135,1,[.slice (some ⟨20,0,none⟩) 1 CU,.slice (some ⟨29,0,none⟩) 2 CU,.slice (some ⟨31,0,none⟩) 1 CU]⟩
def Mzb1:BlkL:=⟨12,3,1,[.int .i64 0,.int .i64 1,.int .i64 2]⟩
def Mzb2:BlkL:=⟨29,68,2,[.int .i64 0,.int .i64 1,.int .i64 2,.int .i64 1]⟩
def Mzb3:BlkL:=⟨746,251,2,[.int .i64 41,.int .i64 0,.int .i64 35,.int .i64 0,.int .i64 5,.int .i64 0,.int .i64 4,.int .i64 0,.int .i64 21,.int .i64 0,.int .i64 35,.int .i64 0,.int .i64 12,.int .i64 0,.int .i64 17,.int .i64 0]⟩
def Mzb4:BlkL:=⟨795,251,2,[.int .i64 23,.int .i64 0,.int .i64 35,.int .i64 0,.int .i64 12,.int .i64 0,.int .i64 17,.int .i64 0]⟩
def Mzb5:BlkL:=⟨802,203,2,[.int .i64 0,.slice (some ⟨795,0,none⟩) 4 CU]⟩
def Mzb6:BlkL:=⟨881,251,2,[.int .i64 41,.int .i64 0,.int .i64 35,.int .i64 0,.int .i64 5,.int .i64 0,.int .i64 4,.int .i64 0,.int .i64 21,.int .i64 0,.int .i64 35,.int .i64 0,.int .i64 12,.int .i64 0,.int .i64 4,.int .i64 0]⟩
def Mzb7:BlkL:=⟨926,251,2,[.int .i64 23,.int .i64 0,.int .i64 35,.int .i64 0,.int .i64 12,.int .i64 0,.int .i64 4,.int .i64 0]⟩
def Mzb8:BlkL:=⟨933,203,2,[.int .i64 0,.slice (some ⟨926,0,none⟩) 4 CU]⟩
def Mzb9:BlkL:=⟨1042,251,2,[.int .i64 21,.int .i64 0,.int .i64 41,.int .i64 0,.int .i64 41,.int .i64 0,.int .i64 35,.int .i64 0,.int .i64 11,.int .i64 0,.int .i64 5,.int .i64 0,.int .i64 36,.int .i64 0,.int .i64 12,.int .i64 0,.int .i64 4,.int .i64 0,.int .i64 36,.int .i64 0,.int .i64 12,.int .i64 0,.int .i64 17,.int .i64 0]⟩
def yrl:BlkL:=⟨1058,251,2,[.int .i64 4,.int .i64 0]⟩
def yrk:BlkL:=⟨1065,203,2,[.int .i64 0,.slice (some ⟨1058,0,none⟩) 1 1]⟩
def ycbr:BlkL:=⟨1707,22,1,[.slice (some ⟨1704,0,none⟩) 1 1,.slice (some ⟨1705,0,none⟩) 1 1,.slice (some ⟨1706,0,none⟩) 1 1]⟩
def ydja:BlkL:=⟨2387,22,1,[.slice (some ⟨2393,0,none⟩) 1 CU,.slice (some ⟨2403,0,none⟩) 2 CU,.slice (some ⟨2409,0,none⟩) 1 CU]⟩
def ydbm:BlkL:=⟨2412,92,1,[.slice (some ⟨2413,0,none⟩) 1 1,.slice (some ⟨2423,0,none⟩) 1 1,.slice (some ⟨2433,0,none⟩) 1 1]⟩
def ydhj:BlkL:=⟨2413,91,2,[.int .i64 (-1),.int .i64 0]⟩
def ydgp:BlkL:=⟨2423,91,2,[.int .i64 (-1),.int .i64 1]⟩
def ydgs:BlkL:=⟨2433,91,2,[.int .i64 (-1),.int .i64 0]⟩
def ybcg:BlkL:=⟨2544,22,1,[.slice (some ⟨2545,0,none⟩) 1 CU,.slice (some ⟨2588,0,none⟩) 1 CU,.slice (some ⟨2547,0,none⟩) 1 CU]⟩
def ycjr:BlkL:=⟨3283,22,1,[.slice (some ⟨3289,0,none⟩) 1 CU,.slice (some ⟨3299,0,none⟩) 2 CU,.slice (some ⟨3305,0,none⟩) 1 CU]⟩
def ycif:BlkL:=⟨3308,92,1,[.slice (some ⟨3309,0,none⟩) 1 1,.slice (some ⟨3319,0,none⟩) 1 1,.slice (some ⟨3329,0,none⟩) 1 1]⟩
def yclk:BlkL:=⟨3309,91,2,[.int .i64 (-1),.int .i64 0]⟩
def ycin:BlkL:=⟨3319,91,2,[.int .i64 (-1),.int .i64 1]⟩
def ycgi:BlkL:=⟨3329,91,2,[.int .i64 (-1),.int .i64 0]⟩
def ydlm:BlkL:=⟨3340,82,0,[.pointer (some ⟨3339,0,none⟩)]⟩
def ydub:BlkL:=⟨3341,46,0,[.slice (some ⟨2544,0,none⟩) 3 3]⟩
end Ev
end
section
namespace Ev
def Mzm1:Fact:=yzr.move [667,746,795,802,881,926,933,1042,1058,1065,1069] 1714
theorem ydbt:yeq zG Mzm1:=yhs (ybr.at_ ybbr 0 rfl) (by kernel_rfl)
/- selfstab/domain.Fits -/
def ycof:Fact:=⟨62,[.agg #[.string (by8 [109,97,116,99,104,105,110,103]),.slice (some ⟨667,0,none⟩) 1 CU,.slice (some ⟨1069,0,none⟩) 3 CU],.agg #[.slice (some ⟨12,0,none⟩) 3 CU,.slice (some ⟨5,0,none⟩) 3 3]],1712,[Mzb0,Mzb1,⟨20,68,2,[.int .i64 1,.int .i64 1]⟩,Mzb2,⟨31,68,2,[.int .i64 1,.int .i64 1]⟩,⟨667,160,6,[.string (by8 [112]),.int .i64 3,.int .i64 0,.int .i64 0,.int .i64 0,.int .i64 0]⟩,Mzb3,Mzb4,Mzb5,Mzb6,Mzb7,Mzb8,Mzb9,yrl,yrk,⟨1069,193,3,[.string (by8 [97,99,99,101,112,116]),.slice (some ⟨746,0,none⟩) 8 CU,.slice (some ⟨802,0,none⟩) 1 CU,.string (by8 [112,114,111,112,111,115,101]),.slice (some ⟨881,0,none⟩) 8 CU,.slice (some ⟨933,0,none⟩) 1 CU,.string (by8 [119,105,116,104,100,114,97,119]),.slice (some ⟨1042,0,none⟩) 12 CU,.slice (some ⟨1065,0,none⟩) 1 CU]⟩],.int .i64 0,2350,[],1712⟩
/- selfstab/memory.Check -/
def ydxp:Fact:=⟨138,[.agg #[.string (by8 [109,97,116,99,104,105,110,103]),.slice (some ⟨667,0,none⟩) 1 CU,.slice (some ⟨1069,0,none⟩) 3 CU],.agg #[.slice (some ⟨12,0,none⟩) 3 CU,.slice (some ⟨5,0,none⟩) 3 3],.slice (some ⟨1707,0,none⟩) 3 3],1710,[Mzb0,Mzb1,⟨20,68,2,[.int .i64 1,.int .i64 1]⟩,Mzb2,⟨31,68,2,[.int .i64 1,.int .i64 1]⟩,⟨667,160,6,[.string (by8 [112]),.int .i64 3,.int .i64 0,.int .i64 0,.int .i64 0,.int .i64 0]⟩,Mzb3,Mzb4,Mzb5,Mzb6,Mzb7,Mzb8,Mzb9,yrl,yrk,⟨1069,193,3,[.string (by8 [97,99,99,101,112,116]),.slice (some ⟨746,0,none⟩) 8 CU,.slice (some ⟨802,0,none⟩) 1 CU,.string (by8 [112,114,111,112,111,115,101]),.slice (some ⟨881,0,none⟩) 8 CU,.slice (some ⟨933,0,none⟩) 1 CU,.string (by8 [119,105,116,104,100,114,97,119]),.slice (some ⟨1042,0,none⟩) 12 CU,.slice (some ⟨1065,0,none⟩) 1 CU]⟩,⟨1704,3,1,[.int .i64 (-1)]⟩,⟨1705,3,1,[.int .i64 (-1)]⟩,⟨1706,3,1,[.int .i64 (-1)]⟩,ycbr],.int .i64 0,2383,[],1710⟩
/- selfstab/step.nodes -/
def ydqj:Fact:=⟨182,[.int .i64 3,.func (.func 183) #[] #[.pointer (some ⟨2444,0,none⟩),.pointer (some ⟨2445,0,none⟩)]],2446,[Mzb0,Mzb1,⟨20,68,2,[.int .i64 1,.int .i64 1]⟩,Mzb2,⟨31,68,2,[.int .i64 1,.int .i64 1]⟩,⟨667,160,6,[.string (by8 [112]),.int .i64 3,.int .i64 0,.int .i64 0,.int .i64 0,.int .i64 0]⟩,Mzb3,Mzb4,Mzb5,Mzb6,Mzb7,Mzb8,Mzb9,yrl,yrk,⟨1069,193,3,[.string (by8 [97,99,99,101,112,116]),.slice (some ⟨746,0,none⟩) 8 CU,.slice (some ⟨802,0,none⟩) 1 CU,.string (by8 [112,114,111,112,111,115,101]),.slice (some ⟨881,0,none⟩) 8 CU,.slice (some ⟨933,0,none⟩) 1 CU,.string (by8 [119,105,116,104,100,114,97,119]),.slice (some ⟨1042,0,none⟩) 12 CU,.slice (some ⟨1065,0,none⟩) 1 CU]⟩,⟨1704,3,1,[.int .i64 (-1)]⟩,⟨1705,3,1,[.int .i64 (-1)]⟩,⟨1706,3,1,[.int .i64 (-1)]⟩,ycbr,ydja,⟨2388,235,0,[.string (by8 [109,97,116,99,104,105,110,103]),.slice (some ⟨667,0,none⟩) 1 CU,.slice (some ⟨1069,0,none⟩) 3 CU,.slice (some ⟨12,0,none⟩) 3 CU,.slice (some ⟨5,0,none⟩) 3 3,.int .i64 2,.slice (some ⟨2387,0,none⟩) 3 3]⟩,⟨2393,3,1,[.int .i64 0]⟩,⟨2403,3,1,[.int .i64 0,.int .i64 0]⟩,⟨2409,3,1,[.int .i64 1]⟩,ydbm,ydhj,ydgp,ydgs,⟨2443,200,0,[.string (by8 [109,97,116,99,104,105,110,103]),.slice (some ⟨667,0,none⟩) 1 CU,.slice (some ⟨1069,0,none⟩) 3 CU,.pointer (some ⟨2388,0,none⟩),.slice (some ⟨2412,0,none⟩) 3 3]⟩,⟨2444,82,0,[.pointer (some ⟨2443,0,none⟩)]⟩,⟨2445,46,0,[.slice (some ⟨1707,0,none⟩) 3 3]⟩],.int .u32 7,2544,[],2446⟩
/- (*selfstab/step.Mover).Enabled -/
def ydvy:Fact:=⟨139,[.pointer (some ⟨2443,0,none⟩),.slice (some ⟨1707,0,none⟩) 3 3],2444,[Mzb0,Mzb1,⟨20,68,2,[.int .i64 1,.int .i64 1]⟩,Mzb2,⟨31,68,2,[.int .i64 1,.int .i64 1]⟩,⟨667,160,6,[.string (by8 [112]),.int .i64 3,.int .i64 0,.int .i64 0,.int .i64 0,.int .i64 0]⟩,Mzb3,Mzb4,Mzb5,Mzb6,Mzb7,Mzb8,Mzb9,yrl,yrk,⟨1069,193,3,[.string (by8 [97,99,99,101,112,116]),.slice (some ⟨746,0,none⟩) 8 CU,.slice (some ⟨802,0,none⟩) 1 CU,.string (by8 [112,114,111,112,111,115,101]),.slice (some ⟨881,0,none⟩) 8 CU,.slice (some ⟨933,0,none⟩) 1 CU,.string (by8 [119,105,116,104,100,114,97,119]),.slice (some ⟨1042,0,none⟩) 12 CU,.slice (some ⟨1065,0,none⟩) 1 CU]⟩,⟨1704,3,1,[.int .i64 (-1)]⟩,⟨1705,3,1,[.int .i64 (-1)]⟩,⟨1706,3,1,[.int .i64 (-1)]⟩,ycbr,ydja,⟨2388,235,0,[.string (by8 [109,97,116,99,104,105,110,103]),.slice (some ⟨667,0,none⟩) 1 CU,.slice (some ⟨1069,0,none⟩) 3 CU,.slice (some ⟨12,0,none⟩) 3 CU,.slice (some ⟨5,0,none⟩) 3 3,.int .i64 2,.slice (some ⟨2387,0,none⟩) 3 3]⟩,⟨2393,3,1,[.int .i64 0]⟩,⟨2403,3,1,[.int .i64 0,.int .i64 0]⟩,⟨2409,3,1,[.int .i64 1]⟩,ydbm,ydhj,ydgp,ydgs,⟨2443,200,0,[.string (by8 [109,97,116,99,104,105,110,103]),.slice (some ⟨667,0,none⟩) 1 CU,.slice (some ⟨1069,0,none⟩) 3 CU,.pointer (some ⟨2388,0,none⟩),.slice (some ⟨2412,0,none⟩) 3 3]⟩],.int .u32 7,2544,[],2444⟩
/- (*selfstab/step.Mover).Step -/
def ydsl:Fact:=⟨140,[.pointer (some ⟨2443,0,none⟩),.slice (some ⟨1707,0,none⟩) 3 3,.int .u32 2],2544,[Mzb0,Mzb1,⟨20,68,2,[.int .i64 1,.int .i64 1]⟩,Mzb2,⟨31,68,2,[.int .i64 1,.int .i64 1]⟩,⟨667,160,6,[.string (by8 [112]),.int .i64 3,.int .i64 0,.int .i64 0,.int .i64 0,.int .i64 0]⟩,Mzb3,Mzb4,Mzb5,Mzb6,Mzb7,Mzb8,Mzb9,yrl,yrk,⟨1069,193,3,[.string (by8 [97,99,99,101,112,116]),.slice (some ⟨746,0,none⟩) 8 CU,.slice (some ⟨802,0,none⟩) 1 CU,.string (by8 [112,114,111,112,111,115,101]),.slice (some ⟨881,0,none⟩) 8 CU,.slice (some ⟨933,0,none⟩) 1 CU,.string (by8 [119,105,116,104,100,114,97,119]),.slice (some ⟨1042,0,none⟩) 12 CU,.slice (some ⟨1065,0,none⟩) 1 CU]⟩,⟨1704,3,1,[.int .i64 (-1)]⟩,⟨1705,3,1,[.int .i64 (-1)]⟩,⟨1706,3,1,[.int .i64 (-1)]⟩,ycbr,ydja,⟨2388,235,0,[.string (by8 [109,97,116,99,104,105,110,103]),.slice (some ⟨667,0,none⟩) 1 CU,.slice (some ⟨1069,0,none⟩) 3 CU,.slice (some ⟨12,0,none⟩) 3 CU,.slice (some ⟨5,0,none⟩) 3 3,.int .i64 2,.slice (some ⟨2387,0,none⟩) 3 3]⟩,⟨2393,3,1,[.int .i64 0]⟩,⟨2403,3,1,[.int .i64 0,.int .i64 0]⟩,⟨2409,3,1,[.int .i64 1]⟩,ydbm,ydhj,ydgp,ydgs,⟨2443,200,0,[.string (by8 [109,97,116,99,104,105,110,103]),.slice (some ⟨667,0,none⟩) 1 CU,.slice (some ⟨1069,0,none⟩) 3 CU,.pointer (some ⟨2388,0,none⟩),.slice (some ⟨2412,0,none⟩) 3 3]⟩],.slice (some ⟨2544,0,none⟩) 3 3,2604,[ybcg,⟨2545,3,1,[.int .i64 (-1)]⟩,⟨2547,3,1,[.int .i64 (-1)]⟩,⟨2588,3,1,[.int .i64 0]⟩],2544⟩
/- selfstab/step.Step -/
def ybwm:Fact:=⟨84,[.agg #[.string (by8 [109,97,116,99,104,105,110,103]),.slice (some ⟨667,0,none⟩) 1 CU,.slice (some ⟨1069,0,none⟩) 3 CU],.agg #[.slice (some ⟨12,0,none⟩) 3 CU,.slice (some ⟨5,0,none⟩) 3 3],.slice (some ⟨1707,0,none⟩) 3 3,.int .u32 2],1708,[Mzb0,Mzb1,⟨20,68,2,[.int .i64 1,.int .i64 1]⟩,Mzb2,⟨31,68,2,[.int .i64 1,.int .i64 1]⟩,⟨667,160,6,[.string (by8 [112]),.int .i64 3,.int .i64 0,.int .i64 0,.int .i64 0,.int .i64 0]⟩,Mzb3,Mzb4,Mzb5,Mzb6,Mzb7,Mzb8,Mzb9,yrl,yrk,⟨1069,193,3,[.string (by8 [97,99,99,101,112,116]),.slice (some ⟨746,0,none⟩) 8 CU,.slice (some ⟨802,0,none⟩) 1 CU,.string (by8 [112,114,111,112,111,115,101]),.slice (some ⟨881,0,none⟩) 8 CU,.slice (some ⟨933,0,none⟩) 1 CU,.string (by8 [119,105,116,104,100,114,97,119]),.slice (some ⟨1042,0,none⟩) 12 CU,.slice (some ⟨1065,0,none⟩) 1 CU]⟩,⟨1704,3,1,[.int .i64 (-1)]⟩,⟨1705,3,1,[.int .i64 (-1)]⟩,⟨1706,3,1,[.int .i64 (-1)]⟩,ycbr],.tuple #[.slice (some ⟨2544,0,none⟩) 3 3,.int .i64 0],2604,[ybcg,⟨2545,3,1,[.int .i64 (-1)]⟩,⟨2547,3,1,[.int .i64 (-1)]⟩,⟨2588,3,1,[.int .i64 0]⟩],1708⟩
def yebn:List Fact:=[ycof,ydxp,ydqj,ydvy,ydsl,ybwm]
theorem ybky:ybr yebn:=ybr.seq (ybr.cons (f:=Mzm1) ydbt ybr.nil) (by kernel_rfl)
end Ev
end
section
namespace Ev
def Mzm2:Fact:=ycof.move [5,12,20,29,31,667,746,795,802,881,926,933,1042,1058,1065,1069] 2608
theorem ydih:yeq zG Mzm2:=yhs (ybr.at_ ybky 0 rfl) (by kernel_rfl)
/- selfstab/memory.Check -/
def ydop:Fact:=⟨138,[.agg #[.string (by8 [109,97,116,99,104,105,110,103]),.slice (some ⟨667,0,none⟩) 1 CU,.slice (some ⟨1069,0,none⟩) 3 CU],.agg #[.slice (some ⟨12,0,none⟩) 3 CU,.slice (some ⟨5,0,none⟩) 3 3],.slice (some ⟨2544,0,none⟩) 3 3],2606,[Mzb0,Mzb1,⟨20,68,2,[.int .i64 1,.int .i64 1]⟩,Mzb2,⟨31,68,2,[.int .i64 1,.int .i64 1]⟩,⟨667,160,6,[.string (by8 [112]),.int .i64 3,.int .i64 0,.int .i64 0,.int .i64 0,.int .i64 0]⟩,Mzb3,Mzb4,Mzb5,Mzb6,Mzb7,Mzb8,Mzb9,yrl,yrk,⟨1069,193,3,[.string (by8 [97,99,99,101,112,116]),.slice (some ⟨746,0,none⟩) 8 CU,.slice (some ⟨802,0,none⟩) 1 CU,.string (by8 [112,114,111,112,111,115,101]),.slice (some ⟨881,0,none⟩) 8 CU,.slice (some ⟨933,0,none⟩) 1 CU,.string (by8 [119,105,116,104,100,114,97,119]),.slice (some ⟨1042,0,none⟩) 12 CU,.slice (some ⟨1065,0,none⟩) 1 CU]⟩,ybcg,⟨2545,3,1,[.int .i64 (-1)]⟩,⟨2547,3,1,[.int .i64 (-1)]⟩,⟨2588,3,1,[.int .i64 0]⟩],.int .i64 0,3279,[],2606⟩
/- (*selfstab/step.Mover).Rule -/
def ydxi:Fact:=⟨126,[.pointer (some ⟨3339,0,none⟩),.slice (some ⟨2544,0,none⟩) 3 3,.int .i64 1],3357,[Mzb0,Mzb1,⟨20,68,2,[.int .i64 1,.int .i64 1]⟩,Mzb2,⟨31,68,2,[.int .i64 1,.int .i64 1]⟩,⟨667,160,6,[.string (by8 [112]),.int .i64 3,.int .i64 0,.int .i64 0,.int .i64 0,.int .i64 0]⟩,Mzb3,Mzb4,Mzb5,Mzb6,Mzb7,Mzb8,Mzb9,yrl,yrk,⟨1069,193,3,[.string (by8 [97,99,99,101,112,116]),.slice (some ⟨746,0,none⟩) 8 CU,.slice (some ⟨802,0,none⟩) 1 CU,.string (by8 [112,114,111,112,111,115,101]),.slice (some ⟨881,0,none⟩) 8 CU,.slice (some ⟨933,0,none⟩) 1 CU,.string (by8 [119,105,116,104,100,114,97,119]),.slice (some ⟨1042,0,none⟩) 12 CU,.slice (some ⟨1065,0,none⟩) 1 CU]⟩,ybcg,⟨2545,3,1,[.int .i64 (-1)]⟩,⟨2547,3,1,[.int .i64 (-1)]⟩,⟨2588,3,1,[.int .i64 0]⟩,ycjr,⟨3284,235,0,[.string (by8 [109,97,116,99,104,105,110,103]),.slice (some ⟨667,0,none⟩) 1 CU,.slice (some ⟨1069,0,none⟩) 3 CU,.slice (some ⟨12,0,none⟩) 3 CU,.slice (some ⟨5,0,none⟩) 3 3,.int .i64 2,.slice (some ⟨3283,0,none⟩) 3 3]⟩,⟨3289,3,1,[.int .i64 0]⟩,⟨3299,3,1,[.int .i64 0,.int .i64 0]⟩,⟨3305,3,1,[.int .i64 1]⟩,ycif,yclk,ycin,ycgi,⟨3339,200,0,[.string (by8 [109,97,116,99,104,105,110,103]),.slice (some ⟨667,0,none⟩) 1 CU,.slice (some ⟨1069,0,none⟩) 3 CU,.pointer (some ⟨3284,0,none⟩),.slice (some ⟨3308,0,none⟩) 3 3]⟩],.int .i64 (-1),3436,[],3357⟩
/- (*selfstab/step.Mover).Enabled$1 -/
def ydmo:Fact:=⟨183,[.int .i64 1,.pointer (some ⟨3340,0,none⟩),.pointer (some ⟨3341,0,none⟩)],3357,[Mzb0,Mzb1,⟨20,68,2,[.int .i64 1,.int .i64 1]⟩,Mzb2,⟨31,68,2,[.int .i64 1,.int .i64 1]⟩,⟨667,160,6,[.string (by8 [112]),.int .i64 3,.int .i64 0,.int .i64 0,.int .i64 0,.int .i64 0]⟩,Mzb3,Mzb4,Mzb5,Mzb6,Mzb7,Mzb8,Mzb9,yrl,yrk,⟨1069,193,3,[.string (by8 [97,99,99,101,112,116]),.slice (some ⟨746,0,none⟩) 8 CU,.slice (some ⟨802,0,none⟩) 1 CU,.string (by8 [112,114,111,112,111,115,101]),.slice (some ⟨881,0,none⟩) 8 CU,.slice (some ⟨933,0,none⟩) 1 CU,.string (by8 [119,105,116,104,100,114,97,119]),.slice (some ⟨1042,0,none⟩) 12 CU,.slice (some ⟨1065,0,none⟩) 1 CU]⟩,ybcg,⟨2545,3,1,[.int .i64 (-1)]⟩,⟨2547,3,1,[.int .i64 (-1)]⟩,⟨2588,3,1,[.int .i64 0]⟩,ycjr,⟨3284,235,0,[.string (by8 [109,97,116,99,104,105,110,103]),.slice (some ⟨667,0,none⟩) 1 CU,.slice (some ⟨1069,0,none⟩) 3 CU,.slice (some ⟨12,0,none⟩) 3 CU,.slice (some ⟨5,0,none⟩) 3 3,.int .i64 2,.slice (some ⟨3283,0,none⟩) 3 3]⟩,⟨3289,3,1,[.int .i64 0]⟩,⟨3299,3,1,[.int .i64 0,.int .i64 0]⟩,⟨3305,3,1,[.int .i64 1]⟩,ycif,yclk,ycin,ycgi,⟨3339,200,0,[.string (by8 [109,97,116,99,104,105,110,103]),.slice (some ⟨667,0,none⟩) 1 CU,.slice (some ⟨1069,0,none⟩) 3 CU,.pointer (some ⟨3284,0,none⟩),.slice (some ⟨3308,0,none⟩) 3 3]⟩,ydlm,ydub],.bool false,3436,[],3357⟩
/- selfstab/step.nodes -/
def ydts:Fact:=⟨182,[.int .i64 3,.func (.func 183) #[] #[.pointer (some ⟨3340,0,none⟩),.pointer (some ⟨3341,0,none⟩)]],3342,[Mzb0,Mzb1,⟨20,68,2,[.int .i64 1,.int .i64 1]⟩,Mzb2,⟨31,68,2,[.int .i64 1,.int .i64 1]⟩,⟨667,160,6,[.string (by8 [112]),.int .i64 3,.int .i64 0,.int .i64 0,.int .i64 0,.int .i64 0]⟩,Mzb3,Mzb4,Mzb5,Mzb6,Mzb7,Mzb8,Mzb9,yrl,yrk,⟨1069,193,3,[.string (by8 [97,99,99,101,112,116]),.slice (some ⟨746,0,none⟩) 8 CU,.slice (some ⟨802,0,none⟩) 1 CU,.string (by8 [112,114,111,112,111,115,101]),.slice (some ⟨881,0,none⟩) 8 CU,.slice (some ⟨933,0,none⟩) 1 CU,.string (by8 [119,105,116,104,100,114,97,119]),.slice (some ⟨1042,0,none⟩) 12 CU,.slice (some ⟨1065,0,none⟩) 1 CU]⟩,ybcg,⟨2545,3,1,[.int .i64 (-1)]⟩,⟨2547,3,1,[.int .i64 (-1)]⟩,⟨2588,3,1,[.int .i64 0]⟩,ycjr,⟨3284,235,0,[.string (by8 [109,97,116,99,104,105,110,103]),.slice (some ⟨667,0,none⟩) 1 CU,.slice (some ⟨1069,0,none⟩) 3 CU,.slice (some ⟨12,0,none⟩) 3 CU,.slice (some ⟨5,0,none⟩) 3 3,.int .i64 2,.slice (some ⟨3283,0,none⟩) 3 3]⟩,⟨3289,3,1,[.int .i64 0]⟩,⟨3299,3,1,[.int .i64 0,.int .i64 0]⟩,⟨3305,3,1,[.int .i64 1]⟩,ycif,yclk,ycin,ycgi,⟨3339,200,0,[.string (by8 [109,97,116,99,104,105,110,103]),.slice (some ⟨667,0,none⟩) 1 CU,.slice (some ⟨1069,0,none⟩) 3 CU,.pointer (some ⟨3284,0,none⟩),.slice (some ⟨3308,0,none⟩) 3 3]⟩,ydlm,ydub],.int .u32 1,3486,[],3342⟩
/- (*selfstab/step.Mover).Enabled -/
def ydnt:Fact:=⟨139,[.pointer (some ⟨3339,0,none⟩),.slice (some ⟨2544,0,none⟩) 3 3],3340,[Mzb0,Mzb1,⟨20,68,2,[.int .i64 1,.int .i64 1]⟩,Mzb2,⟨31,68,2,[.int .i64 1,.int .i64 1]⟩,⟨667,160,6,[.string (by8 [112]),.int .i64 3,.int .i64 0,.int .i64 0,.int .i64 0,.int .i64 0]⟩,Mzb3,Mzb4,Mzb5,Mzb6,Mzb7,Mzb8,Mzb9,yrl,yrk,⟨1069,193,3,[.string (by8 [97,99,99,101,112,116]),.slice (some ⟨746,0,none⟩) 8 CU,.slice (some ⟨802,0,none⟩) 1 CU,.string (by8 [112,114,111,112,111,115,101]),.slice (some ⟨881,0,none⟩) 8 CU,.slice (some ⟨933,0,none⟩) 1 CU,.string (by8 [119,105,116,104,100,114,97,119]),.slice (some ⟨1042,0,none⟩) 12 CU,.slice (some ⟨1065,0,none⟩) 1 CU]⟩,ybcg,⟨2545,3,1,[.int .i64 (-1)]⟩,⟨2547,3,1,[.int .i64 (-1)]⟩,⟨2588,3,1,[.int .i64 0]⟩,ycjr,⟨3284,235,0,[.string (by8 [109,97,116,99,104,105,110,103]),.slice (some ⟨667,0,none⟩) 1 CU,.slice (some ⟨1069,0,none⟩) 3 CU,.slice (some ⟨12,0,none⟩) 3 CU,.slice (some ⟨5,0,none⟩) 3 3,.int .i64 2,.slice (some ⟨3283,0,none⟩) 3 3]⟩,⟨3289,3,1,[.int .i64 0]⟩,⟨3299,3,1,[.int .i64 0,.int .i64 0]⟩,⟨3305,3,1,[.int .i64 1]⟩,ycif,yclk,ycin,ycgi,⟨3339,200,0,[.string (by8 [109,97,116,99,104,105,110,103]),.slice (some ⟨667,0,none⟩) 1 CU,.slice (some ⟨1069,0,none⟩) 3 CU,.pointer (some ⟨3284,0,none⟩),.slice (some ⟨3308,0,none⟩) 3 3]⟩],.int .u32 1,3486,[],3340⟩
/- selfstab/step.Step -/
def ybyu:Fact:=⟨84,[.agg #[.string (by8 [109,97,116,99,104,105,110,103]),.slice (some ⟨667,0,none⟩) 1 CU,.slice (some ⟨1069,0,none⟩) 3 CU],.agg #[.slice (some ⟨12,0,none⟩) 3 CU,.slice (some ⟨5,0,none⟩) 3 3],.slice (some ⟨2544,0,none⟩) 3 3,.int .u32 1],2604,[Mzb0,Mzb1,⟨20,68,2,[.int .i64 1,.int .i64 1]⟩,Mzb2,⟨31,68,2,[.int .i64 1,.int .i64 1]⟩,⟨667,160,6,[.string (by8 [112]),.int .i64 3,.int .i64 0,.int .i64 0,.int .i64 0,.int .i64 0]⟩,Mzb3,Mzb4,Mzb5,Mzb6,Mzb7,Mzb8,Mzb9,yrl,yrk,⟨1069,193,3,[.string (by8 [97,99,99,101,112,116]),.slice (some ⟨746,0,none⟩) 8 CU,.slice (some ⟨802,0,none⟩) 1 CU,.string (by8 [112,114,111,112,111,115,101]),.slice (some ⟨881,0,none⟩) 8 CU,.slice (some ⟨933,0,none⟩) 1 CU,.string (by8 [119,105,116,104,100,114,97,119]),.slice (some ⟨1042,0,none⟩) 12 CU,.slice (some ⟨1065,0,none⟩) 1 CU]⟩,ybcg,⟨2545,3,1,[.int .i64 (-1)]⟩,⟨2547,3,1,[.int .i64 (-1)]⟩,⟨2588,3,1,[.int .i64 0]⟩],.tuple #[.slice (some ⟨3486,0,none⟩) 3 3,.int .i64 0],3517,[⟨3486,22,1,[.slice (some ⟨3505,0,none⟩) 1 CU,.slice (some ⟨3488,0,none⟩) 1 CU,.slice (some ⟨3489,0,none⟩) 1 CU]⟩,⟨3488,3,1,[.int .i64 0]⟩,⟨3489,3,1,[.int .i64 (-1)]⟩,⟨3505,3,1,[.int .i64 0]⟩],2604⟩
def ydzv:List Fact:=[ydop,ydxi,ydmo,ydts,ydnt,ybyu]
theorem yckn:ybr ydzv:=ybr.seq (ybr.cons (f:=Mzm2) ydih ybr.nil) (by kernel_rfl)
end Ev
end
section
namespace Ev
def Mzm0:Fact:=yui.move [] 33
theorem ydfe:yeq zG Mzm0:=yhs (ybr.at_ ybln 0 rfl) (by kernel_rfl)
end Ev
end
section
namespace Ev
open Go Go.RowKit
def mzF:List Fact:=[Mzm0,ybwm,ybyu]
theorem ydye:ybr mzF:=(ybr.cons (f:=Mzm0) ydfe (ybr.cons (f:=ybwm) (ybr.at_ ybky 5 rfl) (ybr.cons (f:=ybyu) (ybr.at_ yckn 5 rfl) ybr.nil)))
def mzH:Hooks:=⟨some 118,some 245,some 175,symB,[⟨1000000000000,mzF⟩],some 122⟩
theorem ydxk:HooksOk zG mzH:=⟨fun g h=>(by cases h;exact yblj),fun g h=>(by cases h;exact yqy),fun g h=>(by cases h;exact ybut),ygj.cons ydye ygj.nil,fun g h=>(by cases h;exact ybbh)⟩
def mzT:Option Value->Bool
 |some (.bool b)=>b
 |_=>false
theorem ydrl:∀{o:Option Value},mzT o=true->o=some (.bool true)
 |some (.bool true),_=>rfl
set_option maxRecDepth 1000000 in
theorem ybhp:outV (ev zG mzH 3000 (.call 42 [] mem0))=some (.bool true):=ydrl (by kernel_rfl)
theorem ydce(w:World)(hG:GlW w):Calls zG 42 #[] w fun e w'=>e = .returned (.bool true)/\Below w.heap.size w w' :=
 ybbi mix yri ydxk ybhp rfl rfl ⟨_,_,zBF,rfl⟩ w hG
end Ev
end
section
namespace Sh
open Go Ev Go.RowKit
theorem ybih:Returns zG 42 [] (.b true):=by
 refine ybyg ⟨_,_,zBF,rfl⟩ (fun _=>.b) (fun _=>.simple rfl) fun G m us hG hr φ M w us' hRl hs hv=>?_;cases hr
 cases hv
 exact ydce w fun x hx=>(hRl.gl x hx).1
end Sh
end
section
namespace Ev
theorem yrf:∀l:List UInt8,eqBytes l l=true
 |[]=>rfl
 | x::l=>by
   show(zH x.toNat x.toNat&&eqBytes l l)=true;rw[zF,yrf l];rfl
theorem ywd{ρ:Nat->Nat}{a:Addr}(h:a.spot.isNone=true):eqAddr (renA ρ a) (renA ρ a)=true:=by
 rw[ykp];unfold eqAddr;simp only[zF,h,Bool.and_self]
theorem ybub{ρ:Nat->Nat}{v:Value}(hf:yrm v=true)(h:eq1 v v=true):eq1 (ren1 ρ v) (ren1 ρ v)=true:=by
 unfold yrm at hf;split at hf
 .exact ywd hf
 .rename_i a n c
  show(eqAddr (renA ρ a) (renA ρ a)&&zH n n&&zH c c)=true;rw[ywd hf,zF,zF];rfl
 .rename_i h1 h2
  have:ren1 ρ v=v:=by
   unfold ren1;split
   .rename_i a;exact absurd rfl (h1 a)
   .rename_i a n c;exact absurd rfl (h2 a n c)
   .rfl
  rw[this];exact h
theorem yst{ρ:Nat->Nat}:∀{l:List Value},l.all yrm=true->eqL1 l l=true->eqL1 (l.map (ren1 ρ)) (l.map (ren1 ρ))=true
 |[],_,_=>rfl
 | x::l,hf,h=>by
   simp only[List.all_cons,zC]at hf;have h:(eq1 x x&&eqL1 l l)=true:=h;rw[zC]at h;show(eq1 (ren1 ρ x) (ren1 ρ x)&&eqL1 (l.map (ren1 ρ)) (l.map (ren1 ρ)))=true;rw[ybub hf.1 h.1,yst hf.2 h.2];rfl
theorem ycau{v:Value}(h1:∀a,v = .agg a->False)(h2:∀g a c,v = .func (.func g) a c->False):eq2 v v=eq1 v v:=by
 cases v with
 |agg a=>exact(h1 a rfl).elim
 | func f a c=>cases f with
   |func g=>exact(h2 g a c rfl).elim
   |_=>rfl
 |_=>rfl
theorem yccv{ρ:Nat->Nat}{v:Value}(h1:∀a,v = .agg a->False)(h2:∀g a c,v = .func (.func g) a c->False)(hf:yrm v=true):ren2 ρ v=ren1 ρ v:=by
 cases v with
 |agg a=>exact(h1 a rfl).elim
 | func f a c=>cases f with
   |func g=>exact(h2 g a c rfl).elim
   |_=>cases hf
 |_=>rfl
theorem yxh{ρ:Nat->Nat}{v:Value}(hf:yrm v=true):(∀a,ren1 ρ v = .agg a->False)/\∀g a c,ren1 ρ v = .func (.func g) a c->False:=by
 cases v with
 |agg a=>cases hf
 |func f a c=>cases hf
 |pointer p=>cases p<;>exact⟨fun _ h=>(by cases h),fun _ _ _ h=>(by cases h)⟩
 |slice p n c=>cases p<;>exact⟨fun _ h=>(by cases h),fun _ _ _ h=>(by cases h)⟩
 |_=>exact⟨fun _ h=>(by cases h),fun _ _ _ h=>(by cases h)⟩
theorem ybwf{ρ:Nat->Nat}{v:Value}(hf:ylr v=true)(h:eq2 v v=true):eq2 (ren2 ρ v) (ren2 ρ v)=true:=by
 unfold ylr at hf;split at hf
 .rename_i a
  have h:eqL1 a.toList a.toList=true:=h;show eqL1 (a.toList.map (ren1 ρ)).toArray.toList (a.toList.map (ren1 ρ)).toArray.toList=true;exact yst hf h
 .rename_i g a c
  rw[zC]at hf;have h:(zH g g&&eqL1 a.toList a.toList&&eqL1 c.toList c.toList)=true:=h;simp only[zC]at h;show(zH g g&&eqL1 (a.toList.map (ren1 ρ)).toArray.toList (a.toList.map (ren1 ρ)).toArray.toList&&eqL1 (c.toList.map (ren1 ρ)).toArray.toList (c.toList.map (ren1 ρ)).toArray.toList)=true;rw[zF,yst hf.1 h.1.2,yst hf.2 h.2];rfl
 .rename_i h1 h2
  rw[ycau h1 h2]at h;rw[yccv h1 h2 hf,ycau (yxh hf).1 (yxh hf).2];exact ybub hf h
def reflB(b:BlkL):Bool:=b.l.all (fun v=>eq2 v v&&ylr v)&&zV b.l.length 1000000
theorem yvj{ρ:Nat->Nat}{b:BlkL}(h:reflB b=true):∀v∈(b.ren ρ).l,eq2 v v=true:=by
 unfold reflB at h;rw[zC]at h;intro v hv;obtain⟨x,hx,rfl⟩:=List.mem_map.1 hv;have:=List.all_eq_true.1 h.1 x hx;rw[zC]at this;exact ybwf this.2 this.1
theorem ynk{l:List Value}(h:∀v∈l,eq2 v v=true):∀(k:List Value) (n:Nat),l.drop n=k->cellsAre (tOf l) n k=true
 |[],_,_=>rfl
 | v :: k,n,e=>by
   have hn:n<l.length:=by
    rcases Nat.lt_or_ge n l.length with q|q
    .exact q
    .rw[List.drop_eq_nil_of_le q]at e;cases e
   rw[zAE hn]at e
   injection e with e1 e2
   unfold cellsAre;rw[ydf,zN hn,e1];simp only;rw[h v (by rw[<-e1];exact zW _),ynk h k (n+1) e2]
   rfl
theorem yqa{m:Mem}{b:BlkL}(hg:m.b.get b.i=some b.blk)(h:∀v∈b.l,eq2 v v=true)(hl:zV b.l.length 1000000=true):blkIs m b=true:=by
 unfold blkIs;rw[hg];show(zH b.l.length b.l.length&&zH b.e b.e&&zH b.z b.z&&zV b.l.length 1000000&&cellsAre (tOf b.l) 0 b.l)=true;rw[zF,zF,zF,hl,ynk h b.l 0 (List.drop_zero ..)];rfl
theorem ytp:∀{l:List BlkL}{t:T ABlk}{i:Nat},(∀b∈l,b.i≠i)->(blksT t l).get i=t.get i
 |[],_,_,_=>rfl
 | b::l,t,i,h=>by
   unfold blksT;rw[T.strict_eq,ytp fun c hc=>h c (zAI _ hc),T.set_at,if_neg (fun e=>h b zAN e.symm)]
theorem ysa:∀{l:List BlkL}{t:T ABlk},yhk (l.map (·.i))=true->∀b∈l,(blksT t l).get b.i=some b.blk
 |[],_,_,b,hb=>by cases hb
 | c :: l,t,h,b,hb=>by
   have h:(!(l.map (·.i)).elem c.i&&yhk (l.map (·.i)))=true:=h;rw[zC,zL]at h;unfold blksT;rw[T.strict_eq];rcases List.mem_cons.1 hb with e|hb
   .subst e;rw[ytp fun d hd e=>?_,T.set_at,if_pos rfl];have:(l.map (·.i)).elem b.i=true:=List.elem_eq_true_of_mem (List.mem_map.2 ⟨d,hd,e⟩);rw[this]at h;cases h.1
   .exact ysa h.2 b hb
theorem ynp:∀{l:List Nat},l.Nodup->yhk l=true
 |[],_=>rfl
 | x :: l,h=>by
   rw[zAG]at h;show(!(l.elem x)&&yhk l)=true
   have:l.elem x=false:=by
    cases hq:l.elem x with
    |false=>rfl
    |true=>exact absurd (by simpa using hq) h.1
   rw[this,ynp h.2];rfl
theorem ybaq:∀{l:List Nat},yhk l=true->l.Nodup
 |[],_=>zAX
 | x::l,h=>by
   have h:(!(l.elem x)&&yhk l)=true:=h;rw[zC,zL]at h;rw[zAG];refine⟨fun hm=>?_,ybaq h.2⟩;have:l.elem x=true:=by simpa using hm
   rw[this]at h;cases h.1
theorem ybkx{d:Nat}:∀{l:List BlkL}{k:List Nat},(l.map (·.i)).Nodup->l.length=k.length->l.map (fun b=>yzm l k d b.i)=k
 |[],[],_,_=>rfl
 | b :: l,t::k,hn,hl=>by
   rw[zAL,zAG]at hn;have ih:=ybkx (d:=d) hn.2 (by simpa using hl)
   rw[zAL];have e1:yzm (b::l) (t::k) d b.i=t:=by unfold yzm;rw[zF];rfl
   rw[e1];congr 1;refine zBB (zJ fun c hc=>?_) ih;show(bif zH b.i c.i then t else yzm l k d c.i)=_
   have:zH b.i c.i=false:=by
    cases hq:zH b.i c.i with
    |false=>rfl
    |true=>exact absurd (List.mem_map.2 ⟨c,hc,(zK hq).symm⟩) hn.1
   rw[this];rfl
 |[],_::_,_,h=>by cases h
 |_::_,[],_,h=>by cases h
def Fact.still(f:Fact):Bool:=zAB f.next0 f.low&&f.args.all ylr&&yccs f.v&&f.pre.all (fun b=>zV b.i f.next0&&reflB b)&&yhk (f.pre.map (·.i))&&f.post.all (fun b=>zAB f.next0 b.i&&zV b.i f.next1&&reflB b)&&yhk (f.post.map (·.i))&&zAB f.next0 f.next1
theorem ycvz{a b:Nat}(h:zV a b=true):a<b:=Nat.lt_of_lt_of_le (Nat.lt_succ_self _) (zI h)
theorem ybnm{a b:Nat}(h:a<b):zV a b=true:=zT h
theorem ymg{f:Fact}(h:f.still=true):f.next0<=f.low/\(f.args.all ylr=true/\yccs f.v=true)/\(∀b∈f.pre,b.i<f.next0/\reflB b=true)/\(f.pre.map (·.i)).Nodup/\(∀b∈f.post,f.next0<=b.i/\b.i<f.next1/\reflB b=true)/\(f.post.map (·.i)).Nodup/\f.next0<=f.next1:=by
 unfold Fact.still at h;simp only[zC]at h;obtain⟨⟨⟨⟨⟨⟨⟨h1,h2⟩,h3⟩,h4⟩,h5⟩,h6⟩,h7⟩,h8⟩:=h;refine⟨zI h1,⟨h2,h3⟩,fun b hb=>?_,ybaq h5,fun b hb=>?_,ybaq h7,zI h8⟩
 .have:=List.all_eq_true.1 h4 b hb;rw[zC]at this;exact⟨ycvz this.1,this.2⟩
 .have:=List.all_eq_true.1 h6 b hb;simp only[zC]at this;exact⟨zI this.1.1,ycvz this.1.2,this.2⟩
theorem ycbv{f:Fact}{tgt:List Nat}{n0:Nat}(hp:∀b∈f.pre,b.i<f.next0/\reflB b=true)(hn:(f.pre.map (·.i)).Nodup)(hl:f.pre.length=tgt.length):f.pre.map (fun b=>f.rho tgt n0 b.i)=tgt:=by
 refine zBB (zJ fun b hb=>?_) (ybkx (d:=Nat.add n0 (Nat.sub f.next1 f.next0)) hn hl);unfold Fact.rho;have h1:=(hp b hb).1
 have:(zAB f.next0 b.i&&zV b.i f.next1)=false:=by
  rw[zY];left
  cases hq:zAB f.next0 b.i with
  |false=>rfl
  |true=>have:=zI hq;omega
 rw[this];rfl
theorem ybnq{f:Fact}{tgt:List Nat}{n0 i:Nat}(h1:f.next0<=i)(h2:i<f.next1):f.rho tgt n0 i=i-f.next0+n0:=by
 unfold Fact.rho;rw[Bool.cond_eq_ite,if_pos (by rw[zT h1,ybnm h2];rfl)]
 rfl
theorem ywb{P:Program}{f:Fact}{tgt:List Nat}{n0:Nat}(hok:yeq P f)(hs:f.still=true)(hl:f.pre.length=tgt.length)(hn:tgt.Nodup)(hlt:∀t∈tgt,t<n0):yeq P (f.move tgt n0):=by
 refine yhs hok ?_;obtain⟨s1,⟨s2,s3⟩,s4,s5,s6,s7,s8⟩:=ymg hs
 have hpi:(f.move tgt n0).pre.map (·.i)=tgt:=by
  show(f.pre.map (BlkL.ren (f.rho tgt n0))).map (·.i)=tgt;rw[zAA];exact zBB (zJ fun b hb=>b.ygr) (ycbv (n0:=n0) s4 s5 hl)
 have hqi:yhk ((f.move tgt n0).post.map (·.i))=true:=by
  refine ynp ?_;show((f.post.map (BlkL.ren (f.rho tgt n0))).map (·.i)).Nodup
  have e:(f.post.map (BlkL.ren (f.rho tgt n0))).map (·.i)=(f.post.map (·.i)).map (fun i=>i-f.next0+n0):=by
   rw[zAA,zAA];refine zJ fun b hb=>?_;show(b.ren (f.rho tgt n0)).i=b.i-f.next0+n0;rw[b.ygr,ybnq (s6 b hb).1 (s6 b hb).2.1]
  rw[e];unfold List.Nodup at s7 ⊢;rw[zAD];refine List.Pairwise.imp_of_mem (fun {x y} hx hy h=>?_) s7;obtain⟨bx,hbx,rfl⟩:=List.mem_map.1 hx;obtain⟨by_,hby,rfl⟩:=List.mem_map.1 hy;have:=(s6 bx hbx).1;have:=(s6 by_ hby).1;omega
 have hpre:yhk ((f.move tgt n0).pre.map (·.i))=true:=by rw[hpi];exact ynp hn
 unfold Fact.moves;simp only[zC];refine⟨⟨⟨⟨⟨⟨⟨⟨zT s1,s2⟩,s3⟩,?_⟩,?_⟩,hpre⟩,?_⟩,?_⟩,zT s8⟩
 .refine List.all_eq_true.2 fun b hb=>?_;have:=(s4 b hb).2;unfold reflB at this;rw[zC]at this;rw[ybnm (s4 b hb).1,zO];exact List.all_eq_true.2 fun v hv=>by have:=List.all_eq_true.1 this.1 v hv;rw[zC]at this;exact this.2
 .refine List.all_eq_true.2 fun b hb=>?_;have:=(s6 b hb).2.2;unfold reflB at this;rw[zC]at this;rw[ybnm (s6 b hb).2.1,zO];exact List.all_eq_true.2 fun v hv=>by have:=List.all_eq_true.1 this.1 v hv;rw[zC]at this;exact this.2
 .refine List.all_eq_true.2 fun b' hb'=>?_;obtain⟨b,hb,rfl⟩:=List.mem_map.1 hb';have h2:=(s4 b hb).2;have h3:(b.ren (f.rho tgt n0)).i∈(f.move tgt n0).pre.map (·.i):=List.mem_map.2 ⟨_,hb',rfl⟩;rw[hpi]at h3;rw[ybnm (hlt _ h3),zO];refine yqa (ysa hpre _ hb') (yvj h2) ?_;show zV (b.l.map _).length 1000000=true;rw[zS];unfold reflB at h2;rw[zC]at h2;exact h2.2
 .refine List.all_eq_true.2 fun b' hb'=>?_;obtain⟨b,hb,rfl⟩:=List.mem_map.1 hb';have h2:=(s6 b hb).2.2;refine yqa (ysa hqi _ hb') (yvj h2) ?_;show zV (b.l.map _).length 1000000=true;rw[zS];unfold reflB at h2;rw[zC]at h2;exact h2.2
end Ev
end
section
namespace Sh
open Go Ev
def Lies(B:List BlkL)(v:Value)(F:AM)(u:Value):Prop :=
 ∃ρ:Nat->Nat,(∀b∈B,∀c∈B,ρ b.i=ρ c.i->b.i=c.i)/\(∀b∈B,F (ρ b.i)=some (b.ren ρ).blk)/\u=ren1 ρ v
theorem Lies.mono{B:List BlkL}{v:Value}(F G:AM)(u:Value)(h:Le F G)(k:Lies B v F u):Lies B v G u:=by
 obtain⟨ρ,h1,h2,h3⟩:=k;exact⟨ρ,h1,fun b hb=>h _ _ (h2 b hb),h3⟩
def yeaa(B:List BlkL)(j:Nat):Option BlkL:=B.find? fun b=>zH b.i j
def ycii(p:Nat->Bool):Nat->Bool
 |0=>true
 |n+1=>p n&&ycii p n
theorem ybnh{p:Nat->Bool}:∀{n:Nat},ycii p n=true->∀k,k<n->p k=true
 |0,_,k,h=>absurd h (zAF k)
 | n+1,h,k,hk=>by
   have h:(p n&&ycii p n)=true:=h;rw[zC]at h
   by_cases q:k=n
   .rw[q];exact h.1
   .exact ybnh h.2 k (by omega)
def ybjv(B:List BlkL)(z n:Nat)(row:Nat->List Value->Bool):Value->Bool
 | .slice (some a) m _=>a.spot.isNone&&zH m n&&(match yeaa B a.block with
   |some b=>zH b.z z&&zAB (a.off+n*z) b.l.length&&ycii (fun k=>row k ((b.l.drop (a.off+k*z)).take z)) n
   |none=>false)
 |.slice none 0 0=>zH n 0
 |_=>false
theorem ysk {B:List BlkL}{F:AM}{ρ:Nat->Nat}{z n:Nat}{row:Nat->List Value->Bool}{v:Value}{g:Nat->List SV}(hF:∀b∈B,F (ρ b.i)=some (b.ren ρ).blk) (h:ybjv B z n row v=true)
 (hr:∀k L,k<n->row k L=true->L.length=z/\RVL F om0 (g k) (L.map (ren2 ρ))/\(g k).all one1=true):RV F om0 (.sl z n g) (ren1 ρ v):=by
 unfold ybjv at h;split at h
 .rename_i a m c
  simp only[zC]at h;obtain⟨⟨h1,h2⟩,h3⟩:=h;split at h3
  .rename_i b hb
   simp only[zC]at h3;obtain⟨⟨h3,h4⟩,h5⟩:=h3;have hm:m=n:=zK h2;have hz:=zK h3;have h4:=zI h4;have hmem:=List.mem_of_find?_eq_some hb;have hi:b.i=a.block:=zK (List.find?_some (p:=fun b:BlkL=>zH b.i a.block) hb);have h6:=hF b hmem;rw[hi]at h6;show RV F om0 _ (.slice (some (renA ρ a)) m c);rw[ykp];subst hm;obtain⟨A,o,sp⟩:=a;have hsp:sp=none:=by simpa using h1
   subst hsp;have h6:F (ρ A)=some (.cells (tOf (b.l.map (ren2 ρ))) (b.l.map (ren2 ρ)).length b.e b.z):=h6;have hrow:∀k,k<m->_:=fun k hk=>hr k _ hk (ybnh h5 k hk);refine .sl (L:=fun k=>((b.l.drop (o+k*z)).take z).map (ren2 ρ)) h6 (.inl hz) (by rw[zS];exact h4) ?_ ?_ (fun k hk=>(hrow k hk).2.1) (fun k hk=>(hrow k hk).2.2)
   .intro k hk;rw[zS];exact(hrow k hk).1
   .intro k hk j hj;rw[ydf];simp only[zAQ,List.getElem?_take,List.getElem?_drop,hj,if_true]
  .cases h3
 .have h:zH n 0=true:=h;have h0:=zK h;subst h0;exact .sl0 (.inl rfl)
 .cases h
def isI(v:Value)(n:Int):Bool:=match v with
 |.int .i64 m=>eqInt m n
 |_=>false
def isS(v:Value)(s:ByteArray):Bool:=match v with
 |.string t=>eqBytes t.data.toList s.data.toList
 |_=>false
theorem yqp{F:AM}{ρ:Nat->Nat}{v:Value}{n:Int}(h:isI v n=true):RV F om0 (.i .i64 n) (ren2 ρ v):=by
 unfold isI at h;split at h
 .rw[ysb h];exact .i
 .cases h
theorem ycub{F:AM}{ρ:Nat->Nat}{v:Value}{s:ByteArray}(h:isS v s=true):RV F om0 (.a (.string s)) (ren2 ρ v):=by
 unfold isS at h;split at h
 .rename_i t
  have e:=ypi h
  have:t=s:=by
   cases t;cases s
   congr 1;exact Array.toList_inj.1 e
  rw[this];exact .a rfl
 .cases h
def ydvo(ls:List (Int×Int))(k:Nat):List Value->Bool
 |[x,y]=>isI x (ls.getD k (0,0)).1&&isI y (ls.getD k (0,0)).2
 |_=>false
def ycsv(l:List VarR)(k:Nat):List Value->Bool
 |[s,a,b,c,d,e]=>isS s (l.getD k default).name&&isI a (l.getD k default).kind&&isI b (l.getD k default).lo&&isI c (l.getD k default).hi&&isI d (l.getD k default).perNode&&isI e (l.getD k default).perID
 |_=>false
def yzi(B:List BlkL)(ls:List (Int×Int))(v:Value):Bool:=ybjv B 2 ls.length (ydvo ls) v
def isSl:Value->Bool
 |.slice _ _ _=>true
 |_=>false
def ybup(B:List BlkL)(l:List SetR)(k:Nat):List Value->Bool
 |[a,v]=>isI a (l.getD k default).var&&isSl v&&yzi B (l.getD k default).val v
 |_=>false
def ybtz(B:List BlkL)(l:List RuleR)(k:Nat):List Value->Bool
 |[s,v,w]=>isS s (l.getD k default).name&&isSl v&&yzi B (l.getD k default).guard v&&isSl w&&ybjv B 2 (l.getD k default).sets.length (ybup B (l.getD k default).sets) w
 |_=>false
def ycfj(B:List BlkL)(v:Value)(l:List VarR):Bool:=ybjv B 6 l.length (ycsv l) v
def yboj(B:List BlkL)(v:Value)(l:List RuleR):Bool:=ybjv B 3 l.length (ybtz B l) v
section
variable {B:List BlkL}{F:AM}{ρ:Nat->Nat}
theorem ybhk{v:Value}(h:isSl v=true):ren2 ρ v=ren1 ρ v:=by
 unfold isSl at h;split at h
 .rfl
 .cases h
theorem yud(hF:∀b∈B,F (ρ b.i)=some (b.ren ρ).blk){ls:List (Int×Int)}{v:Value}(h:yzi B ls v=true):RV F om0 (ybb ls) (ren1 ρ v):=by
 refine ysk hF h fun k L hk hq=>?_;unfold ydvo at hq;split at hq
 .simp only[zC]at hq;exact⟨rfl,.cons (yqp hq.1) (.cons (yqp hq.2) .nil),rfl⟩
 .cases hq
theorem ybqu(hF:∀b∈B,F (ρ b.i)=some (b.ren ρ).blk){l:List VarR}{v:Value}(h:ycfj B v l=true):RV F om0 (yfc l) (ren1 ρ v):=by
 refine ysk hF h fun k L hk hq=>?_;unfold ycsv at hq;split at hq
 .simp only[zC]at hq;obtain⟨⟨⟨⟨⟨h1,h2⟩,h3⟩,h4⟩,h5⟩,h6⟩:=hq;exact⟨rfl,.cons (ycub h1) (.cons (yqp h2) (.cons (yqp h3) (.cons (yqp h4) (.cons (yqp h5) (.cons (yqp h6) .nil))))),rfl⟩
 .cases hq
theorem ybpr(hF:∀b∈B,F (ρ b.i)=some (b.ren ρ).blk){l:List SetR}{v:Value}(h:ybjv B 2 l.length (ybup B l) v=true):RV F om0 (yjc l) (ren1 ρ v):=by
 refine ysk hF h fun k L hk hq=>?_;unfold ybup at hq;split at hq
 .simp only[zC]at hq;obtain⟨⟨h1,h2⟩,h3⟩:=hq;refine⟨rfl,.cons (yqp h1) (.cons ?_ .nil),rfl⟩;rw[ybhk h2];exact yud hF h3
 .cases hq
theorem ybka(hF:∀b∈B,F (ρ b.i)=some (b.ren ρ).blk){l:List RuleR}{v:Value}(h:yboj B v l=true):RV F om0 (ydh l) (ren1 ρ v):=by
 refine ysk hF h fun k L hk hq=>?_;unfold ybtz at hq;split at hq
 .simp only[zC]at hq;obtain⟨⟨⟨⟨h1,h2⟩,h3⟩,h4⟩,h5⟩:=hq;refine⟨rfl,.cons (ycub h1) (.cons ?_ (.cons ?_ .nil)),rfl⟩
  .rw[ybhk h2];exact yud hF h3
  .rw[ybhk h4];exact ybpr hF h5
 .cases hq
end
structure LaidP(fp:Fact)(t:ByteArray)(p:ProgR)(vv vr:Value)(Bv Br:List BlkL):Prop where
 args:fp.args=[.string t]
 pre:fp.pre=[]
 v:fp.v = .agg #[.string p.name,vv,vr]
 still:fp.still=true
 bv:∀b∈Bv,b∈fp.post
 br:∀b∈Br,b∈fp.post
 vars:ycfj Bv vv p.vars=true
 rules:yboj Br vr p.rules=true
theorem ycis{P:Program}{fp:Fact}{t:ByteArray}{p:ProgR}{vv vr:Value}{Bv Br:List BlkL}(hok:yeq P fp)(h:LaidP fp t p vv vr Bv Br):Returns P fp.g [.a (.string t)] (.ag (yfj (Lies Bv vv) (Lies Br vr) p)):=by
 intro G m us hwf hle hus
 have hu:us=[.string t]:=by
  cases hus with
  |cons a b=>cases a with|a _=>cases b with|nil=>rfl
 subst hu;obtain⟨s1,⟨s2,s3⟩,s4,s5,s6,s7,s8⟩:=ymg h.still;have hmv:=ywb (tgt:=[]) (n0:=m.next) hok h.still (by rw[h.pre];rfl) zAX (fun t ht=>by cases ht)
 obtain⟨ρ,hρ⟩:∃ρ,fp.rho [] m.next=ρ:=⟨_,rfl⟩
 have hpost:(fp.move [] m.next).post=fp.post.map (BlkL.ren ρ):=by rw[<-hρ];rfl
 have hv:(fp.move [] m.next).v = .agg #[.string p.name,ren1 ρ vv,ren1 ρ vr]:=by
  show renV (fp.rho [] m.next) fp.v=_
  rw[hρ,h.v];rfl
 have hpre:(fp.move [] m.next).pre=[]:=by
  show fp.pre.map _=[];rw[h.pre];rfl
 have hfit:(fp.move [] m.next).fits fp.g [.string t] m=true:=by
  unfold Fact.fits;rw[hpre];show(zH fp.g fp.g&&zH m.next m.next&&eqL2 (fp.args.map (ren2 _)) [.string t]&&true)=true
  rw[zF,zF,h.args];show(true&&true&&(eqBytes t.data.toList t.data.toList&&true)&&true)=true;rw[yrf];rfl
 have hri:∀b∈fp.post,ρ b.i=b.i-fp.next0+m.next:=fun b hb=>by rw[<-hρ];exact ybnq (s6 b hb).1 (s6 b hb).2.1
 have hnd:yhk ((fp.post.map (BlkL.ren ρ)).map (·.i))=true:=by
  refine ynp ?_
  have e:(fp.post.map (BlkL.ren ρ)).map (·.i)=(fp.post.map (·.i)).map (fun i=>i-fp.next0+m.next):=by
   rw[zAA,zAA];refine zJ fun b hb=>?_;show(b.ren ρ).i=_;rw[b.ygr,hri b hb];rfl
  rw[e];unfold List.Nodup at s7 ⊢;rw[zAD];refine List.Pairwise.imp_of_mem (fun {x y} hx hy h=>?_) s7;obtain⟨bx,hbx,rfl⟩:=List.mem_map.1 hx;obtain⟨by_,hby,rfl⟩:=List.mem_map.1 hy;have:=(s6 bx hbx).1;have:=(s6 by_ hby).1;omega
 have hs:=yzd hmv hfit;unfold Fact.out at hs;rw[hv,hpre,hpost]at hs;refine⟨_,_,_,hs,zAH _,?_,rfl,?_⟩
 .intro i b hb;show(blksT m.b (fp.post.map (BlkL.ren ρ))).get i=some b;rw[ytp fun c hc=>?_]
  .exact hb
  .obtain⟨c,hc',rfl⟩:=List.mem_map.1 hc;have:=hwf i b hb;rw[c.ygr,hri c hc'];omega
 .have hF:∀b∈fp.post,frsh m.next ⟨(fp.move [] m.next).next1,blksT m.b (fp.post.map (BlkL.ren ρ)),(fp.move [] m.next).low⟩ G (ρ b.i)=some (b.ren ρ).blk:=fun b hb=>by
   unfold frsh;rw[if_pos (by rw[hri b hb];omega)]
   have:=ysa (t:=m.b) hnd _ (List.mem_map.2 ⟨b,hb,rfl⟩);rw[b.ygr]at this;exact this
  have hinj:∀b∈fp.post,∀c∈fp.post,ρ b.i=ρ c.i->b.i=c.i:=fun b hb c hc e=>by
   rw[hri b hb,hri c hc]at e;have:=(s6 b hb).1;have:=(s6 c hc).1;omega
  refine .ag (.cons (.a rfl) (.cons (.ex ?_ (fun A B w=>Lies.mono A B w) ?_) (.cons (.ex ?_ (fun A B w=>Lies.mono A B w) ?_) .nil)))
  .exact⟨ρ,fun b hb c hc=>hinj b (h.bv b hb) c (h.bv c hc),fun b hb=>hF b (h.bv b hb),rfl⟩
  .exact ybqu (fun b hb=>hF b (h.bv b hb)) h.vars
  .exact⟨ρ,fun b hb c hc=>hinj b (h.br b hb) c (h.br c hc),fun b hb=>hF b (h.br b hb),rfl⟩
  .exact ybka (fun b hb=>hF b (h.br b hb)) h.rules
def inB(B:List BlkL):Value->Bool
 |.slice (some a) _ _=>(B.map (·.i)).elem a.block
 |.pointer (some a)=>(B.map (·.i)).elem a.block
 |.agg _=>false
 |.func _ _ _=>false
 |_=>true
theorem yja{B:List BlkL}{ρ σ:Nat->Nat}(h:∀b∈B,ρ b.i=σ b.i){v:Value}(hv:inB B v=true):ren1 ρ v=ren1 σ v:=by
 have hk:∀j,(B.map (·.i)).elem j=true->ρ j=σ j:=fun j hj=>by
  have:j∈B.map (·.i):=by simpa using hj
  obtain⟨b,hb,rfl⟩:=List.mem_map.1 this;exact h b hb
 cases v with
 | slice p n c=>cases p with
   |none=>rfl
   | some a =>
     show Value.slice (some (renA ρ a)) n c = .slice (some (renA σ a)) n c;rw[ykp,ykp,hk _ hv]
 | pointer p=>cases p with
   |none=>rfl
   | some a =>
     show Value.pointer (some (renA ρ a)) = .pointer (some (renA σ a));rw[ykp,ykp,hk _ hv]
 |agg a=>cases hv
 |func f a c=>cases hv
 |_=>rfl
theorem ybmv{B:List BlkL}{τ:Nat->Nat}{v:Value}(hv:inB B v=true):ren2 τ v=ren1 τ v:=by
 cases v with
 |agg a=>cases hv
 |func f a c=>cases hv
 |_=>rfl
theorem ybpc{B:List BlkL}{ρ σ:Nat->Nat}(h:∀b∈B,ρ b.i=σ b.i){v:Value}(hv:inB B v=true):ren2 ρ v=ren2 σ v:=by
 rw[ybmv hv,ybmv hv];exact yja h hv
def ybia(B:List BlkL):Bool:=B.all fun b=>b.l.all (inB B)
theorem ybds{B:List BlkL}{ρ σ:Nat->Nat}(hc:ybia B=true)(h:∀b∈B,ρ b.i=σ b.i){b:BlkL}(hb:b∈B):b.ren ρ=b.ren σ:=by
 have h1:=List.all_eq_true.1 (List.all_eq_true.1 hc b hb)
 have e:∀τ:Nat->Nat,b.ren τ=⟨τ b.i,b.e,b.z,b.l.map (ren2 τ)⟩:=fun τ=>by
  unfold BlkL.ren;rw[ybp]
 rw[e,e,h b hb];congr 1;exact zJ fun v hv=>ybpc h (h1 v hv)
theorem yyl{low:Nat}:∀{l:List BlkL}{t:T ABlk},(∀b∈l,b.i<low)->dropT t low l=t
 |[],_,_=>rfl
 | b :: l,t,h=>by
   have hb:=h b zAN;unfold dropT
   have e:zAB low b.i=false:=by
    cases q:zAB low b.i with
    |false=>rfl
    |true=>have:=zI q;omega
   rw[e,ybe,if_neg (by simp)]
   exact yyl fun c hc=>h c (zAI _ hc)
structure GoodV(fv:Fact)(p:ProgR)(vv vr:Value)(Bv Br:List BlkL):Prop where
 args:fv.args=[.agg #[.string p.name,vv,vr]]
 pre:∀b∈fv.pre,b∈Bv\/b∈Br
 bv:∀b∈Bv,b∈fv.pre
 br:∀b∈Br,b∈fv.pre
 v:fv.v = .bool true
 post:fv.post=[]
 still:fv.still=true
 apart:(Bv.all fun b=>Br.all fun c=>!(zH b.e c.e) && !(zH b.i c.i))=true
 cv:ybia Bv=true
 cr:ybia Br=true
 iv:inB Bv vv=true
 ir:inB Br vr=true
 refl:eq2 (.agg #[.string p.name,vv,vr]) (.agg #[.string p.name,vv,vr])=true
theorem yckw{P:Program}{fv:Fact}{p:ProgR}{vv vr:Value}{Bv Br:List BlkL}(hok:yeq P fv)(h:GoodV fv p vv vr Bv Br):Returns P fv.g [.ag (yfj (Lies Bv vv) (Lies Br vr) p)] (.b true):=by
 intro G m us hwf hle hus
 obtain⟨ρ1,ρ2,hu,a1,a2,a3,a4⟩:∃ρ1 ρ2:Nat->Nat,us=[.agg #[.string p.name,ren1 ρ1 vv,ren1 ρ2 vr]]/\(∀b∈Bv,∀c∈Bv,ρ1 b.i=ρ1 c.i->b.i=c.i)/\(∀b∈Bv,G (ρ1 b.i)=some (b.ren ρ1).blk) /\
  (∀b∈Br,∀c∈Br,ρ2 b.i=ρ2 c.i->b.i=c.i)/\∀b∈Br,G (ρ2 b.i)=some (b.ren ρ2).blk:=by
  cases hus with
  | cons a b =>
    cases b
    cases a with
    | ag hl =>
      cases hl with
      | cons x1 hl =>
        cases x1
        cases hl with
        | cons x2 hl =>
          cases x2 with
          | ex q2 _ _ =>
            cases hl with
            | cons x3 hl =>
              cases x3 with
              | ex q3 _ _ =>
                cases hl
                obtain⟨ρ1,b1,b2,rfl⟩:=q2;obtain⟨ρ2,b3,b4,rfl⟩:=q3;exact⟨ρ1,ρ2,rfl,b1,b2,b3,b4⟩
 subst hu;obtain⟨s1,⟨s2,s3⟩,s4,s5,s6,s7,s8⟩:=ymg h.still
 have hap:∀b∈Bv,∀c∈Br,b.e≠c.e/\b.i≠c.i:=fun b hb c hc=>by
  have:=List.all_eq_true.1 (List.all_eq_true.1 h.apart b hb) c hc;simp only[zC,zL]at this;exact⟨fun e=>(by rw[e,zF]at this;exact absurd this.1 (by decide)),fun e=>(by rw[e,zF]at this;exact absurd this.2 (by decide))⟩
 let σ:Nat->Nat:=fun i=>if (Bv.map (·.i)).elem i then ρ1 i else ρ2 i
 have hcross:∀b∈Bv,∀c∈Br,ρ1 b.i≠ρ2 c.i:=fun b hb c hc e=>by
  have e1:=a2 b hb;have e2:=a4 c hc;rw[e,e2]at e1
  injection e1 with e1
  unfold BlkL.blk at e1
  injection e1 with _ _ e3 _
  exact(hap b hb c hc).1 e3.symm
 have hG:∀i b,G i=some b->i<m.next:=fun i b hb=>hwf i b (hle i b hb)
 have sv:∀b∈Bv,σ b.i=ρ1 b.i:=fun b hb=>if_pos (by simpa using⟨b,hb,rfl⟩)
 have sr:∀b∈Br,σ b.i=ρ2 b.i:=fun b hb=>by
  refine if_neg fun q=>?_;have:b.i∈Bv.map (·.i):=by simpa using q
  obtain⟨d,hd,hdi⟩:=List.mem_map.1 this;exact(hap d hd b hb).2 hdi
 have tgtLt:∀b∈fv.pre,σ b.i<m.next:=fun b hb=>by
  rcases h.pre b hb with q|q
  .rw[sv b q];exact hG _ _ (a2 b q)
  .rw[sr b q];exact hG _ _ (a4 b q)
 have sinj:∀b∈fv.pre,∀c∈fv.pre,σ b.i=σ c.i->b.i=c.i:=fun b hb c hc e=>by
  rcases h.pre b hb with q|q<;>rcases h.pre c hc with q'|q'
  .rw[sv b q,sv c q']at e;exact a1 b q c q' e
  .rw[sv b q,sr c q']at e;exact absurd e (hcross b q c q')
  .rw[sr b q,sv c q']at e;exact absurd e.symm (hcross c q' b q)
  .rw[sr b q,sr c q']at e;exact a3 b q c q' e
 obtain⟨tgt,htgt⟩:∃t,fv.pre.map (fun b=>σ b.i)=t:=⟨_,rfl⟩
 have tlt:∀t∈tgt,t<m.next:=fun t ht=>by
  rw[<-htgt]at ht;obtain⟨b,hb,rfl⟩:=List.mem_map.1 ht;exact tgtLt b hb
 have tnd:tgt.Nodup:=by
  rw[<-htgt];have s5:=s5;unfold List.Nodup at s5 ⊢;rw[zAD]at s5 ⊢;exact List.Pairwise.imp_of_mem (fun {x y} hx hy h e=>h (sinj x hx y hy e)) s5
 have tlen:fv.pre.length=tgt.length:=by rw[<-htgt,zS]
 have hmv:=ywb (n0:=m.next) hok h.still tlen tnd tlt
 have hrho:=ycbv (n0:=m.next) s4 s5 tlen
 obtain⟨ρ,hρ⟩:∃ρ,fv.rho tgt m.next=ρ:=⟨_,rfl⟩
 rw[hρ,<-htgt]at hrho;have hri:∀b∈fv.pre,ρ b.i=σ b.i:=List.map_inj_left.1 hrho;have hv1:∀b∈Bv,ρ b.i=ρ1 b.i:=fun b hb=>by rw[hri b (h.bv b hb),sv b hb]
 have hr1:∀b∈Br,ρ b.i=ρ2 b.i:=fun b hb=>by rw[hri b (h.br b hb),sr b hb]
 have hargs:(fv.move tgt m.next).args=[.agg #[.string p.name,ren1 ρ1 vv,ren1 ρ2 vr]]:=by
  show fv.args.map (ren2 (fv.rho tgt m.next))=_
  rw[hρ,h.args,<-yja hv1 h.iv,<-yja hr1 h.ir];rfl
 have hself:eqL2 [.agg #[.string p.name,ren1 ρ1 vv,ren1 ρ2 vr]] [.agg #[.string p.name,ren1 ρ1 vv,ren1 ρ2 vr]]=true:=by
  have hf:ylr (.agg #[.string p.name,vv,vr])=true:=by
   have:=s2;rw[h.args]at this
   simpa using this
  have e:=ybwf (ρ:=ρ) hf h.refl;rw[show ren2 ρ (.agg #[.string p.name,vv,vr]) = .agg #[.string p.name,ren1 ρ vv,ren1 ρ vr]from rfl,yja hv1 h.iv,yja hr1 h.ir]at e
  show(eq2 _ _&&true)=true;rw[e];rfl
 have hpre:∀b∈fv.pre,m.b.get (ρ b.i)=some (b.ren ρ).blk:=fun b hb=>by
  rcases h.pre b hb with q|q
  .rw[ybds h.cv hv1 q,hv1 b q];exact hle _ _ (a2 b q)
  .rw[ybds h.cr hr1 q,hr1 b q];exact hle _ _ (a4 b q)
 have hp:(fv.move tgt m.next).pre=fv.pre.map (BlkL.ren ρ):=by rw[<-hρ];rfl
 have hfit:(fv.move tgt m.next).fits fv.g [.agg #[.string p.name,ren1 ρ1 vv,ren1 ρ2 vr]] m=true:=by
  unfold Fact.fits;rw[hargs,hself];show(zH fv.g fv.g&&zH m.next m.next&&true&&(fv.move tgt m.next).pre.all (blkIs m))=true
  rw[zF,zF,hp];show List.all _ _=true;refine List.all_eq_true.2 fun b' hb'=>?_;obtain⟨b,hb,rfl⟩:=List.mem_map.1 hb';have h2:=(s4 b hb).2;refine yqa ?_ (yvj h2) ?_
  .rw[b.ygr];exact hpre b hb
  .show zV (b.l.map _).length 1000000=true;rw[zS];unfold reflB at h2;rw[zC]at h2;exact h2.2
 have hs:=yzd hmv hfit;unfold Fact.out at hs
 have hv:(fv.move tgt m.next).v = .bool true:=by
  show renV (fv.rho tgt m.next) fv.v=_
  rw[h.v];rfl
 have hpost:(fv.move tgt m.next).post=[]:=by
  show fv.post.map _=[];rw[h.post];rfl
 rw[hv,hpost]at hs;refine⟨_,_,_,hs,zAH _,?_,rfl,.b⟩;intro i b hb;show(dropT m.b m.next (fv.move tgt m.next).pre).get i=some b
 rw[yyl fun c hc=>?_]
 .exact hb
 .rw[hp]at hc;obtain⟨c,hc',rfl⟩:=List.mem_map.1 hc;rw[c.ygr,hri c hc'];exact tgtLt c hc'
end Sh
end
section
namespace Sh
open Go Ev
def MqP:ProgT:=ybs (by8 [109,97,116,99,104,105,110,103]) (by8 [112]) (by8 [97,99,99,101,112,116]) (by8 [112,114,111,112,111,115,101]) (by8 [119,105,116,104,100,114,97,119])
def Mqt:ByteArray:=ybv
def Mqv:Value:=.slice (some ⟨634,0,none⟩) 1 CU
def Mqr:Value:=.slice (some ⟨1036,0,none⟩) 3 CU
def MqB:List BlkL:=yui.post.take 1
def MqC:List BlkL:=yui.post.drop 1
theorem yboy:Returns zG 11 [.a (.string Mqt)] (.ag (yfj (Lies MqB Mqv) (Lies MqC Mqr) MqP.raw)) :=
 ycis (fp:=yui) (ybr.at_ ybln 0 rfl) ⟨rfl,rfl,rfl,by kernel_rfl,fun _ h=>zAJ h,fun _ h=>zAK h,by kernel_rfl,by kernel_rfl⟩
theorem ydnw:yzr.pre=yui.post:=rfl
theorem yciw:Returns zG 130 [.ag (yfj (Lies MqB Mqv) (Lies MqC Mqr) MqP.raw)] (.b true) :=
 yckw (fv:=yzr) (ybr.at_ ybbr 0 rfl) ⟨rfl,fun b h=>by
  rw[ydnw,<-List.take_append_drop 1 yui.post]at h;exact List.mem_append.1 h,fun _ h=>zAJ h,fun _ h=>zAK h,rfl,rfl,by kernel_rfl,by kernel_rfl,by kernel_rfl,by kernel_rfl,by kernel_rfl,by kernel_rfl,by kernel_rfl⟩
theorem ydtx:MqP.ok=true:=by kernel_rfl
end Sh
end
section
def ybw(s:Nat):List Nat:=(zQ 32).filter s.testBit
theorem ybdm{p q:Nat->Bool}{n t:Nat}(ht:t<n)(h1:p t=true)(h2:∀i,i<t->p i=false)(h3:∀i,q i=(p i && !decide (i=t))):(zQ n).filter p=t::(zQ n).filter q:=by
 obtain⟨d,rfl⟩:∃d,n=t+(d+1):=⟨n-t-1,by omega⟩
 rw[List.range_add,zAO,zAO,List.range_succ_eq_map];have a1:(zQ t).filter p=[]:=List.filter_eq_nil_iff.2 fun x hx=>by rw[h2 x (List.mem_range.1 hx)];simp
 have a2:(zQ t).filter q=[]:=List.filter_eq_nil_iff.2 fun x hx=>by rw[h3,h2 x (List.mem_range.1 hx)];simp
 rw[a1,a2,zAL,zAW,zAW,zBC,List.filter_cons_of_pos h1,List.filter_cons_of_neg (by rw[h3];simp)]
 congr 1;refine List.filter_congr fun x hx=>?_;obtain⟨y,hy,rfl⟩:=List.mem_map.1 hx;obtain⟨z,_,rfl⟩:=List.mem_map.1 hy;rw[h3];have:decide (t+z.succ=t)=false:=decide_eq_false (by omega)
 rw[this];simp
theorem ycga{x:Nat}(h0:x≠0)(h:x<2^32):zZ 32 x<32/\x.testBit (zZ 32 x)=true/\(∀i,i<zZ 32 x->x.testBit i=false)/\∀i,(x&&&(x-1)).testBit i=(x.testBit i && !decide (i=zZ 32 x)):=by
 obtain⟨m,hm,hk⟩:=Lib.ctzFrom_spec 32 x (by omega) h
 have e:zZ 32 x=zBG 32 x:=by simp[zZ,h0]
 rw[e];obtain⟨k,hkk⟩:∃k,zBG 32 x=k:=⟨_,rfl⟩;rw[hkk]at hm hk ⊢;have hp:0<2^k:=Nat.two_pow_pos k
 have b1:∀j,x.testBit j=if j<k then false else(2*m+1).testBit (j-k):=fun j=>by
  have:=zAC (2*m+1) hp j;rw[zBC,<-hm]at this;rw[this];simp
 have e2:x-1=2^k*(2*m)+(2^k-1):=by
  have:2^k*(2*m+1)=2^k*(2*m)+2^k:=by rw[Nat.mul_add,Nat.mul_one]
  omega
 have b2:∀j,(x-1).testBit j=if j<k then(2^k-1).testBit j else(2*m).testBit (j-k):=fun j=>by
  rw[e2];exact zAC (2*m) (show 2^k-1<2^k by omega) j
 refine⟨hk,by rw[b1,if_neg (by omega),Nat.sub_self];simp,fun i hi=>by rw[b1,if_pos hi],fun i=>?_⟩
 rw[Nat.testBit_and,b1,b2]
 by_cases q:i<k
 .rw[if_pos q];simp
 .rw[if_neg q,if_neg q]
  by_cases q2:i=k
  .subst q2;simp
  .obtain⟨j,hj⟩:∃j,i-k=j+1:=⟨i-k-1,by omega⟩
   rw[hj,zAU,zAU,show(2*m+1)/2=m by omega,show 2*m/2=m by omega]
   simp[q2]
theorem ypz:ybw 0=[]:=List.filter_eq_nil_iff.2 fun x _=>by simp
theorem yqb{x:Nat}(h0:x≠0)(h:x<2^32):ybw x=zZ 32 x::ybw (x&&&(x-1)):=by
 obtain⟨h1,h2,h3,h4⟩:=ycga h0 h;exact ybdm h1 h2 h3 h4
def ydq(s:Nat):Nat->Nat
 |0=>s
 |k+1=>ydq s k&&&(ydq s k-1)
theorem yor{s:Nat}(h:s<2^32):∀k,ydq s k<2^32
 |0=>h
 |k+1=>Nat.lt_of_le_of_lt Nat.and_le_left (yor h k)
theorem yox{s:Nat}(h:s<2^32):∀k,ybw (ydq s k)=(ybw s).drop k
 |0=>by simp[ydq]
 | k + 1=>by
   have ih:=yox h k;show ybw (ydq s k&&&(ydq s k-1))=_
   by_cases h0:ydq s k=0
   .rw[h0,ypz]at ih;rw[h0,Nat.zero_and,ypz,<-zAY,<-ih];rfl
   .rw[yqb h0 (yor h k)]at ih;rw[<-zAY,<-ih];rfl
theorem rest_end{s k:Nat}(h:s<2^32)(hk:k<=(ybw s).length):ydq s k=0↔k=(ybw s).length:=by
 have hd:=yox h k;constructor
 .intro e;rw[e,ypz]at hd;have:=congrArg zBE hd;rw[List.length_drop,zAV]at this;omega
 .intro e;rw[e,List.drop_length]at hd;refine zBA fun q=>?_;rw[<-e]at hd;rw[yqb q (yor h k)]at hd;cases hd
theorem ydjh{s k:Nat}(h:s<2^32)(hk:k<(ybw s).length):ydq s k≠0/\zZ 32 (ydq s k)=(ybw s).getD k 0:=by
 have h0:ydq s k≠0:=fun e=>by have:=(rest_end h (Nat.le_of_lt hk)).1 e;omega
 refine⟨h0,?_⟩;have hd:=yox h k;rw[yqb h0 (yor h k),zAE hk]at hd;have:=(List.cons.inj hd).1;rw[this,List.getD_eq_getElem?_getD,zN hk];rfl
theorem ytd{s v:Nat}:v∈ybw s↔v<32/\s.testBit v=true:=by
 unfold ybw;rw[List.mem_filter,List.mem_range]
end
section
open Go.RowKit
theorem ydpp(x a:Nat)(hx:x<4294967296)(hx0:x≠0)(hlow:x&&&(4294967296-x)=a) :
 bits BinOp.and IntKind.u32 (x:Int) (-(x:Int)%4294967296)*125613361%4294967296/134217728=((a*125613361%4294967296/134217728:Nat):Int):=by
 have e1:-(x:Int)%4294967296=((4294967296-x:Nat):Int):=by omega
 have e2:bits BinOp.and IntKind.u32 (x:Int) ((4294967296-x:Nat):Int)=((x&&&(4294967296-x):Nat):Int):=u32_and (a:=x) (b:=4294967296-x) (by omega) (by omega)
 rw[e1,e2,hlow];omega
set_option maxHeartbeats 1000000 in
theorem ydfr (x k idx:Nat) (w:World) (hx0:((x:Int)==0)=false) (key:bits BinOp.and IntKind.u32 (x:Int) (-(x:Int)%4294967296)*125613361%4294967296/134217728=(idx:Int))
 (hi:idx<32) (hk:k<32) (hcell:w.cell? ⟨0,idx,none⟩=some (.int .u8 k)) :
 Calls zG 173 #[.int .u32 x] w fun e w'=>e = .returned (.int .i64 k)/\w'=w:=by
 go_enter zBD,zAZ
 go_wp2_with (simp only[key])
 go_ret
 exact⟨rfl,rfl⟩
theorem ydhq(w:World):Calls zG 173 #[.int .u32 0] w fun e w'=>e = .returned (.int .i64 32)/\w'=w:=by
 go_enter zBD,zAZ
 go_wp2
 go_ret
 exact⟨rfl,rfl⟩
theorem ydpy{w:World}{x:Nat}(hx:x<2^32)(hw:∃e fz,w.heap[0]?=some (.cells Ev.ybef.toArray e fz)) :
 Calls zG 173 #[.int .u32 x] w fun e w'=>e = .returned (.int .i64 (zZ 32 x))/\w'=w:=by
 by_cases hx0:x=0
 .subst hx0;exact ydhq w
 .obtain⟨hlow,hk⟩:=Lib.lowest_bit 32 x hx0 hx;obtain⟨hi,htab⟩:=Lib.deBruijn32_at _ hk;obtain⟨e,fz,hw⟩:=hw;refine ydfr x _ _ w (by simp;omega) (ydpp x _ hx hx0 hlow) hi hk ?_
  have keyN:∀j,j<32->([0,1,28,2,29,14,24,3,30,22,20,15,25,17,4,8,31,27,13,23,21,19,16,7,26,12,18,6,11,5,10,9]:List Int)[j]?=some ((Lib.deBruijn32tab.getD j 0:Nat):Int):=by decide +kernel
  have key:∀j,j<32->Ev.ybef[j]?=some (.int .u8 (Lib.deBruijn32tab.getD j 0:Nat)):=fun j hj=>by
   unfold Ev.ybef;rw[zAQ,keyN j hj];rfl
  rw[World.cell?,hw];have:=key _ hi;rw[htab]at this
  simpa using this
namespace Sh
open Ev
end Sh
end
end Go.Proofs.YthclbjjgfcgbgaaGreatDoor
