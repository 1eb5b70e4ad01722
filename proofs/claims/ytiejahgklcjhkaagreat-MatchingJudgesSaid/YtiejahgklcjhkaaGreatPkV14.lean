/- Joined. -/
import Derived.Test.YtiejahgklcjhkaaGreatPkV10
import Derived.Test.YtiejahgklcjhkaaGreatPkV13
set_option linter.unusedSimpArgs false
set_option linter.unusedVariables false
set_option maxRecDepth 1000000
open Nat renaming reduceEqDiff→zA,reduceAdd→zB,reduceLT→zF,reduceLeDiff→zG,zero_le→zI,not_lt_zero→zJ
open Go.Proofs.Tryz renaming prog→zC,func26→zK
open Int renaming reduceToNat→zD,natCast_zero→zH
open Go
namespace Go.Proofs.YtiejahgklcjhkaaGreat
section
namespace Ev
def Mzb0:BlkL:=⟨5,38,1,[.slice (some ⟨20,0,none⟩) 1 CU,.slice (some ⟨29,0,none⟩) 2 CU,.slice (some ⟨31,0,none⟩) 1 CU]⟩
def Mzb1:BlkL:=⟨12,3,1,[.int .i64 0,.int .i64 1,.int .i64 2]⟩
def Mzb2:BlkL:=⟨29,81,2,[.int .i64 0,.int .i64 1,.int .i64 2,.int .i64 1]⟩
def Mzb3:BlkL:=⟨746,190,2,[.int .i64 41,.int .i64 0,.int .i64 35,.int .i64 0,.int .i64 5,.int .i64 0,.int .i64 4,.int .i64 0,.int .i64 21,.int .i64 0,.int .i64 35,.int .i64 0,.int .i64 12,.int .i64 0,.int .i64 17,.int .i64 0]⟩
def Mzb4:BlkL:=⟨795,190,2,[.int .i64 23,.int .i64 0,.int .i64 35,.int .i64 0,.int .i64 12,.int .i64 0,.int .i64 17,.int .i64 0]⟩
def Mzb5:BlkL:=⟨802,156,2,[.int .i64 0,.slice (some ⟨795,0,none⟩) 4 CU]⟩
def Mzb6:BlkL:=⟨881,190,2,[.int .i64 41,.int .i64 0,.int .i64 35,.int .i64 0,.int .i64 5,.int .i64 0,.int .i64 4,.int .i64 0,.int .i64 21,.int .i64 0,.int .i64 35,.int .i64 0,.int .i64 12,.int .i64 0,.int .i64 4,.int .i64 0]⟩
def Mzb7:BlkL:=⟨926,190,2,[.int .i64 23,.int .i64 0,.int .i64 35,.int .i64 0,.int .i64 12,.int .i64 0,.int .i64 4,.int .i64 0]⟩
def Mzb8:BlkL:=⟨933,156,2,[.int .i64 0,.slice (some ⟨926,0,none⟩) 4 CU]⟩
def Mzb9:BlkL:=⟨1042,190,2,[.int .i64 21,.int .i64 0,.int .i64 41,.int .i64 0,.int .i64 41,.int .i64 0,.int .i64 35,.int .i64 0,.int .i64 11,.int .i64 0,.int .i64 5,.int .i64 0,.int .i64 36,.int .i64 0,.int .i64 12,.int .i64 0,.int .i64 4,.int .i64 0,.int .i64 36,.int .i64 0,.int .i64 12,.int .i64 0,.int .i64 17,.int .i64 0]⟩
def yboq:BlkL:=⟨1058,190,2,[.int .i64 4,.int .i64 0]⟩
def ybqc:BlkL:=⟨1065,156,2,[.int .i64 0,.slice (some ⟨1058,0,none⟩) 1 1]⟩
def ybwm:BlkL:=⟨2544,22,1,[.slice (some ⟨2545,0,none⟩) 1 CU,.slice (some ⟨2588,0,none⟩) 1 CU,.slice (some ⟨2547,0,none⟩) 1 CU]⟩
end Ev
end
section
namespace Ev
def Mzm1:Fact:=ybfr.move [746,795,802,1960] 1963
theorem ybqw:ydq zC Mzm1:=yer (yx.at_ yix 0 rfl) (by kernel_rfl)
def Mzm2:Fact:=ybez.move [881,926,933,1960] 2088
theorem ybpb:ydq zC Mzm2:=yer (yx.at_ yix 1 rfl) (by kernel_rfl)
def Mzm3:Fact:=ybcc.move [1042,1058,1065,1960] 2213
theorem ybnv:ydq zC Mzm3:=yer (yx.at_ ypp 0 rfl) (by kernel_rfl)
/- selfstab/memory.Check -/
def ybfp:Fact:=⟨59,[.agg #[.string (by8 [109,97,116,99,104,105,110,103]),.slice (some ⟨667,0,none⟩) 1 CU,.slice (some ⟨1069,0,none⟩) 3 CU],.agg #[.slice (some ⟨12,0,none⟩) 3 CU,.slice (some ⟨5,0,none⟩) 3 3],.slice (some ⟨1707,0,none⟩) 3 3],1710,[Mzb0,Mzb1,⟨20,81,2,[.int .i64 1,.int .i64 1]⟩,Mzb2,⟨31,81,2,[.int .i64 1,.int .i64 1]⟩,⟨667,93,6,[.string (by8 [112]),.int .i64 3,.int .i64 0,.int .i64 0,.int .i64 0,.int .i64 0]⟩,Mzb3,Mzb4,Mzb5,Mzb6,Mzb7,Mzb8,Mzb9,yboq,ybqc,⟨1069,146,3,[.string (by8 [97,99,99,101,112,116]),.slice (some ⟨746,0,none⟩) 8 CU,.slice (some ⟨802,0,none⟩) 1 CU,.string (by8 [112,114,111,112,111,115,101]),.slice (some ⟨881,0,none⟩) 8 CU,.slice (some ⟨933,0,none⟩) 1 CU,.string (by8 [119,105,116,104,100,114,97,119]),.slice (some ⟨1042,0,none⟩) 12 CU,.slice (some ⟨1065,0,none⟩) 1 CU]⟩,⟨1704,3,1,[.int .i64 (-1)]⟩,⟨1705,3,1,[.int .i64 (-1)]⟩,⟨1706,3,1,[.int .i64 (-1)]⟩,⟨1707,22,1,[.slice (some ⟨1704,0,none⟩) 1 1,.slice (some ⟨1705,0,none⟩) 1 1,.slice (some ⟨1706,0,none⟩) 1 1]⟩],.int .i64 0,2383,[],1710⟩
def ybyu:List Fact:=[ybfp]
theorem ybke:yx ybyu:=yx.seq (yx.cons (f:=Mzm1) ybqw (yx.cons (f:=Mzm2) ybpb (yx.cons (f:=Mzm3) ybnv yx.nil))) (by kernel_rfl)
def Mzm4:Fact:=ybfr.move [746,795,802,2856] 2859
theorem ybpa:ydq zC Mzm4:=yer (yx.at_ yix 0 rfl) (by kernel_rfl)
def Mzm5:Fact:=ybez.move [881,926,933,2856] 2984
theorem ybne:ydq zC Mzm5:=yer (yx.at_ yix 1 rfl) (by kernel_rfl)
def Mzm6:Fact:=ybcc.move [1042,1058,1065,2856] 3109
theorem ybmx:ydq zC Mzm6:=yer (yx.at_ ypp 0 rfl) (by kernel_rfl)
/- selfstab/memory.Check -/
def ybmb:Fact:=⟨59,[.agg #[.string (by8 [109,97,116,99,104,105,110,103]),.slice (some ⟨667,0,none⟩) 1 CU,.slice (some ⟨1069,0,none⟩) 3 CU],.agg #[.slice (some ⟨12,0,none⟩) 3 CU,.slice (some ⟨5,0,none⟩) 3 3],.slice (some ⟨2544,0,none⟩) 3 3],2606,[Mzb0,Mzb1,⟨20,81,2,[.int .i64 1,.int .i64 1]⟩,Mzb2,⟨31,81,2,[.int .i64 1,.int .i64 1]⟩,⟨667,93,6,[.string (by8 [112]),.int .i64 3,.int .i64 0,.int .i64 0,.int .i64 0,.int .i64 0]⟩,Mzb3,Mzb4,Mzb5,Mzb6,Mzb7,Mzb8,Mzb9,yboq,ybqc,⟨1069,146,3,[.string (by8 [97,99,99,101,112,116]),.slice (some ⟨746,0,none⟩) 8 CU,.slice (some ⟨802,0,none⟩) 1 CU,.string (by8 [112,114,111,112,111,115,101]),.slice (some ⟨881,0,none⟩) 8 CU,.slice (some ⟨933,0,none⟩) 1 CU,.string (by8 [119,105,116,104,100,114,97,119]),.slice (some ⟨1042,0,none⟩) 12 CU,.slice (some ⟨1065,0,none⟩) 1 CU]⟩,ybwm,⟨2545,3,1,[.int .i64 (-1)]⟩,⟨2547,3,1,[.int .i64 (-1)]⟩,⟨2588,3,1,[.int .i64 0]⟩],.int .i64 0,3279,[],2606⟩
def ybzj:List Fact:=[ybmb]
theorem ybib:yx ybzj:=yx.seq (yx.cons (f:=Mzm4) ybpa (yx.cons (f:=Mzm5) ybne (yx.cons (f:=Mzm6) ybmx yx.nil))) (by kernel_rfl)
end Ev
end
section
namespace Ev
/- selfstab/step.Step -/
def ybgd:Fact:=⟨22,[.agg #[.string (by8 [109,97,116,99,104,105,110,103]),.slice (some ⟨667,0,none⟩) 1 CU,.slice (some ⟨1069,0,none⟩) 3 CU],.agg #[.slice (some ⟨12,0,none⟩) 3 CU,.slice (some ⟨5,0,none⟩) 3 3],.slice (some ⟨2544,0,none⟩) 3 3,.int .u32 1],2604,[Mzb0,Mzb1,⟨20,81,2,[.int .i64 1,.int .i64 1]⟩,Mzb2,⟨31,81,2,[.int .i64 1,.int .i64 1]⟩,⟨667,93,6,[.string (by8 [112]),.int .i64 3,.int .i64 0,.int .i64 0,.int .i64 0,.int .i64 0]⟩,Mzb3,Mzb4,Mzb5,Mzb6,Mzb7,Mzb8,Mzb9,yboq,ybqc,⟨1069,146,3,[.string (by8 [97,99,99,101,112,116]),.slice (some ⟨746,0,none⟩) 8 CU,.slice (some ⟨802,0,none⟩) 1 CU,.string (by8 [112,114,111,112,111,115,101]),.slice (some ⟨881,0,none⟩) 8 CU,.slice (some ⟨933,0,none⟩) 1 CU,.string (by8 [119,105,116,104,100,114,97,119]),.slice (some ⟨1042,0,none⟩) 12 CU,.slice (some ⟨1065,0,none⟩) 1 CU]⟩,ybwm,⟨2545,3,1,[.int .i64 (-1)]⟩,⟨2547,3,1,[.int .i64 (-1)]⟩,⟨2588,3,1,[.int .i64 0]⟩],.tuple #[.slice (some ⟨3486,0,none⟩) 3 3,.int .i64 0],3517,[⟨3486,22,1,[.slice (some ⟨3505,0,none⟩) 1 CU,.slice (some ⟨3488,0,none⟩) 1 CU,.slice (some ⟨3489,0,none⟩) 1 CU]⟩,⟨3488,3,1,[.int .i64 0]⟩,⟨3489,3,1,[.int .i64 (-1)]⟩,⟨3505,3,1,[.int .i64 0]⟩],2604⟩
def ybxx:List Fact:=[ybgd]
theorem ybia:yx ybxx:=yx.seq (yx.cons (f:=ybmb) (yx.at_ ybib 0 rfl) yx.nil) (by kernel_rfl)
end Ev
end
section
namespace Ev
def Mzm0:Fact:=yblw.move [] 33
theorem ybny:ydq zC Mzm0:=yer (yx.at_ ybip 0 rfl) (by kernel_rfl)
end Ev
end
section
namespace Ev
open Go Go.RowKit
def mzF:List Fact:=[Mzm0,ybfp,ybgd]
theorem ybua:yx mzF:=(yx.cons (f:=Mzm0) ybny (yx.cons (f:=ybfp) (yx.at_ ybke 0 rfl) (yx.cons (f:=ybgd) (yx.at_ ybia 0 rfl) yx.nil)))
def mzH:Hooks:=⟨some 90,some 199,some 104,symB,[⟨1000000000000,mzF⟩],some 107⟩
theorem ybws:HooksOk zC mzH:=⟨fun g h=>(by cases h;exact yxf),fun g h=>(by cases h;exact ykm),fun g h=>(by cases h;exact ybcr),ydm.cons ybua ydm.nil,fun g h=>(by cases h;exact yqo)⟩
def mzT:Option Value->Bool
 |some (.bool b)=>b
 |_=>false
theorem ybwq:∀{o:Option Value},mzT o=true->o=some (.bool true)
 |some (.bool true),_=>rfl
set_option maxRecDepth 1000000 in
theorem yum:outV (ev zC mzH 3000 (.call 26 [] mem0))=some (.bool true):=ybwq (by kernel_rfl)
theorem ybng(w:World)(hG:GlW w):Calls zC 26 #[] w fun e w'=>e = .returned (.bool true)/\Below w.heap.size w w' :=
 ypc mix yng ybws yum rfl rfl ⟨_,_,zK,rfl⟩ w hG
end Ev
end
section
namespace Sh
open Go Ev Go.RowKit
theorem yug:Returns zC 26 [] (.b true):=by
 refine yod ⟨_,_,zK,rfl⟩ (fun _=>.b) (fun _=>.simple rfl) fun G m us hG hr φ M w us' hRl hs hv=>?_;cases hr
 cases hv
 exact ybng w fun x hx=>(hRl.gl x hx).1
end Sh
end
section
namespace Sh
open Ev Go.RowKit
theorem ymz{g:Gr}(hI:GrI g){c:Conf}(hR:yml c):Returns zC 48 [grV g,ybu c,yfa ytj] (.b (yci g c)):=by
 rw[<-yzg];exact ywi hI hR ybfd
set_option maxHeartbeats 4000000 in
theorem ysc{g:Gr}(hI:GrI g){c:Conf}(hR:yml c):Returns zC 30 [grV g,ybu c] (.b (ybo g c)):=by
 refine Returns.of (ybtb _ _ ?_);have hF:=yhh hI;have hVs:Returns zC 69 [] (yfa ytj):=ysz;have hC:=ymz hI hR;cases hv:ybq g with
 | false =>
   have e0:yci g c=false:=by unfold yci;rw[hv];rfl
   have e:ybo g c=false:=by unfold ybo;rw[e0];rfl
   rw[hv]at hF;rw[e];simp only[grV]at hF;simp only[c30,ybhp,ybhr,yboa,grV,clash,go_sem,zA,zB,zF,↓reduceIte];refine hF.use ?_;simp only[ybx,clash,go_sem,zA,zB,↓reduceIte,reduceCtorEq]
   try refine⟨by decide,?_⟩
   exact Sim.refl _
 |true =>
 rw[hv]at hF;cases hcf:yci g c with
 | false =>
   have e:ybo g c=false:=by unfold ybo;rw[hcf];rfl
   rw[hcf]at hC;rw[e];simp only[grV]at hF hC;simp only[c30,ybhp,ybhr,yboa,grV,clash,go_sem,zA,zB,zF,↓reduceIte];refine hF.use ?_;simp only[ybx,clash,go_sem,zA,zB,↓reduceIte,reduceCtorEq]
   try refine⟨by decide,?_⟩
   refine hVs.use ?_;simp only[go_sem,↓reduceIte]
   try refine⟨by decide,?_⟩
   first|refine hC.use ?_|refine⟨by decide,hC.use ?_⟩
   simp only[go_sem,↓reduceIte]
   try refine⟨by decide,?_⟩
   exact Sim.refl _
 | true =>
   obtain⟨hg,hcl,hc1⟩:=yez hcf;have hM:=yox hcf;have h24:=hg.2.1;have hpl:=hg.2.2.1;have hiff:=yxd hcf;have hA:=fun v hv=>ybgb hg hM (v:=v) hv;have hdeg:=fun v=>hg.deg_lt (v:=v);have hrow:=hM.row
   have hto:∀v,v<g.ids.length->∀i,i<(g.ports.getD v []).length->0<=(ybg g v i).1/\(ybg g v i).1.toNat<g.ids.length:=fun v hv i hi=>by
    have hm:ybg g v i∈g.ports.getD v []:=by unfold ybg;rw[getD_at hi];exact List.getElem_mem hi
    obtain⟨a1,a2,_⟩:=ych hg (by omega) hm
    exact⟨a1,by omega⟩
   have hx:∀v,pAt c v=(c.getD v []).getD 0 0:=fun _=>rfl;obtain⟨n,hn⟩:∃n,c.length=n:=⟨_,rfl⟩;have hgn:g.ports.length=n:=by omega
   have hin:g.ids.length=n:=by omega
   obtain⟨P,hP⟩:∃P:Nat->Int,(fun v=>pAt c v)=P:=⟨_,rfl⟩;have hP':∀v,pAt c v=P v:=fun v=>by rw[<-hP]
   obtain⟨A,hAe⟩:∃A:Nat->Bool,(fun v=>ansB g c v)=A:=⟨_,rfl⟩;have hA':∀v,ansB g c v=A v:=fun v=>by rw[<-hAe]
   simp only[hP']at hx hiff hrow;simp only[hA']at hA hiff;rw[hin]at hrow hto hA hiff;rw[hcf]at hC;have hl:∀v i,(g.ports.getD v []).getD i (0,0)=ybg g v i:=fun _ _=>rfl;simp only[grV]at hF hC hA;simp only[c30,ybhp,ybhr,ybux,grV,clash,go_sem,zA,zB,zF,↓reduceIte];refine hF.use ?_;simp only[ybx,clash,go_sem,zA,zB,↓reduceIte,reduceCtorEq]
   try refine⟨by decide,?_⟩
   refine hVs.use ?_;simp only[go_sem,↓reduceIte]
   try refine⟨by decide,?_⟩
   first|refine hC.use ?_|refine⟨by decide,hC.use ?_⟩
   simp only[go_sem,↓reduceIte]
   try refine⟨by decide,?_⟩
   refine yfm (σ:=Nat) (fun k=>⟨[(5,.i .i64 k),(1,ybu c),(2,.pt (2,0) 0 0)],[(2,.one (some ⟨25,true,2,1,fun _=>[ybi g.ids,yba g.ports]⟩))]⟩)
    (fun k=>k<=n/\(∀j,j<k->P j>=0->A j=true)/\∀j,j<k->∀i,i<(g.ports.getD j []).length->¬(P j<0/\P (ybg g j i).1.toNat<0)) (fun k=>n-k) 0 ⟨zI _,fun j hj=>absurd hj (zJ j),fun j hj=>absurd hj (zJ j)⟩ ?_ ?_
   ·refine ybd [] [] [] ?_;simp only[go_sem,allQ,live,yw,zH,go_sem,zA,↓reduceIte,reduceCtorEq]
   rintro k ⟨hk,ha1,ha2⟩
   by_cases hlt:k<n
   ·have t1 : decide ((k:Int)<(n:Int))=true:=decide_eq_true (by omega)
    obtain⟨r1,r2,r3⟩:=hrow k hlt;have hxk:=hx k;have hdk:=hdeg k;have htk:=hto k hlt;have hAk:=hA k hlt;have hlk:=hl k;obtain⟨x,hxe⟩:∃x,P k=x:=⟨_,rfl⟩;rw[hxe]at hxk r2 r3;obtain⟨R,hRe⟩:∃R,c.getD k []=R:=⟨_,rfl⟩;rw[hRe]at hxk r1
    by_cases q:x>=0/\A k=false
    ·have t2:decide (x>=0)=true:=decide_eq_true q.1
     have e:ybo g c=false:=by
      cases hb:ybo g c with
      |false=>rfl
      |true=>have:=(hiff.1 hb).1 k hlt (by rw[hxe];exact q.1);rw[q.2]at this;cases this
     rw[e];rw[q.2]at hAk;simp only[ybed,ybjk,ybwo,ybu,ybi,hn,hRe,<-hxk,t1,t2,clash,go_sem,zD,zA,zB,↓reduceIte,reduceCtorEq];simp only[ybu,ybi,hn]at hAk
     repeat (first|refine⟨(by omega:(_:Prop)),?_⟩|refine⟨(⟨by omega,by omega⟩:_/\_),?_⟩|refine hAk.use ?_)
     simp only[ybx,clash,go_sem,zA,zB,↓reduceIte]
     try refine⟨by decide,?_⟩
     exact Sim.refl _
    ·have enter:(x>=0/\A k=true)\/x<0:=by
      by_cases q0:x>=0
      ·cases hb:A k with
       |true=>exact .inl ⟨q0,rfl⟩
       |false=>exact absurd ⟨q0,hb⟩ q
      ·exact .inr (by omega)
     have goodk:x>=0->A k=true:=fun h0=>by
      rcases enter with⟨_,e⟩|e
      ·exact e
      ·omega
     obtain⟨d,hd⟩:∃d,(g.ports.getD k []).length=d:=⟨_,rfl⟩;rw[hd]at hdk htk;obtain⟨L,hL⟩:∃L,g.ports.getD k []=L:=⟨_,rfl⟩;rw[hL]at hd hlk;rcases enter with⟨q1,q2⟩|q1
     ·have t2:decide (x>=0)=true:=decide_eq_true q1;rw[q2]at hAk;simp only[ybed,ybjk,ybpn,ybu,ybi,hn,hRe,<-hxk,t1,t2,clash,go_sem,zD,zA,zB,↓reduceIte,reduceCtorEq];simp only[ybu,ybi,hn]at hAk
      repeat (first|refine⟨(by omega:(_:Prop)),?_⟩|refine⟨(⟨by omega,by omega⟩:_/\_),?_⟩|refine hAk.use ?_)
      simp only[ybx,clash,go_sem,zA,zB,↓reduceIte]
      try refine⟨by decide,?_⟩
      refine yfm (σ:=Nat) (fun i=>⟨[(6,.i .i64 i),(5,.i .i64 k),(1,.sl 1 n fun v=>[ybi (c.getD v [])]),(2,.pt (2,0) 0 0)],[(2,.one (some ⟨25,true,2,1,fun _=>[ybi g.ids,yba g.ports]⟩))]⟩)
       (fun i=>i<=d/\∀j,j<i->¬(x<0/\P (ybg g k j).1.toNat<0)) (fun i=>d-i) 0 ⟨zI _,fun j hj=>absurd hj (zJ j)⟩ ?_ ?_
      ·refine ybd [] [] [] ?_;simp only[ybi,allQ,live,yw,zH,go_sem,zA,↓reduceIte,reduceCtorEq]
      rintro i ⟨hi,hai⟩
      by_cases hli:i<d
      ·have t3:decide ((i:Int)<(d:Int))=true:=decide_eq_true (by omega)
       obtain⟨b1,b2⟩:=htk i hli;have hli':=hlk i;obtain⟨l,hle⟩:∃l,ybg g k i=l:=⟨_,rfl⟩;rw[hle]at b1 b2 hli';obtain⟨s1,s2,s3⟩:=hrow l.1.toNat b2;have hxl:=hx l.1.toNat;obtain⟨y,hye⟩:∃y,P l.1.toNat=y:=⟨_,rfl⟩;rw[hye]at hxl s2 s3;obtain⟨S,hSe⟩:∃S,c.getD l.1.toNat []=S:=⟨_,rfl⟩;rw[hSe]at hxl s1
       by_cases qn:x<0/\y<0
       ·have t4:decide (x<0)=true:=decide_eq_true qn.1;have t5:decide (y<0)=true:=decide_eq_true qn.2
        have e:ybo g c=false:=by
         cases hb:ybo g c with
         |false=>rfl
         |true=>exact absurd ⟨by rw[hxe];exact qn.1,by rw[hle,hye];exact qn.2⟩ ((hiff.1 hb).2 k hlt i (by rw[hL,hd];exact hli))
        rw[e];simp(maxSteps:=5000000) only [ypm,ylx,ybcs,yba,ybc,ybi,hgn,hL,hd,hli',hRe,hSe,<-hxk,<-hxl,t3,t4,t5,clash,go_sem,zD,zA,zB,zG,↓reduceIte,reduceCtorEq]
        repeat (first|refine⟨(by omega:(_:Prop)),?_⟩|refine⟨(⟨by omega,by omega⟩:_/\_),?_⟩)
        exact Sim.refl _
       ·have again:i+1<=d/\∀j,j<i+1->¬(x<0/\P (ybg g k j).1.toNat<0):=⟨hli,fun j hj=>by
         by_cases q3:j=i
         ·rw[q3,hle,hye];exact qn
         ·exact hai j (by omega)⟩
        cases t4:decide (x<0)with
        | true =>
          have t5:decide (y<0)=false:=decide_eq_false fun h=>qn ⟨of_decide_eq_true t4,h⟩;simp(maxSteps:=5000000) only [ypm,ylx,yso,yba,ybc,ybi,hgn,hL,hd,hli',hRe,hSe,<-hxk,<-hxl,t3,t4,t5,clash,go_sem,zD,zA,zB,zG,↓reduceIte,reduceCtorEq]
          repeat (first|refine⟨(by omega:(_:Prop)),?_⟩|refine⟨(⟨by omega,by omega⟩:_/\_),?_⟩)
          refine⟨ikw (by omega) (by omega),ybj (i+1) again (by omega) ?_⟩
          refine ybd [] [] [] ?_;simp only[allQ,live,yw,yfn,go_sem,zA,↓reduceIte,reduceCtorEq];omega
        | false =>
          simp(maxSteps:=5000000) only [ypm,ylx,yso,yba,ybc,ybi,hgn,hL,hd,hRe,<-hxk,t3,t4,clash,go_sem,zD,zA,zB,↓reduceIte,reduceCtorEq]
          repeat (first|refine⟨(by omega:(_:Prop)),?_⟩|refine⟨(⟨by omega,by omega⟩:_/\_),?_⟩)
          refine⟨ikw (by omega) (by omega),ybj (i+1) again (by omega) ?_⟩
          refine ybd [] [] [] ?_;simp only[allQ,live,yw,yfn,go_sem,zA,↓reduceIte,reduceCtorEq];omega
      ·obtain rfl:i=d:=by omega
       have t3:decide ((i:Int)<(i:Int))=false:=decide_eq_false (by omega)
       simp(maxSteps:=5000000) only [ypm,ybqg,yba,ybc,hgn,hL,hd,t3,clash,go_sem,zA,zB,↓reduceIte,reduceCtorEq]
       repeat (first|refine⟨(by omega:(_:Prop)),?_⟩|refine⟨(⟨by omega,by omega⟩:_/\_),?_⟩)
       refine⟨ikw (by omega) (by omega),ybj (k+1) ⟨by omega,fun j hj=>?_,fun j hj=>?_⟩ (by omega) ?_⟩
       ·by_cases q3:j=k
        ·rw[q3,hxe];exact goodk
        ·exact ha1 j (by omega)
       ·by_cases q3:j=k
        ·rw[q3,hxe,hL,hd];exact fun i' hi'=>hai i' hi'
        ·exact ha2 j (by omega)
       refine ybd [] [] [] ?_;simp only[ybi,allQ,live,yw,yfn,go_sem,zA,↓reduceIte,reduceCtorEq];omega
     ·have t2:decide (x>=0)=false:=decide_eq_false (by omega)
      simp only[ybed,ybjk,ybpn,ybu,ybi,hn,hRe,<-hxk,t1,t2,clash,go_sem,zD,zA,zB,↓reduceIte,reduceCtorEq]
      repeat (first|refine⟨(by omega:(_:Prop)),?_⟩|refine⟨(⟨by omega,by omega⟩:_/\_),?_⟩)
      refine yfm (σ:=Nat) (fun i=>⟨[(6,.i .i64 i),(5,.i .i64 k),(1,.sl 1 n fun v=>[ybi (c.getD v [])]),(2,.pt (2,0) 0 0)],[(2,.one (some ⟨25,true,2,1,fun _=>[ybi g.ids,yba g.ports]⟩))]⟩)
       (fun i=>i<=d/\∀j,j<i->¬(x<0/\P (ybg g k j).1.toNat<0)) (fun i=>d-i) 0 ⟨zI _,fun j hj=>absurd hj (zJ j)⟩ ?_ ?_
      ·refine ybd [] [] [] ?_;simp only[ybi,allQ,live,yw,zH,go_sem,zA,↓reduceIte,reduceCtorEq]
      rintro i ⟨hi,hai⟩
      by_cases hli:i<d
      ·have t3:decide ((i:Int)<(d:Int))=true:=decide_eq_true (by omega)
       obtain⟨b1,b2⟩:=htk i hli;have hli':=hlk i;obtain⟨l,hle⟩:∃l,ybg g k i=l:=⟨_,rfl⟩;rw[hle]at b1 b2 hli';obtain⟨s1,s2,s3⟩:=hrow l.1.toNat b2;have hxl:=hx l.1.toNat;obtain⟨y,hye⟩:∃y,P l.1.toNat=y:=⟨_,rfl⟩;rw[hye]at hxl s2 s3;obtain⟨S,hSe⟩:∃S,c.getD l.1.toNat []=S:=⟨_,rfl⟩;rw[hSe]at hxl s1
       by_cases qn:x<0/\y<0
       ·have t4:decide (x<0)=true:=decide_eq_true qn.1;have t5:decide (y<0)=true:=decide_eq_true qn.2
        have e:ybo g c=false:=by
         cases hb:ybo g c with
         |false=>rfl
         |true=>exact absurd ⟨by rw[hxe];exact qn.1,by rw[hle,hye];exact qn.2⟩ ((hiff.1 hb).2 k hlt i (by rw[hL,hd];exact hli))
        rw[e];simp(maxSteps:=5000000) only [ypm,ylx,ybcs,yba,ybc,ybi,hgn,hL,hd,hli',hRe,hSe,<-hxk,<-hxl,t3,t4,t5,clash,go_sem,zD,zA,zB,zG,↓reduceIte,reduceCtorEq]
        repeat (first|refine⟨(by omega:(_:Prop)),?_⟩|refine⟨(⟨by omega,by omega⟩:_/\_),?_⟩)
        exact Sim.refl _
       ·have again:i+1<=d/\∀j,j<i+1->¬(x<0/\P (ybg g k j).1.toNat<0):=⟨hli,fun j hj=>by
         by_cases q3:j=i
         ·rw[q3,hle,hye];exact qn
         ·exact hai j (by omega)⟩
        cases t4:decide (x<0)with
        | true =>
          have t5:decide (y<0)=false:=decide_eq_false fun h=>qn ⟨of_decide_eq_true t4,h⟩;simp(maxSteps:=5000000) only [ypm,ylx,yso,yba,ybc,ybi,hgn,hL,hd,hli',hRe,hSe,<-hxk,<-hxl,t3,t4,t5,clash,go_sem,zD,zA,zB,zG,↓reduceIte,reduceCtorEq]
          repeat (first|refine⟨(by omega:(_:Prop)),?_⟩|refine⟨(⟨by omega,by omega⟩:_/\_),?_⟩)
          refine⟨ikw (by omega) (by omega),ybj (i+1) again (by omega) ?_⟩
          refine ybd [] [] [] ?_;simp only[allQ,live,yw,yfn,go_sem,zA,↓reduceIte,reduceCtorEq];omega
        | false =>
          simp(maxSteps:=5000000) only [ypm,ylx,yso,yba,ybc,ybi,hgn,hL,hd,hRe,<-hxk,t3,t4,clash,go_sem,zD,zA,zB,↓reduceIte,reduceCtorEq]
          repeat (first|refine⟨(by omega:(_:Prop)),?_⟩|refine⟨(⟨by omega,by omega⟩:_/\_),?_⟩)
          refine⟨ikw (by omega) (by omega),ybj (i+1) again (by omega) ?_⟩
          refine ybd [] [] [] ?_;simp only[allQ,live,yw,yfn,go_sem,zA,↓reduceIte,reduceCtorEq];omega
      ·obtain rfl:i=d:=by omega
       have t3:decide ((i:Int)<(i:Int))=false:=decide_eq_false (by omega)
       simp(maxSteps:=5000000) only [ypm,ybqg,yba,ybc,hgn,hL,hd,t3,clash,go_sem,zA,zB,↓reduceIte,reduceCtorEq]
       repeat (first|refine⟨(by omega:(_:Prop)),?_⟩|refine⟨(⟨by omega,by omega⟩:_/\_),?_⟩)
       refine⟨ikw (by omega) (by omega),ybj (k+1) ⟨by omega,fun j hj=>?_,fun j hj=>?_⟩ (by omega) ?_⟩
       ·by_cases q3:j=k
        ·rw[q3,hxe];exact goodk
        ·exact ha1 j (by omega)
       ·by_cases q3:j=k
        ·rw[q3,hxe,hL,hd];exact fun i' hi'=>hai i' hi'
        ·exact ha2 j (by omega)
       refine ybd [] [] [] ?_;simp only[ybi,allQ,live,yw,yfn,go_sem,zA,↓reduceIte,reduceCtorEq];omega
   ·obtain rfl:k=n:=by omega
    have t1:decide ((k:Int)<(k:Int))=false:=decide_eq_false (by omega)
    have e:ybo g c=true:=hiff.2 ⟨ha1,ha2⟩;rw[e];simp only[ybed,ybmp,ybu,hn,t1,clash,go_sem,zA,zB,↓reduceIte,reduceCtorEq];exact Sim.refl _
set_option maxHeartbeats 4000000 in
theorem ysa{g:Gr}(hI:GrI g){c:Conf}(hR:yml c):Returns zC 35 [grV g,ybu c] (ybc (yjk g c)):=by
 refine Returns.of (ybtw _ _ ?_);have hF:=yhh hI;have hVs:Returns zC 69 [] (yfa ytj):=ysz;have hC:=ymz hI hR;unfold yjk;cases hv:ybq g with
 | false =>
   have e0:yci g c=false:=by unfold yci;rw[hv];rfl
   rw[hv]at hF;rw[e0];simp only[grV]at hF;simp only[c35,ybhq,ybhx,ybqt,grV,clash,go_sem,zA,zB,zF,↓reduceIte];refine hF.use ?_;simp only[ybx,clash,ybc,go_sem,zA,zB,↓reduceIte,reduceCtorEq]
   try refine⟨by decide,?_⟩
   exact yvl
 |true =>
 rw[hv]at hF;cases hcf:yci g c with
 | false =>
   rw[hcf]at hC;simp only[grV]at hF hC;simp only[c35,ybhq,ybhx,ybqt,grV,clash,go_sem,zA,zB,zF,↓reduceIte];refine hF.use ?_;simp only[ybx,clash,go_sem,zA,zB,↓reduceIte,reduceCtorEq]
   try refine⟨by decide,?_⟩
   refine hVs.use ?_;simp only[go_sem,↓reduceIte]
   try refine⟨by decide,?_⟩
   first|refine hC.use ?_|refine⟨by decide,hC.use ?_⟩
   simp only[ybc,go_sem,↓reduceIte]
   try refine⟨by decide,?_⟩
   exact yvl
 | true =>
   obtain⟨hg,hcl,hc1⟩:=yez hcf;have hM:=yox hcf;have h24:=hg.2.1;have hpl:=hg.2.2.1;have hA:=fun v hv=>ybgb hg hM (v:=v) hv;have hrow:=hM.row;have hpb:=fun v hv=>ybhy hg hM (v:=v) hv;have hw:=fun v hv h0=>ybuj hM (v:=v) hv h0
   have hto:∀v,v<g.ids.length->pAt c v>=0->(pAt c v).toNat<(g.ports.getD v []).length/\0<=(ybg g v (pAt c v).toNat).1/\(ybg g v (pAt c v).toNat).1<g.ids.length:=fun v hv h0=>by
    obtain⟨p1,p2,_⟩:=yos hg hM hv h0;obtain⟨a1,a2,_⟩:=ych hg (by omega) p2
    exact⟨p1,a1,by omega⟩
   have hans:∀v,ansB g c v=true->pAt c v>=0:=fun v e=>by
    unfold ansB at e;rw[Bool.and_eq_true,decide_eq_true_iff]at e;exact e.1
   have hx:∀v,pAt c v=(c.getD v []).getD 0 0:=fun _=>rfl;have hsu:=fun k=>ykr g c k;have hpl2:=fun k=>yia g c k;obtain⟨P,hP⟩:∃P:Nat->List (Int×Int),(fun k=>ycs g c k)=P:=⟨_,rfl⟩;have hP':∀k,ycs g c k=P k:=fun k=>by rw[<-hP]
   have hP0:P 0=[]:=by rw[<-hP'];rfl
   simp only[hP']at hsu hpl2;obtain⟨n,hn⟩:∃n,c.length=n:=⟨_,rfl⟩;have hgn:g.ports.length=n:=by omega
   have hin:g.ids.length=n:=by omega
   obtain⟨V,hV⟩:∃V:Nat->Int,(fun v=>pAt c v)=V:=⟨_,rfl⟩;have hV':∀v,pAt c v=V v:=fun v=>by rw[<-hV]
   obtain⟨A,hAe⟩:∃A:Nat->Bool,(fun v=>ansB g c v)=A:=⟨_,rfl⟩;have hA':∀v,ansB g c v=A v:=fun v=>by rw[<-hAe]
   simp only[hV']at hx hrow hw hto hans hpb;simp only[hA']at hA hans hpb;rw[hin]at hrow hto hA hw hpb;rw[hcf]at hC;have hl:∀v i,(g.ports.getD v []).getD i (0,0)=ybg g v i:=fun _ _=>rfl;rw[if_pos rfl,hP',hn];simp only[grV]at hF hC hA;simp only[c35,ybhq,ybhx,ybun,ybsv,grV,clash,go_sem,zA,zB,zF,↓reduceIte];refine hF.use ?_;simp only[ybx,clash,go_sem,zA,zB,↓reduceIte,reduceCtorEq]
   try refine⟨by decide,?_⟩
   refine hVs.use ?_;simp only[go_sem,↓reduceIte]
   try refine⟨by decide,?_⟩
   first|refine hC.use ?_|refine⟨by decide,hC.use ?_⟩
   simp only[go_sem,↓reduceIte]
   try refine⟨by decide,?_⟩
   refine yfm (σ:=Nat) (fun k=>⟨[(6,.i .i64 k),(5,.os (100,0) 0 (P k).length true),(1,.sl 1 n fun v=>[ybi (c.getD v [])]),(2,.pt (2,0) 0 0)],
    [(100,.one (some ⟨75,false,2,(P k).length,fun j=>[.i .i64 ((P k).getD j (0,0)).1,.i .i64 ((P k).getD j (0,0)).2]⟩)),(2,.one (some ⟨25,true,2,1,fun _=>[ybi g.ids,yba g.ports]⟩))]⟩)
      (fun k=>k<=n) (fun k=>n-k) 0 (zI _) ?_ ?_
   ·refine ybd [] [100] [] ?_;simp only[hP0,ybu,hn,List.length_nil,allQ,live,yw,zH,go_sem,zA,Nat.reduceBEq,↓reduceIte,reduceCtorEq];exact⟨(100,0),rfl,rfl,rfl⟩
   intro k hk
   by_cases hlt:k<n
   ·have t1:decide ((k:Int)<(n:Int))=true:=decide_eq_true (by omega)
    obtain⟨r1,r2,r3⟩:=hrow k hlt;have hxk:=hx k;have hAk:=hA k hlt;have hlk:=hl k;have hs:=hsu k;have hpk:=hpb k hlt;have hll:=hpl2 k;have hwk:=hw k hlt;have hak:=hans k;have htk:=hto k hlt;rw[hpk]at hs;obtain⟨x,hxe⟩:∃x,V k=x:=⟨_,rfl⟩;rw[hxe]at hxk r2 r3 hs hwk hak htk;obtain⟨Q,hQ⟩:∃Q,P k=Q:=⟨_,rfl⟩;rw[hQ]at hs hll;obtain⟨R,hRe⟩:∃R,c.getD k []=R:=⟨_,rfl⟩;rw[hRe]at hxk r1;have hAk0:=hAk;simp only[ybu,ybi,yba,ybc,hn,hgn]at hAk
    cases qa:A k with
    | true =>
      have h0:=hak qa;obtain⟨p1,b1,b2⟩:=htk h0;have hli':=hlk x.toNat;have hwv:=hwk h0;obtain⟨l,hle⟩:∃l,ybg g k x.toNat=l:=⟨_,rfl⟩;rw[hle]at b1 b2 hli' hwv hs;obtain⟨d,hd⟩:∃d,(g.ports.getD k []).length=d:=⟨_,rfl⟩;rw[hd]at p1;obtain⟨L,hL⟩:∃L,g.ports.getD k []=L:=⟨_,rfl⟩;rw[hL]at hd hli';rw[qa]at hAk
      by_cases q:l.1>(k:Int)
      ·have t2:decide (l.1>(k:Int))=true:=decide_eq_true q;rw[qa,t2,Bool.and_self,if_pos rfl,hwv]at hs;simp(maxSteps:=5000000) only [ybgp,ybjj,ybxa,ybhj,hQ,yba,ybc,ybi,hgn,t1,clash,go_sem,zA,zB,↓reduceIte,reduceCtorEq]
       first|refine hAk.use ?_|refine⟨by decide,hAk.use ?_⟩
       simp(maxSteps:=5000000) only [ybx,hL,hd,hli',hRe,<-hxk,t2,splice,clash,go_sem,zD,zA,zB,zG,zF,↓reduceIte,reduceCtorEq]
       try refine⟨by decide,?_⟩
       repeat (first|refine⟨ikw (by omega) (by omega),?_⟩|refine⟨⟨by omega,by omega⟩,?_⟩|refine⟨(by omega:(_:Prop)),?_⟩)
       refine⟨by decide,ikw (by omega) (by omega),?_⟩
       refine ybj (k+1) (by omega) (by omega) ?_
       refine ybd [(100,fun i=>(63,i))] [] [] ?_;simp only[hs,List.length_append,allQ,live,yw,yfn,go_sem,zA,↓reduceIte,reduceCtorEq];refine⟨by omega,fun i hi=>?_⟩
       rw[ybvy]
       by_cases q2:i<Q.length
       ·simp only[if_pos q2];simp only[go_sem,live,yw,go_sem,reduceCtorEq]
       ·obtain rfl:i=Q.length:=by omega
        simp only[if_neg q2,Nat.sub_self,Nat.zero_mul];simp only[go_sem,live,yw,go_sem,↓reduceIte,reduceCtorEq]
      ·have t2:decide (l.1>(k:Int))=false:=decide_eq_false q;rw[qa,t2,Bool.and_false,if_neg (by decide)]at hs
       simp(maxSteps:=5000000) only [ybgp,ybjj,ybhj,hQ,yba,ybc,ybi,hgn,t1,clash,go_sem,zA,zB,↓reduceIte,reduceCtorEq]
       first|refine hAk.use ?_|refine⟨by decide,hAk.use ?_⟩
       simp(maxSteps:=5000000) only [ybx,hL,hd,hli',hRe,<-hxk,t2,clash,go_sem,zD,zA,zB,zG,↓reduceIte,reduceCtorEq]
       try refine⟨by decide,?_⟩
       repeat (first|refine⟨ikw (by omega) (by omega),?_⟩|refine⟨⟨by omega,by omega⟩,?_⟩|refine⟨(by omega:(_:Prop)),?_⟩)
       refine ybj (k+1) (by omega) (by omega) ?_
       refine ybd [] [] [] ?_;simp only[hs,allQ,live,yw,yfn,go_sem,zA,↓reduceIte,reduceCtorEq];omega
    | false =>
      rw[qa,Bool.false_and,if_neg (by decide)]at hs
      rw[qa]at hAk0;simp only[ybu,ybi,hn]at hAk0;have hAk:=hAk0;simp(maxSteps:=5000000) only [ybgp,ybjj,ybhj,hQ,ybi,t1,clash,go_sem,zA,zB,↓reduceIte,reduceCtorEq]
      first|refine hAk.use ?_|refine⟨by decide,hAk.use ?_⟩
      simp(maxSteps:=5000000) only [ybx,clash,go_sem,zA,zB,↓reduceIte,reduceCtorEq]
      try refine⟨by decide,?_⟩
      repeat (first|refine⟨ikw (by omega) (by omega),?_⟩|refine⟨⟨by omega,by omega⟩,?_⟩|refine⟨(by omega:(_:Prop)),?_⟩)
      refine ybj (k+1) (by omega) (by omega) ?_
      refine ybd [] [] [] ?_;simp only[hs,allQ,live,yw,yfn,go_sem,zA,↓reduceIte,reduceCtorEq];omega
   ·obtain rfl:k=n:=by omega
    have t1:decide ((k:Int)<(k:Int))=false:=decide_eq_false (by omega)
    simp only[ybgp,ybtd,t1,clash,ybc,go_sem,zA,zB,↓reduceIte,reduceCtorEq];refine yqm fun q hq=>?_;exact⟨⟨Sim.refl _,Sim.refl _,trivial⟩,rfl⟩
theorem yqp(A:List (Int×Int))(hA:A.length<=1000):Returns zC 33 [ybc A,ybc A] (.b true):=by
 refine Returns.of (ybrp _ _ ?_);obtain⟨n,hn⟩:∃n,A.length=n:=⟨_,rfl⟩;have f1:((n:Int)!=(n:Int))=false:=by simp
 simp only[c33,ybrr,ybts,ybup,ybc,hn,f1,clash,go_sem,zA,zB,↓reduceIte,reduceCtorEq];refine yfm (σ:=Nat) (fun k=>⟨[(5,.i .i64 k),(0,.sl 2 n fun j=>[.i .i64 (A.getD j (0,0)).1,.i .i64 (A.getD j (0,0)).2]),(1,.sl 2 n fun j=>[.i .i64 (A.getD j (0,0)).1,.i .i64 (A.getD j (0,0)).2])],[]⟩) (fun k=>k<=n) (fun k=>n-k) 0 (zI _) ?_ ?_
 ·refine ybd [] [] [] ?_;simp only[go_sem,allQ,live,yw,zH,go_sem,zA,↓reduceIte,reduceCtorEq]
 intro k hk
 by_cases hlt:k<n
 ·have t1:decide ((k:Int)<(n:Int))=true:=decide_eq_true (by omega)
  obtain⟨X,hX⟩:∃X,A.getD k (0,0)=X:=⟨_,rfl⟩;simp only[ybot,ybwk,ybvt,hX,t1,clash,go_sem,zA,zB,↓reduceIte,reduceCtorEq]
  repeat (first|refine⟨(⟨by omega,by omega⟩:_/\_),?_⟩|refine⟨(by omega:(_:Prop)),?_⟩)
  refine⟨ikw (by omega) (by omega),ybj (k+1) (by omega) (by omega) ?_⟩
  refine ybd [] [] [] ?_;simp only[go_sem,allQ,live,yw,yfn,go_sem,zA,↓reduceIte,reduceCtorEq];omega
 ·obtain rfl:k=n:=by omega
  have t1:decide ((k:Int)<(k:Int))=false:=decide_eq_false (by omega)
  simp only[ybot,ybtp,t1,clash,go_sem,zA,zB,↓reduceIte,reduceCtorEq];exact Sim.refl _
theorem yvi(g:Gr)(c:Conf):Returns zC 25 [grV g,ybu c] (.b (decide (g.ports.length>60)||decide (g.ids.length>60)||decide (c.length>60))):=by
 refine Returns.of (ybuc _ _ ?_)
 by_cases h1:g.ports.length>60
 ·have t1:decide ((g.ports.length:Int)>60)=true:=decide_eq_true (by omega)
  have t2:decide (g.ports.length>60)=true:=decide_eq_true h1;rw[t2];simp only[c25,ybiy,ybkh,grV,ybi,yba,ybu,t1,clash,go_sem,zA,zB,zF,↓reduceIte,reduceCtorEq];exact Sim.refl _
 ·have t1:decide ((g.ports.length:Int)>60)=false:=decide_eq_false (by omega)
  have t2:decide (g.ports.length>60)=false:=decide_eq_false h1;rw[t2]
  by_cases h2:g.ids.length>60
  ·have t3:decide ((g.ids.length:Int)>60)=true:=decide_eq_true (by omega)
   have t4:decide (g.ids.length>60)=true:=decide_eq_true h2;rw[t4];simp only[c25,ybiy,ybkh,grV,ybi,yba,ybu,t1,t3,clash,go_sem,zA,zB,zG,zF,↓reduceIte,reduceCtorEq];exact Sim.refl _
  ·have t3:decide ((g.ids.length:Int)>60)=false:=decide_eq_false (by omega)
   have t4:decide (g.ids.length>60)=false:=decide_eq_false h2;rw[t4];simp only[c25,ybiy,ybkh,grV,ybi,yba,ybu,t1,t3,clash,go_sem,zA,zB,zG,zF,↓reduceIte,reduceCtorEq]
   have e:decide ((c.length:Int)>60)=decide (c.length>60):=by
    rw[Bool.eq_iff_iff,decide_eq_true_iff,decide_eq_true_iff];omega
   rw[e];exact Sim.refl _
theorem yij{g:Gr}(hI:GrI g){c:Conf}(hR:yml c):Returns zC 5 [grV g,ybu c] (.b true):=by
 refine Returns.of (ybzb _ _ ?_);have hL:=yvi g c;have hK:=yug;cases hlg:(decide (g.ports.length>60)||decide (g.ids.length>60)||decide (c.length>60))with
 | true =>
   rw[hlg]at hL;simp only[grV]at hL;simp only[c5,c5_0,c5_1,c5_2,grV,clash,go_sem,zA,zB,zF,↓reduceIte,reduceCtorEq];refine hL.use ?_;simp only[ybx,clash,go_sem,zB,↓reduceIte,reduceCtorEq]
   try refine⟨by decide,?_⟩
   refine hK.use ?_;simp only[go_sem]
   try refine⟨by decide,?_⟩
   exact Sim.refl _
 | false =>
   rw[hlg]at hL
   have hcl:c.length<=1000:=by
    simp at hlg;omega
   have f1:=yqg hI;have f2:=yhh hI;have f3:=yyv hI hR;have f4:=ysc hI hR;have f5:=yzw hI;have f6:=ytk hI;have f7:=ybal hI hR;have f8:=ysa hI hR
   have f9:=yqp (yjk g c) (by
    unfold yjk;split
    ·exact Nat.le_trans (yia g c c.length) hcl
    ·exact zI _)
   generalize ybo g c=B at f3 f4
   generalize ybq g=C at f1 f2
   obtain⟨CL,hCL⟩:∃CL,ygg g = .ag CL:=by unfold ygg;split<;>exact⟨_,rfl⟩
   have hsq:eqL [false,true,true,false,false] CL CL=some true:=by
    unfold ygg at hCL;split at hCL
    ·cases hCL;simp[clmV,eqL]
    ·cases hCL;simp[clmV,eqL]
   have hsc:CL.all (scalar 4)=true:=by
    unfold ygg at hCL;split at hCL
    ·cases hCL;rfl
    ·cases hCL;rfl
   have hone:CL.all one1=true:=by
    unfold ygg at hCL;split at hCL
    ·cases hCL;rfl
    ·cases hCL;rfl
   rw[hCL]at f5 f6;simp only[grV]at hL f1 f2 f3 f4 f5 f6 f7 f8;simp only[c5,c5_0,c5_1,c5_3,grV,clash,go_sem,zA,zB,zF,↓reduceIte,reduceCtorEq];refine hL.use ?_;simp only[ybx,clash,go_sem,zB,↓reduceIte,reduceCtorEq]
   try refine⟨by decide,?_⟩
   refine hK.use ?_;simp only[ybx,clash,go_sem,zA,zB,↓reduceIte,reduceCtorEq]
   try refine⟨by decide,?_⟩
   first|refine f1.use ?_|refine⟨by decide,f1.use ?_⟩
   simp only[go_sem]
   try refine⟨by decide,?_⟩
   first|refine f2.use ?_|refine⟨by decide,f2.use ?_⟩
   simp only[ybx,clash,go_sem,zA,zB,↓reduceIte,reduceCtorEq]
   try refine⟨by decide,?_⟩
   first|refine f3.use ?_|refine⟨by decide,f3.use ?_⟩
   simp only[go_sem]
   try refine⟨by decide,?_⟩
   first|refine f4.use ?_|refine⟨by decide,f4.use ?_⟩
   simp only[ybx,clash,go_sem,zA,zB,↓reduceIte,reduceCtorEq]
   try refine⟨by decide,?_⟩
   first|refine f5.use ?_|refine⟨by decide,f5.use ?_⟩
   simp only[hsc,go_sem]
   try refine⟨by decide,?_⟩
   first|refine f6.use ?_|refine⟨by decide,f6.use ?_⟩
   simp only[ybx,clash,hsq,hsc,go_sem,zA,zB,↓reduceIte,reduceCtorEq]
   try refine⟨by decide,?_⟩
   first|refine f7.use ?_|refine⟨by decide,f7.use ?_⟩
   simp only[go_sem]
   try refine⟨by decide,?_⟩
   first|refine f8.use ?_|refine⟨by decide,f8.use ?_⟩
   simp only[go_sem,↓reduceIte]
   try refine⟨by decide,?_⟩
   first|refine f9.use ?_|refine⟨by decide,f9.use ?_⟩
   simp only[go_sem]
   try refine⟨by decide,?_⟩
   exact Sim.refl _
end Sh
end
end Go.Proofs.YtiejahgklcjhkaaGreat
