/- Joined. -/
import Derived.Test.YtiejahgklcjhkaaGreatPkX14
import Derived.Test.YtiejahgklcjhkaaGreatPkX10
set_option linter.unusedSimpArgs false
set_option linter.unusedVariables false
set_option maxRecDepth 1000000
open Nat renaming reduceEqDiff→zA,reduceLeDiff→zB,reduceAdd→zD,reduceBEq→zF,reduceBNe→zG,reduceMul→zH,reduceLT→zI,not_lt_zero→zT,zero_le→zU,pow_le_pow_right→zV,le_refl→zX
open Int renaming reduceToNat→zC,natCast_zero→zM,toNat_natCast→zQ
open Go.Proofs.Tryz renaming prog→zJ,func7→zAC
open Option renaming getD_none→zK,getD_some→zL,getD→zN
open Bool renaming and_eq_true→zO,not_eq_true'→zW,eq_iff_iff→zAB
open List renaming foldl_append→zS,all_eq_true→zY,range→zZ,range_succ→zAA
open Go
namespace Go.Proofs.YtiejahgklcjhkaaGreat
section
def exB(g:Gr)(c:Conf):Bool:=(zZ c.length).all fun v=>decide ((c.getD v []).getD 0 0=htP g v)
theorem ykg{g:Gr}(ht:ybs g=true):Tr g:=by
 have hg:=ygz ht;exact ybti hg ht (by have:=ybfy hg;omega)
def hi0(c:Conf)(v:Nat):Int:=(c.getD v []).getD 0 0
def pkTo(g:Gr)(c:Conf)(k:Nat):Nat:=(zZ k).foldl (pkV (hi0 c) g) (2^g.ports.length-1)
def pkIn(g:Gr)(c:Conf)(v i:Nat):Nat:=((g.ports.getD v []).take i).foldl (pkL (hi0 c) v) (pkTo g c v)
theorem yve(g:Gr)(c:Conf)(k:Nat):pkTo g c (k+1)=pkIn g c k (g.ports.getD k []).length:=by
 unfold pkTo pkIn;rw[zAA,zS,List.take_length];rfl
theorem yuy{g:Gr}{c:Conf}{v i:Nat}(hi:i<(g.ports.getD v []).length):pkIn g c v (i+1)=if hi0 c v<hi0 c (yei g v i).1.toNat then difB (pkIn g c v i) (2^v)else pkIn g c v i:=by
 unfold pkIn yei;rw[List.take_succ_eq_append_getElem hi,zS,Sh.getD_at hi];rfl
theorem ychm{g:Gr}{c:Conf}{m:Nat}(hm:g.ports.length<=m):∀k,pkTo g c k<2^m/\∀i,i<=(g.ports.getD k []).length->pkIn g c k i<2^m:=by
 have inn:∀k,pkTo g c k<2^m->∀i,i<=(g.ports.getD k []).length->pkIn g c k i<2^m:=fun k hk i=>by
  induction i with
  |zero=>intro _;exact hk
  | succ i ih =>
    intro hi;rw[yuy (by omega)]
    split
    ·exact ybas (ih (by omega))
    ·exact ih (by omega)
 have out:∀k,pkTo g c k<2^m:=fun k=>by
  induction k with
  | zero =>
    have h1:=Nat.two_pow_pos g.ports.length;have h2:=zV (show 0<2 by omega) hm
    show 2^g.ports.length-1<2^m;omega
  |succ k ih=>rw[yve];exact inn k ih _ (zX _)
 exact fun k=>⟨out k,inn k (out k)⟩
namespace Sh
open Ev Go.RowKit
theorem ybdq{g:Gr}(h:Tr g){c:Conf}(hl:c.length=g.ports.length)(h1:∀v,v<c.length->0<(c.getD v []).length):Returns zJ 50 [grV g,ycn c,.i .i64 (0:Nat)] (.b (exB g c)):=by
 refine Returns.of (ybyd _ _ ?_);have h24:=h.good.2.1;have hH:=fun(v:Nat) (hv:v<g.ports.length)=>yxs h hv;obtain⟨n,hn⟩:∃n,c.length=n:=⟨_,rfl⟩
 have he:exB g c=true↔∀v,v<n->(c.getD v []).getD 0 0=htP g v:=by
  unfold exB;rw[zY,hn];exact⟨fun q v hv=>of_decide_eq_true (q v (List.mem_range.2 hv)),fun q v hv=>decide_eq_true (q v (List.mem_range.1 hv))⟩
 rw[<-hl]at hH h24;simp only[hn]at hH h1 h24;simp only[grV]at hH;simp only[c50,yccd,ycdy,grV,ycn,hn,clash,go_sem,zC,zA,zD,zB,zI,zF,zG,zH,↓reduceIte,reduceCtorEq];refine ycm (σ:=Nat) (fun k=>⟨[(7,.i .i64 k),(1,.sl 1 n fun v=>[ybg (c.getD v [])]),(2,.i .i64 (0:Nat)),(3,.pt (3,0) 0 0)],[(3,.one (some ⟨25,true,2,1,fun _=>[ybg g.ids,yw g.ports]⟩))]⟩) (fun k=>k<=n/\∀j,j<k->(c.getD j []).getD 0 0=htP g j) (fun k=>n-k) 0 ⟨zU _,fun j hj=>absurd hj (zT j)⟩ ?_ ?_
 ·refine ybc [] [] [] ?_;simp only[go_sem,allQ,live,zN,zK,zL,yj,ydb,yjz,zM,go_sem,zC,zA,zD,zB,zI,zF,zG,zH,↓reduceIte,reduceCtorEq]
 rintro k ⟨hk,hall⟩
 by_cases hlt:k<n
 ·have t1:decide ((k:Int)<(n:Int))=true:=decide_eq_true (by omega)
  have hHk:=hH k hlt;have h1k:=h1 k hlt;obtain⟨R,hR⟩:∃R,c.getD k []=R:=⟨_,rfl⟩;rw[hR]at h1k;obtain⟨x,hx⟩:∃x,R.getD 0 0=x:=⟨_,rfl⟩;obtain⟨y,hy⟩:∃y,htP g k=y:=⟨_,rfl⟩;rw[hy]at hHk
  by_cases q:x=y
  ·have t2:(x != y)=false:=by rw[q];simp
   simp only[ybmf,ybwq,ybzw,ybg,hR,hx,t1,clash,go_sem,zC,zA,zD,zB,zI,zF,zG,zH,↓reduceIte,reduceCtorEq]
   repeat (first|refine⟨(by omega:(_:Prop)),?_⟩|refine⟨(⟨by omega,by omega⟩:_/\_),?_⟩)
   refine hHk.use ?_;simp only[ybk,t2,clash,go_sem,zC,zA,zD,zB,zI,zF,zG,zH,↓reduceIte,reduceCtorEq];refine⟨ikw (by omega) (by omega),ybd (k+1) ⟨by omega,fun j hj=>?_⟩ (by omega) ?_⟩
   ·by_cases q2:j=k
    ·rw[q2,hR,hx,hy];exact q
    ·exact hall j (by omega)
   refine ybc [] [] [] ?_;simp only[go_sem,allQ,live,zN,zK,zL,yj,ydb,yjz,zM,go_sem,zC,zA,zD,zB,zI,zF,zG,zH,↓reduceIte,reduceCtorEq];omega
  ·have t2:(x != y)=true:=by rw[bne_iff_ne];exact q
   have e:exB g c=false:=by
    cases hb:exB g c with
    |false=>rfl
    |true=>have:=he.1 hb k hlt;rw[hR,hx,hy]at this;exact absurd this q
   rw[e];simp only[ybmf,ybwq,ybzg,ybg,hR,hx,t1,clash,go_sem,zC,zA,zD,zB,zI,zF,zG,zH,↓reduceIte,reduceCtorEq]
   repeat (first|refine⟨(by omega:(_:Prop)),?_⟩|refine⟨(⟨by omega,by omega⟩:_/\_),?_⟩)
   refine hHk.use ?_;simp only[ybk,t2,clash,go_sem,zC,zA,zD,zB,zI,zF,zG,zH,↓reduceIte,reduceCtorEq];exact Sim.refl _
 ·obtain rfl:k=n:=by omega
  have t1:decide ((k:Int)<(k:Int))=false:=decide_eq_false (by omega)
  rw[he.2 hall];simp only[ybmf,ycbt,t1,clash,go_sem,zC,zA,zD,zB,zI,zF,zG,zH,↓reduceIte,reduceCtorEq];exact Sim.refl _
set_option maxHeartbeats 2000000 in
theorem ywq{g:Gr}(hg:ybj g){c:Conf}(hl:c.length=g.ports.length)(h1:∀v,v<c.length->0<(c.getD v []).length):Returns zJ 52 [grV g,ycn c,.i .i64 (0:Nat)] (.i .u32 (yed (fun v=>(c.getD v []).getD 0 0) g:Nat)):=by
 refine Returns.of (ybzp _ _ ?_);have h24:=hg.2.1;have h2n:2^g.ports.length<=2^24:=zV (by omega) (by omega)
 have hA:=yblc (n:=g.ports.length) h24;have hlt:=fun k=>ychm (g:=g) (c:=c) (m:=32) (by omega) k
 have hso:=yve g c;have hsi:=fun v i hi=>yuy (g:=g) (c:=c) (v:=v) (i:=i) hi;have e0:pkTo g c 0=2^g.ports.length-1:=rfl;have ei:∀v,pkIn g c v 0=pkTo g c v:=fun _=>rfl;have ee:pkTo g c g.ports.length=yed (fun v=>(c.getD v []).getD 0 0) g:=rfl;have hdeg:=fun v=>hg.deg_lt (v:=v)
 have hto:∀v,v<g.ports.length->∀i,i<(g.ports.getD v []).length->0<=(yei g v i).1/\(yei g v i).1.toNat<g.ports.length:=fun v hv i hi=>by
  have hm:yei g v i∈g.ports.getD v []:=by unfold yei;rw[getD_at hi];exact List.getElem_mem hi
  obtain⟨a1,a2,_⟩:=ycp hg hv hm;exact⟨a1,a2⟩
 have hx:∀v,hi0 c v=(c.getD v []).getD 0 0:=fun _=>rfl;have hll:∀v i,(g.ports.getD v []).getD i (0,0)=yei g v i:=fun _ _=>rfl;obtain⟨n,hn⟩:∃n,c.length=n:=⟨_,rfl⟩;rw[<-hl]at hto;have hgn:g.ports.length=n:=by omega
 rw[<-ee];simp only[hn]at h1 hto;rw[hgn]at hA h24 e0 ⊢;rw[<-e0]at hA;obtain⟨S,hS⟩:∃S:Nat->Nat,(fun k=>pkTo g c k)=S:=⟨_,rfl⟩;have hS':∀k,pkTo g c k=S k:=fun k=>by rw[<-hS]
 obtain⟨T,hT⟩:∃T:Nat->Nat->Nat,(fun k i=>pkIn g c k i)=T:=⟨_,rfl⟩;have hT':∀k i,pkIn g c k i=T k i:=fun k i=>by rw[<-hT]
 obtain⟨H,hH⟩:∃H:Nat->Int,(fun v=>hi0 c v)=H:=⟨_,rfl⟩;have hH':∀v,hi0 c v=H v:=fun v=>by rw[<-hH]
 simp only[hS',hT',hH']at hlt hso hsi ei hx hA ⊢;simp only[c52,yccn,ycar,ycfg,grV,ycn,hn,clash,go_sem,zC,zA,zD,zB,zI,zF,zG,zH,↓reduceIte,reduceCtorEq];refine hA.use ?_;simp only[ybk,clash,go_sem,zC,zA,zD,zB,zI,zF,zG,zH,↓reduceIte,reduceCtorEq];refine ycm (σ:=Nat) (fun k=>⟨[(8,.i .i64 k),(7,.i .u32 (S k)),(1,.sl 1 n fun v=>[ybg (c.getD v [])]),(2,.i .i64 (0:Nat)),(3,.pt (3,0) 0 0)],[(3,.one (some ⟨25,true,2,1,fun _=>[ybg g.ids,yw g.ports]⟩))]⟩) (fun k=>k<=n) (fun k=>n-k) 0 (zU _) ?_ ?_
 ·refine ybc [] [] [] ?_;simp only[go_sem,allQ,live,zN,zK,zL,yj,ydb,yjz,zM,go_sem,zC,zA,zD,zB,zI,zF,zG,zH,↓reduceIte,reduceCtorEq]
 intro k hk
 by_cases hlk:k<n
 ·have t1:decide ((k:Int)<(n:Int))=true:=decide_eq_true (by omega)
  have hdk:=hdeg k;have htk:=hto k hlk;have hsk:=hsi k;have hl2:=(hlt k).2;have hllk:=hll k;have hxk:=hx k;have h1k:=h1 k hlk;have hso:=hso k;obtain⟨d,hd⟩:∃d,(g.ports.getD k []).length=d:=⟨_,rfl⟩;rw[hd]at hdk htk hsk hl2 hso;obtain⟨L,hL⟩:∃L,g.ports.getD k []=L:=⟨_,rfl⟩;rw[hL]at hd hllk;obtain⟨R,hR⟩:∃R,c.getD k []=R:=⟨_,rfl⟩;rw[hR]at hxk h1k;have sh:=ynq (v:=k) (by omega)
  simp only[IntKind.bits,zQ]at sh;simp only[ybwu,ycat,t1,clash,go_sem,zC,zA,zD,zB,zI,zF,zG,zH,↓reduceIte,reduceCtorEq];refine ycm (σ:=Nat) (fun i=>⟨[(9,.i .i64 i),(8,.i .i64 k),(7,.i .u32 (T k i)),(1,.sl 1 n fun v=>[ybg (c.getD v [])]),(2,.i .i64 (0:Nat)),(3,.pt (3,0) 0 0)],[(3,.one (some ⟨25,true,2,1,fun _=>[ybg g.ids,yw g.ports]⟩))]⟩) (fun i=>i<=d) (fun i=>d-i) 0 (zU _) ?_ ?_
  ·refine ybc [] [] [] ?_;simp only[ei,allQ,live,zN,zK,zL,yj,ydb,yjz,zM,go_sem,zC,zA,zD,zB,zI,zF,zG,zH,↓reduceIte,reduceCtorEq]
  intro i hi
  by_cases hli:i<d
  ·have t2:decide ((i:Int)<(d:Int))=true:=decide_eq_true (by omega)
   obtain⟨b1,b2⟩:=htk i hli;have hll':=hllk i;have hsk:=hsk i hli;obtain⟨l,hle⟩:∃l,yei g k i=l:=⟨_,rfl⟩;rw[hle]at b1 b2 hll' hsk;have hxl:=hx l.1.toNat;have h1l:=h1 l.1.toNat b2;obtain⟨Q,hQ⟩:∃Q,c.getD l.1.toNat []=Q:=⟨_,rfl⟩;rw[hQ]at hxl h1l;obtain⟨x,hxe⟩:∃x,H k=x:=⟨_,rfl⟩;obtain⟨y,hye⟩:∃y,H l.1.toNat=y:=⟨_,rfl⟩;rw[hxe]at hxk hsk;rw[hye]at hxl hsk
   by_cases q:x<y
   ·have t3:decide (y>x)=true:=decide_eq_true q;rw[if_pos q]at hsk;have an:=u32_andNot (a:=T k i) (b:=2^k) (hl2 i hi) (Nat.pow_lt_pow_right (by omega) (by omega))
    rw[<-hsk]at an;simp only[IntKind.bits]at an;simp(maxSteps:=5000000) only [ybqi,ybuu,ycdp,ybun,yw,ybh,ybg,hgn,hL,hd,hll',hR,hQ,<-hxk,<-hxl,t2,t3,ysi (show k<2^32 by omega),sh,an,clash,go_sem,zC,zA,zD,zB,zI,zF,zG,zH,↓reduceIte,reduceCtorEq]
    repeat (first|refine⟨(by omega:(_:Prop)),?_⟩|refine⟨(⟨by omega,by omega⟩:_/\_),?_⟩)
    refine⟨ikw (by omega) (by omega),ybd (i+1) (by omega) (by omega) ?_⟩
    refine ybc [] [] [] ?_;simp only[go_sem,allQ,live,zN,zK,zL,yj,ydb,yjz,zM,go_sem,zC,zA,zD,zB,zI,zF,zG,zH,↓reduceIte,reduceCtorEq];omega
   ·have t3:decide (y>x)=false:=decide_eq_false q;rw[if_neg q]at hsk;simp(maxSteps:=5000000) only [ybqi,ybuu,ybun,yw,ybh,ybg,hgn,hL,hd,hll',hR,hQ,<-hxk,<-hxl,t2,t3,clash,go_sem,zC,zA,zD,zB,zI,zF,zG,zH,↓reduceIte,reduceCtorEq]
    repeat (first|refine⟨(by omega:(_:Prop)),?_⟩|refine⟨(⟨by omega,by omega⟩:_/\_),?_⟩)
    refine⟨ikw (by omega) (by omega),ybd (i+1) (by omega) (by omega) ?_⟩
    refine ybc [] [] [] ?_;simp only[hsk,allQ,live,zN,zK,zL,yj,ydb,yjz,zM,go_sem,zC,zA,zD,zB,zI,zF,zG,zH,↓reduceIte,reduceCtorEq];omega
  ·obtain rfl:i=d:=by omega
   have t2:decide ((i:Int)<(i:Int))=false:=decide_eq_false (by omega)
   simp(maxSteps:=5000000) only [ybqi,yceg,yw,ybh,hgn,hL,hd,t2,clash,go_sem,zC,zA,zD,zB,zI,zF,zG,zH,↓reduceIte,reduceCtorEq]
   repeat (first|refine⟨(by omega:(_:Prop)),?_⟩|refine⟨(⟨by omega,by omega⟩:_/\_),?_⟩)
   refine⟨ikw (by omega) (by omega),ybd (k+1) (by omega) (by omega) ?_⟩
   refine ybc [] [] [] ?_;simp only[hso,allQ,live,zN,zK,zL,yj,ydb,yjz,zM,go_sem,zC,zA,zD,zB,zI,zF,zG,zH,↓reduceIte,reduceCtorEq];omega
 ·obtain rfl:k=n:=by omega
  have t1:decide ((k:Int)<(k:Int))=false:=decide_eq_false (by omega)
  simp only[ybwu,ybrq,t1,clash,go_sem,zC,zA,zD,zB,zI,zF,zG,zH,↓reduceIte,reduceCtorEq];exact Sim.refl _
end Sh
end
section
namespace Ev
def Nzb0:BlkL:=⟨4,38,1,[.slice (some ⟨17,0,none⟩) 1 CU,.slice (some ⟨19,0,none⟩) 1 CU]⟩
def Nzb1:BlkL:=⟨1257,190,2,[.int .i64 36,.int .i64 0,.int .i64 5,.int .i64 0,.int .i64 43,.int .i64 0,.int .i64 37,.int .i64 0,.int .i64 9,.int .i64 0,.int .i64 1,.int .i64 2,.int .i64 1,.int .i64 0,.int .i64 43,.int .i64 0,.int .i64 37,.int .i64 0,.int .i64 28,.int .i64 0,.int .i64 12,.int .i64 0,.int .i64 6,.int .i64 0,.int .i64 33,.int .i64 0,.int .i64 28,.int .i64 0,.int .i64 12,.int .i64 0,.int .i64 1,.int .i64 1,.int .i64 6,.int .i64 0]⟩
def Nzb2:BlkL:=⟨1413,190,2,[.int .i64 43,.int .i64 0,.int .i64 37,.int .i64 0,.int .i64 9,.int .i64 0,.int .i64 1,.int .i64 2,.int .i64 1,.int .i64 0,.int .i64 43,.int .i64 0,.int .i64 37,.int .i64 0,.int .i64 28,.int .i64 0,.int .i64 12,.int .i64 0,.int .i64 6,.int .i64 0,.int .i64 33,.int .i64 0,.int .i64 28,.int .i64 0,.int .i64 12,.int .i64 0,.int .i64 1,.int .i64 1,.int .i64 6,.int .i64 0]⟩
def Nzb3:BlkL:=⟨1422,156,2,[.int .i64 0,.slice (some ⟨1413,0,none⟩) 15 CU]⟩
def Nzb4:BlkL:=⟨1495,190,2,[.int .i64 41,.int .i64 0,.int .i64 5,.int .i64 1,.int .i64 19,.int .i64 0,.int .i64 20,.int .i64 0,.int .i64 38,.int .i64 0,.int .i64 12,.int .i64 0,.int .i64 5,.int .i64 0]⟩
def Nzb5:BlkL:=⟨1508,190,2,[.int .i64 3,.int .i64 0]⟩
def Nzb6:BlkL:=⟨1515,156,2,[.int .i64 1,.slice (some ⟨1508,0,none⟩) 1 1]⟩
def Nzb7:BlkL:=⟨1588,190,2,[.int .i64 41,.int .i64 0,.int .i64 19,.int .i64 0,.int .i64 5,.int .i64 1,.int .i64 20,.int .i64 0,.int .i64 37,.int .i64 0,.int .i64 12,.int .i64 0,.int .i64 5,.int .i64 0]⟩
def Nzb8:BlkL:=⟨1601,190,2,[.int .i64 2,.int .i64 0]⟩
def Nzb9:BlkL:=⟨1608,156,2,[.int .i64 1,.slice (some ⟨1601,0,none⟩) 1 1]⟩
def ybte:BlkL:=⟨1766,190,2,[.int .i64 41,.int .i64 0,.int .i64 41,.int .i64 0,.int .i64 37,.int .i64 0,.int .i64 5,.int .i64 0,.int .i64 6,.int .i64 0,.int .i64 20,.int .i64 0,.int .i64 38,.int .i64 0,.int .i64 12,.int .i64 0,.int .i64 5,.int .i64 0,.int .i64 21,.int .i64 0,.int .i64 41,.int .i64 0,.int .i64 35,.int .i64 0,.int .i64 12,.int .i64 0,.int .i64 5,.int .i64 0,.int .i64 35,.int .i64 0,.int .i64 12,.int .i64 1,.int .i64 5,.int .i64 1]⟩
def ybtq:BlkL:=⟨1785,190,2,[.int .i64 19,.int .i64 0,.int .i64 5,.int .i64 1]⟩
def ybtd:BlkL:=⟨1792,156,2,[.int .i64 1,.slice (some ⟨1785,0,none⟩) 2 CU]⟩
def ybwd:BlkL:=⟨2927,22,1,[.slice (some ⟨2925,0,none⟩) 2 2,.slice (some ⟨2926,0,none⟩) 2 2]⟩
end Ev
end
section
namespace Ev
def Nzm1:Fact:=yza.move [1257,1413,1422] 2950
theorem ybtl:ydu zJ Nzm1:=ydz (yba.at_ yhw 0 rfl) (by kernel_rfl)
def Nzm2:Fact:=yzg.move [1766,1785,1792] 3250
theorem ybum:ydu zJ Nzm2:=ydz (yba.at_ yhw 1 rfl) (by kernel_rfl)
def Nzm3:Fact:=yzm.move [1257,1413,1422,3368] 3372
theorem ybtw:ydu zJ Nzm3:=ydz (yba.at_ yns 0 rfl) (by kernel_rfl)
def Nzm4:Fact:=yxw.move [1766,1785,1792,3368] 3867
theorem ybua:ydu zJ Nzm4:=ydz (yba.at_ ype 0 rfl) (by kernel_rfl)
/- selfstab/memory.Check -/
def ybqz:Fact:=⟨59,[.agg #[.string (by8 [101,108,101,99,116,105,111,110]),.slice (some ⟨1083,0,none⟩) 2 CU,.slice (some ⟨1796,0,none⟩) 4 CU],.agg #[.slice (some ⟨9,0,none⟩) 2 CU,.slice (some ⟨4,0,none⟩) 2 2],.slice (some ⟨2927,0,none⟩) 2 2],2930,[Nzb0,⟨9,3,1,[.int .i64 0,.int .i64 1]⟩,⟨17,81,2,[.int .i64 1,.int .i64 1]⟩,⟨19,81,2,[.int .i64 0,.int .i64 1]⟩,⟨1083,93,6,[.string (by8 [104]),.int .i64 1,.int .i64 0,.int .i64 0,.int .i64 1,.int .i64 0,.string (by8 [108]),.int .i64 2,.int .i64 0,.int .i64 0,.int .i64 0,.int .i64 0]⟩,Nzb1,Nzb2,Nzb3,Nzb4,Nzb5,Nzb6,Nzb7,Nzb8,Nzb9,ybte,ybtq,ybtd,⟨1796,146,3,[.string (by8 [102,105,120]),.slice (some ⟨1257,0,none⟩) 17 CU,.slice (some ⟨1422,0,none⟩) 1 CU,.string (by8 [100,114,111,112]),.slice (some ⟨1495,0,none⟩) 7 CU,.slice (some ⟨1515,0,none⟩) 1 CU,.string (by8 [116,97,107,101]),.slice (some ⟨1588,0,none⟩) 7 CU,.slice (some ⟨1608,0,none⟩) 1 CU,.string (by8 [116,105,101]),.slice (some ⟨1766,0,none⟩) 17 CU,.slice (some ⟨1792,0,none⟩) 1 CU]⟩,⟨2925,3,1,[.int .i64 0,.int .i64 0]⟩,⟨2926,3,1,[.int .i64 0,.int .i64 0]⟩,ybwd],.int .i64 0,4106,[],2930⟩
def ycjc:List Fact:=[ybqz]
theorem ybpx:yba ycjc:=yba.seq (yba.cons (f:=Nzm1) ybtl (yba.cons (f:=Nzm2) ybum (yba.cons (f:=Nzm3) ybtw (yba.cons (f:=Nzm4) ybua yba.nil)))) (by kernel_rfl)
def Nzm5:Fact:=yza.move [1257,1413,1422] 4471
theorem ybsl:ydu zJ Nzm5:=ydz (yba.at_ yhw 0 rfl) (by kernel_rfl)
def Nzm6:Fact:=yzg.move [1766,1785,1792] 4771
theorem ybtb:ydu zJ Nzm6:=ydz (yba.at_ yhw 1 rfl) (by kernel_rfl)
def Nzm7:Fact:=yzm.move [1257,1413,1422,4889] 4893
theorem ybvg:ydu zJ Nzm7:=ydz (yba.at_ yns 0 rfl) (by kernel_rfl)
def Nzm8:Fact:=yxw.move [1766,1785,1792,4889] 5388
theorem ybwl:ydu zJ Nzm8:=ydz (yba.at_ ype 0 rfl) (by kernel_rfl)
/- selfstab/memory.Valid -/
def ybib:Fact:=⟨75,[.agg #[.string (by8 [101,108,101,99,116,105,111,110]),.slice (some ⟨1083,0,none⟩) 2 CU,.slice (some ⟨1796,0,none⟩) 4 CU],.agg #[.slice (some ⟨9,0,none⟩) 2 CU,.slice (some ⟨4,0,none⟩) 2 2],.slice (some ⟨2927,0,none⟩) 2 2],4449,[Nzb0,⟨9,3,1,[.int .i64 0,.int .i64 1]⟩,⟨17,81,2,[.int .i64 1,.int .i64 1]⟩,⟨19,81,2,[.int .i64 0,.int .i64 1]⟩,⟨1083,93,6,[.string (by8 [104]),.int .i64 1,.int .i64 0,.int .i64 0,.int .i64 1,.int .i64 0,.string (by8 [108]),.int .i64 2,.int .i64 0,.int .i64 0,.int .i64 0,.int .i64 0]⟩,Nzb1,Nzb2,Nzb3,Nzb4,Nzb5,Nzb6,Nzb7,Nzb8,Nzb9,ybte,ybtq,ybtd,⟨1796,146,3,[.string (by8 [102,105,120]),.slice (some ⟨1257,0,none⟩) 17 CU,.slice (some ⟨1422,0,none⟩) 1 CU,.string (by8 [100,114,111,112]),.slice (some ⟨1495,0,none⟩) 7 CU,.slice (some ⟨1515,0,none⟩) 1 CU,.string (by8 [116,97,107,101]),.slice (some ⟨1588,0,none⟩) 7 CU,.slice (some ⟨1608,0,none⟩) 1 CU,.string (by8 [116,105,101]),.slice (some ⟨1766,0,none⟩) 17 CU,.slice (some ⟨1792,0,none⟩) 1 CU]⟩,⟨2925,3,1,[.int .i64 0,.int .i64 0]⟩,⟨2926,3,1,[.int .i64 0,.int .i64 0]⟩,ybwd],.bool true,5627,[],4449⟩
def ycih:List Fact:=[ybib]
theorem ybmo:yba ycih:=yba.seq (yba.cons (f:=Nzm5) ybsl (yba.cons (f:=Nzm6) ybtb (yba.cons (f:=Nzm7) ybvg (yba.cons (f:=Nzm8) ybwl yba.nil)))) (by kernel_rfl)
end Ev
end
section
namespace Ev
/- selfstab/step.Step -/
def ybkn:Fact:=⟨22,[.agg #[.string (by8 [101,108,101,99,116,105,111,110]),.slice (some ⟨1083,0,none⟩) 2 CU,.slice (some ⟨1796,0,none⟩) 4 CU],.agg #[.slice (some ⟨9,0,none⟩) 2 CU,.slice (some ⟨4,0,none⟩) 2 2],.slice (some ⟨2927,0,none⟩) 2 2,.int .u32 1],2928,[Nzb0,⟨9,3,1,[.int .i64 0,.int .i64 1]⟩,⟨17,81,2,[.int .i64 1,.int .i64 1]⟩,⟨19,81,2,[.int .i64 0,.int .i64 1]⟩,⟨1083,93,6,[.string (by8 [104]),.int .i64 1,.int .i64 0,.int .i64 0,.int .i64 1,.int .i64 0,.string (by8 [108]),.int .i64 2,.int .i64 0,.int .i64 0,.int .i64 0,.int .i64 0]⟩,Nzb1,Nzb2,Nzb3,Nzb4,Nzb5,Nzb6,Nzb7,Nzb8,Nzb9,ybte,ybtq,ybtd,⟨1796,146,3,[.string (by8 [102,105,120]),.slice (some ⟨1257,0,none⟩) 17 CU,.slice (some ⟨1422,0,none⟩) 1 CU,.string (by8 [100,114,111,112]),.slice (some ⟨1495,0,none⟩) 7 CU,.slice (some ⟨1515,0,none⟩) 1 CU,.string (by8 [116,97,107,101]),.slice (some ⟨1588,0,none⟩) 7 CU,.slice (some ⟨1608,0,none⟩) 1 CU,.string (by8 [116,105,101]),.slice (some ⟨1766,0,none⟩) 17 CU,.slice (some ⟨1792,0,none⟩) 1 CU]⟩,⟨2925,3,1,[.int .i64 0,.int .i64 0]⟩,⟨2926,3,1,[.int .i64 0,.int .i64 0]⟩,ybwd],.tuple #[.slice (some ⟨4322,0,none⟩) 2 2,.int .i64 0],4413,[⟨4322,22,1,[.slice (some ⟨4406,0,none⟩) 2 CU,.slice (some ⟨4324,0,none⟩) 2 CU]⟩,⟨4324,3,1,[.int .i64 0,.int .i64 0]⟩,⟨4406,3,1,[.int .i64 0,.int .i64 1]⟩],2928⟩
def ycic:List Fact:=[ybkn]
theorem ybmp:yba ycic:=yba.seq (yba.cons (f:=ybqz) (yba.at_ ybpx 0 rfl) yba.nil) (by kernel_rfl)
end Ev
end
section
namespace Ev
def Nzm0:Fact:=ybim.move [] 21
theorem ybwi:ydu zJ Nzm0:=ydz (yba.at_ yblb 0 rfl) (by kernel_rfl)
end Ev
end
section
namespace Ev
open Go Go.RowKit
def nzF:List Fact:=[Nzm0,ybkn,ybib]
theorem ycdf:yba nzF:=(yba.cons (f:=Nzm0) ybwi (yba.cons (f:=ybkn) (yba.at_ ybmp 0 rfl) (yba.cons (f:=ybib) (yba.at_ ybmo 0 rfl) yba.nil)))
def nzH:Hooks:=⟨some 90,some 199,some 104,symB,[⟨1000000000000,nzF⟩],some 107⟩
theorem ycaz:HooksOk zJ nzH:=⟨fun g h=>(by cases h;exact ybbv),fun g h=>(by cases h;exact ymc),fun g h=>(by cases h;exact ybfz),ybz.cons ycdf ybz.nil,fun g h=>(by cases h;exact ysf)⟩
def nzT:Option Value->Bool
 |some (.bool b)=>b
 |_=>false
theorem ycac:∀{o:Option Value},nzT o=true->o=some (.bool true)
 |some (.bool true),_=>rfl
set_option maxRecDepth 1000000 in
theorem yxo:outV (ev zJ nzH 3000 (.call 7 [] mem0))=some (.bool true):=ycac (by kernel_rfl)
theorem ybxc(w:World)(hG:GlW w):Calls zJ 7 #[] w fun e w'=>e = .returned (.bool true)/\Below w.heap.size w w' :=
 ysz mix ypq ycaz yxo rfl rfl ⟨_,_,zAC,rfl⟩ w hG
end Ev
end
section
namespace Sh
open Go Ev Go.RowKit
theorem ybah:Returns zJ 7 [] (.b true):=by
 refine ymf ⟨_,_,zAC,rfl⟩ (fun _=>.b) (fun _=>.simple rfl) fun G m us hG hr φ M w us' hRl hs hv=>?_;cases hr
 cases hv
 exact ybxc w fun x hx=>(hRl.gl x hx).1
end Sh
end
section
def yqy:List VarR:=[⟨⟨#[104]⟩,1,0,0,1,0⟩,⟨⟨#[108]⟩,2,0,0,0,0⟩]
theorem ybez:∀x∈yqy,ybjy x:=by
 intro x hx;simp only[yqy,List.mem_cons,List.mem_singleton,List.not_mem_nil,or_false]at hx;rcases hx with rfl|rfl<;>exact⟨⟨by decide,by decide⟩,⟨by decide,by decide⟩,⟨by decide,by decide⟩,⟨by decide,by decide⟩⟩
theorem ybfk{g:Gr}(c:Conf)(ht:ybs g=true):ydw g c yqy=ydq g c:=by
 have hg:=ygz ht;have hpl:=hg.2.2.1;have hne:¬(g.ids.length:Int) = -1:=by omega
 unfold ydq ydw;rw[ht,(ybr g).2 hg,show yfh g yqy=ycu g [(g.ids.length:Int),1]from funext fun v=>by simp[yfh,ycu,yqy,yul,hne,hpl]]
def ldS(c:Conf)(k:Nat):Int×Nat:=(zZ k).foldl (fun s v=>if lAt c v=1 then((v:Int),s.2+1)else s) (-1,0)
theorem yss(c:Conf)(k:Nat):ldS c (k+1)=if lAt c k=1 then((k:Int),(ldS c k).2+1)else ldS c k:=by
 unfold ldS;rw[zAA,zS];rfl
theorem yna(c:Conf):∀k,(ldS c k).2<=k/\(-1<=(ldS c k).1/\(ldS c k).1<k)/\((ldS c k).2=0->∀v,v<k->lAt c v≠1)/\((ldS c k).2=1->∃u:Nat,u<k/\(ldS c k).1=u/\lAt c u=1/\∀v,v<k->lAt c v=1->v=u)
 |0=>⟨zX _,⟨Int.le_refl _,show(-1:Int)<0 by decide⟩,fun _ v hv=>absurd hv (zT v),fun h=>by simp[ldS]at h⟩
 | k + 1=>by
   obtain⟨h0,h1,h2,h3⟩:=yna c k;rw[yss]
   by_cases q:lAt c k=1
   ·rw[if_pos q];refine⟨by simp only;omega,by simp only;omega,fun h=>by simp at h,fun h=>⟨k,by omega,rfl,q,fun v hv hl=>?_⟩⟩
    have h:=h2 (by simp only at h;omega)
    by_cases r:v=k
    ·exact r
    ·exact absurd hl (h v (by omega))
   ·rw[if_neg q];refine⟨by omega,by omega,fun h v hv=>?_,fun h=>?_⟩
    ·by_cases r:v=k
     ·rw[r];exact q
     ·exact h2 h v (by omega)
    ·obtain⟨u,a1,a2,a3,a4⟩:=h3 h;refine⟨u,by omega,a2,a3,fun v hv hl=>?_⟩
     by_cases r:v=k
     ·rw[r]at hl;exact absurd hl q
     ·exact a4 v (by omega) hl
def ygj(g:Gr)(c:Conf):Int:=if ybl g c=true then(ldS c c.length).1 else -1
theorem ybuy{g:Gr}{c:Conf}:exB g c=ymr g c:=by
 unfold exB ymr;congr 1
 funext v
 rw[zAB,decide_eq_true_iff,zW,bne_eq_false_iff_eq];rfl
theorem yoo{g:Gr}(h:Tr g){c:Conf}(hcf:ydq g c=true)(hh:ymr g c=true):ybl g c=true↔(ldS c c.length).2=1/\(yed (fun v=>(c.getD v []).getD 0 0) g).testBit (ldS c c.length).1.toNat=true:=by
 obtain⟨_,hcl,hc1⟩:=ydx hcf;have hpl:=h.good.2.2.1
 have hH:∀v,v<c.length->(c.getD v []).getD 0 0=htP g v:=fun v hv=>by
  unfold ymr at hh;rw[zY]at hh;have:=hh v (List.mem_range.2 hv);rw[zW,bne_eq_false_iff_eq]at this;exact this
 have hpk:∀u,u<c.length->((yed (fun v=>(c.getD v []).getD 0 0) g).testBit u=true↔Peak g u):=fun u hu=>by
  rw[yju h.good];unfold Peak;constructor
  ·rintro⟨_,q⟩ x hx;have:=q x hx
   rwa [hH x (by rw[hcl];exact(h.good.adj_lt hx).2),hH u hu]at this
  ·intro q;refine⟨by omega,fun x hx=>?_⟩
   rw[hH x (by rw[hcl];exact(h.good.adj_lt hx).2),hH u hu]
   exact q x hx
 obtain⟨s0,s1,s2,s3⟩:=yna c c.length;rw[yti h hcf];constructor
 ·rintro⟨hR,u,hu,hp,e1,e2⟩;have hul:u<c.length:=by omega
  have hm : (ldS c c.length).2=1/\(ldS c c.length).1=u:=by
   have key:∀k,k<=c.length->ldS c k=if u<k then((u:Int),1)else(-1,0):=fun k=>by
    induction k with
    |zero=>intro _;rw[if_neg (zT _)];rfl
    | succ k ih =>
      intro hk;rw[yss,ih (by omega)]
      by_cases q:lAt c k=1
      ·obtain rfl:=e2 k (by omega) q
       rw[if_pos q,if_neg (Nat.lt_irrefl _),if_pos (Nat.lt_succ_self _)]
      ·rw[if_neg q]
       by_cases r:u<k
       ·rw[if_pos r,if_pos (by omega)]
       ·rw[if_neg r,if_neg (fun hlt=>q (by rw[show k=u by omega];exact e1))]
   rw[key _ (zX _),if_pos hul];exact⟨rfl,rfl⟩
  rw[hm.2,zQ];exact⟨hm.1,(hpk u hul).2 hp⟩
 ·rintro⟨hm,hb⟩;obtain⟨u,hu,e,e1,e2⟩:=s3 hm;rw[e,zQ]at hb;exact⟨fun v hv=>hH v (by omega),u,by omega,(hpk u hu).1 hb,e1,fun v hv=>e2 v (by omega)⟩
theorem ywy{g:Gr}{c:Conf}(hL:ybl g c=true)(h:Tr g):∃u:Nat,u<c.length/\ygj g c=u/\lAt c u=1/\∀v,v<u->lAt c v≠1:=by
 have hq:=hL;unfold ybl at hq;rw[zO,zO]at hq;obtain⟨m,_⟩:=(yoo h hq.1 hq.2.1).1 hL;obtain⟨u,a1,a2,a3,a4⟩:=(yna c c.length).2.2.2 m;refine⟨u,a1,by unfold ygj;rw[if_pos hL];exact a2,a3,fun v hv e=>by have:=a4 v (by omega) e;omega⟩
theorem ygn{g:Gr}{c:Conf}(hL:ybl g c=false):ygj g c = -1:=by
 unfold ygj;rw[hL,if_neg (by decide)]
theorem ybkr{g:Gr}{c:Conf}(he:ybs g=true->Tr g):decide (ygj g c>=0)=ybl g c:=by
 cases hL:ybl g c with
 |false=>rw[ygn hL];rfl
 | true =>
   have ht:ybs g=true:=by
    unfold ybl at hL;rw[zO]at hL;exact(ydx hL.1).1
   obtain⟨u,_,e,_⟩:=ywy hL (he ht);rw[e];exact decide_eq_true (by omega)
namespace Sh
open Ev Go.RowKit
theorem ybhu{g:Gr}(hI:GrI g){c:Conf}(hR:ypp c):Returns zJ 14 [grV g,ycn c] (.i .i64 (ygj g c)):=by
 have he:ybs g=true->Tr g:=fun h=>ykg h;cases hL:ybl g c with
 | true =>
   have ht:ybs g=true:=by
    have hq:=hL;unfold ybl at hq;rw[zO]at hq;exact(ydx hq.1).1
   obtain⟨u,h1,h2,h3,h4⟩:=ywy hL (he ht);rw[h2];exact yzf hI hR (he ht) hL h1 h3 h4
 | false =>
   rw[ygn hL];refine Returns.of (ybrp _ _ ?_);have hE:=ylm hI hR he;rw[hL]at hE;simp only[grV]at hE;simp only[c14,ybwc,ybvr,yccw,grV,clash,go_sem,zC,zA,zD,zB,zI,zF,zG,zH,↓reduceIte,reduceCtorEq];refine hE.use ?_;simp only[ybk,clash,go_sem,zC,zA,zD,zB,zI,zF,zG,zH,↓reduceIte,reduceCtorEq]
   try refine⟨by decide,?_⟩
   exact Sim.refl _
set_option maxHeartbeats 4000000 in
theorem ypm{g:Gr}(hI:GrI g){c:Conf}(hR:ypp c):Returns zJ 15 [grV g,ycn c] (.i .i64 (ygj g c)):=by
 refine Returns.of (ycau _ _ ?_);have hF:=ylp hI;have hVs:Returns zJ 49 [] (ygk yqy):=ybhn;have hC:=yxd hI hR ybez;cases ht:ybs g with
 | false =>
   have e:ygj g c = -1:=ygn (by
    cases hL:ybl g c with
    |false=>rfl
    | true =>
      unfold ybl at hL;rw[zO]at hL;rw[(ydx hL.1).1]at ht;cases ht)
   rw[ht]at hF;rw[e];simp only[grV]at hF;simp only[c15,ybkd,ybgq,ybnt,grV,clash,go_sem,zC,zA,zD,zB,zI,zF,zG,zH,↓reduceIte,reduceCtorEq];refine hF.use ?_;simp only[ybk,clash,go_sem,zC,zA,zD,zB,zI,zF,zG,zH,↓reduceIte,reduceCtorEq]
   try refine⟨by decide,?_⟩
   exact Sim.refl _
 |true =>
 have hT:=ykg ht;rw[ybfk c ht]at hC;rw[ht]at hF;cases hcf:ydq g c with
 | false =>
   have e:ygj g c = -1:=ygn (by unfold ybl;rw[hcf];rfl)
   rw[hcf]at hC;rw[e];simp only[grV]at hF hC;simp only[c15,ybkd,ybgq,ybnt,grV,clash,go_sem,zC,zA,zD,zB,zI,zF,zG,zH,↓reduceIte,reduceCtorEq];refine hF.use ?_;simp only[ybk,clash,go_sem,zC,zA,zD,zB,zI,zF,zG,zH,↓reduceIte,reduceCtorEq]
   try refine⟨by decide,?_⟩
   refine hVs.use ?_;simp only[ybk,clash,go_sem,zC,zA,zD,zB,zI,zF,zG,zH,↓reduceIte,reduceCtorEq]
   try refine⟨by decide,?_⟩
   first|refine hC.use ?_|refine⟨by decide,hC.use ?_⟩
   simp only[ybk,clash,go_sem,zC,zA,zD,zB,zI,zF,zG,zH,↓reduceIte,reduceCtorEq]
   try refine⟨by decide,?_⟩
   exact Sim.refl _
 |true =>
 obtain⟨_,hcl,hc1⟩:=ydx hcf;have h24:=hT.good.2.1;have hX:=ybdq hT hcl (fun v hv=>by rw[(hc1 v hv).1];decide)
 rw[ybuy]at hX;rw[hcf]at hC;cases hh:ymr g c with
 | false =>
   have e:ygj g c = -1:=ygn (by unfold ybl;rw[hcf,hh];rfl)
   rw[hh]at hX;rw[e];simp only[grV]at hF hC hX;simp only[c15,ybkd,ybgq,ybnt,grV,clash,go_sem,zC,zA,zD,zB,zI,zF,zG,zH,↓reduceIte,reduceCtorEq];refine hF.use ?_;simp only[ybk,clash,go_sem,zC,zA,zD,zB,zI,zF,zG,zH,↓reduceIte,reduceCtorEq]
   try refine⟨by decide,?_⟩
   refine hVs.use ?_;simp only[ybk,clash,go_sem,zC,zA,zD,zB,zI,zF,zG,zH,↓reduceIte,reduceCtorEq]
   try refine⟨by decide,?_⟩
   first|refine hC.use ?_|refine⟨by decide,hC.use ?_⟩
   simp only[ybk,clash,go_sem,zC,zA,zD,zB,zI,zF,zG,zH,↓reduceIte,reduceCtorEq]
   try refine⟨by decide,?_⟩
   first|refine hX.use ?_|refine⟨by decide,hX.use ?_⟩
   simp only[ybk,clash,go_sem,zC,zA,zD,zB,zI,zF,zG,zH,↓reduceIte,reduceCtorEq]
   try refine⟨by decide,?_⟩
   exact Sim.refl _
 | true =>
   rw[hh]at hX;have hone:=yoo hT hcf hh;have hsp:=yna c;have hsu:=yss c;have h0:ldS c 0=(-1,0):=rfl;have hHi:=ywq hT.good hcl (fun v hv=>by rw[(hc1 v hv).1];decide)
   obtain⟨Z,hZ⟩:∃Z,yed (fun v=>(c.getD v []).getD 0 0) g=Z:=⟨_,rfl⟩
   have hZ32:Z<2^32:=by
    have:=ybbf hT.good (fun v=>(c.getD v []).getD 0 0);rw[hZ]at this;omega
   rw[hZ]at hHi hone;obtain⟨n,hn⟩:∃n,c.length=n:=⟨_,rfl⟩;have hrow:∀v,v<n->(c.getD v []).length=2:=fun v hv=>(hc1 v (by omega)).1
   have hlv:∀v,lAt c v=(c.getD v []).getD 1 0:=fun _=>rfl;rw[hn]at hone;have hle:ygj g c=if ybl g c=true then(ldS c n).1 else -1:=by unfold ygj;rw[hn]
   rw[hle];have hn24:n<=24:=by omega
   obtain⟨S,hS⟩:∃S:Nat->Int×Nat,(fun k=>ldS c k)=S:=⟨_,rfl⟩;have hS':∀k,ldS c k=S k:=fun k=>by rw[<-hS]
   simp only[hS']at hone hsp hsu h0 ⊢;simp only[grV]at hF hC hX hHi;simp only[c15,ybkd,ybgq,ycca,ybzu,grV,clash,go_sem,zC,zA,zD,zB,zI,zF,zG,zH,↓reduceIte,reduceCtorEq];refine hF.use ?_;simp only[ybk,clash,go_sem,zC,zA,zD,zB,zI,zF,zG,zH,↓reduceIte,reduceCtorEq]
   try refine⟨by decide,?_⟩
   refine hVs.use ?_;simp only[ybk,clash,go_sem,zC,zA,zD,zB,zI,zF,zG,zH,↓reduceIte,reduceCtorEq]
   try refine⟨by decide,?_⟩
   first|refine hC.use ?_|refine⟨by decide,hC.use ?_⟩
   simp only[ybk,clash,go_sem,zC,zA,zD,zB,zI,zF,zG,zH,↓reduceIte,reduceCtorEq]
   try refine⟨by decide,?_⟩
   first|refine hX.use ?_|refine⟨by decide,hX.use ?_⟩
   simp only[ybk,ycn,hn,clash,go_sem,zC,zA,zD,zB,zI,zF,zG,zH,↓reduceIte,reduceCtorEq]
   try refine⟨by decide,?_⟩
   refine ycm (σ:=Nat) (fun k=>⟨[(7,.i .i64 k),(5,.i .i64 (S k).1),(6,.i .i64 (S k).2),(1,.sl 1 n fun v=>[ybg (c.getD v [])]),(2,.pt (2,0) 0 0)],[(2,.one (some ⟨25,true,2,1,fun _=>[ybg g.ids,yw g.ports]⟩))]⟩) (fun k=>k<=n) (fun k=>n-k) 0 (zU _) ?_ ?_
   ·refine ybc [] [] [] ?_;simp only[h0,allQ,live,zN,zK,zL,yj,ydb,yjz,zM,go_sem,zC,zA,zD,zB,zI,zF,zG,zH,↓reduceIte,reduceCtorEq]
   intro k hk;obtain⟨b0,b1,b2,b3⟩:=hsp k
   by_cases hlk:k<n
   ·have t1:decide ((k:Int)<(n:Int))=true:=decide_eq_true (by omega)
    have hrk:=hrow k hlk;have hlk':=hlv k;have hs:=hsu k;obtain⟨R,hRe⟩:∃R,c.getD k []=R:=⟨_,rfl⟩;rw[hRe]at hrk hlk';obtain⟨x,hx⟩:∃x,lAt c k=x:=⟨_,rfl⟩;rw[hx]at hlk' hs
    by_cases q:x=1
    ·have t2:(x==1)=true:=beq_iff_eq.2 q;rw[if_pos q]at hs;have e1:(S (k+1)).1=k:=by rw[hs]
     have e2:(S (k+1)).2=(S k).2+1:=by rw[hs]
     simp only[ybfd,ybwn,ybyn,ybxk,ybvh,ybg,hRe,<-hlk',t1,t2,clash,go_sem,zC,zA,zD,zB,zI,zF,zG,zH,↓reduceIte,reduceCtorEq]
     repeat (first|refine⟨(by omega:(_:Prop)),?_⟩|refine⟨(⟨by omega,by omega⟩:_/\_),?_⟩|refine⟨ikw (by omega) (by omega),?_⟩)
     refine ybd (k+1) (by omega) (by omega) ?_
     refine ybc [] [] [] ?_;simp only[e1,e2,allQ,live,zN,zK,zL,yj,ydb,yjz,zM,go_sem,zC,zA,zD,zB,zI,zF,zG,zH,↓reduceIte,reduceCtorEq];omega
    ·have t2:(x==1)=false:=beq_eq_false_iff_ne.2 q;rw[if_neg q]at hs;simp only[ybfd,ybwn,ybvh,ybg,hRe,<-hlk',t1,t2,clash,go_sem,zC,zA,zD,zB,zI,zF,zG,zH,↓reduceIte,reduceCtorEq]
     repeat (first|refine⟨(by omega:(_:Prop)),?_⟩|refine⟨(⟨by omega,by omega⟩:_/\_),?_⟩|refine⟨ikw (by omega) (by omega),?_⟩)
     refine ybd (k+1) (by omega) (by omega) ?_
     refine ybc [] [] [] ?_;simp only[hs,allQ,live,zN,zK,zL,yj,ydb,yjz,zM,go_sem,zC,zA,zD,zB,zI,zF,zG,zH,↓reduceIte,reduceCtorEq];omega
   ·obtain rfl:k=n:=by omega
    have t1:decide ((k:Int)<(k:Int))=false:=decide_eq_false (by omega)
    by_cases q:(S k).2=1
    ·obtain⟨u,u1,u2,u3,u4⟩:=b3 q;have hHas:=ybwz (s:=Z) (v:=u) hZ32 (by omega)
     rw[u2,zQ]at hone;have t2:((((S k).2:Nat):Int)!=1)=false:=by rw[q];rfl
     cases hb:Z.testBit u with
     | true =>
       rw[hone.2 ⟨q,hb⟩,if_pos rfl];rw[hb]at hHas;simp only[ybfd,ybcm,ybqo,u2,t1,t2,clash,go_sem,zC,zA,zD,zB,zI,zF,zG,zH,↓reduceIte,reduceCtorEq];simp only[ycn,hn]at hHi
       first|refine hHi.use ?_|refine⟨by decide,hHi.use ?_⟩
       simp only[ybk,u2,clash,go_sem,zC,zA,zD,zB,zI,zF,zG,zH,↓reduceIte,reduceCtorEq]
       try refine⟨by decide,?_⟩
       first|refine hHas.use ?_|refine⟨by decide,hHas.use ?_⟩
       simp only[ybk,u2,clash,go_sem,zC,zA,zD,zB,zI,zF,zG,zH,↓reduceIte,reduceCtorEq]
       try refine⟨by decide,?_⟩
       exact Sim.refl _
     | false =>
       have e:ybl g c=false:=by
        cases hL:ybl g c with
        |false=>rfl
        |true=>rw[(hone.1 hL).2]at hb;cases hb
       rw[e,if_neg (by decide)]
       rw[hb]at hHas;simp only[ybfd,ybcm,ybgo,u2,t1,t2,clash,go_sem,zC,zA,zD,zB,zI,zF,zG,zH,↓reduceIte,reduceCtorEq];simp only[ycn,hn]at hHi
       first|refine hHi.use ?_|refine⟨by decide,hHi.use ?_⟩
       simp only[ybk,u2,clash,go_sem,zC,zA,zD,zB,zI,zF,zG,zH,↓reduceIte,reduceCtorEq]
       try refine⟨by decide,?_⟩
       first|refine hHas.use ?_|refine⟨by decide,hHas.use ?_⟩
       simp only[ybk,u2,clash,go_sem,zC,zA,zD,zB,zI,zF,zG,zH,↓reduceIte,reduceCtorEq]
       try refine⟨by decide,?_⟩
       exact Sim.refl _
    ·have e:ybl g c=false:=by
      cases hL:ybl g c with
      |false=>rfl
      |true=>exact absurd (hone.1 hL).1 q
     have t2:((((S k).2:Nat):Int)!=1)=true:=by rw[bne_iff_ne];omega
     rw[e,if_neg (by decide)]
     simp only[ybfd,ybcm,ybgo,t1,t2,clash,go_sem,zC,zA,zD,zB,zI,zF,zG,zH,↓reduceIte,reduceCtorEq];exact Sim.refl _
theorem ytx{g:Gr}(hI:GrI g){c:Conf}(hR:ypp c):Returns zJ 11 [grV g,ycn c] (.b (ybl g c)):=by
 refine Returns.of (ycbu _ _ ?_);have h:=ypm hI hR;rw[<-ybkr fun h=>ykg h];simp only[grV]at h;simp only[c11,ycco,ycbf,grV,clash,go_sem,zC,zA,zD,zB,zI,zF,zG,zH,↓reduceIte,reduceCtorEq];refine h.use ?_;simp only[ybk,clash,go_sem,zC,zA,zD,zB,zI,zF,zG,zH,↓reduceIte,reduceCtorEq]
 try refine⟨by decide,?_⟩
 exact Sim.refl _
theorem yzj(g:Gr)(c:Conf):Returns zJ 6 [grV g,ycn c] (.b (decide (g.ports.length>60)||decide (g.ids.length>60)||decide (c.length>60))):=by
 refine Returns.of (ycie _ _ ?_)
 by_cases h1:g.ports.length>60
 ·have t1:decide ((g.ports.length:Int)>60)=true:=decide_eq_true (by omega)
  have t2:decide (g.ports.length>60)=true:=decide_eq_true h1;rw[t2];simp only[c6,c6_0,c6_1,grV,ybg,yw,ycn,t1,clash,go_sem,zC,zA,zD,zB,zI,zF,zG,zH,↓reduceIte,reduceCtorEq];exact Sim.refl _
 ·have t1:decide ((g.ports.length:Int)>60)=false:=decide_eq_false (by omega)
  have t2:decide (g.ports.length>60)=false:=decide_eq_false h1;rw[t2]
  by_cases h2:g.ids.length>60
  ·have t3:decide ((g.ids.length:Int)>60)=true:=decide_eq_true (by omega)
   have t4:decide (g.ids.length>60)=true:=decide_eq_true h2;rw[t4];simp only[c6,c6_0,c6_1,grV,ybg,yw,ycn,t1,t3,clash,go_sem,zC,zA,zD,zB,zI,zF,zG,zH,↓reduceIte,reduceCtorEq];exact Sim.refl _
  ·have t3:decide ((g.ids.length:Int)>60)=false:=decide_eq_false (by omega)
   have t4:decide (g.ids.length>60)=false:=decide_eq_false h2;rw[t4];simp only[c6,c6_0,c6_1,grV,ybg,yw,ycn,t1,t3,clash,go_sem,zC,zA,zD,zB,zI,zF,zG,zH,↓reduceIte,reduceCtorEq]
   have e:decide ((c.length:Int)>60)=decide (c.length>60):=by
    rw[zAB,decide_eq_true_iff,decide_eq_true_iff];omega
   rw[e];exact Sim.refl _
theorem ykj{g:Gr}(hI:GrI g){c:Conf}(hR:ypp c):Returns zJ 3 [grV g,ycn c] (.b true):=by
 refine Returns.of (ycjf _ _ ?_);have hL:=yzj g c;have hK:=ybah;cases hlg:(decide (g.ports.length>60)||decide (g.ids.length>60)||decide (c.length>60))with
 | true =>
   rw[hlg]at hL;simp only[grV]at hL;simp only[c3,c3_0,c3_1,c3_2,grV,clash,go_sem,zC,zA,zD,zB,zI,zF,zG,zH,↓reduceIte,reduceCtorEq];refine hL.use ?_;simp only[ybk,clash,go_sem,zC,zA,zD,zB,zI,zF,zG,zH,↓reduceIte,reduceCtorEq]
   try refine⟨by decide,?_⟩
   refine hK.use ?_;simp only[ybk,clash,go_sem,zC,zA,zD,zB,zI,zF,zG,zH,↓reduceIte,reduceCtorEq]
   try refine⟨by decide,?_⟩
   exact Sim.refl _
 | false =>
   rw[hlg]at hL
   have hcl:c.length<=1000:=by
    simp at hlg;omega
   have f1:=yrw hI;have f2:=ylp hI;have f3:=ylm hI hR (fun h=>ykg h);have f4:=ytx hI hR;have f5:=ybej hI;have f6:=ytu hI;have f7:=ybhu hI hR;have f8:=ypm hI hR
   generalize ybl g c=B at f3 f4
   generalize ygj g c=LL at f7 f8
   generalize ybs g=C at f1 f2
   obtain⟨CL,hCL⟩:∃CL,yhc g = .ag CL:=by unfold yhc;split<;>exact⟨_,rfl⟩
   have hsq:eqL [false,true,true,false,false] CL CL=some true:=by
    unfold yhc at hCL;split at hCL
    ·cases hCL;simp[clmV,eqL]
    ·cases hCL;simp[clmV,eqL]
   have hsc:CL.all (scalar 4)=true:=by
    unfold yhc at hCL;split at hCL
    ·cases hCL;rfl
    ·cases hCL;rfl
   have hone:CL.all one1=true:=by
    unfold yhc at hCL;split at hCL
    ·cases hCL;rfl
    ·cases hCL;rfl
   rw[hCL]at f5 f6;simp only[grV]at hL f1 f2 f3 f4 f5 f6 f7 f8;simp only[c3,c3_0,c3_1,c3_3,grV,clash,go_sem,zC,zA,zD,zB,zI,zF,zG,zH,↓reduceIte,reduceCtorEq];refine hL.use ?_;simp only[ybk,clash,go_sem,zC,zA,zD,zB,zI,zF,zG,zH,↓reduceIte,reduceCtorEq]
   try refine⟨by decide,?_⟩
   refine hK.use ?_;simp only[ybk,clash,go_sem,zC,zA,zD,zB,zI,zF,zG,zH,↓reduceIte,reduceCtorEq]
   try refine⟨by decide,?_⟩
   first|refine f1.use ?_|refine⟨by decide,f1.use ?_⟩
   simp only[ybk,clash,go_sem,zC,zA,zD,zB,zI,zF,zG,zH,↓reduceIte,reduceCtorEq]
   try refine⟨by decide,?_⟩
   first|refine f2.use ?_|refine⟨by decide,f2.use ?_⟩
   simp only[ybk,clash,go_sem,zC,zA,zD,zB,zI,zF,zG,zH,↓reduceIte,reduceCtorEq]
   try refine⟨by decide,?_⟩
   first|refine f3.use ?_|refine⟨by decide,f3.use ?_⟩
   simp only[ybk,clash,go_sem,zC,zA,zD,zB,zI,zF,zG,zH,↓reduceIte,reduceCtorEq]
   try refine⟨by decide,?_⟩
   first|refine f4.use ?_|refine⟨by decide,f4.use ?_⟩
   simp only[ybk,clash,go_sem,zC,zA,zD,zB,zI,zF,zG,zH,↓reduceIte,reduceCtorEq]
   try refine⟨by decide,?_⟩
   first|refine f5.use ?_|refine⟨by decide,f5.use ?_⟩
   simp only[ybk,clash,hone,hsc,go_sem,zC,zA,zD,zB,zI,zF,zG,zH,↓reduceIte,reduceCtorEq]
   try refine⟨by decide,?_⟩
   first|refine f6.use ?_|refine⟨by decide,f6.use ?_⟩
   simp only[ybk,clash,hone,hsq,hsc,go_sem,zC,zA,zD,zB,zI,zF,zG,zH,↓reduceIte,reduceCtorEq]
   try refine⟨by decide,?_⟩
   first|refine f7.use ?_|refine⟨by decide,f7.use ?_⟩
   simp only[ybk,clash,go_sem,zC,zA,zD,zB,zI,zF,zG,zH,↓reduceIte,reduceCtorEq]
   try refine⟨by decide,?_⟩
   first|refine f8.use ?_|refine⟨by decide,f8.use ?_⟩
   simp only[ybk,clash,go_sem,zC,zA,zD,zB,zI,zF,zG,zH,↓reduceIte,reduceCtorEq]
   try refine⟨by decide,?_⟩
   exact Sim.refl _
end Sh
end
end Go.Proofs.YtiejahgklcjhkaaGreat
