/- Joined. -/
import Derived.Test.YtiejahgklcjhkaaGreatPkY15
set_option linter.unusedSimpArgs false
set_option linter.unusedVariables false
set_option maxRecDepth 8000
open Nat renaming reduceEqDiff→zA,reduceLeDiff→zB,reduceAdd→zD,reduceBEq→zF,reduceBNe→zG,reduceMul→zH,reduceLT→zI,one_shiftLeft→zO,zero_le→zQ,pow_le_pow_right→zS
open Int renaming reduceToNat→zC,natCast_zero→zL,reduceBNe→zN
open Option renaming getD_none→zJ,getD_some→zK,getD→zM
open List renaming foldl_append→zT,range→zU,range_succ→zV
open Bool renaming true_and→zW
open Go.Proofs.Tryz renaming prog→zX
open Go
namespace Go.Proofs.YtiejahgklcjhkaaGreat
section
def yxl(o:List Int)(n i:Nat):Int:=if i<o.length then ybp (o.getD i 0) n else ybp ((i:Int)-o.length) n
def yov(o:List Int)(n i:Nat):Nat:=(yxl o n i).toNat
theorem ybbv(o:List Int){n:Nat}(hn:1<=n)(i:Nat):yxl o n i=(yov o n i:Int)/\yov o n i<n:=by
 have h:0<=yxl o n i/\yxl o n i<n:=by
  unfold yxl;split<;>exact ydf (by omega)
 unfold yov;omega
theorem ybps{o:List Int}{n v:Nat}(hv:v<n):yov o n (o.length+v)=v:=by
 unfold yov yxl;rw[if_neg (by omega)]
 unfold ybp;rw[if_neg (by omega),show((o.length+v:Nat):Int)-o.length=(v:Int)by omega,Int.emod_eq_of_lt (by omega) (by omega)]
 rfl
def grdC(nm nc nr:ByteArray)(o:List Int)(g:Gr)(c:Conf)(k:Nat):Conf:=((zU k).map (yov o g.ports.length)).foldl (ydu nm nc nr g) c
theorem ybio(nm nc nr:ByteArray)(o:List Int)(g:Gr)(c:Conf)(k:Nat):grdC nm nc nr o g c (k+1)=ydu nm nc nr g (grdC nm nc nr o g c k) (yov o g.ports.length k):=by
 unfold grdC;rw[zV,List.map_append,zT];rfl
theorem ybqz{nm nc nr:ByteArray}{g:Gr}(hg:ybc g){x:Int}(h0:0<=x)(h1:x<=g.ids.length):yhs (ybq nm nc nr) g (allC g x)=true:=by
 refine(ydz _ _ _).2 ⟨by simp[allC],fun v s hs=>?_⟩
 have hv:v<g.ids.length:=by
  have:=(List.getElem?_eq_some_iff.1 hs).1
  simpa[allC]using this
 have e:s=[x]:=by
  have:=yblu (g:=g) (x:=x) hv;rw[List.getD_eq_getElem?_getD,hs]at this;exact this
 subst e;refine⟨rfl,fun i b y hb hy=>?_⟩;cases i with
 | zero =>
   simp only[ybq,List.map_cons,List.getElem?_cons_zero]at hb hy;cases hb
   cases hy
   unfold ybh;simp;omega
 |succ i=>simp[ybq]at hb
section
variable {nm nc nr:ByteArray}{g:Gr}{o:List Int}{x:Int}
theorem ybpb(hg:ybc g)(h0:0<=x)(h1:x<=g.ids.length)(k:Nat):yhs (ybq nm nc nr) g (grdC nm nc nr o g (allC g x) k)=true /\
 (∀w,w<g.ids.length->yci (grdC nm nc nr o g (allC g x) k) w=x\/(0<=yci (grdC nm nc nr o g (allC g x) k) w/\yci (grdC nm nc nr o g (allC g x) k) w<=(g.ports.getD w []).length)) /\
 (o.length+g.ids.length<=k->ysy g (grdC nm nc nr o g (allC g x) k)):=by
 have hpl:=hg.2.2.1;have hn:=hg.1
 have hl:∀v∈(zU k).map (yov o g.ports.length),v<g.ids.length:=fun v hv=>by
  obtain⟨i,_,rfl⟩:=List.mem_map.1 hv;have:=(ybbv o (n:=g.ports.length) (by omega) i).2
  omega
 have hV:=ybqz (nm:=nm) (nc:=nc) (nr:=nr) hg h0 h1;obtain⟨a1,a2⟩:=ybns hg hV hl (k:=x) fun v hv=>by unfold yci;rw[yblu hv];rfl
 refine⟨(yss hg _ _ hV hl).1,a1,fun hk=>a2 fun v hv=>?_⟩;refine List.mem_map.2 ⟨o.length+v,List.mem_range.2 (by omega),ybps (by omega)⟩
end
def ytj(g:Gr)(k:Nat):Int:=(zU k).foldl (fun m v=>max m ((g.ports.getD v []).length:Int)) 0
theorem yri(g:Gr)(k:Nat):ytj g (k+1)=max (ytj g k) ((g.ports.getD k []).length:Int):=by
 unfold ytj;rw[zV,zT];rfl
theorem ybdi{g:Gr}{v:Nat}:∀k,v<k->((g.ports.getD v []).length:Int)<=ytj g k
 |0,h=>by omega
 | k + 1,h=>by
   rw[yri]
   by_cases q:v=k
   ·rw[q];omega
   ·have:=ybdi (g:=g) (v:=v) k (by omega)
    omega
namespace Sh
open Ev Go.RowKit
theorem ik64{z:Int}(h1:-9223372036854775808<=z)(h2:z<=9223372036854775807):inK .i64 z:=⟨h1,h2⟩
theorem ybil{z:Int}(h:inK .i64 z):IntKind.wrap .i64 z=z:=by
 unfold inK at h;have e1:IntKind.i64.min = -9223372036854775808:=rfl;have e2:IntKind.i64.max=9223372036854775807:=rfl;rw[e1,e2]at h
 have e:IntKind.wrap .i64 z=if z%18446744073709551616>=9223372036854775808 then z%18446744073709551616-18446744073709551616 else z%18446744073709551616:=by
  show(if (true&&decide (z%18446744073709551616>=9223372036854775808))=true then z%18446744073709551616-18446744073709551616 else z%18446744073709551616)=_
  simp only[zW,decide_eq_true_eq]
 rw[e];split<;>omega
theorem ybag{z:Int}(h1:9223372036854775808<=z)(h2:z<9223372036854775908):IntKind.wrap .i64 z<0:=by
 have e:IntKind.wrap .i64 z=if z%18446744073709551616>=9223372036854775808 then z%18446744073709551616-18446744073709551616 else z%18446744073709551616:=by
  show(if (true&&decide (z%18446744073709551616>=9223372036854775808))=true then z%18446744073709551616-18446744073709551616 else z%18446744073709551616)=_
  simp only[zW,decide_eq_true_eq]
 rw[e];split<;>omega
theorem ybnz:Returns zX 19 [] (.a (.string Kqt)):=by
 refine Returns.of (ycnt _ _ ?_);simp only[c19,yclq,ycpl,go_sem,zC,zA,zD,zB,zI,zF,zG,zH,↓reduceIte,reduceCtorEq];exact Sim.refl _
set_option maxHeartbeats 8000000 in
theorem yup{x:NetR}(hx:x.ok){col:Int}(hc:inK .i64 col){o:List Int}(ho:∀k,inK .i64 (o.getD k 0))(hol:(o.length:Int)<=9223372036854775807):Returns zX 4 [.ag (netC x),.i .i64 col,yj o] (.b true):=by
 refine Returns.of (ycts _ _ ?_);have hC:=ycgd hx (most:=9) (by omega)
 simp only[netC]at hC;simp only[c4,c4_0,c4_1,netC,clash,go_sem,zC,zA,zD,zB,zI,zF,zG,zH,↓reduceIte,reduceCtorEq];refine hC.found (V:=grV) (fun r g h=>h.2.2) fun r g h=>?_;obtain⟨hg,hn9,-⟩:=h;have hI:=yckc hg;have hCh:Checked (Lies KqB Kqv) (Lies KqC Kqr) KqP g:=⟨hg,ycjt,ybne hg,ybts⟩;have hTx:=ybnz;have hPr:=ybfk;have hK:=ybbd;have hpl:=hg.2.2.1;have h1:=hg.1;have hW:=ycw col ((g.ports.length+1:Nat):Int) (by omega) hc
 obtain⟨c0,c1⟩:=ydf (v:=col) (m:=((g.ports.length+1:Nat):Int)) (by omega)
 obtain⟨k,hk⟩:∃k,ybp col ((g.ports.length+1:Nat):Int)=k:=⟨_,rfl⟩;rw[hk]at hW c0 c1;have hcv:=fun i=>(ybpb (nm:=by8 [99,111,108,111,117,114,105,110,103]) (nc:=by8 [99]) (nr:=by8 [102,105,120]) (o:=o) hg c0 (by omega) i).1
 have hcol:=fun i=>(ybpb (nm:=by8 [99,111,108,111,117,114,105,110,103]) (nc:=by8 [99]) (nr:=by8 [102,105,120]) (o:=o) hg c0 (by omega) i).2.1
 have hrt:=fun i=>(ybpb (nm:=by8 [99,111,108,111,117,114,105,110,103]) (nc:=by8 [99]) (nr:=by8 [102,105,120]) (o:=o) hg c0 (by omega) i).2.2
 have hsu:=fun i=>ybio (by8 [99,111,108,111,117,114,105,110,103]) (by8 [99]) (by8 [102,105,120]) o g (allC g k) i;have hz:grdC (by8 [99,111,108,111,117,114,105,110,103]) (by8 [99]) (by8 [102,105,120]) o g (allC g k) 0=allC g k:=rfl;obtain⟨C,hCe⟩:∃C:Nat->Conf,(fun i=>grdC (by8 [99,111,108,111,117,114,105,110,103]) (by8 [99]) (by8 [102,105,120]) o g (allC g k) i)=C:=⟨_,rfl⟩;have hC':∀i,grdC (by8 [99,111,108,111,117,114,105,110,103]) (by8 [99]) (by8 [102,105,120]) o g (allC g k) i=C i:=fun i=>by rw[<-hCe]
 simp only[hC']at hcv hcol hrt hsu hz
 change ∀i,yhs KqP g (C i)=true at hcv
 change ∀i,C (i+1)=if (ybu KqP g (C i)).testBit (yov o g.ports.length i)=true then yia KqP g (C i) (1<<<yov o g.ports.length i)else C i at hsu
 have hlen:∀i,(C i).length=g.ports.length:=fun i=>by rw[(ytd (hcv i)).len,hpl]
 have hone:∀i v,v<g.ports.length->((C i).getD v []).length=1:=fun i v hv=>((ytd (hcv i)).row v (by omega)).1
 have hB:=fun i=>yqp hI (ybdc (yty hg ycjt (hcv i)));have eB:∀i,yte g (C i)=ybu KqP g (C i):=fun i=>by unfold yte;rw[if_pos (ybyw hg (hcv i))];exact ybrh hg
 simp only[eB]at hB;have hEl:=fun i=>ychj KqP g (C i);have hL:=fun i=>ybfc hI (ybdc (yty hg ycjt (hcv i)));have hLr:=fun i=>ybqv hg (hcv i)
 have hSt:=fun i v (hv:(ybu KqP g (C i)).testBit v=true)=>ybma hCh (hcv i) (s:=1<<<v) (by rw[zO];exact Nat.pos_iff_ne_zero.1 (Nat.two_pow_pos v)) (by
  have:v<g.ids.length:=by
   rcases Nat.lt_or_ge v g.ids.length with q|q
   ·exact q
   ·rw[Nat.testBit_lt_two_pow (Nat.lt_of_lt_of_le (hEl i) (zS (by omega) q))]at hv;cases hv
  rw[zO];exact Nat.pow_lt_pow_right (by omega) (by omega)) (fun j hj=>by rw[yur.1 hj];exact hv)
 have h2n:2^g.ids.length<=2^24:=zS (by omega) (by omega)
 have hdg:=fun v=>hg.deg_lt (v:=v);have hds:=yri g;have hdl:=fun v hv=>ybdi (g:=g) (v:=v) g.ports.length hv;have hd0:ytj g 0=0:=rfl
 have hdin:∀i,0<=ytj g i/\ytj g i<=24:=fun i=>by
  induction i with
  |zero=>rw[hd0];omega
  |succ i ih=>rw[hds];have:=hdg i;omega
 obtain⟨n,hn⟩:∃n,g.ports.length=n:=⟨_,rfl⟩;have hT:=fun i=>ybbv o (n:=n) (by omega) i
 rw[hn]at hn9 hpl h1 hW;simp only[hn]at hsu hlen hone hdl;have enp:(n:Int)+1=((n+1:Nat):Int):=by omega
 simp only[grV]at hB hSt hL;simp(maxSteps:=5000000) only [ybe,c4_2,c4_3,grV,ybf,hn,enp,clash,go_sem,zC,zA,zD,zB,zI,zF,zG,zH,↓reduceIte,reduceCtorEq];refine⟨ikw (by omega) (by omega),hW.use ?_⟩
 simp(maxSteps:=5000000) only [ybe,c4_4,c4_5,ybf,hn,splice,clash,go_sem,zC,zA,zD,zB,zI,zF,zG,zH,↓reduceIte,reduceCtorEq];have hal:(allC g k).length=n:=by unfold allC;rw[List.length_replicate];omega
 have haa:∀v,v<n->(allC g k).getD v []=[k]:=fun v hv=>yblu (by omega)
 refine ybj (σ:=Nat) (fun i=>⟨[(11,.i .i64 i),(9,.i .i64 (ytj g i)),(10,.os (100,0) 0 i true),(8,.i .i64 n),(1,.i .i64 k),(2,yj o),(7,.pt (7,0) 0 0)],[(100,.one (some ⟨22,false,1,i,fun _=>[yj [k]]⟩)),(7,.one (some ⟨25,true,2,1,fun _=>[yj g.ids,ybf g.ports]⟩))]⟩) (fun i=>i<=n) (fun i=>n-i) 0 (zQ _) ?_ ?_
 ·refine yh [(100,fun i=>(27,i))] [] [] ?_;simp only[ybf,hn,hd0,Nat.not_lt_zero,allQ,live,zM,zJ,zK,yg,ybb,yer,zL,go_sem,zC,zA,zD,zB,zI,zF,zG,zH,↓reduceIte,reduceCtorEq]
 intro i hi
 by_cases hlt:i<n
 ·have t1:decide ((i:Int)<(n:Int))=true:=decide_eq_true (by omega)
  have hdi:=hds i;have hdx:=hdg i;have hdb:=hdin i;obtain⟨L,hLe⟩:∃L,g.ports.getD i []=L:=⟨_,rfl⟩;rw[hLe]at hdi hdx;simp(maxSteps:=5000000) only [c4_6,c4_8,c4_9,c4_7,ybf,ybd,hn,hLe,t1,splice,clash,go_sem,zC,zA,zD,zB,zI,zF,zG,zH,↓reduceIte,reduceCtorEq]
  repeat (first|refine⟨(⟨by omega,by omega⟩:_/\_),?_⟩|refine⟨(by omega:(_:Prop)),?_⟩|refine⟨(by decide:(_:Prop)),?_⟩|refine⟨ikw (by omega) (by omega),?_⟩)
  refine yu (i+1) (by omega) (by omega) ?_
  refine yh [(100,fun i=>(45,i))] [] [(43,0)] ?_;simp only[yj,hdi,allQ,live,zM,zJ,zK,yg,ybb,yer,zL,go_sem,zC,zA,zD,zB,zI,zF,zG,zH,↓reduceIte,reduceCtorEq];refine⟨fun q hq=>?_,by omega,fun j hj=>?_⟩
  ·obtain rfl:q=0:=by omega
   rfl
  ·by_cases q:j<i
   ·simp only[if_pos q];simp only[go_sem,allQ,live,zM,zJ,zK,yg,ybb,yer,zL,go_sem,zC,zA,zD,zB,zI,zF,zG,zH,↓reduceIte,reduceCtorEq]
   ·obtain rfl:j=i:=by omega
    simp only[if_neg q,Nat.sub_self,Nat.zero_mul];simp only[go_sem,allQ,live,zM,zJ,zK,yg,ybb,yer,zL,go_sem,zC,zA,zD,zB,zI,zF,zG,zH,↓reduceIte,reduceCtorEq];show Sim (.sl 1 1 _) (.sl 1 1 _);refine ybbz fun q hq=>?_;obtain rfl:q=0:=by omega
    rfl
 ·obtain rfl:i=n:=by omega
  have t1:decide ((i:Int)<(i:Int))=false:=decide_eq_false (by omega)
  simp(maxSteps:=5000000) only [c4_6,ycqp,t1,splice,clash,go_sem,zC,zA,zD,zB,zI,zF,zG,zH,↓reduceIte,reduceCtorEq];refine hTx.use ?_;simp(maxSteps:=5000000) only [ybe,clash,go_sem,zC,zA,zD,zB,zI,zF,zG,zH,↓reduceIte,reduceCtorEq];refine hPr.use ?_;simp(maxSteps:=5000000) only [ybe,ycpi,yeu,splice,clash,go_sem,zC,zA,zD,zB,zI,zF,zG,zH,↓reduceIte,reduceCtorEq];obtain⟨B,hBe⟩:∃B,IntKind.wrap .i64 ((o.length:Int)+(i:Int))=B:=⟨_,rfl⟩
  have hBc:(((o.length:Int)+(i:Int)<=9223372036854775807/\B=(o.length:Int)+(i:Int))\/(30<o.length/\B<0)):=by
   by_cases q:(o.length:Int)+(i:Int)<=9223372036854775807
   ·exact .inl ⟨q,by rw[<-hBe];exact ybil (ik64 (by omega) q)⟩
   ·exact .inr ⟨by omega,by rw[<-hBe];exact ybag (by omega) (by omega)⟩
  obtain⟨M,hM⟩:∃M,ytj g i=M:=⟨_,rfl⟩;rw[hM]at hdl;obtain⟨ol,hole⟩:∃q,o.length=q:=⟨_,rfl⟩;rw[hole]at hol hBe hBc;refine ybj (σ:=Nat) (fun j=>⟨[(13,.i .i64 j),(12,.pt (12,0) 0 0),(10,.sl 1 i fun v=>[yj ((C j).getD v [])]),(9,.i .i64 M),(8,.i .i64 i),(1,.i .i64 k),(2,.sl 1 ol fun q=>[.i .i64 (o.getD q 0)]),(7,.pt (7,0) 0 0)],[(12,.one (some ⟨42,true,3,1,fun _=>yeu (Lies KqB Kqv) (Lies KqC Kqr) KqP.raw⟩)),(7,.one (some ⟨25,true,2,1,fun _=>[yj g.ids,ybf g.ports]⟩))]⟩) (fun j=>j<=40) (fun j=>40-j) 0 (zQ _) ?_ ?_
  ·refine yh [] [] [(100,0)] ?_;simp only[yeu,yj,hole,hM,hz,allQ,live,zM,zJ,zK,yg,ybb,yer,zL,go_sem,zC,zA,zD,zB,zI,zF,zG,zH,↓reduceIte,reduceCtorEq];refine ybbz fun q hq=>?_;rw[haa q hq];rfl
  intro j hj;have h0:=hlen j;have h1j:=hone j;have hBj:=hB j;have hEj:=hEl j;have hLj:=hL j;have hLrj:=hLr j;have hStj:=hSt j;have hcolj:=hcol j;have hrtj:=hrt j;have hsuj:=hsu j;obtain⟨D,hD⟩:∃D,C j=D:=⟨_,rfl⟩;rw[hD]at h0 h1j hBj hEj hLj hLrj hStj hcolj hrtj hsuj;obtain⟨E,hE⟩:∃E,ybu KqP g D=E:=⟨_,rfl⟩;rw[hE]at hBj hEj hStj hsuj;simp only[ybk,h0]at hBj hLj hStj
  by_cases hgo:(j:Int)<B/\j<40
  ·have t1:decide ((j:Int)<B)=true:=decide_eq_true hgo.1;have t2:decide ((j:Int)<40)=true:=decide_eq_true (by omega)
   obtain⟨hTe,hTn⟩:=hT j;have hTu:yxl o i j=if j<ol then ybp (o.getD j 0) i else ybp ((j:Int)-ol) i:=by unfold yxl;rw[hole]
   rw[hTe]at hTu;obtain⟨v,hv⟩:∃v,yov o i j=v:=⟨_,rfl⟩;rw[hv]at hTn hTu hsuj;have hBit:=ycen (s:=E) (v:=v) (by omega) (by omega)
   have hW1:=ycw ((j:Int)-ol) ((i:Nat):Int) (by omega) (ik64 (by omega) (by omega))
   have hW2:=ycw (o.getD j 0) ((i:Nat):Int) (by omega) (ho j)
   have sh:=ysx (v:=v) (by omega)
   simp only[IntKind.bits,Int.toNat_natCast]at sh;have hin:inK .i64 ((j:Int)-ol):=ik64 (by omega) (by omega)
   by_cases ho1:j<ol
   ·have t3:decide ((j:Int)<(ol:Int))=true:=decide_eq_true (by omega)
    rw[if_pos ho1]at hTu;rw[<-hTu]at hW2;simp(maxSteps:=5000000) only [ybor,ycfs,ycis,ycsx,hBe,t1,t2,t3,clash,go_sem,zC,zA,zD,zB,zI,zF,zG,zH,↓reduceIte,reduceCtorEq];refine⟨hin,hW1.use ?_⟩;simp(maxSteps:=5000000) only [ybe,t3,clash,go_sem,zC,zA,zD,zB,zI,zF,zG,zH,↓reduceIte,reduceCtorEq];refine⟨by omega,hW2.use ?_⟩
    simp(maxSteps:=5000000) only [ybe,ychk,hD,clash,go_sem,zC,zA,zD,zB,zI,zF,zG,zH,↓reduceIte,reduceCtorEq];refine hBj.use ?_;cases hbt:E.testBit v with
    | true =>
      have hS:=hStj v hbt;rw[hbt,if_pos rfl]at hsuj;rw[hbt]at hBit;rw[<-hsuj,show((1<<<v:Nat):Int)=((2^v:Nat):Int)by rw[zO]]at hS
      have hl1:=hlen (j+1);have f1:((i:Int)!=(i:Int))=false:=by simp
      simp only[yeu]at hS;simp(maxSteps:=5000000) only [ybe,clash,go_sem,zC,zA,zD,zB,zI,zF,zG,zH,↓reduceIte,reduceCtorEq];refine hBit.use ?_;simp(maxSteps:=5000000) only [ybe,ycjw,yeu,ytq (show v<2^32 by omega),sh,hD,clash,go_sem,zC,zA,zD,zB,zI,zF,zG,zH,↓reduceIte,reduceCtorEq]
      repeat (first|refine⟨(⟨by omega,by omega⟩:_/\_),?_⟩|refine⟨(by omega:(_:Prop)),?_⟩)
      refine hS.use ?_;simp(maxSteps:=5000000) only [ybe,ycip,ycfk,ybpn,ybk,hl1,zN,f1,clash,go_sem,zC,zA,zD,zB,zI,zF,zG,zH,↓reduceIte,reduceCtorEq];refine⟨ikw (by omega) (by omega),yu (j+1) (by omega) (by omega) ?_⟩
      refine yh [] [] [] ?_;simp only[yeu,allQ,live,zM,zJ,zK,yg,ybb,yer,zL,go_sem,zC,zA,zD,zB,zI,zF,zG,zH,↓reduceIte,reduceCtorEq];omega
    | false =>
      rw[hbt,if_neg (by decide)]at hsuj
      rw[hbt]at hBit;simp(maxSteps:=5000000) only [ybe,clash,go_sem,zC,zA,zD,zB,zI,zF,zG,zH,↓reduceIte,reduceCtorEq];refine hBit.use ?_;simp(maxSteps:=5000000) only [ybe,ybpn,clash,go_sem,zC,zA,zD,zB,zI,zF,zG,zH,↓reduceIte,reduceCtorEq];refine⟨ikw (by omega) (by omega),yu (j+1) (by omega) (by omega) ?_⟩
      refine yh [] [] [] ?_;simp only[yeu,hsuj,hD,allQ,live,zM,zJ,zK,yg,ybb,yer,zL,go_sem,zC,zA,zD,zB,zI,zF,zG,zH,↓reduceIte,reduceCtorEq];omega
   ·have t3:decide ((j:Int)<(ol:Int))=false:=decide_eq_false (by omega)
    rw[if_neg ho1]at hTu;rw[<-hTu]at hW1;simp(maxSteps:=5000000) only [ybor,ycfs,ycis,hBe,t1,t2,t3,clash,go_sem,zC,zA,zD,zB,zI,zF,zG,zH,↓reduceIte,reduceCtorEq];refine⟨hin,hW1.use ?_⟩;simp(maxSteps:=5000000) only [ybe,t3,ychk,hD,clash,go_sem,zC,zA,zD,zB,zI,zF,zG,zH,↓reduceIte,reduceCtorEq];refine hBj.use ?_;cases hbt:E.testBit v with
    | true =>
      have hS:=hStj v hbt;rw[hbt,if_pos rfl]at hsuj;rw[hbt]at hBit;rw[<-hsuj,show((1<<<v:Nat):Int)=((2^v:Nat):Int)by rw[zO]]at hS
      have hl1:=hlen (j+1);have f1:((i:Int)!=(i:Int))=false:=by simp
      simp only[yeu]at hS;simp(maxSteps:=5000000) only [ybe,clash,go_sem,zC,zA,zD,zB,zI,zF,zG,zH,↓reduceIte,reduceCtorEq];refine hBit.use ?_;simp(maxSteps:=5000000) only [ybe,ycjw,yeu,ytq (show v<2^32 by omega),sh,hD,clash,go_sem,zC,zA,zD,zB,zI,zF,zG,zH,↓reduceIte,reduceCtorEq]
      repeat (first|refine⟨(⟨by omega,by omega⟩:_/\_),?_⟩|refine⟨(by omega:(_:Prop)),?_⟩)
      refine hS.use ?_;simp(maxSteps:=5000000) only [ybe,ycip,ycfk,ybpn,ybk,hl1,zN,f1,clash,go_sem,zC,zA,zD,zB,zI,zF,zG,zH,↓reduceIte,reduceCtorEq];refine⟨ikw (by omega) (by omega),yu (j+1) (by omega) (by omega) ?_⟩
      refine yh [] [] [] ?_;simp only[yeu,allQ,live,zM,zJ,zK,yg,ybb,yer,zL,go_sem,zC,zA,zD,zB,zI,zF,zG,zH,↓reduceIte,reduceCtorEq];omega
    | false =>
      rw[hbt,if_neg (by decide)]at hsuj
      rw[hbt]at hBit;simp(maxSteps:=5000000) only [ybe,clash,go_sem,zC,zA,zD,zB,zI,zF,zG,zH,↓reduceIte,reduceCtorEq];refine hBit.use ?_;simp(maxSteps:=5000000) only [ybe,ybpn,clash,go_sem,zC,zA,zD,zB,zI,zF,zG,zH,↓reduceIte,reduceCtorEq];refine⟨ikw (by omega) (by omega),yu (j+1) (by omega) (by omega) ?_⟩
      refine yh [] [] [] ?_;simp only[yeu,hsuj,hD,allQ,live,zM,zJ,zK,yg,ybb,yer,zL,go_sem,zC,zA,zD,zB,zI,zF,zG,zH,↓reduceIte,reduceCtorEq];omega
  ·cases t1:decide ((j:Int)<B)with
   | false =>
     simp(maxSteps:=5000000) only [ybor,ycgu,hBe,t1,hD,clash,go_sem,zC,zA,zD,zB,zI,zF,zG,zH,↓reduceIte,reduceCtorEq];refine ybj (σ:=Nat) (fun v=>⟨[(17,.i .i64 v),(10,.sl 1 i fun v=>[yj (D.getD v [])]),(9,.i .i64 M),(8,.i .i64 i),(1,.i .i64 k),(2,.sl 1 ol fun q=>[.i .i64 (o.getD q 0)]),(7,.pt (7,0) 0 0)],[(7,.one (some ⟨25,true,2,1,fun _=>[yj g.ids,ybf g.ports]⟩))]⟩) (fun v=>v<=i) (fun v=>i-v) 0 (zQ _) ?_ ?_
     ·refine yh [] [] [] ?_;simp only[hD,allQ,live,zM,zJ,zK,yg,ybb,yer,zL,go_sem,zC,zA,zD,zB,zI,zF,zG,zH,↓reduceIte,reduceCtorEq]
     intro v hv
     by_cases hlv:v<i
     ·have t3:decide ((v:Int)<(i:Int))=true:=decide_eq_true (by omega)
      have hcv:=hcolj v (by omega)
      have hdv:=hdl v hlv;have h1v:=h1j v hlv;have hyv:yci D v=(D.getD v []).getD 0 0:=rfl;obtain⟨R,hR⟩:∃R,D.getD v []=R:=⟨_,rfl⟩;rw[hR]at h1v hyv;obtain⟨y,hy⟩:∃y,yci D v=y:=⟨_,rfl⟩;rw[hy]at hcv hyv;have n1:(((1:Nat):Int)!=1)=false:=rfl
      by_cases q:y=k
      ·have t4:(y != k)=false:=by rw[q];simp
       simp(maxSteps:=5000000) only [ysv,yblo,ybjq,yj,hR,h1v,<-hyv,n1,zN,t3,t4,clash,go_sem,zC,zA,zD,zB,zI,zF,zG,zH,↓reduceIte,reduceCtorEq]
       repeat (first|refine⟨(⟨by omega,by omega⟩:_/\_),?_⟩|refine⟨(by omega:(_:Prop)),?_⟩|refine⟨(by decide:(_:Prop)),?_⟩)
       refine⟨ikw (by omega) (by omega),yu (v+1) (by omega) (by omega) ?_⟩
       refine yh [] [] [] ?_;simp only[yj,allQ,live,zM,zJ,zK,yg,ybb,yer,zL,go_sem,zC,zA,zD,zB,zI,zF,zG,zH,↓reduceIte,reduceCtorEq];omega
      ·have t4:(y != k)=true:=by rw[bne_iff_ne];exact q
       have t5:decide (y>M)=false:=decide_eq_false (by
        rcases hcv with h|h
        ·exact absurd h q
        ·omega)
       simp(maxSteps:=5000000) only [ysv,yblo,ybjq,yj,hR,h1v,<-hyv,n1,zN,t3,t4,t5,clash,go_sem,zC,zA,zD,zB,zI,zF,zG,zH,↓reduceIte,reduceCtorEq]
       repeat (first|refine⟨(⟨by omega,by omega⟩:_/\_),?_⟩|refine⟨(by omega:(_:Prop)),?_⟩|refine⟨(by decide:(_:Prop)),?_⟩)
       refine⟨ikw (by omega) (by omega),yu (v+1) (by omega) (by omega) ?_⟩
       refine yh [] [] [] ?_;simp only[yj,allQ,live,zM,zJ,zK,yg,ybb,yer,zL,go_sem,zC,zA,zD,zB,zI,zF,zG,zH,↓reduceIte,reduceCtorEq];omega
     ·obtain rfl:v=i:=by omega
      have t3:decide ((v:Int)<(v:Int))=false:=decide_eq_false (by omega)
      by_cases q:ol>30
      ·have t4:decide ((ol:Int)>30)=true:=decide_eq_true (by omega)
       simp(maxSteps:=5000000) only [ysv,ybny,t3,t4,clash,go_sem,zC,zA,zD,zB,zI,zF,zG,zH,↓reduceIte,reduceCtorEq];refine hK.use ?_;simp(maxSteps:=5000000) only [ybe,t4,clash,go_sem,zC,zA,zD,zB,zI,zF,zG,zH,↓reduceIte,reduceCtorEq];exact Sim.refl _
      ·have t4:decide ((ol:Int)>30)=false:=decide_eq_false (by omega)
       have hgood:yiu g D=true:=hLrj.2 (hrtj (by rw[hole];omega))
       rw[hgood]at hLj;simp(maxSteps:=5000000) only [ysv,ybny,t3,t4,clash,go_sem,zC,zA,zD,zB,zI,zF,zG,zH,↓reduceIte,reduceCtorEq];refine hK.use ?_;simp(maxSteps:=5000000) only [ybe,t4,clash,go_sem,zC,zA,zD,zB,zI,zF,zG,zH,↓reduceIte,reduceCtorEq];refine hLj.use ?_;simp(maxSteps:=5000000) only [ybe,clash,go_sem,zC,zA,zD,zB,zI,zF,zG,zH,↓reduceIte,reduceCtorEq];exact Sim.refl _
   | true =>
     have t2:decide ((j:Int)<40)=false:=decide_eq_false fun h=>hgo ⟨of_decide_eq_true t1,by omega⟩
     simp(maxSteps:=5000000) only [ybor,ycgu,hBe,t1,t2,hD,clash,go_sem,zC,zA,zD,zB,zI,zF,zG,zH,↓reduceIte,reduceCtorEq];refine ybj (σ:=Nat) (fun v=>⟨[(17,.i .i64 v),(10,.sl 1 i fun v=>[yj (D.getD v [])]),(9,.i .i64 M),(8,.i .i64 i),(1,.i .i64 k),(2,.sl 1 ol fun q=>[.i .i64 (o.getD q 0)]),(7,.pt (7,0) 0 0)],[(7,.one (some ⟨25,true,2,1,fun _=>[yj g.ids,ybf g.ports]⟩))]⟩) (fun v=>v<=i) (fun v=>i-v) 0 (zQ _) ?_ ?_
     ·refine yh [] [] [] ?_;simp only[hD,allQ,live,zM,zJ,zK,yg,ybb,yer,zL,go_sem,zC,zA,zD,zB,zI,zF,zG,zH,↓reduceIte,reduceCtorEq]
     intro v hv
     by_cases hlv:v<i
     ·have t3:decide ((v:Int)<(i:Int))=true:=decide_eq_true (by omega)
      have hcv:=hcolj v (by omega)
      have hdv:=hdl v hlv;have h1v:=h1j v hlv;have hyv:yci D v=(D.getD v []).getD 0 0:=rfl;obtain⟨R,hR⟩:∃R,D.getD v []=R:=⟨_,rfl⟩;rw[hR]at h1v hyv;obtain⟨y,hy⟩:∃y,yci D v=y:=⟨_,rfl⟩;rw[hy]at hcv hyv;have n1:(((1:Nat):Int)!=1)=false:=rfl
      by_cases q:y=k
      ·have t4:(y != k)=false:=by rw[q];simp
       simp(maxSteps:=5000000) only [ysv,yblo,ybjq,yj,hR,h1v,<-hyv,n1,zN,t3,t4,clash,go_sem,zC,zA,zD,zB,zI,zF,zG,zH,↓reduceIte,reduceCtorEq]
       repeat (first|refine⟨(⟨by omega,by omega⟩:_/\_),?_⟩|refine⟨(by omega:(_:Prop)),?_⟩|refine⟨(by decide:(_:Prop)),?_⟩)
       refine⟨ikw (by omega) (by omega),yu (v+1) (by omega) (by omega) ?_⟩
       refine yh [] [] [] ?_;simp only[yj,allQ,live,zM,zJ,zK,yg,ybb,yer,zL,go_sem,zC,zA,zD,zB,zI,zF,zG,zH,↓reduceIte,reduceCtorEq];omega
      ·have t4:(y != k)=true:=by rw[bne_iff_ne];exact q
       have t5:decide (y>M)=false:=decide_eq_false (by
        rcases hcv with h|h
        ·exact absurd h q
        ·omega)
       simp(maxSteps:=5000000) only [ysv,yblo,ybjq,yj,hR,h1v,<-hyv,n1,zN,t3,t4,t5,clash,go_sem,zC,zA,zD,zB,zI,zF,zG,zH,↓reduceIte,reduceCtorEq]
       repeat (first|refine⟨(⟨by omega,by omega⟩:_/\_),?_⟩|refine⟨(by omega:(_:Prop)),?_⟩|refine⟨(by decide:(_:Prop)),?_⟩)
       refine⟨ikw (by omega) (by omega),yu (v+1) (by omega) (by omega) ?_⟩
       refine yh [] [] [] ?_;simp only[yj,allQ,live,zM,zJ,zK,yg,ybb,yer,zL,go_sem,zC,zA,zD,zB,zI,zF,zG,zH,↓reduceIte,reduceCtorEq];omega
     ·obtain rfl:v=i:=by omega
      have t3:decide ((v:Int)<(v:Int))=false:=decide_eq_false (by omega)
      by_cases q:ol>30
      ·have t4:decide ((ol:Int)>30)=true:=decide_eq_true (by omega)
       simp(maxSteps:=5000000) only [ysv,ybny,t3,t4,clash,go_sem,zC,zA,zD,zB,zI,zF,zG,zH,↓reduceIte,reduceCtorEq];refine hK.use ?_;simp(maxSteps:=5000000) only [ybe,t4,clash,go_sem,zC,zA,zD,zB,zI,zF,zG,zH,↓reduceIte,reduceCtorEq];exact Sim.refl _
      ·have t4:decide ((ol:Int)>30)=false:=decide_eq_false (by omega)
       have hgood:yiu g D=true:=hLrj.2 (hrtj (by rw[hole];omega))
       rw[hgood]at hLj;simp(maxSteps:=5000000) only [ysv,ybny,t3,t4,clash,go_sem,zC,zA,zD,zB,zI,zF,zG,zH,↓reduceIte,reduceCtorEq];refine hK.use ?_;simp(maxSteps:=5000000) only [ybe,t4,clash,go_sem,zC,zA,zD,zB,zI,zF,zG,zH,↓reduceIte,reduceCtorEq];refine hLj.use ?_;simp(maxSteps:=5000000) only [ybe,clash,go_sem,zC,zA,zD,zB,zI,zF,zG,zH,↓reduceIte,reduceCtorEq];exact Sim.refl _
end Sh
end
end Go.Proofs.YtiejahgklcjhkaaGreat
