/- Joined. -/
import Derived.Test.YtiejahgklcjhkaaGreatDoorPkU14
set_option linter.unusedSimpArgs false
set_option linter.unusedVariables false
set_option maxRecDepth 8000
open Nat renaming reduceEqDiff→zA,reduceLeDiff→zB,reduceAdd→zD,reduceBEq→zF,reduceLT→zG,reduceBNe→zH,reduceMul→zI,le_refl→zT,zero_le→zAD,sub_self→zAE,not_lt_zero→zAI,zero_mul→zAQ,lt_of_lt_of_le→zAU,lt_or_ge→zBG,le_succ→zBH
open Int renaming reduceToNat→zC,natCast_zero→zJ,eq_ofNat_of_zero_le→zAF,reduceBEq→zAL,toNat_natCast→zAN,le_refl→zAX
open List renaming getElem?_eq_getElem→zK,length_append→zQ,range→zS,length_cons→zU,length_map→zV,getD_eq_getElem?_getD→zW,mem_cons_of_mem→zX,getD→zY,getElem_map→zZ,length_singleton→zAA,getElem_mem→zAB,not_mem_nil→zAC,take_succ_eq_append_getElem→zAG,filter_cons→zAH,mem_cons_self→zAJ,getElem?_map→zAM,take_length→zAO,getElem?_take_of_lt→zAP,getElem?_cons_zero→zAR,getElem?_set_self→zAS,getElem?_set_ne→zAT,foldl_append→zAV,length→zAW,countP_cons→zAZ,length_nil→zBA,countP_nil→zBB,map_cons→zBE
open Option renaming getD_none→zL,getD_some→zM,getD→zN
open Go.Lib renaming hid→zO
open Go.Proofs.Tryz renaming prog→zAK,ntmps102→zBD,func102→zBF
open Bool renaming and_eq_true→zAY,true_and→zBC
open Go
namespace Go.Proofs.YtiejahgklcjhkaaGreatDoor
section
namespace Sh
open Ev Go.RowKit
def ysb(l:List Int)(k:Nat):Int:=(l.take k).foldl max 0
theorem ybzq{l:List Int}(h:∀x∈l,0<=x/\x<=255):∀k,0<=ysb l k/\ysb l k<=255:=by
 intro k;unfold ysb
 have:∀(l:List Int) (a:Int),(∀x∈l,0<=x/\x<=255)->0<=a/\a<=255->0<=l.foldl max a/\l.foldl max a<=255:=by
  intro l
  induction l with
  |nil=>intro a _ h;exact h
  |cons x l ih=>intro a hl ha;exact ih _ (fun y hy=>hl y (zX _ hy)) (by have:=hl x zAJ;omega)
 exact this _ 0 (fun x hx=>h x (List.mem_of_mem_take hx)) (by omega)
theorem ybkc{l:List Int}{k:Nat}(hk:k<l.length):ysb l (k+1)=max (ysb l k) (l.getD k 0):=by
 unfold ysb;rw[zAG hk,zAV,getD_at hk];rfl
theorem ybku{l:List Int}(h:∀x∈l,0<=x/\x<=255)(hl:0<l.length):ysb l l.length=maxI l:=by
 unfold ysb;rw[zAO];exact(ybfu hl fun x hx=>(h x hx).1).symm
theorem ymj{vars:List VarR}{b:VarR->Int×Int}{L:List Int}(h:yec ((vars.take L.length).map b) L)(hl:L.length<vars.length){y:Int}(hy:(b (vars.getD L.length default)).1<=y/\y<=(b (vars.getD L.length default)).2):yec ((vars.take (L++[y]).length).map b) (L++[y]):=by
 refine⟨by simp;omega,fun i c x hb hx=>?_⟩
 rw[zQ,zAA,zAM]at hb;have hi:i<L.length+1:=by have:=(List.getElem?_eq_some_iff.1 hx).1;simpa using this
 rw[zAP hi]at hb
 by_cases q:i<L.length
 ·rw[List.getElem?_append_left q]at hx;refine h.2 i c x ?_ hx;rw[zAM,zAP q];exact hb
 ·obtain rfl:i=L.length:=by omega
  rw[List.getElem?_append_right (zT _),zAE]at hx;cases hx
  rw[zK hl]at hb;cases hb
  rw[getD_at hl]at hy;exact hy
section
variable {p:ProgT}{g:Gr}
def cfgV(p:ProgT)(g:Gr)(raw:List Int)(v i:Nat):Int:=(ybh g v (p.vars.getD i default)).1+ybw (atP raw (v*p.vars.length+i)) ((ybh g v (p.vars.getD i default)).2-(ybh g v (p.vars.getD i default)).1+1)
def yue(p:ProgT)(g:Gr)(raw:List Int)(v:Nat):List Int:=(zS p.vars.length).map (cfgV p g raw v)
theorem ypj{α:Type}{f:Nat->α}{L:List α}{y:α}(h:L=(zS L.length).map f)(hy:y=f L.length):L++[y]=(zS (L++[y]).length).map f:=by
 rw[zQ,zAA,List.range_succ,List.map_append,<-h,hy];rfl
theorem ybdc(hg:ybb g)(hp:p.ok=true)(hf:yvt p g=true){raw:List Int}(hr:∀k,inK .i64 (raw.getD k 0)) :
 Ct zAK 24 [grV g,ycd p.vars,yw raw] fun r=>∃c,(yhb p g c=true/\c=(zS g.ports.length).map (yue p g raw))/\Sim r (ybj c):=by
 refine ydbc _ _ ?_;have hid:=hg.2.2.1;have h24:=hg.2.1;have h1:=hg.1;have hids:=hg.2.2.2.1;simp only[c24,yczy,yczz,yczb,grV,ybe,go_sem,zC,zA,zD,zB,zG,zF,zH,zI,↓reduceIte,reduceCtorEq];obtain⟨n,hn⟩:∃n,g.ports.length=n:=⟨_,rfl⟩;refine ybl (σ:=Nat) (fun k=>⟨[(9,.i .i64 k),(8,.i .i64 (ysb g.ids k)),(7,.i .i64 n),(3,.pt (3,0) 0 0),(1,ycd p.vars),(2,yw raw)],[(3,.one (some ⟨27,true,2,1,fun _=>[yw g.ids,ybe g.ports]⟩))]⟩) (fun k=>k<=n) (fun k=>n-k) 0 (zAD _) ?_ ?_
 ·refine yh [] [] [] ?_;simp only[ybe,hn,allQ,live,zN,zL,zM,yc,yu,ybi,zJ,go_sem,zC,zA,zD,zB,zG,zF,zH,zI,↓reduceIte,reduceCtorEq];rfl
 ·intro k hk;have htop:=ybzq hids k;simp only[ydbn,yczq,ydbi,ycxq,ycyw,yw,go_sem,zC,zA,zD,zB,zG,zF,zH,zI,↓reduceIte,reduceCtorEq];refine⟨fun hlt=>?_,fun hlt=>?_⟩
  ·have hs:=ybkc (l:=g.ids) (k:=k) (by omega)
   refine⟨by omega,ikw (by omega) (by omega),?_⟩
   refine yj (k+1) (by omega) (by omega) ?_
   refine yh [] [] [] ?_;simp only[yw,allQ,live,zN,zL,zM,yc,yu,ybi,zJ,go_sem,zC,zA,zD,zB,zG,zF,zH,zI,↓reduceIte,reduceCtorEq];exact⟨by omega,hs.symm⟩
  ·obtain rfl:k=n:=by omega
   have htm:ysb g.ids k=maxI g.ids:=by rw[<-hn,<-hid];exact ybku hids (by omega)
   rw[htm]at htop ⊢;obtain⟨top,htp⟩:∃t,maxI g.ids=t:=⟨_,rfl⟩;rw[htp]at htop ⊢;obtain⟨nv,hnv⟩:∃k,p.vars.length=k:=⟨_,rfl⟩;have hp':=hp;unfold ProgT.ok at hp';simp only[zAY,decide_eq_true_eq]at hp'
   refine ybl (σ:=Conf) (fun C=>⟨[(11,.i .i64 C.length),(10,.os (300,0) 0 C.length true),(8,.i .i64 top),(7,.i .i64 k),(3,.pt (3,0) 0 0),(1,ycd p.vars),(2,yw raw)],
    [(3,.one (some ⟨27,true,2,1,fun _=>[yw g.ids,ybe g.ports]⟩)),(300,.one (some ⟨22,false,1,C.length,fun j=>[yw (C.getD j [])]⟩))]⟩)
    (fun C=>(C.length<=k/\∀v,v<C.length->yec (p.vars.map (ybh g v)) (C.getD v []))/\C=(zS C.length).map (yue p g raw)) (fun C=>k-C.length) [] ⟨⟨zAD _,fun v hv=>absurd hv (zAI v)⟩,rfl⟩ ?_ ?_
   ·refine yh [] [300] [] ?_;simp only[yw,ybe,zBA,allQ,live,zN,zL,zM,yc,yu,ybi,zJ,go_sem,zC,zA,zD,zB,zG,zF,zH,zI,↓reduceIte,reduceCtorEq];exact⟨(300,0),rfl,rfl,rfl⟩
   ·rintro C ⟨⟨hC1,hC2⟩,hC3⟩;simp only[ydcb,yclh,yccu,yw,go_sem,zC,zA,zD,zB,zG,zF,zH,zI,↓reduceIte,reduceCtorEq];refine⟨fun hlt=>?_,fun hlt=>?_⟩
    ·refine ybl (σ:=List Int) (fun L=>⟨[(13,.i .i64 L.length),(12,.os (301,0) 0 L.length true),(11,.i .i64 C.length),(10,.os (300,0) 0 C.length true),(8,.i .i64 top),(7,.i .i64 k),(3,.pt (3,0) 0 0),(1,ycd p.vars),(2,yw raw)],
      [(301,.one (some ⟨3,false,1,L.length,fun j=>[.i .i64 (L.getD j 0)]⟩)),(3,.one (some ⟨27,true,2,1,fun _=>[yw g.ids,ybe g.ports]⟩)),(300,.one (some ⟨22,false,1,C.length,fun j=>[yw (C.getD j [])]⟩))]⟩)
      (fun L=>(L.length<=nv/\yec ((p.vars.take L.length).map (ybh g C.length)) L)/\L=(zS L.length).map (cfgV p g raw C.length)) (fun L=>nv-L.length) [] ⟨⟨zAD _,rfl,fun i b x hb=>by simp at hb⟩,rfl⟩ ?_ ?_
     ·refine yh [] [301] [] ?_;simp only[yw,ybe,zBA,allQ,live,zN,zL,zM,yc,yu,ybi,zJ,go_sem,zC,zA,zD,zB,zG,zF,zH,zI,↓reduceIte,reduceCtorEq];exact⟨(301,0),rfl,rfl,rfl⟩
     ·rintro L ⟨⟨hL1,hL2⟩,hL3⟩;obtain⟨x,hx⟩:∃x,p.vars.getD L.length default=x:=⟨_,rfl⟩;simp only[ycju,ycfr,ychv,yw,ycd,hnv,hx,varC,clash,go_sem,zC,zA,zD,zB,zG,zF,zH,zI,↓reduceIte,reduceCtorEq];refine⟨fun hlt2=>?_,fun hlt2=>?_⟩
      ·have hLn:L.length<p.vars.length:=by omega
       have hxm:x∈p.vars:=by rw[<-hx,getD_at hLn];exact zAB _
       have hxo:=List.all_eq_true.1 hp'.1.1.2 x hxm;have hvo:=ybax hxo;obtain⟨hb1,hb2⟩:=ylo hg hxo;rw[hid,hn]at hb1;rw[htp]at hb2;have hbn:=ybep hg hp hf hxm C.length;have hidx:(C.length:Int)*(nv:Int)+(L.length:Int)=((C.length*nv+L.length:Nat):Int):=by push_cast;rfl
       have hdeg:=hg.deg_lt (v:=C.length);have hmi:(C.length:Int)*(nv:Int)=((C.length*nv:Nat):Int):=by push_cast;rfl
       have hmul:C.length*nv<=24*6:=Nat.mul_le_mul (by omega) (by omega)
       have hAt:=at_ret raw (C.length*nv+L.length);have hav:inK .i64 (atP raw (C.length*nv+L.length)):=hr _;simp only[yw]at hAt;refine⟨by omega,by omega,by omega,ikw (by omega) (by omega),ikw (by omega) (by omega),by omega,ikw (by omega) (by omega),ikw (by omega) (by omega),by omega,?_⟩
       rcases hvo.1 with hkk|hkk|hkk
       ·have hbt:ybh g C.length x=(x.lo,x.hi+x.perNode*(k:Int)+x.perID*top):=by
         unfold ybh;rw[if_pos hkk,hid,hn,htp]
        rw[hbt]at hbn;simp only[]at hbn;simp only[hkk];simp only[ybeo,ybgf,ybgo,ybgw,ybgr,ycd,hnv,clash,zAL,yjk,hidx,go_sem,zC,zA,zD,zB,zG,zF,zH,zI,↓reduceIte,reduceCtorEq];refine⟨by rw[hmi];exact ikw (by omega) (by omega),ikw (by omega) (by omega),hAt.use ?_⟩
        simp only[ybf,go_sem,zC,zA,zD,zB,zG,zF,zH,zI,↓reduceIte,reduceCtorEq];have hW:=ydl (atP raw (C.length*nv+L.length)) (x.hi+x.perNode*(k:Int)+x.perID*top-(x.lo)+1) (by omega) hav
        obtain⟨w1,w2⟩:=yee (v:=atP raw (C.length*nv+L.length)) (m:=x.hi+x.perNode*(k:Int)+x.perID*top-(x.lo)+1) (by omega)
        generalize hWe:ybw (atP raw (C.length*nv+L.length)) (x.hi+x.perNode*(k:Int)+x.perID*top-(x.lo)+1)=W at hW w1 w2
        refine⟨ikw (by omega) (by omega),ikw (by omega) (by omega),hW.use ?_⟩
        simp only[ybf,ybgs,splice,go_sem,zC,zA,zD,zB,zG,zF,zH,zI,↓reduceIte,reduceCtorEq];refine⟨ikw (by omega) (by omega),⟨by omega,by omega⟩,ikw (by omega) (by omega),?_⟩
        refine yj (L++[x.lo+W]) ⟨⟨by simp;omega,ymj hL2 hLn (by rw[hx,hbt];exact⟨by simp only[];omega,by simp only[];omega⟩)⟩,ypj hL3 (by unfold cfgV;rw[hx,hbt,hnv];simp only[];rw[hWe])⟩ (by simp;omega) ?_
        refine yh [(301,fun i=>(101,i))] [] [] ?_;simp only[yw,ybe,ybc,ycd,varC,hnv,hn,zQ,allQ,live,zN,zL,zM,yc,yu,ybi,zJ,go_sem,zC,zA,zD,zB,zG,zF,zH,zI,↓reduceIte,reduceCtorEq];refine⟨by omega,fun i hi=>?_⟩
        rw[yqv]
        by_cases q:i<L.length
        ·simp only[if_pos q];simp only[allQ,live,zN,zL,zM,yc,yu,ybi,zJ,go_sem,zC,zA,zD,zB,zG,zF,zH,zI,↓reduceIte,reduceCtorEq]
        ·obtain rfl:i=L.length:=by omega
         simp only[if_neg q,zAE,zAQ];simp only[allQ,live,zN,zL,zM,yc,yu,ybi,zJ,go_sem,zC,zA,zD,zB,zG,zF,zH,zI,↓reduceIte,reduceCtorEq]
       ·have hbt:ybh g C.length x=(0,1):=by
         unfold ybh;rw[if_neg (by omega),if_pos hkk]
        rw[hbt]at hbn;simp only[]at hbn;simp only[hkk];simp only[ybeo,ybgf,ybgo,ybgw,ybgr,ycd,hnv,clash,zAL,yjk,hidx,go_sem,zC,zA,zD,zB,zG,zF,zH,zI,↓reduceIte,reduceCtorEq];refine⟨by rw[hmi];exact ikw (by omega) (by omega),ikw (by omega) (by omega),hAt.use ?_⟩
        simp only[ybf,go_sem,zC,zA,zD,zB,zG,zF,zH,zI,↓reduceIte,reduceCtorEq];have hW:=ydl (atP raw (C.length*nv+L.length)) (1-(0)+1) (by omega) hav
        obtain⟨w1,w2⟩:=yee (v:=atP raw (C.length*nv+L.length)) (m:=1-(0)+1) (by omega)
        generalize hWe:ybw (atP raw (C.length*nv+L.length)) (1-(0)+1)=W at hW w1 w2
        refine⟨ikw (by omega) (by omega),ikw (by omega) (by omega),hW.use ?_⟩
        simp only[ybf,ybgs,splice,go_sem,zC,zA,zD,zB,zG,zF,zH,zI,↓reduceIte,reduceCtorEq];refine⟨ikw (by omega) (by omega),⟨by omega,by omega⟩,ikw (by omega) (by omega),?_⟩
        refine yj (L++[0+W]) ⟨⟨by simp;omega,ymj hL2 hLn (by rw[hx,hbt];exact⟨by simp only[];omega,by simp only[];omega⟩)⟩,ypj hL3 (by unfold cfgV;rw[hx,hbt,hnv];simp only[];rw[hWe])⟩ (by simp;omega) ?_
        refine yh [(301,fun i=>(101,i))] [] [] ?_;simp only[yw,ybe,ybc,ycd,varC,hnv,hn,zQ,allQ,live,zN,zL,zM,yc,yu,ybi,zJ,go_sem,zC,zA,zD,zB,zG,zF,zH,zI,↓reduceIte,reduceCtorEq];refine⟨by omega,fun i hi=>?_⟩
        rw[yqv]
        by_cases q:i<L.length
        ·simp only[if_pos q];simp only[allQ,live,zN,zL,zM,yc,yu,ybi,zJ,go_sem,zC,zA,zD,zB,zG,zF,zH,zI,↓reduceIte,reduceCtorEq]
        ·obtain rfl:i=L.length:=by omega
         simp only[if_neg q,zAE,zAQ];simp only[allQ,live,zN,zL,zM,yc,yu,ybi,zJ,go_sem,zC,zA,zD,zB,zG,zF,zH,zI,↓reduceIte,reduceCtorEq]
       ·have hbt:ybh g C.length x=(-1,((g.ports.getD C.length []).length:Int)-1):=by
         unfold ybh;rw[if_neg (by omega),if_neg (by omega),if_pos hkk]
        rw[hbt]at hbn;simp only[]at hbn;simp only[hkk];simp only[ybeo,ybgf,ybgo,ybgw,ybgr,ycd,hnv,clash,zAL,yjk,hidx,ybe,ybc,hn,go_sem,zC,zA,zD,zB,zG,zF,zH,zI,↓reduceIte,reduceCtorEq];refine⟨by omega,ikw (by omega) (by omega),by rw[hmi];exact ikw (by omega) (by omega),ikw (by omega) (by omega),hAt.use ?_⟩
        simp only[ybf,go_sem,zC,zA,zD,zB,zG,zF,zH,zI,↓reduceIte,reduceCtorEq];have hW:=ydl (atP raw (C.length*nv+L.length)) (((g.ports.getD C.length []).length:Int)-1-(-1)+1) (by omega) hav
        obtain⟨w1,w2⟩:=yee (v:=atP raw (C.length*nv+L.length)) (m:=((g.ports.getD C.length []).length:Int)-1-(-1)+1) (by omega)
        generalize hWe:ybw (atP raw (C.length*nv+L.length)) (((g.ports.getD C.length []).length:Int)-1-(-1)+1)=W at hW w1 w2
        refine⟨ikw (by omega) (by omega),ikw (by omega) (by omega),hW.use ?_⟩
        simp only[ybf,ybgs,splice,go_sem,zC,zA,zD,zB,zG,zF,zH,zI,↓reduceIte,reduceCtorEq];refine⟨ikw (by omega) (by omega),⟨by omega,by omega⟩,ikw (by omega) (by omega),?_⟩
        refine yj (L++[-1+W]) ⟨⟨by simp;omega,ymj hL2 hLn (by rw[hx,hbt];exact⟨by simp only[];omega,by simp only[];omega⟩)⟩,ypj hL3 (by unfold cfgV;rw[hx,hbt,hnv];simp only[];rw[hWe])⟩ (by simp;omega) ?_
        refine yh [(301,fun i=>(101,i))] [] [] ?_;simp only[yw,ybe,ybc,ycd,varC,hnv,hn,zQ,allQ,live,zN,zL,zM,yc,yu,ybi,zJ,go_sem,zC,zA,zD,zB,zG,zF,zH,zI,↓reduceIte,reduceCtorEq];refine⟨by omega,fun i hi=>?_⟩
        rw[yqv]
        by_cases q:i<L.length
        ·simp only[if_pos q];simp only[allQ,live,zN,zL,zM,yc,yu,ybi,zJ,go_sem,zC,zA,zD,zB,zG,zF,zH,zI,↓reduceIte,reduceCtorEq]
        ·obtain rfl:i=L.length:=by omega
         simp only[if_neg q,zAE,zAQ];simp only[allQ,live,zN,zL,zM,yc,yu,ybi,zJ,go_sem,zC,zA,zD,zB,zG,zF,zH,zI,↓reduceIte,reduceCtorEq]
      ·have hLe:L.length=nv:=by omega
       rw[hLe,<-hnv,zAO]at hL2;simp only[ydcn,ycda,splice,go_sem,zC,zA,zD,zB,zG,zF,zH,zI,↓reduceIte,reduceCtorEq];refine⟨⟨by omega,by omega⟩,ikw (by omega) (by omega),?_⟩
       refine yj (C++[L]) ⟨⟨by simp;omega,fun v hv=>?_⟩,ypj hC3 (by unfold yue;rw[hnv,<-hLe];exact hL3)⟩ (by simp;omega) ?_
       ·rw[yqv];split
        ·exact hC2 v (by assumption)
        ·have:v=C.length:=by simp at hv;omega
         subst this;rw[if_pos rfl];exact hL2
       refine yh [(300,fun i=>(105,i))] [] [(301,0)] ?_;simp only[yw,ybe,ybc,ycd,varC,hnv,hn,zQ,allQ,live,zN,zL,zM,yc,yu,ybi,zJ,go_sem,zC,zA,zD,zB,zG,zF,zH,zI,↓reduceIte,reduceCtorEq];refine⟨by omega,fun i hi=>?_⟩
       have e:=yqv C L [] i;rw[e]
       by_cases q:i<C.length
       ·simp only[if_pos q];simp only[go_sem,allQ,live,zN,zL,zM,yc,yu,ybi,zJ,go_sem,zC,zA,zD,zB,zG,zF,zH,zI,↓reduceIte,reduceCtorEq]
       ·obtain rfl:i=C.length:=by omega
        simp only[if_neg q,zAE,zAQ,if_true];simp only[go_sem,allQ,live,zN,zL,zM,yc,yu,ybi,zJ,go_sem,zC,zA,zD,zB,zG,zF,zH,zI,↓reduceIte,reduceCtorEq]
    ·simp only[yccp,go_sem,zC,zA,zD,zB,zG,zF,zH,zI,↓reduceIte,reduceCtorEq];refine⟨C,⟨(ydu _ _ _).2 ⟨by omega,fun v st hst=>?_⟩,?_⟩,Sim.refl _⟩
     rotate_left
     ·have e:=hC3;rw[show C.length=g.ports.length by omega]at e
      exact e
     have hv:=(List.getElem?_eq_some_iff.1 hst).1;have:=hC2 v hv
     rwa [zY,hst]at this
end
end Sh
end
section
namespace Sh
open Ev Go.RowKit
def blV(l:List Bool):SV:=.sl 1 l.length (fun k=>[.b (l.getD k false)])
def ycbc(l:List Bool)(k:Nat):Bool:=(l.take k).any id
structure HeldOk(legit:List Bool)(ks:List Cnt)(rounds moves:Int)(ended:Bool):Prop where
 len:legit.length=ks.length
 pos:0<legit.length
 stays:∀i,i<legit.length->ycbc legit i=true->legit.getD i false=true
 rounds:∀i,i<legit.length->ycbc legit (i+1)=false->((ks.getD i default).begun:Int)<=rounds
 moves:∀i,i<legit.length->ycbc legit (i+1)=false->0<=moves->((ks.getD i default).moves:Int)<=moves
 ends:ycbc legit legit.length=true\/ended=false
theorem ycuo{Q1 Q2:(Nat->Option ABlk)->Value->Prop}{p:ProgT}{g:Gr}{t:ByteArray}(hpr:Returns zAK 37 [.a (.string t)] (.ag (yff Q1 Q2 p.raw)))(h:Checked Q1 Q2 p g){kind:Int}(hk:1<=kind/\kind<=4){res:Nat->Nat->Nat}(hd:DaemonOk kind (g.ports.map netP) res){c:Conf}(hc:yhb p g c=true){ws:List Nat}(hw:∀k,ws.getD k 0<2^32)(hwl:ws.length<=4000) :
 Returns zAK 22 [.a (.string t),grV g,.i .i64 kind,ybj c,usV ws] (.tp [yef (((ybu p g).runs res ws c).map (·.1)),ygu (((ybu p g).runs res ws c).map (·.2)),.b true]):=by
 refine Returns.of (ydad _ _ ?_);have hX:=yblx h hk hd hc hw hwl;obtain⟨R,hR⟩:∃R,(ybu p g).runs res ws c=R:=⟨_,rfl⟩;rw[hR]at hX ⊢;have hRl:0<R.length:=by rw[<-hR];simp[Sys.runs]
 obtain⟨m,hm⟩:∃m,R.length=m:=⟨_,rfl⟩;rw[hm]at hRl;have f1:((m:Int)==(m:Int))=true:=by simp
 have f2:decide ((m:Int)>0)=true:=by simp;omega
 simp only[yff]at hpr hX;simp only[grV,usV,yef,ygu,zV,hm]at hX;simp only[c22,yddv,yczs,grV,usV,yff,clash,go_sem,zC,zA,zD,zB,zG,zF,zH,zI,↓reduceIte,reduceCtorEq];refine hpr.use ?_;simp only[ybf,clash,go_sem,zC,zA,zD,zB,zG,zF,zH,zI,↓reduceIte,reduceCtorEq];refine hX.use ?_;simp(maxSteps:=5000000) only [ybf,ydcm,clash,zAL,f1,f2,go_sem,zC,zA,zD,zB,zG,zF,zH,zI,↓reduceIte,reduceCtorEq];refine⟨by decide,?_⟩
 unfold yef ygu;rw[zV,zV,hm];exact Sim.refl _
end Sh
end
section
open Go.RowKit
end
section
open Go.RowKit
end
section
namespace Sh
open Ev Go.RowKit
theorem ycax{n nv:Nat}{c:Conf}(h:ConfIn n nv c):ybra c:=fun s hs x hx=>by
 have:=(h.row s hs).2 x hx;unfold InB at this;exact ygv (by omega)
end Sh
end
section
def ybrc(ls:List (Int×Int))(b:Int):Bool:=ls.any fun l=>decide (l.1=b)
namespace Sh
open Ev Go.RowKit
end Sh
end
section
namespace Sh
open Go Ev
theorem Cm.ct{P:Program}{g:FuncId}{args:List SV}{Q:SV->Own->Prop}{R:SV->Prop}(h:Cm P g [] [] args Q)(hq:∀r o',Q r o'->vok o' 5 r/\R (view o' 5 r)):Ct P g args R:=by
 intro G m us hw hle hargs
 have hc0:Conc m.next G om0 ⟨[],[]⟩ ⟨0,.leaf⟩ (enterM m) :=
  ⟨hw,zT _,zT _,hle,fun β b h=>(by cases h),fun β _=>rfl,fun β γ k z k' z' h=>(by cases h),fun β k z h=>(by cases h),fun t v hv=>(by cases hv)⟩
 obtain⟨v,m1,r,o',F',ω',s0,t2,hrv,l1,l2,_,_,hQ⟩:=h m.next G om0 ⟨0,.leaf⟩ (enterM m) us hc0 hargs
 obtain⟨r3,r4⟩:=hq r o' hQ
 have hs0:ybq P (.call g us m) (.call v m1):=by
  obtain⟨n,b,l⟩:=m;exact ybq.relow s0
 have hm1:m.next<=m1.low:=t2.low
 have hold:∀{i x},m.b.get i=some x->i<m.next:=fun {i x} q=>hw i x q
 have hview:∀H:AM,Le F' H->(∀β k z,ω' β=some (some (k,z))->∀b,m1.b.get k=some b->H k=some b)->RV H om0 (view o' 5 r) v:=fun H h1 h2=>yhk t2 h1 h2 hrv r3
 have hs1:ybq P (.call g us m) (.call v ⟨m1.next,yfr m.b m1.b,m1.low⟩):=by
  intro hwm;obtain⟨ext,hcall⟩:=hs0 hwm
  have hget:∀{i x},(yfr m.b m1.b).get i=some x->m.b.get i=some x\/m1.b.get i=some x:=fun {i x} q=>by
   rw[yco]at q;split at q
   ·rename_i y hy;cases q;exact .inl hy
   ·exact .inr q
  refine⟨⟨ext.next,fun i b hq=>?_,fun i b h1 h2 hq=>?_,fun i b hq=>?_⟩,fun φ M w args' hR hs ha hf=>?_⟩
  ·rcases hget hq with q|q
   ·exact .inl ⟨b,q⟩
   ·exact ext.dom i b q
  ·rcases hget hq with q|q
   ·exact q
   ·exact ext.old i b h1 h2 q
  ·rcases hget hq with q|q
   ·exact zAU (hold q) ext.next
   ·exact ext.wf i b q
  ·refine(hcall φ M w args' hR hs ha hf).mono ?_;rintro e' w' ⟨v',rfl,φ',M',hgd,hv⟩;refine⟨v',rfl,φ',M',⟨hgd.le,hgd.out,hgd.rel,fun i b hq=>?_,hgd.frame,hgd.wg⟩,hv⟩;rcases hget hq with q|q
   ·have hi:=hold q;rw[hgd.frame i (fun z=>by omega) (.inr (zAU hi hm1))]
    exact hs i b q
   ·exact hgd.sub i b q
 have hnone:∀{i},m.next<=i->m.b.get i=none:=fun {i} q=>by
  cases hh:m.b.get i with
  |none=>rfl
  |some x=>have:=hold hh;omega
 refine⟨_,_,view o' 5 r,hs1,hm1,fun i b hq=>?_,r4,hview _ (fun i b hq=>?_) (fun β k z hk b hq=>?_)⟩
 ·show(yfr m.b m1.b).get i=some b;rw[yco,hq]
 ·unfold frsh;rcases l2 i b hq with q|q
  ·rw[if_neg (by have:=hold (hle i b q);omega)];exact q
  ·rw[if_pos q];show(yfr m.b m1.b).get i=some b;rw[yco,hnone q];exact t2.sub i b hq
 ·unfold frsh;have:=(t2.apart β k z hk).2.1;rw[if_pos this];show(yfr m.b m1.b).get k=some b;rw[yco,hnone this];exact hq
theorem Cm.weak {P:Program}{g:FuncId}{o:Own}{args:List SV}{Q R:SV->Own->Prop}(h:Cm P g [] o args Q)
 (hq:∀r o',Q r o'->∃r2 o2,Weak [] ⟨[(0,r)],o'⟩ ⟨[(0,r2)],o2⟩/\(cln (live o2) 5 r2=true/\allQ (fun p=>ydt (live o2) p.2) o2)/\R r2 o2):Cm P g [] o args R:=by
 intro lo G ω f m us hc hargs;obtain⟨v,m1,r,o',F',ω',s0,t2,hrv,l1,l2,_,_,hQ⟩:=h lo G ω f m us hc hargs;obtain⟨r2,o2,hw,hcl,hR⟩:=hq r o' hQ
 have t3:Conc lo F' ω' ⟨[(0,r)],o'⟩ ⟨1,tOf [v]⟩ m1:=⟨t2.wf,t2.low,t2.nxt,t2.sub,t2.own,t2.dom,t2.inj,t2.apart,fun t x hx=>by
  unfold look at hx;split at hx
  ·rename_i e
   cases hx
   exact⟨v,by rw[yci];simp[<-e],hrv⟩
  ·cases hx⟩
 obtain⟨ω2,F2,k1,k2,k3,_⟩:=hw lo F' ω' _ m1 t3;obtain⟨u,q1,q2⟩:=k3.fr 0 r2 rfl
 have e:u=v:=by
  rw[yci]at q1
  simpa using q1.symm
 subst e
 exact⟨u,m1,r2,o2,F2,ω2,s0,⟨k3.wf,k3.low,k3.nxt,k3.sub,k3.own,k3.dom,k3.inj,k3.apart,fun t x hx=>(by cases hx)⟩,q2,fun x b hx=>k1 x b (l1 x b hx),fun x b hx=>by
  rcases k2 x b hx with z|z
  ·exact l2 x b z
  ·exact .inr z,fun β hβ=>absurd hβ zAC,⟨hcl.1,hcl.2,trivial⟩,hR⟩
end Sh
end
section
def yqo(g:Gr):Nat:=(g.ports.map zAW).sum
def addL(back:Bool)(l:List (Int×Int))(x:Int×Int):List (Int×Int):=if back then x::l else l++[x]
theorem yku{back:Bool}{l:List (Int×Int)}{x y:Int×Int}:y∈addL back l x↔y=x\/y∈l:=by
 unfold addL;cases back<;>simp[or_comm]
def yho(back:Bool)(g:Gr)(a b:Nat)(w:Int):Gr:=⟨g.ids,(g.ports.set a (addL back (g.ports.getD a []) (b,w))).set b (addL back (g.ports.getD b []) (a,w))⟩
theorem yjf(back:Bool)(g:Gr){a b:Nat}(w:Int)(ha:a<g.ports.length)(hb:b<g.ports.length)(v:Nat) :
 (yho back g a b w).ports.getD v []=if v=b then addL back (g.ports.getD b []) (a,w)else if v=a then addL back (g.ports.getD a []) (b,w)else g.ports.getD v []:=by
 unfold yho;simp only[zY]
 by_cases h1:v=b
 ·subst h1;rw[if_pos rfl,zAS (by simpa using hb)]
  rfl
 ·rw[if_neg h1,zAT (fun q=>h1 q.symm)]
  by_cases h2:v=a
  ·subst h2;rw[if_pos rfl,zAS ha];rfl
  ·rw[if_neg h2,zAT (fun q=>h2 q.symm)]
end
section
def Tre(g:Gr)(m:Nat):Prop:=∀v,0<v->v<m->∃u,u<v/\adj g u v
theorem Tre.walk{g:Gr}{m:Nat}(h:Tre g m):∀v,v<m->∃k,Walk g 0 k v:=by
 intro v
 induction v using Nat.strongRecOn with
 | _ v ih =>
   intro hv
   by_cases h0:v=0
   ·subst h0;exact⟨0,rfl⟩
   ·obtain⟨u,hu,ha⟩:=h v (by omega) hv
    obtain⟨k,hk⟩:=ih u hu (by omega)
    exact⟨k+1,u,hk,ha⟩
theorem Tre.conn{g:Gr}(hg:ybb g)(h:Tre g g.ports.length):yry g=true:=by
 unfold yry;rw[(yhe g).2 hg,zBC,ybav hg (a:=0) (by have:=hg.1;omega)]
 exact h.walk
theorem yki{g:Gr}{u v:Nat}:adj g u v↔∃l,l∈g.ports.getD u []/\l.1=(v:Int):=by
 constructor
 ·rintro⟨ls,h,l,hl,e⟩;exact⟨l,by simpa[zY,h]using hl,e⟩
 ·rintro⟨l,hl,e⟩;cases h:g.ports[u]? with
  |none=>simp[zY,h]at hl
  |some ls=>exact⟨ls,h,l,by simpa[zY,h]using hl,e⟩
theorem ybda{back:Bool}{g:Gr}{a b:Nat}{w:Int}(ha:a<g.ports.length)(hb:b<g.ports.length){u v:Nat}(h:adj g u v):adj (yho back g a b w) u v:=by
 obtain⟨l,hl,e⟩:=yki.1 h;refine yki.2 ⟨l,?_,e⟩;rw[yjf back g w ha hb u];split
 ·rename_i q;subst q;exact yku.2 (.inr hl)
 ·split
  ·rename_i q;subst q;exact yku.2 (.inr hl)
  ·exact hl
theorem ybbe{back:Bool}{g:Gr}{a b:Nat}{w:Int}(ha:a<g.ports.length)(hb:b<g.ports.length)(hab:a≠b):adj (yho back g a b w) a b:=by
 refine yki.2 ⟨((b:Int),w),?_,rfl⟩;rw[yjf back g w ha hb a,if_neg hab,if_pos rfl];exact yku.2 (.inl rfl)
theorem Tre.add{back:Bool}{g:Gr}{a b:Nat}{w:Int}(ha:a<g.ports.length)(hb:b<g.ports.length){m:Nat}(h:Tre g m):Tre (yho back g a b w) m:=fun v h0 hv=>by
 obtain⟨u,hu,hadj⟩:=h v h0 hv;exact⟨u,hu,ybda ha hb hadj⟩
def bare(ids:List Int):Gr:=⟨ids,List.replicate ids.length []⟩
end
section
structure NetR where
 n:Int
 links:List Int
 weights:List Int
 ids:List Int
 apart:Bool
 back:Bool
def NetR.ok(x:NetR):Prop:=Sh.inK .i64 x.n/\(∀k,Sh.inK .i64 (x.links.getD k 0))/\(∀k,Sh.inK .i64 (x.weights.getD k 0))/\(∀k,Sh.inK .i64 (x.ids.getD k 0))
theorem ybbu(a r:Nat)(hr:r<=256):((zS r).map fun i=>(((a+i)%256:Nat):Int)).Nodup:=by
 unfold List.Nodup;rw[List.pairwise_map];refine List.Pairwise.imp_of_mem (R:=(· < ·)) (fun {i j} hi hj h=>?_) List.pairwise_lt_range;have hi:=List.mem_range.1 hi;have hj:=List.mem_range.1 hj;intro e;omega
theorem ywp{a r:Nat}{l:List Int}(hr:r<=256)(h:∀i,i<r->(((a+i)%256:Nat):Int)∈l):r<=l.length:=by
 have:=List.Nodup.length_le_of_subset (ybbu a r hr) (l₂:=l) fun x hx=>by
  obtain⟨i,hi,rfl⟩:=List.mem_map.1 hx;exact h i (List.mem_range.1 hi)
 simpa using this
namespace Sh
open Ev Go.RowKit
def netC(x:NetR):List SV:=[.i .i64 x.n,yw x.links,yw x.weights,yw x.ids,.b x.apart,.b x.back]
theorem wrap64_in(z:Int):inK .i64 (IntKind.wrap .i64 z):=by
 unfold inK;have e1:IntKind.i64.min = -9223372036854775808:=rfl;have e2:IntKind.i64.max=9223372036854775807:=rfl;have h1:=Int.emod_nonneg z (show(18446744073709551616:Int)≠0 by decide)
 have h2:=Int.emod_lt_of_pos z (show(0:Int)<18446744073709551616 by decide)
 rw[e1,e2]
 have e:IntKind.wrap .i64 z=if z%18446744073709551616>=9223372036854775808 then z%18446744073709551616-18446744073709551616 else z%18446744073709551616:=by
  show(if (true&&decide (z%18446744073709551616>=9223372036854775808))=true then z%18446744073709551616-18446744073709551616 else z%18446744073709551616)=_
  simp only[zBC,decide_eq_true_eq]
 rw[e];split<;>omega
theorem ybtw{x:NetR}(hx:x.ok){most:Nat}(hm:1<=most/\most<=24) :
 Cm zAK 75 [] [] [.ag (netC x),.i .i64 most] fun r o=>∃ids:List Int,(1<=ids.length/\ids.length<=most/\(ids.length:Int)=1+ybw (IntKind.wrap .i64 (x.n-1)) most)/\(∀y∈ids,0<=y/\y<=255)/\ids.Nodup/\r = .ag [.os (148,0) 0 ids.length true,.os (17,0) 0 ids.length true] /\
  o=[(17,.one (some ⟨71,false,1,ids.length,fun _=>[.a (.slice none 0 0)]⟩)),(148,.one (some ⟨3,false,1,ids.length,fun k=>[.i .i64 (ids.getD k 0)]⟩))]:=by
 refine ycvb [] [] _ _ _ ?_;obtain⟨hx1,hx2,hx3,hx4⟩:=hx;have hin:=yee (v:=IntKind.wrap .i64 (x.n-1)) (m:=(most:Int)) (by omega)
 obtain⟨k,hk⟩:∃k:Nat,ybw (IntKind.wrap .i64 (x.n-1)) most=k:=zAF hin.1;have hW:=ydl (IntKind.wrap .i64 (x.n-1)) most (by omega) (wrap64_in _)
 rw[hk]at hW hin;obtain⟨n,hn⟩:∃n:Nat,(1:Int)+(k:Int)=(n:Int):=⟨1+k,by omega⟩
 have hn1:1<=n/\n<=most/\(n:Int)=1+ybw (IntKind.wrap .i64 (x.n-1)) most:=by omega
 simp only[c75,ydbk,ydbm,netC,go_sem,zA,zD,zB,zG,↓reduceIte,reduceCtorEq];refine hW.use ?_;simp only[ybf,ydbu,ydbx,hn,clash,go_sem,zA,zD,zG,↓reduceIte,reduceCtorEq];refine⟨ikw (by omega) (by omega),⟨by omega,by omega,by omega⟩,?_⟩
 refine ybl (σ:=List Int) (fun l=>⟨[(7,.i .i64 l.length),(5,.i .i64 n),(2,.pt (2,0) 0 0),(6,.pt (6,0) 0 0),(4,.pt (4,0) 0 0)],
  [(2,.one (some ⟨24,true,6,1,fun _=>netC x⟩)),(4,.one (some ⟨27,true,2,1,fun _=>[.a (.slice none 0 0),.a (.slice none 0 0)]⟩)),
   (6,.one (some ⟨27,true,2,1,fun _=>[.os (148,0) 0 l.length true,.os (17,0) 0 n true]⟩)),(17,.one (some ⟨71,false,1,n,fun _=>[.a (.slice none 0 0)]⟩)),
   (148,.one (some ⟨3,false,1,l.length,fun k=>[.i .i64 (l.getD k 0)]⟩))]⟩)
  (fun l=>l.length<=n/\(∀y∈l,0<=y/\y<=255)/\l.Nodup) (fun l=>n-l.length) [] ⟨zAD _,fun y hy=>(zAC hy).elim,List.nodup_nil⟩ ?_ ?_
 ·refine yh [] [148] [] ?_;simp only[netC,allQ,live,yc,zJ,go_sem,zA,zF,↓reduceIte,reduceCtorEq];exact fun i _=>⟨(148,0),rfl,rfl,rfl⟩
 ·rintro l ⟨hl,hl2,hl3⟩;obtain⟨v,hv⟩:∃v,l.length=v:=⟨_,rfl⟩;rw[hv]at hl;have hA:=at_ret x.ids v;have hi2:=yee (v:=atP x.ids v) (m:=256) (by omega)
  obtain⟨a,ha⟩:∃a:Nat,ybw (atP x.ids v) 256=a:=zAF hi2.1;have hW2:=ydl (atP x.ids v) 256 (by omega) (hx4 v)
  rw[ha]at hW2 hi2;simp only[ydaj,ydav,ycyh,ycjh,netC,hv,splice,clash,go_sem,zA,zD,zB,↓reduceIte,reduceCtorEq];refine⟨fun hlt=>?_,fun hge=>?_⟩
  ·refine hA.use ?_;simp only[ybf,clash,go_sem,zA,zD,↓reduceIte,reduceCtorEq];refine hW2.use ?_
   refine ybl (σ:=Nat×Nat) (fun q=>⟨[(9,.i .i64 q.2),(8,.i .i64 ((a+q.1)%256:Nat)),(7,.i .i64 v),(5,.i .i64 n),(2,.pt (2,0) 0 0),(6,.pt (6,0) 0 0),(4,.pt (4,0) 0 0)],
    [(2,.one (some ⟨24,true,6,1,fun _=>netC x⟩)),(4,.one (some ⟨27,true,2,1,fun _=>[.a (.slice none 0 0),.a (.slice none 0 0)]⟩)),
     (6,.one (some ⟨27,true,2,1,fun _=>[.os (148,0) 0 v true,.os (17,0) 0 n true]⟩)),(17,.one (some ⟨71,false,1,n,fun _=>[.a (.slice none 0 0)]⟩)),
     (148,.one (some ⟨3,false,1,v,fun k=>[.i .i64 (l.getD k 0)]⟩))]⟩)
    (fun q=>q.2<=v/\(∀i,i<q.1->(((a+i)%256:Nat):Int)∈l)/\q.1<=256/\∀j,j<q.2->l.getD j 0≠(((a+q.1)%256:Nat):Int)) (fun q=>(v-q.1)*(v+2)+(v-q.2)) (0,0) ⟨zAD _,fun i hi=>absurd hi (zAI i),by omega,fun j hj=>absurd hj (zAI j)⟩ ?_ ?_
   ·refine yh [] [] [] ?_;simp only[netC,allQ,live,yc,yu,zJ,go_sem,zA,↓reduceIte,reduceCtorEq];rw[Nat.mod_eq_of_lt (by omega)]
   ·rintro⟨r,u⟩ ⟨hu,hr,hr256,hno⟩;obtain⟨b,hb⟩:∃b,(a+r)%256=b:=⟨_,rfl⟩;have hb256:b<256:=by omega
    simp only[ydcp,ydbv,ycil,ycjt,ycds,ydcx,netC,hb,splice,clash,go_sem,zA,zD,zB,zG,↓reduceIte,reduceCtorEq];have hu:u<=v:=hu;have hr:∀i,i<r->(((a+i)%256:Nat):Int)∈l:=hr;have hr256:r<=256:=hr256;have hno:∀j,j<u->l.getD j 0≠(b:Int):=fun j hj=>by rw[<-hb];exact hno j hj
    have hrv:r<=v:=by rw[<-hv];exact ywp hr256 hr
    refine⟨fun hlt2=>⟨⟨by omega,by omega⟩,by omega,fun he=>⟨ikw (by omega) (by omega),by decide,ikw (by omega) (by omega),?_⟩,fun hne=>⟨ikw (by omega) (by omega),?_⟩⟩,fun hge2=>?_⟩
    ·have hmem:(b:Int)∈l:=by
      rw[<-he,getD_at (show u<l.length by omega)]
      exact zAB _
     have hr':∀i,i<r+1->(((a+i)%256:Nat):Int)∈l:=fun i hi=>by
      by_cases q:i=r
      ·rw[q,hb];exact hmem
      ·exact hr i (by omega)
     have hrv':r+1<=v:=by rw[<-hv];exact ywp (by omega) hr'
     refine yj (r+1,0) ⟨zAD _,hr',by show r+1<=256;omega,fun j hj=>absurd hj (zAI j)⟩ ?_ ?_
     ·show(v-(r+1))*(v+2)+(v-0)<(v-r)*(v+2)+(v-u);obtain⟨m,hm⟩:∃m,v-r=m+1:=⟨v-r-1,by omega⟩
      rw[show v-(r+1)=m by omega,hm,Nat.succ_mul]
      generalize m*(v+2)=z
      omega
     ·refine yh [] [] [] ?_;simp only[allQ,live,yc,yu,zJ,go_sem,zA,↓reduceIte,reduceCtorEq];refine⟨by omega,?_⟩
      rw[Int.tmod_eq_emod_of_nonneg (by omega)]
      omega
    ·refine yj (r,u+1) ⟨by show u+1<=v;omega,hr,hr256,fun j hj=>?_⟩ ?_ ?_
     ·show l.getD j 0≠(((a+r)%256:Nat):Int);rw[hb]
      by_cases q:j=u
      ·rw[q];exact hne
      ·exact hno j (by have:j<u+1:=hj;omega)
     ·show(v-r)*(v+2)+(v-(u+1))<(v-r)*(v+2)+(v-u)
      generalize (v-r)*(v+2)=z
      omega
     ·refine yh [] [] [] ?_;simp only[hb,allQ,live,yc,yu,go_sem,zA,↓reduceIte,reduceCtorEq];omega
    ·obtain rfl:u=v:=by omega
     refine⟨⟨by omega,by omega⟩,ikw (by omega) (by omega),?_⟩
     have hno':(b:Int)∉l:=fun hm=>by
      obtain⟨j,hj,e⟩:=List.getElem_of_mem hm;exact hno j (by omega) (by rw[getD_at hj,e])
     refine yj (l++[(b:Int)]) ⟨by rw[zQ,zAA];omega,fun y hy=>?_,?_⟩ (by rw[zQ,zAA];omega) ?_
     ·rcases List.mem_append.1 hy with hy|hy
      ·exact hl2 y hy
      ·rw[List.mem_singleton.1 hy];omega
     ·rw[List.nodup_append];exact⟨hl3,by simp,fun y hy z hz=>by rw[List.mem_singleton.1 hz];exact fun e=>hno' (e▸hy)⟩
     refine yh [(148,fun i=>(48,i))] [] [] ?_;simp only[zQ,hv,allQ,live,yc,yu,go_sem,zA,↓reduceIte,reduceCtorEq];refine⟨by omega,fun i hi=>?_⟩
     rw[yqv,hv]
     by_cases q:i<u
     ·simp only[if_pos q];simp only[live,yc,go_sem,reduceCtorEq]
     ·obtain rfl:i=u:=by omega
      simp only[if_neg q,zAE];simp only[live,yc,go_sem,↓reduceIte,reduceCtorEq]
  ·obtain rfl:v=n:=by omega
   simp only[ymp,go_sem];refine⟨.ag [.os (148,0) 0 v true,.os (17,0) 0 v true],[(17,.one (some ⟨71,false,1,v,fun _=>[.a (.slice none 0 0)]⟩)),(148,.one (some ⟨3,false,1,v,fun k=>[.i .i64 (l.getD k 0)]⟩))],?_,?_,l,by rw[hv];exact hn1,hl2,hl3,by rw[hv],by rw[hv]⟩
   ·refine yh [] [] [] ?_;simp only[allQ,live,yc,go_sem,zA,↓reduceIte,reduceCtorEq]
   ·simp only[ydt,yhw,allQ,live,go_sem,zA,↓reduceIte]
end Sh
end
section
namespace Sh
open Go Ev Go.RowKit Go.ChangeShapes Go.WideShapes Go.ChangeAt Go.Joins
section
variable {H:Type}{enc:TypeId×Value->H}{P:Program}{w:World}{base:Nat}{held:Bool}{spare:Nat->Bool}
end
section
variable {H:Type}{enc:TypeId×Value->H}{w:World}{base:Nat}{held:Bool}{n:Nat}{v:Value}{x:DataW H×List MemPlace}
theorem yyy{v:Value}{x:DataW H×List MemPlace}(h:DataW.trod enc zAK w base (fun _=>true) held n 3 [v]=some x):∃k,inK .i64 k/\ybyw w (.i .i64 k) v:=by
 obtain⟨k,e,_,hw⟩:=DataW.trod_int Tryz.underlying3 h;simp at e;subst e;exact⟨k,wf_i64 hw,ybzd w .i64 k⟩
end
end Sh
end
section
structure Tgt(S:Sys)(V:Conf->Prop)(T:Conf->Nat->List Int):Prop where
 valid:∀c s,V c->s≠0->subB s (S.en c)->V (S.mv c s)
 stay:∀c s v,V c->v<S.n->s.testBit v=false->(S.mv c s).getD v []=c.getD v []
 move:∀c s v,V c->v<S.n->s.testBit v=true->subB s (S.en c)->(S.mv c s).getD v []=T c v
 en:∀c v,V c->v<S.n->((S.en c).testBit v=false↔c.getD v []=T c v)
theorem Tgt.rounds{S:Sys}{V:Conf->Prop}{T:Conf->Nat->List Int}(h:Tgt S V T){P:Nat->Nat->List Int->Prop}(hT:∀c v r,V c->v<S.n->(∀u,u<S.n->P r u (c.getD u []))->P (r+1) v (T c v))(hl:∀r v s,P (r+1) v s->P r v s):ByRounds S V P where
 valid:=h.valid
 stay:=h.stay
 move:=fun c s v r hv hn hb hs hall=>by rw[h.move c s v hv hn hb hs];exact hT c v r hv hn hall
 rest:=fun c v r hv hn hb hall=>by rw[(h.en c v hv hn).1 hb];exact hT c v r hv hn hall
 less:=hl
theorem Sys.run_last{S:Sys}{res:Nat->Nat->Nat}:∀(ws:List Nat) (c:Conf) (k:Cnt) (i:Nat),i+1<(S.run res ws c k).length->∀p,(S.run res ws c k)[i]?=some p->S.en p.1≠0
 |[],c,k,i,h,p,hp=>by simp[Sys.run]at h
 | w :: ws,c,k,i,h,p,hp=>by
   unfold Sys.run at h hp;split at h
   ·simp at h
   ·rename_i h0
    rw[if_neg h0]at hp;cases i with
    | zero =>
      simp only[zAR]at hp;cases hp
      simp only[zU]at h;cases ws with
      |nil=>simp[Sys.run]at h
      | cons w' ws =>
        unfold Sys.run at h;split at h
        ·simp at h
        ·assumption
    |succ i=>exact Sys.run_last ws _ _ i (by simpa using h) p (by simpa using hp)
theorem Sys.runs_last{S:Sys}{res:Nat->Nat->Nat}{ws:List Nat}{c:Conf}{i:Nat}(h:i+1<(S.runs res ws c).length){p:Conf×Cnt}(hp:(S.runs res ws c)[i]?=some p):S.en p.1≠0:=by
 unfold Sys.runs at h hp;cases i with
 | zero =>
   simp only[zAR]at hp;cases hp
   cases ws with
   |nil=>simp[Sys.run]at h
   | cons w ws =>
     unfold Sys.run at h;split at h
     ·simp at h
     ·assumption
 |succ i=>exact Sys.run_last ws _ _ i (by simpa using h) p (by simpa using hp)
end
section
open Go.RowKit
end
section
open Go.RowKit
theorem yjr(g:Gr)(G:List Int)(v:Nat):(ydj g G v).length=G.length:=by simp[ydj]
set_option maxHeartbeats 2000000 in
theorem ymd(gv cv Gv:Value)(g:Gr)(c:Conf)(G:List Int)(w:World)(hg:GrAt w gv g)(hc:ycdo w cv c)(hG:yko w Gv G)(hgood:ybb g) :
 Calls zAK 102 #[gv,cv,Gv] w fun e w'=>e = .returned (.bool (yoo g.ports.length (ydj g G) c))/\Below w.heap.size w w':=by
 have hn24:=hgood.2.1;have hid:=hgood.2.2.1;have Hid':=zO hid
 clear hgood
 obtain⟨i,p,rfl,hi,hp⟩:=hg;obtain⟨A,c0,rfl,hA1,hA2⟩:=ycm hi;obtain⟨A2,c2,rfl,hB1,hB2⟩:=ycm hp;obtain⟨A3,c3,rfl,hC1,hC2⟩:=ycm hc;obtain⟨A4,c4,rfl,hD1,hD2⟩:=ycm hG;have Hp:=zO hp;have Hc:=zO hc;have HG:=zO hG
 clear hi hp hc hG
 by_cases n1:c.length=g.ids.length
 ·have n1':((c.length:Int)!=(g.ids.length:Int))=false:=by simp[n1]
  have Hn:=zO (n1.trans hid);have hcn:c.length<=24:=by omega
  clear n1 hid
  go_enter zBF,zBD
  go_wp2
  obtain⟨W1,hW1⟩:∃W,W=w.alloc (.cells #[.slice A g.ids.length c0,.slice A2 g.ports.length c2] 27):=⟨_,rfl⟩;have hbox:W1.cell? ⟨w.heap.size,1,none⟩=some (.slice A2 g.ports.length c2):=by subst hW1;simp
  have HbW:=zO (show Below w.heap.size w W1 by subst hW1;exact(Below.refl _ _).alloc (zT _) _)
  rw[<-hW1]
  clear hW1
  go_loopg [21] c.length (fun q t wr=>∃v n:Nat,q+v=c.length/\t = .int .i64 v/\wr=W1.drewN n/\Hid (∀(u:Nat) s,u<v->c[u]?=some s->yec (ydj g G u) s))
  case atStart=>exact⟨0,0,by omega,rfl,rfl,zO (fun u s hu=>absurd hu (by omega))⟩
  case round =>
   obtain⟨v,n,hq,rfl,rfl,hok⟩:=hrel
   by_cases hlt:v<c.length
   ·obtain⟨b3,off3,sv,rfl,hb3,hcs,hs⟩:=yqh (Hc.out.below (Stable.sl Stable.int) HbW.out) (zK hlt);obtain⟨A5,c5,rfl,hE1,hE2⟩:=ycm hs;obtain⟨s,hse⟩:∃s,c[v]=s:=⟨_,rfl⟩;have Hs?:=zO (show c[v]?=some s by rw[zK hlt,hse])
    rw[hse]at hs hcs hE1;have Hbad:=zO (show ¬yec (ydj g G v) s->yoo g.ports.length (ydj g G) c=false from fun h=>yhs (fun hc=>h (hc.2 v s Hs?.out)))
    have Hs:=zO hs
    clear hs hse
    by_cases c1:s.length=G.length
    ·have c1':((s.length:Int)!=(G.length:Int))=false:=by simp[c1]
     have Hsl:=zO c1
     clear c1
     have hvp:v<g.ports.length:=by rw[<-Hn.out];exact hlt
     go_wp2
     obtain⟨go,rfl⟩:∃go,go=gk:=⟨_,rfl⟩
     go_loopg [33] s.length (fun q t wr=>∃x n:Nat,q+x=s.length/\t = .int .i64 x/\wr=W1.drewN n/\Hid (∀(j:Nat) b z,j<x->(ydj g G v)[j]?=some b->s[j]?=some z->b.1<=z/\z<=b.2))
     case atStart=>exact⟨0,n,by omega,rfl,rfl,zO (fun j b z hj=>absurd hj (by omega))⟩
     case round =>
      obtain⟨x,n,hqx,rfl,rfl,hst⟩:=hrel
      by_cases hxl:x<s.length
      ·have hxG:x<G.length:=by rw[<-Hsl.out];exact hxl
       obtain⟨b5,o5,rfl,hb5,hc5,hr5⟩:=yqq (Hs.out) hxl;obtain⟨b6,o6,rfl,hb6,hc6,hr6⟩:=yqq (HG.out.below Stable.int HbW.out) hxG;obtain⟨b7,o7,lv,rfl,hb7,hc7,hl7⟩:=yqh (Hp.out.below (Stable.sl Stable.link) HbW.out) (zK hvp);obtain⟨A8,c8,rfl,hF1,hF2⟩:=ycm hl7;obtain⟨ds,hds⟩:∃ds,g.ports[v]=ds:=⟨_,rfl⟩;have hdeg:yzm g v=ds.length:=by simp[yzm,zY,zK hvp,hds]
       rw[hds]at hc7 hF1;obtain⟨y,hy⟩:∃y,s[x]=y:=⟨_,rfl⟩;obtain⟨h,hh⟩:∃h,G[x]=h:=⟨_,rfl⟩;have Hy?:=zO (show s[x]?=some y by rw[zK hxl,hy])
       have hb?:(ydj g G v)[x]?=some (if h = -1 then(-1,(ds.length:Int)-1)else(0,h)):=by
        simp[ydj,hxG,hh,hdeg]
       rw[hy]at hc5 hr5;rw[hh]at hc6 hr6;obtain⟨hr5a,hr5b⟩:=hr5;obtain⟨hr6a,hr6b⟩:=hr6
       clear hl7 hds hdeg hy hh
       by_cases c2:h = -1
       ·have c2':(h == -1)=true:=by simp[c2]
        rw[if_pos c2]at hb?;have Hb?:=zO hb?
        clear hb? c2
        by_cases c3:y < -1
        ·have Hf:=zO (Hbad.out (fun h=>by have:=h.2 x _ y Hb?.out Hy?.out;simp only at this;omega))
         go_wp2
         go_quiet (fail)
         go_wp2
         go_quiet (fail)
         go_wp2
         go_ret
         exact⟨ybr Hf.out.symm,below_drewN HbW.out _⟩
        ·by_cases c4:(ds.length:Int)-1<y
         ·have Hf:=zO (Hbad.out (fun h=>by have:=h.2 x _ y Hb?.out Hy?.out;simp only at this;omega))
          go_wp2
          go_quiet (fail)
          go_wp2
          go_quiet (fail)
          go_wp2
          go_ret
          exact⟨ybr Hf.out.symm,below_drewN HbW.out _⟩
         ·have c4d:decide ((ds.length:Int)-1<y)=false:=by simp;omega
          go_wp2
          go_quiet (fail)
          go_wp2
          go_quiet (fail)
          go_wp2
          go_roundg (gk-1)
          case measure=>omega
          case rel =>
           refine⟨x+1,_,by omega,by go_num,rfl,zO (fun j b z hj hb hz=>?_)⟩
           by_cases hjx:j<x
           ·exact hst.out j b z hjx hb hz
           ·obtain rfl:j=x:=by omega
            rw[Hb?.out]at hb;rw[Hy?.out]at hz;cases hb
            cases hz
            simp only;omega
       ·have c2':(h == -1)=false:=by simp[c2]
        rw[if_neg c2]at hb?;have Hb?:=zO hb?
        clear hb? c2
        by_cases c3:y<0
        ·have Hf:=zO (Hbad.out (fun h=>by have:=h.2 x _ y Hb?.out Hy?.out;simp only at this;omega))
         go_wp2
         go_quiet (fail)
         go_wp2
         go_ret
         exact⟨ybr Hf.out.symm,below_drewN HbW.out _⟩
        ·by_cases c4:h<y
         ·have Hf:=zO (Hbad.out (fun h=>by have:=h.2 x _ y Hb?.out Hy?.out;simp only at this;omega))
          go_wp2
          go_quiet (fail)
          go_wp2
          go_ret
          exact⟨ybr Hf.out.symm,below_drewN HbW.out _⟩
         ·have c4d:decide (h<y)=false:=by simp;omega
          go_wp2
          go_quiet (fail)
          go_wp2
          go_roundg (gk-1)
          case measure=>omega
          case rel =>
           refine⟨x+1,_,by omega,by go_num,rfl,zO (fun j b z hj hb hz=>?_)⟩
           by_cases hjx:j<x
           ·exact hst.out j b z hjx hb hz
           ·obtain rfl:j=x:=by omega
            rw[Hb?.out]at hb;rw[Hy?.out]at hz;cases hb
            cases hz
            simp only;omega
      ·obtain rfl:x=s.length:=by omega
       go_wp2
       go_roundg (go-1)
       case measure=>omega
       case rel =>
        refine⟨v+1,_,by omega,by go_num,rfl,zO (fun u s' hu hs'=>?_)⟩
        by_cases huv:u<v
        ·exact hok.out u s' huv hs'
        ·obtain rfl:u=v:=by omega
         rw[Hs?.out]at hs';cases hs'
         refine⟨by rw[yjr,Hsl.out],fun j b z hb hz=>hst.out j b z (List.getElem?_eq_some_iff.1 hz).1 hb hz⟩
    ·have c1':((s.length:Int)!=(G.length:Int))=true:=by simp;omega
     have Hf:=zO (Hbad.out (fun h=>c1 (by rw[h.1,yjr])))
     clear c1
     go_wp2
     go_ret
     exact⟨ybr Hf.out.symm,below_drewN HbW.out _⟩
   ·obtain rfl:v=c.length:=by omega
    have Ht:=zO (yso (n:=g.ports.length) (bs:=ydj g G) (c:=c) ⟨Hn.out,fun v s hs=>hok.out v s (List.getElem?_eq_some_iff.1 hs).1 hs⟩)
    go_wp2
    go_ret
    exact⟨ybr Ht.out.symm,below_drewN HbW.out _⟩
 ·have n1':((c.length:Int)!=(g.ids.length:Int))=true:=by simp;omega
  have Hf:=zO (yhs (n:=g.ports.length) (bs:=ydj g G) (c:=c) (fun h=>n1 (h.1.trans hid.symm)))
  clear n1 hid
  go_enter zBF,zBD
  go_wp2
  go_ret
  exact⟨ybr Hf.out.symm,(Below.refl _ _).alloc (zT _) _⟩
end
section
open Go.RowKit
end
section
abbrev yxl:Ex:=.leaf 4 0
abbrev eVar(k:Int):Ex:=.leaf 5 k
abbrev eQ(k:Int):Ex:=.leaf 12 k
theorem yxa{α:Type}(g:Gr)(v:Nat)(f:Int×Int->α)(h:Nat->α)(e:∀q,q<(g.ports.getD v []).length->h q=f ((g.ports.getD v []).getD q (0,0))):(zS (g.ports.getD v []).length).map h=(g.ports.getD v []).map f:=by
 refine List.ext_getElem (by simp) fun i h1 h2=>?_
 have hi:i<(g.ports.getD v []).length:=by simpa using h1
 rw[zZ,List.getElem_range,zZ,e i hi];congr 1;rw[zW,zK hi];rfl
theorem yvb(f:Int×Int->Bool)(ls:List (Int×Int)):ydw (ls.map fun l=>ybp (f l))=ybaa f ls:=by
 unfold ydw ybaa
 have:((fun x:Int=>x != 0) ∘ fun l=>ybp (f l))=f:=by
  funext l
  show(ybp (f l)!=0)=f l;unfold ybp;cases f l<;>rfl
 rw[List.findIdx?_map,this]
 all_goals (cases List.findIdx? f ls<;>rfl)
def endP(c:Conf)(k:Nat)(l:Int×Int):Int:=(c.getD l.1.toNat []).getD k 0
theorem yqg(b:Bool):(ybp b != 0)=b:=by cases b<;>rfl
section
variable {nm nd np nt nl:ByteArray}{g:Gr}{c:Conf}{v:Nat}
theorem bT3{x:ByteArray}:ybh g v ⟨x,3,0,0,0,0⟩=(-1,((g.ports.getD v []).length:Int)-1):=by
 show(if (3:Int)=1 then _ else if (3:Int)=2 then _ else if (3:Int)=3 then _ else _)=_
 rw[if_neg (by decide),if_neg (by decide),if_pos rfl]
end
end
section
section
variable {g:Gr}{a v:Nat}
theorem yfv(hg:ybb g)(hc:yry g=true)(ha:a<g.ports.length)(hv:v<g.ports.length):∃k:Nat,(yea g a).getD v 0=k/\Walk g a k v/\(∀j,j<k->¬Walk g a j v)/\k<g.ports.length:=by
 have h0:0<g.ports.length:=by omega
 have hall:(yea g a).all (fun x=>decide (0<=x))=true:=ycau hg h0 ha ((zAY _ _▸hc).2);have hl:=yyt hg ha;have hvl:v<(yea g a).length:=by rw[hl];exact hv
 have e:(yea g a).getD v 0=(yea g a)[v]:=by simp[zY,hvl]
 have hpos:0<=(yea g a)[v]:=by simpa using List.all_eq_true.1 hall _ (zAB hvl)
 rcases(yim hg ha).2 v _ (zK hvl)with⟨h,_⟩|⟨k,h1,h2,h3⟩
 ·omega
 ·exact⟨k,by rw[e,h1],h2,h3,ybqc hg ha h2 h3⟩
theorem ycrq{k:Nat}(hg:ybb g)(hc:yry g=true)(ha:a<g.ports.length)(hv:v<g.ports.length)(h1:Walk g a k v)(h2:∀j,j<k->¬Walk g a j v):(yea g a).getD v 0=k:=by
 obtain⟨j,e,h3,h4,_⟩:=yfv hg hc ha hv;rcases Nat.lt_trichotomy j k with h|h|h
 ·exact absurd h3 (h2 j h)
 ·rw[e,h]
 ·exact absurd h1 (h4 k h)
theorem ybso(hg:ybb g)(hc:yry g=true)(ha:a<g.ports.length):(yea g a).getD a 0=0:=ycrq hg hc ha ha (k:=0) rfl fun j hj=>by omega
theorem ycuu(hg:ybb g)(hc:yry g=true)(ha:a<g.ports.length)(hv:v<g.ports.length):0<=(yea g a).getD v 0/\(yea g a).getD v 0<g.ports.length:=by
 obtain⟨k,e,_,_,h⟩:=yfv hg hc ha hv;omega
theorem ybvj(hg:ybb g)(hc:yry g=true)(ha:a<g.ports.length)(hv:v<g.ports.length)(hne:v≠a):1<=(yea g a).getD v 0:=by
 obtain⟨k,e,h1,_,_⟩:=yfv hg hc ha hv;cases k with
 |zero=>exact absurd h1 hne
 |succ k=>omega
theorem ybzx(hg:ybb g)(hc:yry g=true)(ha:a<g.ports.length){u:Nat}(h:adj g u v):(yea g a).getD v 0<=(yea g a).getD u 0+1:=by
 obtain⟨hu,hv⟩:=hg.adj_lt h;obtain⟨k,e,h1,_,_⟩:=yfv hg hc ha hu;obtain⟨j,e',_,h3,_⟩:=yfv hg hc ha hv;rw[e,e'];rcases zBG (k+1) j with q|q
 ·exact absurd ⟨u,h1,h⟩ (h3 (k+1) q)
 ·omega
theorem yblh(hg:ybb g)(hc:yry g=true)(ha:a<g.ports.length)(hv:v<g.ports.length)(hne:v≠a):∃u,adj g v u/\(yea g a).getD u 0=(yea g a).getD v 0-1:=by
 obtain⟨k,e,h1,h2,_⟩:=yfv hg hc ha hv;cases k with
 |zero=>exact absurd h1 hne
 | succ k =>
   obtain⟨u,h3,h4⟩:=h1;refine⟨u,hg.adj_symm h4,?_⟩;have h5:=ybzx hg hc ha h4;obtain⟨hu,_⟩:=hg.adj_lt h4;obtain⟨j,e',_,h6,_⟩:=yfv hg hc ha hu;rw[e,e']at h5;rcases zBG k j with q|q
   ·exact absurd h3 (h6 k q)
   ·rw[e,e'];omega
theorem ycz{l:Int×Int}(hg:ybb g)(hv:v<g.ports.length)(hl:l∈g.ports.getD v []):0<=l.1/\l.1.toNat<g.ports.length/\adj g v l.1.toNat/\1<=l.2/\l.2<=15:=by
 have e:g.ports[v]?=some (g.ports.getD v []):=by simp[zY,hv]
 have h:=hg.link e hl;exact⟨h.1,by omega,⟨_,e,l,hl,by omega⟩,h.2.2.2.1,h.2.2.2.2⟩
theorem yqb{u:Nat}(h:adj g v u):∃l∈g.ports.getD v [],l.1.toNat=u:=by
 obtain⟨l,hl,e⟩:=yki.1 h;exact⟨l,hl,by rw[e];simp⟩
end
section
variable {nm nd np nt nl:ByteArray}{g:Gr}
end
end
section
namespace Sh
section
variable {nm nd np nt nl:ByteArray}{g:Gr}
end
end Sh
end
section
def ResD(D:Nat->Prop)(res:Nat->Nat->Nat):Prop:=∀e w,e≠0->res e w≠0/\subB (res e w) e/\D (res e w)
theorem Sys.run_allD{S:Sys}{D:Nat->Prop}{res:Nat->Nat->Nat}(hr:ResD D res){J:Conf->Cnt->Prop}(hstep:∀c k s,J c k->s≠0->subB s (S.en c)->D s->J (S.mv c s) (addP k s (S.en (S.mv c s)))) :
 ∀(ws:List Nat) (c:Conf) (k:Cnt),J c k->∀p∈S.run res ws c k,J p.1 p.2
 |[],c,k,_,p,hp=>by cases hp
 | w :: ws,c,k,hJ,p,hp=>by
   unfold Sys.run at hp;split at hp
   ·cases hp
   ·rename_i h0
    obtain⟨r1,r2,r3⟩:=hr _ w h0;have hJ':=hstep c k _ hJ r1 r2 r3;rcases List.mem_cons.1 hp with e|e
    ·rw[e];exact hJ'
    ·exact Sys.run_allD hr hstep ws _ _ hJ' p e
theorem Sys.runs_allD{S:Sys}{D:Nat->Prop}{res:Nat->Nat->Nat}(hr:ResD D res){J:Conf->Cnt->Prop}(hstep:∀c k s,J c k->s≠0->subB s (S.en c)->D s->J (S.mv c s) (addP k s (S.en (S.mv c s)))){ws:List Nat}{c:Conf}(h:J c (ydg (S.en c))):∀p∈S.runs res ws c,J p.1 p.2:=fun p hp=>by
 rcases List.mem_cons.1 hp with e|e
 ·rw[e];exact h
 ·exact Sys.run_allD hr hstep ws _ _ h p e
theorem ResD.ok{D:Nat->Prop}{res:Nat->Nat->Nat}(h:ResD D res):ybzi res:=fun e w h0=>⟨(h e w h0).1,(h e w h0).2.1⟩
structure ByRoundsC(S:Sys)(V:Conf->Prop)(D:Nat->Prop)(P:Nat->Nat->Conf->Prop):Prop where
 valid:∀c s,V c->s≠0->subB s (S.en c)->D s->V (S.mv c s)
 stay:∀c s v r r',r<=r'->r'<=r+1->V c->v<S.n->s.testBit v=false->subB s (S.en c)->D s->(∀u,u<S.n->P r u c)->P r' v c->P r' v (S.mv c s)
 move:∀c s v r,V c->v<S.n->s.testBit v=true->subB s (S.en c)->D s->(∀u,u<S.n->P r u c)->P (r+1) v (S.mv c s)
 rest:∀c v r,V c->v<S.n->(S.en c).testBit v=false->(∀u,u<S.n->P r u c)->P (r+1) v c
 less:∀r v c,P (r+1) v c->P r v c
structure RInvC(S:Sys)(V:Conf->Prop)(P:Nat->Nat->Conf->Prop)(c:Conf)(k:Cnt):Prop where
 valid:V c
 all:∀v,v<S.n->P k.rounds v c
 done:∀v,v<S.n->k.pend.testBit v=false->P (k.rounds+1) v c
 begun:k.begun<=k.rounds+1
section
variable {S:Sys}{V:Conf->Prop}{D:Nat->Prop}{P:Nat->Nat->Conf->Prop}
theorem ByRoundsC.start(h:ByRoundsC S V D P){c:Conf}(hv:V c)(h0:∀v,v<S.n->P 0 v c):RInvC S V P c (ydg (S.en c)) :=
 ⟨hv,h0,fun v hn hb=>h.rest c v 0 hv hn hb h0,by simp[ydg]⟩
theorem ByRoundsC.step(h:ByRoundsC S V D P)(c:Conf)(k:Cnt)(s:Nat)(hi:RInvC S V P c k)(h0:s≠0)(hs:subB s (S.en c))(hD:D s):RInvC S V P (S.mv c s) (addP k s (S.en (S.mv c s))):=by
 obtain⟨i1,i2,i3,i4⟩:=hi;have hv:=h.valid c s i1 h0 hs hD
 have hall:∀v,v<S.n->P k.rounds v (S.mv c s):=fun v hn=>by
  cases hb:s.testBit v with
  |true=>exact h.less _ _ _ (h.move c s v _ i1 hn hb hs hD i2)
  |false=>exact h.stay c s v _ _ (zT _) (zBH _) i1 hn hb hs hD i2 (i2 v hn)
 have hnext:∀v,v<S.n->(difB k.pend s&&&S.en (S.mv c s)).testBit v=false->P (k.rounds+1) v (S.mv c s):=fun v hn hb=>by
  rw[Nat.testBit_and,ylb]at hb;cases hb1:s.testBit v with
  |true=>exact h.move c s v _ i1 hn hb1 hs hD i2
  | false =>
    cases hb2:k.pend.testBit v with
    |false=>exact h.stay c s v _ _ (zBH _) (zT _) i1 hn hb1 hs hD i2 (i3 v hn hb2)
    | true =>
      rw[hb1,hb2]at hb;exact h.rest _ v _ hv hn (by simpa using hb) hall
 unfold addP;simp only
 by_cases hp:difB k.pend s&&&S.en (S.mv c s)=0
 ·simp only[if_pos hp];have hall':∀v,v<S.n->P (k.rounds+1) v (S.mv c s):=fun v hn=>hnext v hn (by rw[hp];simp)
  exact⟨hv,hall',fun v hn hb=>h.rest _ v _ hv hn hb hall',by show k.rounds+1<=_;simp⟩
 ·simp only[if_neg hp];exact⟨hv,hall,hnext,zT _⟩
theorem ByRoundsC.runs(h:ByRoundsC S V D P){res:Nat->Nat->Nat}(hr:ResD D res){ws:List Nat}{c:Conf}(hv:V c)(h0:∀v,v<S.n->P 0 v c):∀p∈S.runs res ws c,RInvC S V P p.1 p.2 :=
 Sys.runs_allD hr (fun c k s=>h.step c k s) (h.start hv h0)
end
end
section
abbrev Ptr:=Nat->Option Nat
def Mt(p:Ptr)(x:Nat):Prop:=∃y,p x=some y/\p y=some x
inductive Mv (g:Gr) (p:Ptr) (v:Nat):Option Nat->Prop
 |accept (u:Nat):p v=none->adj g v u->p u=some v->Mv g p v (some u)
 |propose (u:Nat):p v=none->adj g v u->p u=none->(∀x,adj g v x->p x≠some v)->Mv g p v (some u)
 |withdraw (u w:Nat):p v=some u->p u=some w->w≠v->Mv g p v none
structure PtI(g:Gr)(p:Ptr)(I:Nat->Prop):Prop where
 nb:∀v u,p v=some u->adj g v u
 fresh:∀v u,p v=some u->¬I v->p u=none\/p u=some v\/Mt p u
open Classical in
noncomputable def lv(A B C:Prop):Nat:=if A then 0 else if B then 1 else if C then 0 else 2
noncomputable def lft(p:Ptr)(I:Nat->Prop)(u v:Nat):Nat:=lv (p u=some v/\p v=some u) ((p u=some v/\¬I u)\/(p v=some u/\¬I v)) (Mt p u\/Mt p v)
section
variable {g:Gr}{p:Ptr}{I:Nat->Prop}{v:Nat}{t:Option Nat}
end
end
section
section
variable {g:Gr}{p:Ptr}{I:Nat->Prop}{v:Nat}{t:Option Nat}
end
open Classical in
noncomputable def oldN(g:Gr)(p:Ptr)(I:Nat->Prop):Nat:=((zS g.ports.length).map fun x=>if I x/\p x≠none then 1 else 0).sum
open Classical in
noncomputable def lftN(g:Gr)(p:Ptr)(I:Nat->Prop):Nat:=((zS g.ports.length).map fun x=>((g.ports.getD x []).map fun l=>lft p I x l.1.toNat).sum).sum
open Classical in
end
section
section
variable {g:Gr}{p:Ptr}{I:Nat->Prop}{v w:Nat}{t t':Option Nat}
noncomputable def potN(g:Gr)(p:Ptr)(I:Nat->Prop):Nat:=2*oldN g p I+lftN g p I
open Classical in
end
end
section
structure TreeM(g:Gr):Prop where
 up:∀a v u,a<g.ports.length->adj g v u->(yea g a).getD u 0=(yea g a).getD v 0-1\/(yea g a).getD u 0=(yea g a).getD v 0+1
 one:∀a v u w,a<g.ports.length->adj g v u->adj g v w->(yea g a).getD u 0=(yea g a).getD v 0-1->(yea g a).getD w 0=(yea g a).getD v 0-1->u=w
end
section
def dP(g:Gr)(a v:Nat):Int:=(yea g a).getD v 0
structure Tr(g:Gr):Prop where
 good:ybb g
 conn:yry g=true
 m:TreeM g
section
variable {g:Gr}{a b u v w x:Nat}
theorem Tr.self(h:Tr g)(ha:a<g.ports.length):dP g a a=0:=ybso h.good h.conn ha
theorem Tr.nonneg(h:Tr g)(ha:a<g.ports.length)(hv:v<g.ports.length):0<=dP g a v:=(ycuu h.good h.conn ha hv).1
theorem Tr.pos(h:Tr g)(ha:a<g.ports.length)(hv:v<g.ports.length)(hne:v≠a):1<=dP g a v:=ybvj h.good h.conn ha hv hne
theorem Tr.up(h:Tr g)(ha:a<g.ports.length)(hu:adj g v u):dP g a u=dP g a v-1\/dP g a u=dP g a v+1:=h.m.up a v u ha hu
theorem Tr.one(h:Tr g)(ha:a<g.ports.length)(hu:adj g v u)(hx:adj g v x)(e1:dP g a u=dP g a v-1)(e2:dP g a x=dP g a v-1):u=x:=h.m.one a v u x ha hu hx e1 e2
theorem Tr.back(h:Tr g)(ha:a<g.ports.length)(hv:v<g.ports.length)(hne:v≠a):∃u,adj g v u/\dP g a u=dP g a v-1:=yblh h.good h.conn ha hv hne
theorem Tr.adj1(h:Tr g)(hu:adj g v u):dP g v u=1:=by
 obtain⟨hv,hu'⟩:=h.good.adj_lt hu;have h1:=h.up hv hu;have h2:=h.self hv;have h3:=h.nonneg hv hu';omega
theorem Tr.ne(h:Tr g)(hu:adj g v u):v≠u:=fun e=>by
 subst e;have:=h.adj1 hu;have:=h.self (h.good.adj_lt hu).1;omega
def rchP(g:Gr)(v u:Nat):Int:=(zS g.ports.length).foldl (fun m w=>if dP g w u<dP g w v then max m (dP g w v)else m) 0
theorem yuz(f:Nat->Int)(p:Nat->Prop)[DecidablePred p]:∀(l:List Nat) (m:Int),m<=l.foldl (fun m w=>if p w then max m (f w)else m) m/\(∀w∈l,p w->f w<=l.foldl (fun m w=>if p w then max m (f w)else m) m)/\(l.foldl (fun m w=>if p w then max m (f w)else m) m=m\/∃w∈l,p w/\f w=l.foldl (fun m w=>if p w then max m (f w)else m) m)
 |[],m=>⟨zAX _,fun w hw=>absurd hw zAC,.inl rfl⟩
 | x :: l,m=>by
   obtain⟨h1,h2,h3⟩:=yuz f p l (if p x then max m (f x)else m)
   simp only[List.foldl_cons];refine⟨?_,fun w hw hp=>?_,?_⟩
   ·clear h2 h3
    have:m<=if p x then max m (f x)else m:=by split<;>omega
    omega
   ·rcases List.mem_cons.1 hw with rfl|hw
    ·rw[if_pos hp]at h1 ⊢;omega
    ·exact h2 w hw hp
   ·clear h2
    rcases h3 with h3|⟨w,hw,hp,e⟩
    ·by_cases hp:p x
     ·rw[if_pos hp]at h3 ⊢;rcases Int.le_total (f x) m with q|q
      ·left;rw[h3];omega
      ·right;exact⟨x,zAJ,hp,by rw[h3];omega⟩
     ·rw[if_neg hp]at h3 ⊢;exact .inl h3
    ·exact .inr ⟨w,zX _ hw,hp,e⟩
theorem ybaf(hw:w<g.ports.length)(h:dP g w u<dP g w v):dP g w v<=rchP g v u :=
 (yuz (fun w=>dP g w v) (fun w=>dP g w u<dP g w v) (zS g.ports.length) 0).2.1 w (List.mem_range.2 hw) h
theorem Tr.rch_pos(h:Tr g)(hu:adj g v u):1<=rchP g v u:=by
 obtain⟨hv,hu'⟩:=h.good.adj_lt hu;have h1:=h.adj1 (h.good.adj_symm hu);have h2:=h.self hu';have:=ybaf (g:=g) (w:=u) (u:=u) (v:=v) hu' (by omega)
 omega
theorem Tr.rch_ex(h:Tr g)(hu:adj g v u):∃w,w<g.ports.length/\dP g w u<dP g w v/\dP g w v=rchP g v u:=by
 rcases(yuz (fun w=>dP g w v) (fun w=>dP g w u<dP g w v) (zS g.ports.length) 0).2.2 with e|⟨w,hw,hp,e⟩
 ·have:=h.rch_pos hu;have e:rchP g v u=0:=e;omega
 ·exact⟨w,List.mem_range.1 hw,hp,e⟩
theorem Tr.into(h:Tr g)(hu:adj g v u)(hx:adj g u x)(hne:x≠v)(hw:w<g.ports.length)(hs:dP g w x<dP g w u):dP g w u<dP g w v/\dP g w v=dP g w u+1:=by
 have h1:=h.up hw hx;have h2:=h.up hw (h.good.adj_symm hu);rcases h2 with h2|h2
 ·exact absurd (h.one hw hx (h.good.adj_symm hu) (by omega) h2) hne
 ·omega
theorem Tr.rch_step(h:Tr g)(hu:adj g v u)(hx:adj g u x)(hne:x≠v):1+rchP g u x<=rchP g v u:=by
 obtain⟨w,hw,h1,h2⟩:=h.rch_ex hx;obtain⟨h3,h4⟩:=h.into hu hx hne hw h1;have:=ybaf hw h3;omega
theorem Tr.rch_from(h:Tr g)(hu:adj g v u)(h2:2<=rchP g v u):∃x,adj g u x/\x≠v/\rchP g v u=1+rchP g u x:=by
 obtain⟨hv,hu'⟩:=h.good.adj_lt hu;obtain⟨w,hw,h3,h4⟩:=h.rch_ex hu;have h5:=h.up hw (h.good.adj_symm hu)
 have hne:w≠u:=fun e=>by
  subst e;have:=h.self hw;omega
 obtain⟨x,hx,h6⟩:=h.back hw hu' (fun e=>hne e.symm);have hxv:x≠v:=fun e=>by subst e;omega
 refine⟨x,hx,hxv,?_⟩;have a:=h.rch_step hu hx hxv;have b:=ybaf (g:=g) (u:=x) (v:=u) hw (by omega)
 omega
def step2(p:Int×Int)(a:Int):Int×Int:=if a>p.1 then(a,p.1)else(p.1,max p.2 a)
def top2(b:Int)(l:List Int):Int×Int:=l.foldl step2 (b,b)
theorem ybpw(b:Int)(l:List Int)(a:Int):top2 b (l++[a])=step2 (top2 b l) a:=by unfold top2;rw[zAV];rfl
theorem yyd(b:Int)(l:List Int):∀k,k<=l.length->b<=(top2 b (l.take k)).2/\(top2 b (l.take k)).2<=(top2 b (l.take k)).1/\∀m,b<m->(m<=(top2 b (l.take k)).1↔1<=(l.take k).countP fun x=>decide (m<=x))/\(m<=(top2 b (l.take k)).2↔2<=(l.take k).countP fun x=>decide (m<=x))
 | 0,_=>by
   refine⟨zAX _,zAX _,fun m hm=>?_⟩;have e:(top2 b (l.take 0))=(b,b):=rfl;rw[e];simp only[List.take_zero,zBB];omega
 | k + 1,hk=>by
   obtain⟨h1,h2,h3⟩:=yyd b l k (by omega)
   rw[zAG (show k<l.length by omega),ybpw]
   generalize l[k]=a
   have hc:∀m,(l.take k++[a]).countP (fun x=>decide (m<=x))=(l.take k).countP (fun x=>decide (m<=x))+if m<=a then 1 else 0:=fun m=>by
    rw[List.countP_append,zAZ,zBB];simp
   generalize top2 b (l.take k)=P at *
   unfold step2;split
   ·refine⟨by simp only;omega,by simp only;omega,fun m hm=>?_⟩
    obtain⟨h4,h5⟩:=h3 m hm;rw[hc];simp only;constructor
    ·split<;>omega
    ·split<;>omega
   ·refine⟨by simp only;omega,by simp only;omega,fun m hm=>?_⟩
    obtain⟨h4,h5⟩:=h3 m hm;rw[hc];simp only;constructor
    ·split<;>omega
    ·split<;>omega
theorem ybez(b:Int)(l:List Int):b<=(top2 b l).2/\(top2 b l).2<=(top2 b l).1/\∀m,b<m->(m<=(top2 b l).1↔1<=l.countP fun x=>decide (m<=x))/\(m<=(top2 b l).2↔2<=l.countP fun x=>decide (m<=x)):=by
 have h:=yyd b l l.length (zT _)
 rwa [zAO]at h
theorem yxk{p:Int×Int->Bool}:∀{ls:List (Int×Int)},(ls.map (·.1)).Nodup->(2<=ls.countP p↔∃a∈ls,∃b∈ls,a.1≠b.1/\p a=true/\p b=true)
 |[],_=>by simp
 | l :: ls,hn=>by
   have hn:=List.nodup_cons.1 hn;have ih:=yxk (p:=p) hn.2
   have one:1<=ls.countP p↔∃a∈ls,p a=true:=by
    rw[Nat.one_le_iff_ne_zero,Nat.ne_zero_iff_zero_lt,List.countP_pos_iff]
   have hno:∀a∈ls,l.1≠a.1:=fun a ha e=>hn.1 (List.mem_map.2 ⟨a,ha,e.symm⟩);rw[zAZ];constructor
   ·intro h
    by_cases hp:p l=true
    ·rw[if_pos hp]at h;obtain⟨a,ha,hpa⟩:=one.1 (by omega)
     exact⟨l,zAJ,a,zX _ ha,hno a ha,hp,hpa⟩
    ·rw[if_neg hp]at h;obtain⟨a,ha,b,hb,q⟩:=ih.1 (by omega)
     exact⟨a,zX _ ha,b,zX _ hb,q⟩
   ·rintro⟨a,ha,b,hb,hab,hpa,hpb⟩;rcases List.mem_cons.1 ha with ea|ha
    ·rcases List.mem_cons.1 hb with eb|hb
     ·exact absurd (by rw[ea,eb]) hab
     ·have:=one.2 ⟨b,hb,hpb⟩;rw[<-ea,if_pos hpa];omega
    ·rcases List.mem_cons.1 hb with eb|hb
     ·have:=one.2 ⟨a,ha,hpa⟩;rw[<-eb,if_pos hpb];omega
     ·have:=ih.2 ⟨a,ha,b,hb,hab,hpa,hpb⟩;omega
theorem yqa(hg:ybb g)(hv:v<g.ports.length):((g.ports.getD v []).map (·.1)).Nodup:=by
 have h:=(hg.2.2.2.2.2.1 ⟨v,hv⟩).2;have e0:g.ports[v]=g.ports.getD v []:=by rw[Sh.getD_at hv]
 have h:((g.ports[v]).map (·.1)).Nodup:=h
 rwa [e0]at h
theorem ydco(hg:ybb g)(hv:v<g.ports.length){f:Nat->Int}{m:Int}:2<=((g.ports.getD v []).map fun l=>f l.1.toNat).countP (fun x=>decide (m<=x))↔∃a b,adj g v a/\adj g v b/\a≠b/\m<=f a/\m<=f b:=by
 rw[List.countP_map,yxk (yqa hg hv)];constructor
 ·rintro⟨a,ha,b,hb,hne,hpa,hpb⟩;obtain⟨a1,_,a3,_⟩:=ycz hg hv ha;obtain⟨b1,_,b3,_⟩:=ycz hg hv hb;exact⟨_,_,a3,b3,by omega,of_decide_eq_true hpa,of_decide_eq_true hpb⟩
 ·rintro⟨a,b,ha,hb,hne,hpa,hpb⟩;obtain⟨la,hla,ea⟩:=yqb ha;obtain⟨lb,hlb,eb⟩:=yqb hb;exact⟨la,hla,lb,hlb,fun e=>hne (by rw[<-ea,<-eb,e]),decide_eq_true (by show m<=f la.1.toNat;rw[ea];exact hpa),decide_eq_true (by show m<=f lb.1.toNat;rw[eb];exact hpb)⟩
def htP(g:Gr)(v:Nat):Int:=(top2 0 ((g.ports.getD v []).map fun l=>rchP g v l.1.toNat)).2
theorem ybor(g:Gr)(v:Nat):0<=htP g v:=(ybez 0 _).1
theorem ybpc(hg:ybb g)(hv:v<g.ports.length){m:Int}(hm:1<=m):m<=htP g v↔∃a b,adj g v a/\adj g v b/\a≠b/\m<=rchP g v a/\m<=rchP g v b:=by
 rw[<-ydco hg hv (f:=fun u=>rchP g v u)];exact((ybez 0 _).2.2 m (by omega)).2
theorem Tr.thru(h:Tr g)(hw:w<g.ports.length):∀(k:Nat) (v u x:Nat),adj g v u->dP g w u=dP g w v+1->x<g.ports.length->dP g x u<dP g x v->(dP g x u).toNat<k->dP g w x=dP g w u+dP g x u
 |0,v,u,x,_,_,_,_,hk=>by omega
 | k + 1,v,u,x,hu,hwu,hx,hs,hk=>by
   obtain⟨hv,hu'⟩:=h.good.adj_lt hu
   by_cases e:x=u
   ·subst e;rw[h.self hx];omega
   ·obtain⟨y,hy,h1⟩:=h.back hx hu' (fun q=>e q.symm);have hyv:y≠v:=fun q=>by subst q;omega
    have h2:=h.up hw hy
    have hw1:dP g w y=dP g w u+1:=by
     rcases h2 with h2|h2
     ·exact absurd (h.one hw hy (h.good.adj_symm hu) h2 (by omega)) hyv
     ·exact h2
    have:=h.nonneg hx (h.good.adj_lt hy).2;have ih:=Tr.thru h hw k u y x hy hw1 hx (by omega) (by omega)
    omega
theorem Tr.apart(h:Tr g)(ha:adj g v a)(hb:adj g v b)(hne:a≠b)(hw:w<g.ports.length)(hx:x<g.ports.length)(h1:dP g w a<dP g w v)(h2:dP g x b<dP g x v):dP g w x=dP g w v+dP g x v:=by
 have a1:=h.up hw ha;have b1:=h.up hw hb;have b2:=h.up hx hb
 have hwb:dP g w b=dP g w v+1:=by
  rcases b1 with q|q
  ·exact absurd (h.one hw ha hb (by omega) q) hne
  ·exact q
 have:=h.thru hw _ v b x hb hwb hx h2 (Nat.lt_succ_self _);omega
end
end
section
def yqs:Ex:=.bin 35 (eQ 0) (.leaf 17 0)
def ylh:Ex:=.bin 35 (eQ 0) yxl
def yzl:Ex:=.bin 41 (.bin 41 (.bin 35 (.leaf 11 0) (eVar 0)) (.bin 36 (eQ 0) yxl)) (.bin 36 (eQ 0) (.leaf 17 0))
def ycn(nm p a b w:ByteArray):ProgT:=⟨nm,[⟨p,3,0,0,0,0⟩],[⟨a,.bin 41 (.bin 35 (eVar 0) yxl) (.agg 21 yqs),[(0,.agg 23 yqs)]⟩,⟨b,.bin 41 (.bin 35 (eVar 0) yxl) (.agg 21 ylh),[(0,.agg 23 ylh)]⟩,⟨w,.agg 21 yzl,[(0,yxl)]⟩]⟩
theorem yur{α:Type}(f:α->Bool)(ls:List α):countP (ls.map fun l=>ybp (f l))=((ls.filter f).length:Int):=by
 unfold countP
 induction ls with
 |nil=>rfl
 | cons l ls ih =>
   cases h:f l with
   | false =>
     rw[zBE,zAH,zAH,h];have e:((ybp false != 0)=true)=False:=by simp[ybp]
     simp only[e,if_false,Bool.false_eq_true];exact ih
   | true =>
     rw[zBE,zAH,zAH,h];have e:((ybp true != 0)=true)=True:=by simp[ybp]
     simp only[e,if_true,zU];omega
theorem ytj{α:Type}(f:α->Bool)(ls:List α):ygc 21 (ls.map fun l=>ybp (f l))=ybp (ls.any f):=by
 show ybp (decide (countP _>0))=_;rw[yur];congr 1;rw[Bool.eq_iff_iff,decide_eq_true_iff,List.any_eq_true];constructor
 ·intro h;obtain⟨l,hl⟩:=List.exists_mem_of_length_pos (show 0<(ls.filter f).length by omega)
  exact⟨l,(List.mem_filter.1 hl).1,(List.mem_filter.1 hl).2⟩
 ·rintro⟨l,hl,hf⟩;have:=List.length_pos_of_mem (List.mem_filter.2 ⟨hl,hf⟩);omega
def pAt(c:Conf)(v:Nat):Int:=(c.getD v []).getD 0 0
def toP(g:Gr)(c:Conf):Ptr:=fun v=>if v<g.ports.length/\0<=pAt c v then some ((g.ports.getD v []).getD (pAt c v).toNat (0,0)).1.toNat else none
def ytg(g:Gr)(c:Conf)(v:Nat)(l:Int×Int):Bool:=endP c 0 l==yer (g.ports.getD l.1.toNat []) v
def ylv(c:Conf)(l:Int×Int):Bool:=endP c 0 l == -1
structure MtC(g:Gr)(c:Conf):Prop where
 len:c.length=g.ids.length
 row:∀v,v<g.ids.length->(c.getD v []).length=1/\(-1<=pAt c v/\pAt c v<(g.ports.getD v []).length)
section
variable {nm np na nb nw:ByteArray}{g:Gr}{c:Conf}{u v s:Nat}
theorem ycri(hc:yhb (ycn nm np na nb nw) g c=true):MtC g c:=by
 have h:=(ydu _ _ _).1 hc;refine⟨h.1,fun v hv=>?_⟩;have hlt:v<c.length:=by rw[h.1];exact hv
 have e:c.getD v []=c[v]:=by simp[zY,hlt]
 have h2:=h.2 v _ (zK hlt);unfold pAt;rw[e];have hl:c[v].length=1:=h2.1;have a0:(ybh g v ⟨np,3,0,0,0,0⟩).1<=c[v][0]/\c[v][0]<=(ybh g v ⟨np,3,0,0,0,0⟩).2:=h2.2 0 _ _ rfl (zK (by omega))
 have e0:c[v].getD 0 0=c[v][0]:=by simp[zY,hl]
 rw[e0];rw[bT3]at a0;simp only at a0;exact⟨hl,by omega,by omega⟩
theorem yvu(hg:ybb g)(h:MtC g c)(hv:v<g.ports.length){l:Int×Int}(hl:l∈g.ports.getD v []):ytg g c v l=true↔toP g c l.1.toNat=some v:=by
 obtain⟨h1,h2,_⟩:=ycz hg hv hl;have hpl:=hg.2.2.1;have hn:=yqa hg h2
 have hb:((v:Int),l.2)∈g.ports.getD l.1.toNat []:=by
  have:=hg.2.2.2.2.2.2 ⟨v,hv⟩ l (by show l∈g.ports[v];rw[<-Sh.getD_at hv (d:=[])];exact hl)
  exact this
 obtain⟨k,e1,e2⟩:=yll hn hb;obtain⟨hk,ek⟩:=List.getElem?_eq_some_iff.1 e2;have hrow:=(h.row l.1.toNat (by omega)).2
 unfold ytg toP;rw[beq_iff_eq,e1];have hp:endP c 0 l=pAt c l.1.toNat:=rfl;rw[hp];constructor
 ·intro q;rw[q,if_pos (by omega),zAN,Sh.getD_at hk,ek]
  simp
 ·intro q
  by_cases q0:0<=pAt c l.1.toNat
  ·rw[if_pos ⟨h2,q0⟩]at q;obtain⟨j,hj⟩:∃j:Nat,pAt c l.1.toNat=j:=zAF q0;rw[hj,zAN]at q;have hjl:j<(g.ports.getD l.1.toNat []).length:=by omega
   rw[Sh.getD_at hjl]at q;have q:=Option.some.inj q;obtain⟨m1,_⟩:=ycz hg h2 (zAB hjl);have hj':j<((g.ports.getD l.1.toNat []).map (·.1)).length:=by rw[zV];exact hjl
   have hk':k<((g.ports.getD l.1.toNat []).map (·.1)).length:=by rw[zV];exact hk
   have:=(List.getElem_inj (h₀:=hj') (h₁:=hk') hn).1 (by rw[zZ,zZ,ek];simp only;omega)
   rw[hj,this]
  ·rw[if_neg (fun r=>q0 r.2)]at q;cases q
theorem yov(hg:ybb g)(h:MtC g c)(hv:v<g.ports.length){l:Int×Int}(hl:l∈g.ports.getD v []):ylv c l=true↔toP g c l.1.toNat=none:=by
 obtain⟨h1,h2,_⟩:=ycz hg hv hl;have hrow:=(h.row l.1.toNat (by have:=hg.2.2.1;omega)).2
 unfold ylv toP;have hp:endP c 0 l=pAt c l.1.toNat:=rfl;rw[beq_iff_eq,hp];constructor
 ·intro q;rw[if_neg (by omega)]
 ·intro q
  by_cases q0:0<=pAt c l.1.toNat
  ·rw[if_pos ⟨h2,q0⟩]at q;cases q
  ·omega
theorem ybos(hv:v<g.ports.length){q:Nat}(hq:q<(g.ports.getD v []).length):ycu g c v (.leaf 17 0) q=yer (g.ports.getD (ybn g v q).1.toNat []) v:=by
 show(ygx g v).getD (q:Int).toNat 0=_;unfold ygx ybn;rw[zAN,zW,zAM,zK hq,Sh.getD_at hq];rfl
theorem ybrh(hv:v<g.ports.length){q:Nat}(hq:q<(g.ports.getD v []).length):ycu g c v yqs q=ybp (ytg g c v (ybn g v q)):=by
 show ybp (cmpP 35 (ycu g c v (eQ 0) q) (ycu g c v (.leaf 17 0) q))=_;rw[ybos hv hq];rfl
end
end
section
def kcEx:Ex:=.agg 21 (.bin 35 (eQ 0) (eVar 0))
def ybkx(nm c r:ByteArray):ProgT:=⟨nm,[⟨c,1,0,0,1,0⟩],[⟨r,kcEx,[(0,.agg 27 (eQ 0))]⟩]⟩
def ybwm(c:Conf)(v:Nat):Int:=(c.getD v []).getD 0 0
def ydgr(g:Gr)(c:Conf)(v:Nat):Prop:=∃u,adj g v u/\ybwm c u=ybwm c v
structure KcC(g:Gr)(c:Conf):Prop where
 len:c.length=g.ids.length
 row:∀v,v<g.ids.length->(c.getD v []).length=1/\(0<=ybwm c v/\ybwm c v<=g.ids.length)
section
variable {nm nc nr:ByteArray}{g:Gr}{c:Conf}{u v s:Nat}
def kcR(g:Gr)(r v:Nat)(c:Conf):Prop:=1<=r->¬ydgr g c v
structure KcJ(nm nc nr:ByteArray)(g:Gr)(c:Conf)(k:Cnt):Prop where
 inv:RInvC (ybu (ybkx nm nc nr) g) (fun c=>yhb (ybkx nm nc nr) g c=true) (kcR g) c k
 moves:k.moves+popP (ybs (ybkx nm nc nr) g c)<=g.ids.length
end
end
section
def ywf(back:Bool)(g:Gr)(a b:Nat)(w:Int):Gr:=if a=b\/ybrc (g.ports.getD a []) b=true then g else yho back g a b w
namespace Sh
open Ev Go.RowKit
theorem ybxm(back:Bool)(L:List (Int×Int))(x:Int×Int):(addL back L x).length=L.length+1:=by
 unfold addL;cases back<;>simp
section
variable {x:NetR}{g:Gr}{a b:Nat}{w:Int}
end
end Sh
end
section
theorem ybph{back:Bool}{g:Gr}{a b:Nat}{w:Int}(ha:a<g.ports.length)(hb:b<g.ports.length){m:Nat}(h:Tre g m):Tre (ywf back g a b w) m:=by
 unfold ywf;split
 ·exact h
 ·exact h.add ha hb
theorem ybmi{back:Bool}{g:Gr}{a b:Nat}{w:Int}(ha:a<g.ports.length)(hb:b<g.ports.length)(hab:a≠b):adj (ywf back g a b w) a b:=by
 unfold ywf;split
 ·rename_i h
  rcases h with h|h
  ·exact absurd h hab
  ·obtain⟨l,hl,e⟩:=List.any_eq_true.1 h;exact yki.2 ⟨l,hl,of_decide_eq_true e⟩
 ·exact ybbe ha hb hab
theorem ybch:∀(l:List Nat) (i x:Nat) (h:i<l.length),(l.set i x).sum+l[i]=l.sum+x
 |a::l,0,x,_=>by simp;omega
 | a::l,i+1,x,h=>by
   have:=ybch l i x (by simpa using h)
   simp only[List.set_cons_succ,List.sum_cons,List.getElem_cons_succ];omega
theorem ybir{back:Bool}{g:Gr}{a b:Nat}{w:Int}(ha:a<g.ports.length)(hb:b<g.ports.length)(hab:a≠b):yqo (yho back g a b w)=yqo g+2:=by
 unfold yqo yho;simp only[List.map_set,Sh.ybxm];have h1:=ybch (g.ports.map zAW) a ((g.ports.getD a []).length+1) (by simpa using ha)
 have h2:=ybch ((g.ports.map zAW).set a ((g.ports.getD a []).length+1)) b ((g.ports.getD b []).length+1) (by simpa using hb)
 rw[List.getElem_set_ne hab,zZ,<-Sh.getD_at hb (d:=[])]at h2;rw[zZ,<-Sh.getD_at ha (d:=[])]at h1;omega
def WtF(x:NetR)(g:Gr):Prop:=∀v l,l∈g.ports.getD v []->∃i,l.2=1+ybw (atP x.weights i) 15
theorem ybvo{x:NetR}{back:Bool}{g:Gr}{a b:Nat}{w:Int}(ha:a<g.ports.length)(hb:b<g.ports.length)(hw:∃i,w=1+ybw (atP x.weights i) 15)(h:WtF x g):WtF x (ywf back g a b w):=by
 unfold ywf;split
 ·exact h
 ·intro v l hl;rw[yjf back g w ha hb]at hl;split at hl
  ·rcases yku.1 hl with rfl|hl
   ·exact hw
   ·exact h _ _ hl
  ·split at hl
   ·rcases yku.1 hl with rfl|hl
    ·exact hw
    ·exact h _ _ hl
   ·exact h _ _ hl
structure TreeTo(x:NetR)(v:Nat)(g:Gr):Prop where
 tre:Tre g v
 wt:WtF x g
 none_:∀u,v<=u->g.ports.getD u []=[]
 count:yqo g+2=2*v
theorem ysm(ids:List Int)(v:Nat):(bare ids).ports.getD v []=[]:=by
 unfold bare;rw[zW,List.getElem?_replicate];split<;>rfl
theorem TreeTo.zero(x:NetR)(ids:List Int):TreeTo x 1 (bare ids):=by
 refine⟨fun v h0 h1=>by omega,fun v l hl=>?_,fun u _=>ysm ids u,?_⟩
 ·rw[ysm]at hl;exact absurd hl zAC
 ·have:yqo (bare ids)=0:=by
   unfold yqo bare;simp
  omega
theorem TreeTo.succ{x:NetR}{v:Nat}{g:Gr}(hg:ybb g)(h:TreeTo x v g)(hv:v<g.ports.length)(h1:1<=v){a:Nat}(ha:a<v){w:Int}(hw:∃i,w=1+ybw (atP x.weights i) 15):TreeTo x (v+1) (ywf x.back g a v w):=by
 have hadj:=ybmi (back:=x.back) (g:=g) (a:=a) (b:=v) (w:=w) (by omega) (by omega) (by omega)
 have hno:¬(a=v\/ybrc (g.ports.getD a []) v=true):=by
  rintro(e|e)
  ·omega
  ·obtain⟨l,hl,e⟩:=List.any_eq_true.1 e;have e:=of_decide_eq_true e;have:adj g v a:=hg.adj_symm (yki.2 ⟨l,hl,e⟩);obtain⟨l',hl',_⟩:=yki.1 this;rw[h.none_ v (zT _)]at hl';exact absurd hl' zAC
 have e:ywf x.back g a v w=yho x.back g a v w:=by unfold ywf;rw[if_neg hno]
 refine⟨fun u h0 hu=>?_,ybvo (by omega) hv hw h.wt,fun u hu=>?_,?_⟩
 ·by_cases q:u=v
  ·subst q;exact⟨a,ha,hadj⟩
  ·exact ybph (by omega) hv h.tre u h0 (by omega)
 ·rw[e,yjf x.back g w (by omega) hv,if_neg (by omega),if_neg (by omega)]
  exact h.none_ u (by omega)
 ·rw[e,ybir (by omega) hv (by omega)]
  have:=h.count;omega
namespace Sh
open Ev Go.RowKit
end Sh
end
section
namespace Sh
open Ev Go.RowKit
end Sh
end
section
namespace Sh
open Ev Go.RowKit
theorem ybwf(l:List Nat):one1 (usV l)=true:=rfl
theorem ybtl{n:Nat}(l:List Nat):owned (n+1) (usV l)=false:=rfl
theorem ybke{n:Nat}(l:List Nat):scalar (n+1) (usV l)=false:=rfl
theorem ybyq{n:Nat}(o:Own)(l:List Nat):view o (n+1) (usV l)=usV l:=rfl
theorem ycqh{n:Nat}(o:Own)(l:List Nat):vok o (n+1) (usV l)=True:=rfl
theorem ycxg{n:Nat}(h:Nm->Nm)(l:List Nat):ren h (n+1) (usV l)=usV l:=rfl
theorem ycxa{n:Nat}(D:Nm->Bool)(l:List Nat):cln D (n+1) (usV l)=true:=rfl
theorem ybuy{n:Nat}(fr:List Nm)(o:Own)(l:List Nat):ycw fr o (n+1) (usV l)=usV l:=rfl
theorem ycto{n:Nat}(fr:List Nm)(o:Own)(l:List Nat):pok fr o (n+1) (usV l)=True:=rfl
theorem ybtc(l:List Nat):SV.cells (usV l)=[usV l]:=rfl
theorem ybei(l:List Conf):one1 (yef l)=true:=rfl
theorem yya{n:Nat}(l:List Conf):owned (n+1) (yef l)=false:=rfl
theorem yvc{n:Nat}(l:List Conf):scalar (n+1) (yef l)=false:=rfl
theorem ybea{n:Nat}(o:Own)(l:List Conf):view o (n+1) (yef l)=yef l:=rfl
theorem ybin{n:Nat}(o:Own)(l:List Conf):vok o (n+1) (yef l)=True:=rfl
theorem ybhu{n:Nat}(h:Nm->Nm)(l:List Conf):ren h (n+1) (yef l)=yef l:=rfl
theorem ybkk{n:Nat}(D:Nm->Bool)(l:List Conf):cln D (n+1) (yef l)=true:=rfl
theorem yxq{n:Nat}(fr:List Nm)(o:Own)(l:List Conf):ycw fr o (n+1) (yef l)=yef l:=rfl
theorem ybia{n:Nat}(fr:List Nm)(o:Own)(l:List Conf):pok fr o (n+1) (yef l)=True:=rfl
theorem yxw(l:List Conf):SV.cells (yef l)=[yef l]:=rfl
theorem ybjs(l:List Cnt):one1 (ygu l)=true:=rfl
theorem ybdg{n:Nat}(l:List Cnt):owned (n+1) (ygu l)=false:=rfl
theorem yxz{n:Nat}(l:List Cnt):scalar (n+1) (ygu l)=false:=rfl
theorem ybkf{n:Nat}(o:Own)(l:List Cnt):view o (n+1) (ygu l)=ygu l:=rfl
theorem ybnz{n:Nat}(o:Own)(l:List Cnt):vok o (n+1) (ygu l)=True:=rfl
theorem ybto{n:Nat}(h:Nm->Nm)(l:List Cnt):ren h (n+1) (ygu l)=ygu l:=rfl
theorem ybsd{n:Nat}(D:Nm->Bool)(l:List Cnt):cln D (n+1) (ygu l)=true:=rfl
theorem ybcq{n:Nat}(fr:List Nm)(o:Own)(l:List Cnt):ycw fr o (n+1) (ygu l)=ygu l:=rfl
theorem ybmj{n:Nat}(fr:List Nm)(o:Own)(l:List Cnt):pok fr o (n+1) (ygu l)=True:=rfl
theorem ybcx(l:List Cnt):SV.cells (ygu l)=[ygu l]:=rfl
theorem ybvm(l:List Bool):one1 (blV l)=true:=rfl
theorem ybsv{n:Nat}(l:List Bool):owned (n+1) (blV l)=false:=rfl
theorem ybhy{n:Nat}(l:List Bool):scalar (n+1) (blV l)=false:=rfl
theorem ybzk{n:Nat}(o:Own)(l:List Bool):view o (n+1) (blV l)=blV l:=rfl
theorem ycqu{n:Nat}(o:Own)(l:List Bool):vok o (n+1) (blV l)=True:=rfl
theorem ycrw{n:Nat}(h:Nm->Nm)(l:List Bool):ren h (n+1) (blV l)=blV l:=rfl
theorem ycvu{n:Nat}(D:Nm->Bool)(l:List Bool):cln D (n+1) (blV l)=true:=rfl
theorem ybpi{n:Nat}(fr:List Nm)(o:Own)(l:List Bool):ycw fr o (n+1) (blV l)=blV l:=rfl
theorem ycte{n:Nat}(fr:List Nm)(o:Own)(l:List Bool):pok fr o (n+1) (blV l)=True:=rfl
theorem ybug(l:List Bool):SV.cells (blV l)=[blV l]:=rfl
attribute [go_sem] ybwf ybtl ybke ybyq ycqh ycxg ycxa ybuy ycto ybtc ybei yya yvc ybea ybin ybhu ybkk yxq ybia yxw ybjs ybdg yxz ybkf ybnz ybto ybsd ybcq ybmj ybcx ybvm ybsv ybhy ybzk ycqu ycrw ycvu ybpi ycte ybug
theorem Ct.found{P:Program}{g:FuncId}{args:List SV}{α:Type}{R:SV->α->Prop}{V:α->SV}{Q:SV->Prop}(h:Ct P g args fun r=>∃x,R r x)(hs:∀r x,R r x->Sim r (V x))(hq:∀r x,R r x->Q (V x)):Ct P g args Q:=fun G m us h1 h2 h3=>by
 obtain⟨v,m',r,a,b,c,⟨x,hx⟩,e⟩:=h G m us h1 h2 h3;exact⟨v,m',V x,a,b,c,hq r x hx,hs r x hx _ _ _ e⟩
theorem Sys.run_len(S:Sys)(res:Nat->Nat->Nat):∀(ws:List Nat) (c:Conf) (k:Cnt),(S.run res ws c k).length<=ws.length
 |[],_,_=>zT _
 | w :: ws,c,k=>by
   unfold Sys.run;split
   ·exact zAD _
   ·simp only[zU];have:=Sys.run_len S res ws (S.mv c (res (S.en c) w)) (addP k (res (S.en c) w) (S.en (S.mv c (res (S.en c) w))));omega
structure RunD(S:Sys)(res:Nat->Nat->Nat)(ws:List Nat)(c:Conf)(n:Nat)(Cs:List Conf)(Ks:List Cnt):Prop where
 cs:(S.runs res ws c).map (·.1)=Cs
 ks:(S.runs res ws c).map (·.2)=Ks
 len:(S.runs res ws c).length=n
 pos:0<n
 le:n<=ws.length+1
theorem RunD.at_{S:Sys}{res:Nat->Nat->Nat}{ws:List Nat}{c:Conf}{n:Nat}{Cs:List Conf}{Ks:List Cnt}(h:RunD S res ws c n Cs Ks){k:Nat}(hk:k<n):(Cs.getD k [],Ks.getD k default)∈S.runs res ws c/\(S.runs res ws c)[k]?=some (Cs.getD k [],Ks.getD k default):=by
 have hk':k<(S.runs res ws c).length:=by rw[h.len];exact hk
 have e:(S.runs res ws c)[k]=(Cs.getD k [],Ks.getD k default):=by
  rw[<-h.cs,<-h.ks];simp[zY,hk']
 exact⟨by rw[<-e];exact zAB hk',by rw[<-e];exact zK hk'⟩
theorem RunD.lC{S:Sys}{res:Nat->Nat->Nat}{ws:List Nat}{c:Conf}{n:Nat}{Cs:List Conf}{Ks:List Cnt}(h:RunD S res ws c n Cs Ks):Cs.length=n:=by rw[<-h.cs,zV,h.len]
theorem RunD.lK{S:Sys}{res:Nat->Nat->Nat}{ws:List Nat}{c:Conf}{n:Nat}{Cs:List Conf}{Ks:List Cnt}(h:RunD S res ws c n Cs Ks):Ks.length=n:=by rw[<-h.ks,zV,h.len]
theorem runD(S:Sys)(res:Nat->Nat->Nat)(ws:List Nat)(c:Conf):∃n Cs Ks,RunD S res ws c n Cs Ks :=
 ⟨_,_,_,rfl,rfl,rfl,by simp[Sys.runs],by have:=Sys.run_len S res ws c (ydg (S.en c));simp only[Sys.runs,zU];omega⟩
theorem RunD.last{S:Sys}{res:Nat->Nat->Nat}{ws:List Nat}{c:Conf}{n:Nat}{Cs:List Conf}{Ks:List Cnt}(h:RunD S res ws c n Cs Ks){k:Nat}(hk:k+1<n):S.en (Cs.getD k [])≠0:=by
 have h1:=(h.at_ (show k<n by omega)).2
 exact Sys.runs_last (by rw[h.len];exact hk) h1
end Sh
end
section
namespace Sh
theorem ybfl(S:Sys)(res:Nat->Nat->Nat):∀(ws:List Nat) (c:Conf) (k:Cnt),(S.run res ws c k).length<ws.length->S.en (((c,k)::S.run res ws c k).getD (S.run res ws c k).length default).1=0
 |[],c,k,h=>by simp at h
 | w :: ws,c,k,h=>by
   unfold Sys.run at h ⊢
   by_cases h0:S.en c=0
   ·simp only[if_pos h0];exact h0
   ·simp only[if_neg h0,zU]at h ⊢;exact ybfl S res ws _ _ (by omega)
theorem RunD.over{S:Sys}{res:Nat->Nat->Nat}{ws:List Nat}{c:Conf}{n:Nat}{Cs:List Conf}{Ks:List Cnt}(h:RunD S res ws c n Cs Ks):S.en (Cs.getD (n-1) [])=0\/n=ws.length+1:=by
 by_cases q:n=ws.length+1
 ·exact .inr q
 ·left
  have hl:=h.len;have h1:=h.le
  have h2:=ybfl S res ws c (ydg (S.en c)) (by
   simp only[Sys.runs,zU]at hl;omega)
  have e:(S.run res ws c (ydg (S.en c))).length=n-1:=by simp only[Sys.runs,zU]at hl;omega
  rw[e]at h2;have h3:=(h.at_ (show n-1<n by have:=h.pos;omega)).2
  have e2:((c,ydg (S.en c))::S.run res ws c (ydg (S.en c))).getD (n-1) default=(Cs.getD (n-1) [],Ks.getD (n-1) default):=by
   rw[zW];have h3:((c,ydg (S.en c))::S.run res ws c (ydg (S.en c)))[n-1]?=some (Cs.getD (n-1) [],Ks.getD (n-1) default):=h3;rw[h3];rfl
  rw[e2]at h2;exact h2
end Sh
end
end Go.Proofs.YtiejahgklcjhkaaGreatDoor
