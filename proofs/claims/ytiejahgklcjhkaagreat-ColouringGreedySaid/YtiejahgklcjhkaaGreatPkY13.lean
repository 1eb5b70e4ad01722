/- Joined. -/
import Derived.Test.YtiejahgklcjhkaaGreatPkY12
import Derived.Test.YtiejahgklcjhkaaGreatPkY9
set_option linter.unusedSimpArgs false
set_option linter.unusedVariables false
set_option maxRecDepth 8000
open Nat renaming reduceEqDiff→zA,reduceAdd→zB,reduceLeDiff→zC,reduceLT→zF,zero_le→zQ,ble_eq_true_of_le→zT,mod_eq_of_lt→zW,not_lt_zero→zY,eq_zero_or_pos→zAB,shiftRight_eq_div_pow→zAD,lt_succ_self→zAE,pow_le_pow_right→zAK,pow_lt_pow_right→zAL,reduceMul→zAM,lt_of_le_of_lt→zAO,lt_of_lt_of_le→zAP,lt_of_lt_of_eq→zAQ,reduceBEq→zAU,mul_comm→zAW,testBit→zAX,le_refl→zAY,beq→zAZ
open Bool renaming and_eq_true→zD
open Go.Proofs.Tryz renaming prog→zG
open Int renaming natCast_zero→zH,toNat_natCast→zN,emod_lt_of_pos→zAA,reduceToNat→zAH,emod_nonneg→zAI
open List renaming getElem?_eq_getElem→zI,getD→zK,getElem_mem→zL,eq_nil_of_length_eq_zero→zO,take_succ_eq_append_getElem→zS,getElem?_set_self→zV,getElem?_eq_none→zX,getElem?_set_ne→zZ,append_assoc→zAC,take_length→zAF,getElem?_cons_zero→zAG,getElem_of_mem→zAN,length→zAR,length_map→zAS,replicate→zAT,map_cons→zAV
open BitVec renaming ofInt→zJ,ofInt_natCast→zM,toNat_ofNat→zU,getLsbD_ofNat→zAJ
open Go
namespace Go.Proofs.YtiejahgklcjhkaaGreat
section
namespace Sh
open Go Ev
theorem ycgh{g:Gr}(hg:ybc g):0<=maxI g.ids/\maxI g.ids<=255:=by
 have h1:=hg.1;have h2:=hg.2.2.1;rw[ybsy (by omega) fun x hx=>(hg.2.2.2.1 x hx).1]
 exact ypi hg
theorem ybft{x:VarR}(h:x.ok=true):(x.kind=1\/x.kind=2\/x.kind=3)/\(0<=x.lo/\x.lo<=4096)/\(-4096<=x.hi/\x.hi<=4096)/\(0<=x.perNode/\x.perNode<=255)/\(0<=x.perID/\x.perID<=255):=by
 unfold VarR.ok at h;simp only[zD,decide_eq_true_eq]at h;obtain⟨⟨⟨⟨a,b⟩,c⟩,d⟩,e⟩:=h;exact⟨a,b,c,d,e⟩
theorem mulN{a b A B:Int}(h1:0<=a)(h2:a<=A)(h3:0<=b)(h4:b<=B):0<=a*b/\a*b<=A*B:=⟨Int.mul_nonneg h1 h3,Int.mul_le_mul h2 h4 h3 (by omega)⟩
theorem ypj{g:Gr}(hg:ybc g){x:VarR}(hx:x.ok=true):(0<=x.perNode*(g.ids.length:Int)/\x.perNode*(g.ids.length:Int)<=255*24)/\(0<=x.perID*maxI g.ids/\x.perID*maxI g.ids<=255*255):=by
 obtain⟨_,_,_,h4,h5⟩:=ybft hx;have h6:=ycgh hg;have h7:=hg.2.1;have h8:=hg.2.2.1;exact⟨mulN h4.1 h4.2 (by omega) (by omega),mulN h5.1 h5.2 h6.1 h6.2⟩
theorem yzg{g:Gr}(hg:ybc g){x:VarR}(hx:x.ok=true)(v:Int):Returns zG 157 [.ag (varC x),grV g,.i .i64 v] (.tp [.i .i64 x.lo,.i .i64 (x.hi+x.perNode*(g.ids.length:Int)+x.perID*maxI g.ids)]):=by
 refine Returns.of (ycfv _ _ ?_);have h1:=hg.1;have h7:=hg.2.1;have h8:=hg.2.2.1;have hM:=ycfz g.ids (by omega) (by omega)
 obtain⟨hb1,hb2⟩:=ypj hg hx;obtain⟨_,_,hv3,_,_⟩:=ybft hx;simp only[yj]at hM;simp only[c157,ybza,ybxr,grV,varC,yj,go_sem,zA,zB,zC,zF,↓reduceIte,reduceCtorEq];refine⟨ikw (by omega) (by omega),ikw (by omega) (by omega),hM.use ?_⟩
 simp only[ybe,go_sem,zA,zB,↓reduceIte,reduceCtorEq];refine⟨ikw (by omega) (by omega),ikw (by omega) (by omega),?_⟩
 exact Sim.refl _
theorem ybbf(g:Gr)(x:VarR)(v:Int):Returns zG 159 [.ag (varC x),grV g,.i .i64 v] (.tp [.i .i64 0,.i .i64 1]):=by
 refine Returns.of (ycft _ _ ?_);simp only[c159,yccf,ycbs,grV,varC,go_sem,zA,zB,zF,↓reduceIte,reduceCtorEq];exact Sim.refl _
theorem ybbk{g:Gr}(hg:ybc g)(x:VarR){v:Nat}(hv:v<g.ports.length):Returns zG 160 [.ag (varC x),grV g,.i .i64 v] (.tp [.i .i64 (-1),.i .i64 (((g.ports.getD v []).length:Int)-1)]):=by
 refine Returns.of (ychy _ _ ?_);have hd:=hg.deg_lt (v:=v);simp only[c160,yccy,ycbt,grV,ybf,ybd,varC,go_sem,zA,zB,zF,↓reduceIte,reduceCtorEq];refine⟨by omega,ikw (by omega) (by omega),?_⟩
 exact Sim.refl _
theorem ybhu(kind:Int)(b:Int×Int)(x:Int):Returns zG 136 [.i .i64 kind,.ag [.i .i64 b.1,.i .i64 b.2],.i .i64 x] (.i .i64 (yji kind b x)):=by
 refine Returns.of (ycgr _ _ ?_);simp only[c136,ycdr,ybvh,ycco,ybzr,ycdq,ycbh,yceg,ybyk,ybb,yji,go_sem,zAH,zA,zB,zC,zF,zAM,↓reduceIte,reduceCtorEq];refine⟨by omega,fun h1=>⟨by omega,fun h2=>by rw[if_pos ⟨h1,h2⟩],fun h2=>⟨fun h3=>by rw[if_neg (fun q=>h2 q.2),if_pos h3],fun h3=>⟨by omega,fun h4=>⟨by omega,by rw[if_neg (fun q=>h2 q.2),if_neg h3,if_pos h4]⟩,fun h4=>⟨by omega,by rw[if_neg (fun q=>h2 q.2),if_neg h3,if_neg h4]⟩⟩⟩⟩,fun h1=>⟨fun h3=>by rw[if_neg (fun q=>h1 q.1),if_pos h3],fun h3=>⟨by omega,fun h4=>⟨by omega,by rw[if_neg (fun q=>h1 q.1),if_neg h3,if_pos h4]⟩,fun h4=>⟨by omega,by rw[if_neg (fun q=>h1 q.1),if_neg h3,if_neg h4]⟩⟩⟩⟩
theorem ysd{g:Gr}(hg:ybc g){x:VarR}(hx:x.ok=true){v:Nat}(hv:v<g.ports.length):Returns zG 131 [.ag (varC x),grV g,.i .i64 v] (.tp [.i .i64 (ybh g v x).1,.i .i64 (ybh g v x).2]):=by
 refine Returns.of (ycih _ _ ?_);have h1:=yzg hg hx v;have h2:=ybbf g x v;have h3:=ybbk hg x hv;obtain⟨hk,_⟩:=ybft hx;simp only[varC,grV]at h1 h2 h3;simp only[c131,ycdh,ybxc,ybyv,varC,grV,splice,go_sem,zA,zB,zC,zF,↓reduceIte,reduceCtorEq]
 refine ybj (σ:=Nat) (fun k=>⟨[(17,.i .i64 k),(15,.os (14,0) 0 3 true),(16,.i .i64 3),(2,.i .i64 v),(3,.pt (3,0) 0 0),(4,.pt (4,0) 0 0)],
  [(3,.one (some ⟨93,true,6,1,fun _=>varC x⟩)),(4,.one (some ⟨25,true,2,1,fun _=>[yj g.ids,ybf g.ports]⟩)),
   (14,.one (some ⟨178,false,2,3,fun k=>if k=0 then[.i .i64 1,.fn 157 [] []]else if k=1 then[.i .i64 2,.fn 159 [] []]else[.i .i64 3,.fn 160 [] []]⟩))]⟩)
  (fun k=>k<=2/\(1<=k->x.kind≠1)/\(2<=k->x.kind≠2)) (fun k=>3-k) 0 ⟨by omega,by omega,by omega⟩ ?_ ?_
 ·refine yh [] [] [] ?_;simp only[varC,allQ,live,yg,ybb,zH,go_sem,zA,↓reduceIte,reduceCtorEq];refine⟨rfl,fun i hi=>?_⟩;rcases(show i=0\/i=1\/i=2 by omega)with rfl|rfl|rfl
  ·simp only[live,yg,go_sem,↓reduceIte,reduceCtorEq]
  ·simp only[if_neg (show ¬(1:Nat)=0 by omega),live,yg,go_sem,↓reduceIte,reduceCtorEq]
  ·simp only[if_neg (show ¬(2:Nat)=0 by omega),if_neg (show ¬(2:Nat)=1 by omega),live,yg,go_sem,zA,↓reduceIte,reduceCtorEq]
 ·rintro k ⟨hk2,hk3,hk4⟩;rcases(show k=0\/k=1\/k=2 by omega)with rfl|rfl|rfl
  ·simp only[ybcf,ybby,ybbt,ybdj,ybcs,ybct,varC,splice,go_sem,zA,zB,zC,zF,↓reduceIte,reduceCtorEq];refine⟨fun _=>⟨by omega,fun he=>h1.use ?_,fun he=>⟨ikw (by omega) (by omega),?_⟩⟩,fun h=>by omega⟩
   ·simp only[ybe,go_sem,zA,zB,↓reduceIte,reduceCtorEq];have e:ybh g v x=(x.lo,x.hi+x.perNode*(g.ids.length:Int)+x.perID*maxI g.ids):=by unfold ybh;rw[if_pos he.symm]
    rw[e];exact Sim.refl _
   ·refine yu 1 ⟨by omega,fun _ q=>he q.symm,by omega⟩ (by omega) ?_
    refine yh [] [] [] ?_;simp only[allQ,live,yg,ybb,zH,go_sem,zA,↓reduceIte,reduceCtorEq];refine⟨by omega,fun i hi=>?_⟩
    rcases(show i=0\/i=1\/i=2 by omega)with rfl|rfl|rfl
    ·simp only[live,yg,go_sem,↓reduceIte,reduceCtorEq]
    ·simp only[if_neg (show ¬(1:Nat)=0 by omega),live,yg,go_sem,↓reduceIte,reduceCtorEq]
    ·simp only[if_neg (show ¬(2:Nat)=0 by omega),if_neg (show ¬(2:Nat)=1 by omega),live,yg,go_sem,zA,↓reduceIte,reduceCtorEq]
  ·simp only[ybcf,ybby,ybbt,ybdj,ybcs,ybct,varC,splice,go_sem,zA,zB,zC,zF,↓reduceIte,reduceCtorEq];refine⟨fun _=>⟨by omega,fun he=>h2.use ?_,fun he=>⟨ikw (by omega) (by omega),?_⟩⟩,fun h=>by omega⟩
   ·simp only[ybe,go_sem,zA,zB,↓reduceIte,reduceCtorEq];have e:ybh g v x=(0,1):=by unfold ybh;rw[if_neg (by omega),if_pos he.symm]
    rw[e];exact Sim.refl _
   ·refine yu 2 ⟨by omega,fun _=>by omega,fun _ q=>he q.symm⟩ (by omega) ?_
    refine yh [] [] [] ?_;simp only[allQ,live,yg,ybb,go_sem,zA,↓reduceIte,reduceCtorEq];refine⟨by omega,fun i hi=>?_⟩
    rcases(show i=0\/i=1\/i=2 by omega)with rfl|rfl|rfl
    ·simp only[live,yg,go_sem,↓reduceIte,reduceCtorEq]
    ·simp only[if_neg (show ¬(1:Nat)=0 by omega),live,yg,go_sem,↓reduceIte,reduceCtorEq]
    ·simp only[if_neg (show ¬(2:Nat)=0 by omega),if_neg (show ¬(2:Nat)=1 by omega),live,yg,go_sem,zA,↓reduceIte,reduceCtorEq]
  ·simp only[ybcf,ybby,ybbt,ybdj,ybcs,ybct,varC,splice,go_sem,zA,zB,zC,zF,↓reduceIte,reduceCtorEq];refine⟨fun _=>⟨by omega,fun he=>h3.use ?_,fun he=>by omega⟩,fun h=>by omega⟩
   simp only[ybe,go_sem,zA,zB,↓reduceIte,reduceCtorEq];have e:ybh g v x=(-1,((g.ports.getD v []).length:Int)-1):=by unfold ybh;rw[if_neg (by omega),if_neg (by omega),if_pos he.symm]
   rw[e];exact Sim.refl _
def yhv(n:Nat)(vars:List VarR)(b:Nat->VarR->Int×Int):SV:=.sl 1 n (fun v=>[.sl 2 vars.length (fun i=>[.i .i64 (b v (vars.getD i default)).1,.i .i64 (b v (vars.getD i default)).2])])
def rowT(vars:List VarR)(b:VarR->Int×Int):SV:=.sl 2 vars.length (fun i=>[.i .i64 (b (vars.getD i default)).1,.i .i64 (b (vars.getD i default)).2])
theorem ywj(p:ProgR){g:Gr}(hg:ybc g)(hp:p.vars.all VarR.ok=true)(hl:p.vars.length<=6):Returns zG 96 [.ag (ymf p),grV g] (yhv g.ids.length p.vars (ybh g)):=by
 refine Returns.of (yckq _ _ ?_);have h24:=hg.2.1;have hid:=hg.2.2.1;obtain⟨n,hn⟩:∃n,g.ids.length=n:=⟨_,rfl⟩;obtain⟨nv,hnv⟩:∃k,p.vars.length=k:=⟨_,rfl⟩;rw[hn];rw[hnv]at hl;simp only[c96,ycld,ycpo,ycsw,grV,yj,ymf,hn,go_sem,zA,zB,zC,zF,↓reduceIte,reduceCtorEq];refine⟨by omega,?_⟩
 refine ybj (σ:=Nat) (fun k=>⟨[(15,.i .i64 k),(14,.i .i64 n),(5,.os (12,0) 0 n true),(2,.pt (2,0) 0 0),(3,.pt (3,0) 0 0)],
  [(2,.one (some ⟨42,true,3,1,fun _=>ymf p⟩)),(3,.one (some ⟨25,true,2,1,fun _=>[yj g.ids,ybf g.ports]⟩)),
   (12,.one (some ⟨54,false,1,n,fun i=>[if i<k then rowT p.vars (ybh g i)else .a (.slice none 0 0)]⟩))]⟩) (fun k=>k<=n) (fun k=>n-k) 0 (zQ _) ?_ ?_
 ·refine yh [] [] [] ?_;simp only[ymf,yj,hn,allQ,live,yg,zH,go_sem,zA,↓reduceIte,reduceCtorEq];intro i _;rw[if_neg (by omega)]
  simp only[yg,go_sem]
 ·intro k hk;simp only[ycpg,ycma,ycrf,ycrv,ymf,ydw,splice,hnv,go_sem,zA,zB,zC,zF,↓reduceIte,reduceCtorEq];refine⟨fun hlt=>⟨by omega,by omega,by omega,?_⟩,fun hlt=>?_⟩
  ·have hk':k<n:=by omega
   let b:Nat->Int×Int:=fun i=>ybh g k (p.vars.getD i default)
   refine ybj (σ:=Nat) (fun j=>⟨[(28,.i .i64 j),(26,ydw p.vars),(27,.i .i64 nv),(6,.i .i64 k),(15,.i .i64 k),(14,.i .i64 n),(5,.os (12,0) 0 n true),(2,.pt (2,0) 0 0),(3,.pt (3,0) 0 0)],
    [(2,.one (some ⟨42,true,3,1,fun _=>ymf p⟩)),(3,.one (some ⟨25,true,2,1,fun _=>[yj g.ids,ybf g.ports]⟩)),
     (12,.one (some ⟨54,false,1,n,fun i=>[if i<k then rowT p.vars (ybh g i)else if i=k then .os (23,0) 0 nv true else .a (.slice none 0 0)]⟩)),
     (23,.one (some ⟨75,false,2,nv,fun i=>[.i .i64 (if i<j then(b i).1 else 0),.i .i64 (if i<j then(b i).2 else 0)]⟩))]⟩) (fun j=>j<=nv) (fun j=>nv-j) 0 (zQ _) ?_ ?_
   ·refine yh [] [] [] ?_;simp only[ymf,ydw,hnv,allQ,live,yg,ybb,zH,go_sem,zA,↓reduceIte,reduceCtorEq];refine⟨fun i hi=>?_,fun i hi=>?_⟩
    ·by_cases q2:i=k
     ·simp only[if_pos q2,if_neg (show ¬i<k by omega)]
      simp only[live,yg,go_sem,zA,↓reduceIte,reduceCtorEq]
     ·simp only[if_neg q2]
      by_cases q1:i<k
      ·simp only[if_pos q1];simp only[rowT,live,yg,go_sem,reduceCtorEq]
      ·simp only[if_neg q1];simp only[live,yg,go_sem,reduceCtorEq]
    ·simp only[if_neg (zY i),and_self]
   ·intro j hj;simp only[ycsq,ycle,ycqb,ybvw,ybvm,ymf,ydw,varC,splice,hnv,go_sem,zA,zB,zF,↓reduceIte,reduceCtorEq];refine⟨fun hlt=>?_,fun hlt=>?_⟩
    ·have hj':j<nv:=by omega
     have hB:=ysd hg (x:=p.vars.getD j default) (by
      rw[getD_at (by omega)]
      exact List.all_eq_true.1 hp _ (zL _)) (v:=k) (by omega)
     simp only[varC,grV]at hB;refine⟨by omega,by omega,by omega,by omega,by omega,hB.use ?_⟩
     simp only[ybe,splice,go_sem,zAH,zA,zB,zC,zAM,↓reduceIte,reduceCtorEq];refine⟨by omega,by omega,by omega,by decide,by omega,by omega,by omega,by decide,ikw (by omega) (by omega),?_⟩
     refine yu (j+1) (by omega) (by omega) ?_
     refine yh [] [] [] ?_;simp only[allQ,live,yg,ybb,go_sem,zA,↓reduceIte,reduceCtorEq];refine⟨by omega,fun i hi=>?_,fun i hi=>?_⟩
     ·by_cases q1:i<k
      ·simp only[if_pos q1];simp only[rowT,yg,go_sem]
      ·simp only[if_neg q1]
       by_cases q2:i=k
       ·simp only[if_pos q2];simp only[live,yg,go_sem,zA,↓reduceIte]
       ·simp only[if_neg q2];simp only[yg,go_sem]
     ·by_cases q2:i=j
      ·subst q2;simp only[if_pos (zAE i),↓reduceIte];simp only[live,ybb,go_sem,reduceCtorEq];exact⟨rfl,rfl⟩
      ·simp only[if_neg q2]
       by_cases q1:i<j
       ·simp only[if_pos q1,if_pos (show i<j+1 by omega)]
        simp only[live,yg,go_sem,reduceCtorEq]
       ·simp only[if_neg q1,if_neg (show ¬i<j+1 by omega)]
        simp only[live,yg,go_sem,reduceCtorEq]
    ·obtain rfl:j=nv:=by omega
     refine⟨ikw (by omega) (by omega),?_⟩
     refine yu (k+1) (by omega) (by omega) ?_
     refine yh [] [] [(23,0)] ?_;simp only[allQ,live,yg,ybb,go_sem,zA,zC,↓reduceIte,reduceCtorEq];refine⟨by omega,fun i hi=>?_⟩
     by_cases q1:i<k
     ·simp only[if_pos q1,if_pos (show i<k+1 by omega)]
      simp only[rowT,yg,go_sem]
     ·by_cases q2:i=k
      ·simp only[if_neg q1,if_pos q2,if_pos (show i<k+1 by omega)]
       subst q2;simp only[rowT,hnv,go_sem,zA,↓reduceIte];refine yil fun q hq=>?_;simp only[if_pos hq];simp only[SimL,go_sem];exact⟨Sim.refl _,Sim.refl _⟩
      ·simp only[if_neg q1,if_neg q2,if_neg (show ¬i<k+1 by omega)]
       simp only[yg,go_sem]
  ·obtain rfl:k=n:=by omega
   simp only[ycej,go_sem,zA,zB,↓reduceIte,reduceCtorEq];refine⟨fun q hq=>by simp only[if_pos hq];simp only[rowT,go_sem],?_⟩
   refine yil fun q hq=>?_;simp only[if_pos hq];simp only[SimL,yg,rowT,hnv,go_sem]
end Sh
end
section
namespace Sh
open Go Ev
theorem ybko(bs:Bounds)(s:List Int)(hl:bs.length<=1000):Returns zG 132 [ybd bs,yj s] (.b (ypu bs s)):=by
 refine Returns.of (ychq _ _ ?_);simp only[c132,ybwu,ybvx,ybzj,ybzs,ybd,yj,yer,go_sem,zA,zB,↓reduceIte,reduceCtorEq];refine⟨fun h=>?_,fun h=>?_⟩
 ·have:¬ypu bs s=true:=fun q=>h (by rw[((yej bs s).1 q).1])
  simpa using this
 have hlen:s.length=bs.length:=by omega
 refine ybj (σ:=Nat) (fun k=>⟨[(14,.i .i64 k),(13,.i .i64 s.length),(12,yj s),(0,ybd bs)],[]⟩) (fun k=>k<=s.length/\∀i,i<k->(bs.getD i (0,0)).1<=s.getD i 0/\s.getD i 0<=(bs.getD i (0,0)).2) (fun k=>s.length-k) 0 ⟨zQ _,fun i h=>absurd h (zY _)⟩ ?_ ?_
 ·refine yh [] [] [] ?_;simp only[ybd,yj,allQ,live,yg,zH,go_sem,zA,↓reduceIte,reduceCtorEq]
 ·intro k ⟨hk,hall⟩;simp only[ycde,ybxk,ycam,ybya,ycdp,ybyf,ybd,yj,yer,go_sem,zAH,zA,zB,zC,zAM,↓reduceIte,reduceCtorEq]
  have hno:k<s.length->¬((bs.getD k (0,0)).1<=s.getD k 0/\s.getD k 0<=(bs.getD k (0,0)).2)->ypu bs s=false:=fun hlt hn=>by
   have:¬ypu bs s=true:=fun q=>hn (by
    have hb:k<bs.length:=by omega
    have:=((yej bs s).1 q).2 k bs[k] s[k] (zI hb) (zI hlt);rw[getD_at hlt,getD_at hb];exact this)
   simpa using this
  refine⟨fun hlt=>⟨by omega,by omega,by omega,fun h1=>⟨by omega,by omega,fun h2=>?_,fun h2=>⟨ikw (by omega) (by omega),?_⟩⟩,fun h1=>?_⟩,fun hlt=>?_⟩
  ·rw[hno (by omega) (by omega)]
  ·refine yu (k+1) ⟨by omega,fun i hi=>?_⟩ (by omega) ?_
   ·by_cases q:i<k
    ·exact hall i q
    ·obtain rfl:i=k:=by omega
     omega
   ·refine yh [] [] [] ?_;simp only[allQ,live,yg,ybb,go_sem,zA,↓reduceIte,reduceCtorEq];simp
  ·rw[hno (by omega) (by omega)]
  ·obtain rfl:k=s.length:=by omega
   rw[(yej bs s).2 ⟨hlen,fun i b x hb hx=>by
    have h1:=(List.getElem?_eq_some_iff.1 hx).1;have:=hall i h1;simp only[zK,hb,hx,Option.getD_some]at this;exact this⟩]
theorem ybdy{n:Nat}(vars:List VarR)(hv:vars.length<=1000)(b:Nat->VarR->Int×Int)(c:Conf)(hn:n<=1000):Returns zG 95 [yhv n vars b,ybk c] (.b (ynk n (fun v=>vars.map (b v)) c)):=by
 refine Returns.of (ycna _ _ ?_);simp only[c95,ycqi,ycoq,ycrh,ycqg,yhv,ybk,yer,go_sem,zA,zB,↓reduceIte,reduceCtorEq];refine⟨fun h=>?_,fun h=>?_⟩
 ·rw[yhc fun q=>h (by rw[q.1])]
 have hlen:c.length=n:=by omega
 refine ybj (σ:=Nat) (fun k=>⟨[(14,.i .i64 k),(13,.i .i64 n),(12,yhv n vars b),(1,ybk c)],[]⟩) (fun k=>k<=n/\∀(i:Nat) s,i<k->c[i]?=some s->yfq (vars.map (b i)) s) (fun k=>n-k) 0 ⟨zQ _,fun i s h=>absurd h (zY _)⟩ ?_ ?_
 ·refine yh [] [] [] ?_;simp only[yhv,ybk,allQ,live,yg,zH,go_sem,zA,↓reduceIte,reduceCtorEq]
 ·intro k ⟨hk,hall⟩;simp only[ycll,ycrx,yckw,ycny,ycnc,yckm,yhv,ybk,yj,yer,go_sem,zA,zB,↓reduceIte,reduceCtorEq];refine⟨fun hlt=>⟨by omega,by omega,?_⟩,fun hlt=>?_⟩
  ·have hS := ybko (vars.map (b k)) (c.getD k []) (by simpa using hv)
   refine hS.useS ⟨?_,Sim.refl _,trivial⟩ ?_
   ·show Sim (.sl 2 vars.length _) (ybd (vars.map (b k)));unfold ybd;rw[zAS];refine ybbz fun i hi=>?_;simp[zK,hi]
   ·simp only[ybe,yer,go_sem,zA,zB,↓reduceIte,reduceCtorEq];have hk':k<c.length:=by omega
    rw[getD_at hk'];refine⟨fun h1=>?_,fun h1=>⟨ikw (by omega) (by omega),?_⟩⟩
    ·rw[yhc fun q=>by
      have:=(yej _ _).2 (q.2 k c[k] (zI hk'));rw[this]at h1;cases h1]
    ·refine yu (k+1) ⟨by omega,fun i s hi hs=>?_⟩ (by omega) ?_
     ·by_cases q:i<k
      ·exact hall i s q hs
      ·obtain rfl:i=k:=by omega
       rw[zI hk']at hs;cases hs
       exact(yej _ _).1 h1
     ·refine yh [] [] [] ?_;simp only[allQ,live,yg,ybb,go_sem,zA,↓reduceIte,reduceCtorEq];simp
  ·obtain rfl:k=n:=by omega
   rw[yqy ⟨hlen,fun v s hs=>hall v s (by have:=(List.getElem?_eq_some_iff.1 hs).1;omega) hs⟩]
theorem ybuh(c:Conf)(hc:∀s∈c,0<s.length/\s.length<=1000)(hl:c.length<=1000):Cm zG 101 [] [] [ybk c] fun r o=>r = .os (8,0) 0 c.length true/\o=[(8,.one (some ⟨22,false,1,c.length,fun i=>[yj (c.getD i [])]⟩))]:=by
 refine ybrw [] [] _ _ _ ?_;obtain⟨n,hn⟩:∃n,c.length=n:=⟨_,rfl⟩;rw[hn]at hl ⊢;simp only[c101,yccp,ycdo,yccg,ybk,hn,go_sem,zA,zB,zF,↓reduceIte,reduceCtorEq];refine⟨by omega,?_⟩
 refine ybj (σ:=Nat) (fun k=>⟨[(11,.i .i64 k),(10,.i .i64 n),(9,ybk c),(3,.os (8,0) 0 n true)],[(8,.one (some ⟨22,false,1,n,fun i=>[if i<k then yj (c.getD i [])else .a (.slice none 0 0)]⟩))]⟩) (fun k=>k<=n) (fun k=>n-k) 0 (zQ _) ?_ ?_
 ·refine yh [] [] [] ?_;simp only[ybk,hn,allQ,live,yg,zH,go_sem,zA,↓reduceIte,reduceCtorEq];intro i _;rw[if_neg (by omega)]
  simp only[yg,go_sem]
 ·intro k hk
  have hrow:k<n->0<(c.getD k []).length/\(c.getD k []).length<=1000:=fun h=>by
   have:=hc (c.getD k []) (by rw[getD_at (show k<c.length by omega)];exact zL _)
   exact this
  by_cases hlt:k<n
  ·have hr:=hrow (by omega)
   have hr0:¬(c.getD k []).length=0:=by omega
   have ht:decide ((k:Int)<(n:Int))=true:=decide_eq_true (by omega)
   simp only[ybhh,ybos,ybkc,ybpj,ybmo,ybk,yj,splice,hn,hr0,ht,go_sem,zA,zB,zF,↓reduceIte,reduceCtorEq];refine⟨by omega,by omega,by omega,by omega,ikw (by omega) (by omega),?_⟩
   refine yu (k+1) (by omega) (by omega) ?_
   refine yh [] [] [(19,0)] ?_;simp only[allQ,live,yg,ybb,go_sem,zA,↓reduceIte,reduceCtorEq];refine⟨by omega,fun i hi=>?_⟩
   by_cases q2:i=k
   ·subst q2;simp only[if_pos (zAE i),↓reduceIte];simp only[live,yg,go_sem,zA,↓reduceIte,reduceCtorEq]
   ·simp only[if_neg q2]
    by_cases q1:i<k
    ·simp only[if_pos q1,if_pos (show i<k+1 by omega)]
     simp only[live,yg,go_sem,reduceCtorEq]
    ·simp only[if_neg q1,if_neg (show ¬i<k+1 by omega)]
     simp only[live,yg,go_sem,reduceCtorEq]
  ·obtain rfl:k=n:=by omega
   have ht:decide ((k:Int)<(k:Int))=false:=decide_eq_false (by omega)
   simp only[ybhh,ybos,ybkc,ybpj,ybmo,ybk,yj,hn,ht,yic,go_sem,zA,zB,↓reduceIte,reduceCtorEq];refine⟨.os (8,0) 0 k true,[(8,.one (some ⟨22,false,1,k,fun i=>[yj (c.getD i [])]⟩))],?_,?_,rfl,rfl⟩
   ·refine yh [] [] [] ?_;simp only[yj,allQ,live,yg,go_sem,↓reduceIte,reduceCtorEq];intro i hi;simp only[if_pos hi];simp only[yg,go_sem]
   ·simp only[ydh,yho,allQ,live,go_sem,↓reduceIte]
end Sh
end
section
namespace Sh
open Go Ev
theorem ygh(p:ProgR){g:Gr}(hg:ybc g){nv:Nat}{c:Conf}(hc:ConfIn g.ports.length nv c){v:Nat}(hv:v<g.ports.length)(e:List Tm)(hl:e.length<=1000):∀x:Ex,ybmm p g nv c v e x
 | .leaf op arg=>by
   intro bnd port at_ rest ho hp hpi he;obtain⟨d1,d2,d3⟩:=yeb (show e.drop at_=(op,arg)::rest from he)
   have hL:=ybso p hg hc hv e ho port hp;have hr:=ho;simp only[Ex.ok,zD,decide_eq_true_eq]at hr;simp only[yhe,ybd]at hL;refine Returns.of (yop _ _ ?_);simp only[c161,yrl,yrx,yrt,yrd,yrk,yqz,yry,yro,ysj,yrw,ylo,yli,ymc,yll,ylf,ylq,ymj,ymg,ylg,yhe,ybd,d2,splice,go_sem,zA,zB,zC,zF,↓reduceIte,reduceCtorEq];refine⟨by omega,fun h=>hL.use ?_,fun h=>by omega⟩
   simp only[ybe,go_sem,zA,zB,↓reduceIte,reduceCtorEq];refine⟨ikw (by omega) (by omega),?_⟩
   exact Sim.refl _
 | .un op a=>by
   intro bnd port at_ rest ho hp hpi he;obtain⟨d1,d2,d3⟩:=yeb (show e.drop at_=(op,0)::(a.ser++rest)from he)
   have hr:=ho;simp only[Ex.ok,zD,decide_eq_true_eq]at hr;have hV:=ygh p hg hc hv e hl a bnd port (at_+1) rest hr.2 hp hpi d3;rw[show((at_+1:Nat):Int)=(at_:Int)+1 by omega]at hV
   have hU:=ybpk op (yfa g c v a port) (ygi hg rfl hc hv a hr.2 hp hpi);simp only[yhe,ybd]at hV;refine Returns.of (yop _ _ ?_);simp only[c161,yrl,yrx,yrt,yrd,yrk,yqz,yry,yro,ysj,yrw,ylo,yli,ymc,yll,ylf,ylq,ymj,ymg,ylg,yhe,ybd,d2,splice,go_sem,zA,zB,zC,zF,↓reduceIte,reduceCtorEq];refine⟨by omega,fun h=>by omega,fun h=>⟨fun h=>⟨ikw (by omega) (by omega),hV.use ?_⟩,fun h=>by omega⟩⟩
   simp only[ybe,go_sem,zA,zB,zC,↓reduceIte,reduceCtorEq];refine hU.use ?_;simp only[go_sem];rw[show at_+(Ex.un op a).ser.length=at_+1+a.ser.length by simp[Ex.ser];omega]
   exact Sim.refl _
 | .agg op a=>by
   intro bnd port at_ rest ho hp hpi he;obtain⟨d1,d2,d3⟩:=yeb (show e.drop at_=(op,0)::(a.ser++rest)from he)
   have hr:=ho;simp only[Ex.ok,zD,decide_eq_true_eq]at hr;have ho2:(Ex.agg op a).ok nv true=true:=by simp only[Ex.ok,zD,decide_eq_true_eq];exact hr
   have hA:=ysu p hg hc hv e hl ho2 (ygh p hg hc hv e hl a) at_ rest he;simp only[yhe,ybd]at hA;refine Returns.of (yop _ _ ?_);simp only[c161,yrl,yrx,yrt,yrd,yrk,yqz,yry,yro,ysj,yrw,ylo,yli,ymc,yll,ylf,ylq,ymj,ymg,ylg,yhe,ybd,d2,splice,go_sem,zA,zB,zC,zF,↓reduceIte,reduceCtorEq];refine⟨by omega,fun h=>by omega,fun h=>⟨fun h=>by omega,fun h=>⟨fun h=>hA.use ?_,fun h=>by omega⟩⟩⟩
   simp only[ybe,go_sem,zA,zB,↓reduceIte,reduceCtorEq];exact Sim.refl _
 | .bin op a b=>by
   intro bnd port at_ rest ho hp hpi he;obtain⟨d1,d2,d3⟩:=yeb (show e.drop at_=(op,0)::((a.ser++b.ser)++rest)from he)
   have hr:=ho;simp only[Ex.ok,zD,decide_eq_true_eq]at hr;rw[zAC]at d3
   have hfit:at_+1+a.ser.length<=e.length:=by
    have:=congrArg zAR d3;simp at this;omega
   have hV1:=ygh p hg hc hv e hl a bnd port (at_+1) _ hr.1.2 hp hpi d3;have hV2:=ygh p hg hc hv e hl b bnd port (at_+1+a.ser.length) _ hr.2 hp hpi (ynt d3);rw[show((at_+1:Nat):Int)=(at_:Int)+1 by omega]at hV1
   have hB:=ybgf op (yfa g c v a port) (yfa g c v b port) (ygi hg rfl hc hv a hr.1.2 hp hpi) (ygi hg rfl hc hv b hr.2 hp hpi);simp only[yhe,ybd]at hV1 hV2;refine Returns.of (yop _ _ ?_);simp only[c161,yrl,yrx,yrt,yrd,yrk,yqz,yry,yro,ysj,yrw,ylo,yli,ymc,yll,ylf,ylq,ymj,ymg,ylg,yhe,ybd,d2,splice,go_sem,zA,zB,zC,zF,↓reduceIte,reduceCtorEq];refine⟨by omega,fun h=>by omega,fun h=>⟨fun h=>by omega,fun h=>⟨fun h=>by omega,fun h=>⟨fun h=>⟨ikw (by omega) (by omega),hV1.use ?_⟩,fun h=>by omega⟩⟩⟩⟩
   simp only[ybe,go_sem,zA,zB,↓reduceIte,reduceCtorEq];refine hV2.use ?_;simp only[go_sem,zA,zB,zC,↓reduceIte];refine hB.use ?_;simp only[go_sem];rw[show at_+(Ex.bin op a b).ser.length=at_+1+a.ser.length+b.ser.length by simp[Ex.ser];omega]
   exact Sim.refl _
 | .ite x a b=>by
   intro bnd port at_ rest ho hp hpi he;obtain⟨d1,d2,d3⟩:=yeb (show e.drop at_=(43,0)::((x.ser++(a.ser++b.ser))++rest)from he)
   have hr:=ho;simp only[Ex.ok,zD]at hr;rw[zAC,zAC]at d3
   have hfit:at_+1+x.ser.length+a.ser.length<=e.length:=by
    have:=congrArg zAR d3;simp at this;omega
   have hV1:=ygh p hg hc hv e hl x bnd port (at_+1) _ hr.1.1 hp hpi d3;have hV2:=ygh p hg hc hv e hl a bnd port (at_+1+x.ser.length) _ hr.1.2 hp hpi (ynt d3);have hV3:=ygh p hg hc hv e hl b bnd port (at_+1+x.ser.length+a.ser.length) _ hr.2 hp hpi (ynt (ynt d3));rw[show((at_+1:Nat):Int)=(at_:Int)+1 by omega]at hV1
   simp only[yhe,ybd]at hV1 hV2 hV3;refine Returns.of (yop _ _ ?_);simp only[c161,yrl,yrx,yrt,yrd,yrk,yqz,yry,yro,ysj,yrw,ylo,yli,ymc,yll,ylf,ylq,ymj,ymg,ylg,yhe,ybd,d2,splice,go_sem,zA,zB,zC,zF,↓reduceIte,reduceCtorEq];refine⟨by omega,fun h=>by omega,fun h=>⟨fun h=>by omega,fun h=>⟨fun h=>by omega,fun h=>⟨fun h=>by omega,fun h=>⟨ikw (by omega) (by omega),hV1.use ?_⟩⟩⟩⟩⟩
   simp only[ybe,go_sem,zA,zB,↓reduceIte,reduceCtorEq];refine hV2.use ?_;simp only[go_sem,zA,↓reduceIte,reduceCtorEq];refine hV3.use ?_;simp only[go_sem,zA,zB,↓reduceIte,reduceCtorEq];rw[show at_+(Ex.ite x a b).ser.length=at_+1+x.ser.length+a.ser.length+b.ser.length by simp[Ex.ser];omega]
   refine⟨fun h0=>?_,fun h0=>?_⟩
   ·show Sim _ (.tp [.i .i64 (if _ then _ else _),_])
    rw[if_pos h0];exact Sim.refl _
   ·show Sim _ (.tp [.i .i64 (if _ then _ else _),_])
    rw[if_neg (not_not_intro h0)];exact Sim.refl _
theorem yve(p:ProgR){g:Gr}(hg:ybc g){nv:Nat}{c:Conf}(hc:ConfIn g.ports.length nv c){v:Nat}(hv:v<g.ports.length)(x:Ex)(hx:x.ok nv false=true)(hl:x.ser.length<=1000) :
 Returns zG 135 [.rf (yeo p g),ybk c,.i .i64 v,ybd x.ser] (.i .i64 (yfa g c v x (-1))):=by
 have hV:=ygh p hg hc hv x.ser hl x false (-1) 0 [] hx (fun q=>by cases q) (by unfold InB;omega) (by simp)
 refine Returns.of (ycgp _ _ ?_);simp only[yhe,yeo,ybk,yj,ybd,ybf,yda,zH]at hV;simp only[c135,ybxd,ybvv,ybwp,ycai,yeo,ybk,yj,ybd,ybf,yda,splice,go_sem,zA,zB,zC,zF,↓reduceIte,reduceCtorEq];refine .inl (hV.use ?_);simp only[ybe,ybb,go_sem,zA,zB,↓reduceIte,reduceCtorEq]
end Sh
end
section
theorem yny{a:Nat}(h:a<2^32):IntKind.wrap .u32 (a:Int)=a:=by
 unfold IntKind.wrap;simp[IntKind.bits,IntKind.signed];omega
theorem u32_and{a b:Nat}(ha:a<2^32)(hb:b<2^32):IntKind.wrap .u32 (((zJ (IntKind.bits .u32) (a:Int))&&&zJ (IntKind.bits .u32) (b:Int)).toNat:Int)=((a&&&b:Nat):Int):=by
 show IntKind.wrap .u32 (((zJ 32 (a:Int))&&&zJ 32 (b:Int)).toNat:Int)=_;rw[zM,zM,BitVec.toNat_and,zU,zU,zW ha,zW hb];exact yny (zAO Nat.and_le_left ha)
theorem u32_or{a b:Nat}(ha:a<2^32)(hb:b<2^32):IntKind.wrap .u32 (((zJ (IntKind.bits .u32) (a:Int))|||zJ (IntKind.bits .u32) (b:Int)).toNat:Int)=((a|||b:Nat):Int):=by
 show IntKind.wrap .u32 (((zJ 32 (a:Int))|||zJ 32 (b:Int)).toNat:Int)=_;rw[zM,zM,BitVec.toNat_or,zU,zU,zW ha,zW hb];exact yny (Nat.or_lt_two_pow ha hb)
theorem u32_andNot{a b:Nat}(ha:a<2^32)(hb:b<2^32):IntKind.wrap .u32 (((zJ (IntKind.bits .u32) (a:Int)) &&& ~~~zJ (IntKind.bits .u32) (b:Int)).toNat:Int)=((difB a b:Nat):Int):=by
 show IntKind.wrap .u32 (((zJ 32 (a:Int)) &&& ~~~zJ 32 (b:Int)).toNat:Int)=_
 have e:((zJ 32 (a:Int)) &&& ~~~zJ 32 (b:Int)).toNat=difB a b:=by
  rw[zM,zM];refine Nat.eq_of_testBit_eq fun i=>?_;rw[ykh,BitVec.testBit_toNat,BitVec.getLsbD_and,BitVec.getLsbD_not,zAJ,zAJ]
  by_cases hi:i<32
  ·simp[hi]
  ·rw[Nat.testBit_lt_two_pow (zAP ha (zAK (by omega) (by omega)))]
   simp
 rw[e];exact yny (ycgy ha)
theorem ysx{v:Nat}(hv:v<32):IntKind.wrap .u32 (1*2^(v:Int).toNat)=((2^v:Nat):Int):=by
 have h:2^v<2^32:=zAL (by omega) hv
 have:=yny h;rw[zN,Int.one_mul];rw[<-this]
 norm_cast
theorem ycii{a v:Nat}:(a:Int).fdiv (2^(v:Int).toNat)=((a>>>v:Nat):Int):=by
 rw[zN,zAD];rw[Int.fdiv_eq_ediv_of_nonneg _ (Int.pow_nonneg (by omega))]
 simp
theorem ychs(a v:Nat):((a>>>v)&&&1=1)↔a.testBit v=true:=by
 rw[zAX,bne_iff_ne];rw[Nat.and_comm 1 (a>>>v)];rw[Nat.and_one_is_mod];omega
theorem ybdg{s v:Nat}(hs:s<2^32):IntKind.wrap .u32 (((zJ (IntKind.bits .u32) ((s:Int).fdiv (2^v)))&&&zJ (IntKind.bits .u32) 1).toNat:Int)=(((s>>>v)&&&1:Nat):Int):=by
 have h:=ycii (a:=s) (v:=v);rw[zN]at h;rw[h];have h2:s>>>v<2^32:=by rw[zAD];exact zAO (Nat.div_le_self _ _) hs
 exact u32_and (a:=s>>>v) (b:=1) h2 (by decide)
theorem yox{s v:Nat}:((((s>>>v)&&&1:Nat):Int)=1)↔s.testBit v=true:=by
 rw[<-ychs s v];omega
end
section
namespace Sh
open Go Ev
def yec(p:ProgR)(g:Gr):List SV:=[.a (.string p.name),ydw p.vars,ycq p.rules,.rf (yeo p g),yhv g.ids.length p.vars (ybh g)]
theorem yvd(p:ProgR){g:Gr}(hg:ybc g)(hp:p.vars.all VarR.ok=true)(hl:p.vars.length<=6):Returns zG 60 [.ag (ymf p),grV g] (.rf (yec p g)):=by
 refine Returns.of (ycoo _ _ ?_);have hS:=ywx p hg;have hT:=ywj p hg hp hl;simp only[ymf,grV]at hS hT;simp only[c60,ycrd,yctb,ymf,grV,go_sem,zA,zB,zF,↓reduceIte,reduceCtorEq];refine hS.use ?_;simp only[ybe,go_sem,zA,zB,zC,zF,↓reduceIte,reduceCtorEq];refine hT.use ?_;simp only[yhv,yec,go_sem,zA,zB,zC,↓reduceIte];refine⟨by decide,by decide,Sim.refl _⟩
theorem ybjs(p:ProgT){g:Gr}(hg:ybc g)(hp:p.ok=true){c:Conf}(hc:ConfIn g.ports.length p.vars.length c){v:Nat}(hv:v<g.ports.length){r:Nat}(hr:r<p.rules.length) :
 Returns zG 134 [.rf (yeo p.raw g),ybk c,.i .i64 v,.i .i64 r] (.b (ykb g c v (p.rules.getD r default))):=by
 refine Returns.of (ycja _ _ ?_);obtain⟨R,hR⟩:∃R,p.rules.getD r default=R:=⟨_,rfl⟩
 have hok:R.ok p.vars.length=true:=by
  unfold ProgT.ok at hp;simp only[zD]at hp;rw[<-hR,getD_at hr];exact List.all_eq_true.1 hp.2 _ (zL _)
 unfold RuleT.ok at hok;simp only[zD,decide_eq_true_eq]at hok;have hV:=yve p.raw hg hc hv R.guard hok.1.1.1 hok.1.1.2
 have hraw:p.raw.rules.getD r default=R.raw:=by
  rw[<-hR];simp[ProgT.raw,zK,hr]
 have hlen:p.raw.rules.length=p.rules.length:=by simp[ProgT.raw]
 simp only[yeo,ycq,hlen]at hV;rw[hR];simp only[c134,ycaa,ybyp,yeo,ycq,hraw,hlen,go_sem,zA,zB,zC,↓reduceIte,reduceCtorEq];refine⟨by omega,hV.use ?_⟩
 simp only[ybe,yer,ykb,go_sem,zA,zB,↓reduceIte,reduceCtorEq]
theorem ycpp{p:ProgT}{g:Gr}{c:Conf}{v k:Nat}(hk:k<p.rules.length)(hn:(p.rules.take k).findIdx? (ykb g c v)=none)(h:ykb g c v (p.rules.getD k default)=true):yfv p g c v=k:=by
 unfold yfv
 have:p.rules.findIdx? (ykb g c v)=some k:=by
  rw[List.findIdx?_eq_some_iff_getElem];refine⟨hk,by rwa [getD_at hk]at h,fun j hj=>?_⟩
  rw[List.findIdx?_eq_none_iff]at hn;have:=hn p.rules[j] (List.mem_take_iff_getElem.2 ⟨j,by omega,rfl⟩)
  simpa using this
 rw[this]
theorem ybgd{p:ProgT}{g:Gr}{c:Conf}{v:Nat}(hn:(p.rules.take p.rules.length).findIdx? (ykb g c v)=none):yfv p g c v = -1:=by
 unfold yfv;rw[zAF]at hn;rw[hn]
theorem ybrp(p:ProgT)(g:Gr)(c:Conf)(v:Nat):-1<=yfv p g c v/\yfv p g c v<p.rules.length:=by
 unfold yfv;split
 ·rename_i i hi
  obtain⟨h,_⟩:=List.findIdx?_eq_some_iff_getElem.1 hi;omega
 ·omega
theorem ybcg(p:ProgT){g:Gr}(hg:ybc g)(hp:p.ok=true){c:Conf}(hc:ConfIn g.ports.length p.vars.length c){v:Nat}(hv:v<g.ports.length) :
 Returns zG 100 [.rf (yec p.raw g),ybk c,.i .i64 v] (.i .i64 (yfv p g c v)):=by
 refine Returns.of (ycik _ _ ?_);have hlen:p.raw.rules.length=p.rules.length:=by simp[ProgT.raw]
 have h12:p.rules.length<=12:=by
  unfold ProgT.ok at hp;simp only[zD,decide_eq_true_eq]at hp;exact hp.1.2
 simp only[c100,ycab,ycbm,yec,ycq,hlen,go_sem,zA,zB,zC,↓reduceIte,reduceCtorEq];refine ybj (σ:=Nat) (fun k=>⟨[(14,.i .i64 k),(13,.i .i64 p.rules.length),(0,.rf (yec p.raw g)),(1,ybk c),(2,.i .i64 v)],[]⟩) (fun k=>k<=p.rules.length/\(p.rules.take k).findIdx? (ykb g c v)=none) (fun k=>p.rules.length-k) 0 ⟨zQ _,by simp⟩ ?_ ?_
 ·refine yh [] [] [] ?_;simp only[yec,ycq,hlen,allQ,live,yg,zH,go_sem,zA,↓reduceIte,reduceCtorEq]
 ·intro k ⟨hk,hno⟩;simp only[ycdf,ybvf,ycdt,ybzm,ybwe,ybwf,yec,ybb,go_sem,zA,zB,zC,↓reduceIte,reduceCtorEq];refine⟨fun hlt=>?_,fun hlt=>?_⟩
  ·have hk':k<p.rules.length:=by omega
   refine(ybjs p hg hp hc hv hk').use ?_;simp only[ybe,ybb,go_sem,zA,zB,↓reduceIte,reduceCtorEq];refine⟨fun h=>by rw[ycpp hk' hno h],fun h=>⟨ikw (by omega) (by omega),?_⟩⟩
   refine yu (k+1) ⟨by omega,?_⟩ (by omega) ?_
   ·rw[zS hk',List.findIdx?_append,hno];rw[getD_at hk']at h;simp[h]
   ·refine yh [] [] [] ?_;simp only[allQ,live,yg,ybb,go_sem,zA,↓reduceIte,reduceCtorEq];simp
  ·obtain rfl:k=p.rules.length:=by omega
   rw[ybgd hno]
theorem ybou(n:Nat)(hn:n<=32)(h:FuncId)(cp:List SV)(f:Nat->Bool)(hcp4:cp.any (owned 4)=false)(hf:∀v,v<n->Returns zG h (.i .i64 v::cp) (.b (f v))):Returns zG 98 [.i .i64 n,.fn h [] cp] (.i .u32 (yjl f n)):=by
 refine Returns.of (ycpe _ _ ?_);have hcp:=yqr hcp4;simp only[c98,ycqt,ycsj,ycqj,go_sem,zB,↓reduceIte,reduceCtorEq];refine ybj (σ:=Nat) (fun k=>⟨[(8,.i .i64 k),(7,.i .i64 n),(1,.fn h [] cp),(5,.i .u32 (yjl f k))],[]⟩) (fun k=>k<=n) (fun k=>n-k) 0 (zQ _) ?_ ?_
 ·refine yh [] [] [] ?_;simp only[yhj _ hcp4,yhm _ hcp4,yjl,allQ,live,yg,zH,go_sem,zA,↓reduceIte,reduceCtorEq]
 ·intro k hk;simp only[yckp,ycpv,ycrg,ycoa,ycoe,yckn,ybb,hcp,List.any_cons,go_sem,zA,zB,↓reduceIte,reduceCtorEq];refine⟨fun hlt=>(hf k (by omega)).use ?_,fun hlt=>?_⟩
  ·have hk':k<n:=by omega
   have hb1:yjl f k<2^32:=zAP (ybcm f k) (zAK (by omega) (by omega))
   have hb2:2^k<2^32:=zAL (by omega) (by omega)
   simp only[ybe,IntKind.bits,go_sem,zA,zB,↓reduceIte,reduceCtorEq];refine⟨fun h1=>⟨by omega,ikw (by omega) (by omega),?_⟩,fun h1=>⟨ikw (by omega) (by omega),?_⟩⟩
   ·refine yu (k+1) (by omega) (by omega) ?_
    refine yh [] [] [] ?_;have e1:=ysx (v:=k) (by omega)
    have e2:=u32_or hb1 hb2;rw[zN]at e1;simp only[yhj _ hcp4,yhm _ hcp4,e1,allQ,live,yg,ybb,go_sem,zA,↓reduceIte,reduceCtorEq];refine⟨by omega,?_⟩
    rw[show yjl f (k+1)=yjl f k|||2^k by show(if f k then _ else _)=_;rw[if_pos h1]]
    exact e2
   ·refine yu (k+1) (by omega) (by omega) ?_
    refine yh [] [] [] ?_;simp only[yhj _ hcp4,yhm _ hcp4,allQ,live,yg,ybb,go_sem,zA,↓reduceIte,reduceCtorEq];rw[show yjl f (k+1)=yjl f k by show(if f k then _ else _)=_;rw[if_neg (by rw[h1];simp)]]
    simp
  ·obtain rfl:k=n:=by omega
   rfl
theorem yxy(p:ProgT){g:Gr}(hg:ybc g)(hp:p.ok=true){c:Conf}(hc:ConfIn g.ports.length p.vars.length c){v:Nat}(hv:v<g.ports.length) :
 Returns zG 99 [.i .i64 v,.rf [.rf (yec p.raw g)],.rf [ybk c]] (.b (decide (yfv p g c v>=0))):=by
 refine Returns.of (yclv _ _ ?_);have hR:=ybcg p hg hp hc hv;simp only[c99,ycph,ycpj,go_sem,zA,zB,↓reduceIte,reduceCtorEq];refine hR.use ?_;simp only[ybe,yer,go_sem,zA,zB,↓reduceIte,reduceCtorEq]
theorem yvz(p:ProgT){g:Gr}(hg:ybc g)(hp:p.ok=true){c:Conf}(hc:ConfIn g.ports.length p.vars.length c) :
 Returns zG 61 [.rf (yec p.raw g),ybk c] (.i .u32 (ybu p g c)):=by
 refine Returns.of (ycmz _ _ ?_);have hid:=hg.2.2.1;have h24:=hg.2.1;have hN:=ybou g.ids.length (by omega) 99 [.rf [.rf (yec p.raw g)],.rf [ybk c]] (fun v=>decide (yfv p g c v>=0)) rfl (fun v hv=>yxy p hg hp hc (by omega))
 simp only[yec]at hN;simp only[c61,ycpb,ycok,yec,yhv,go_sem,zA,zB,zC,zF,↓reduceIte,reduceCtorEq];simp only[yhv]at hN;refine .inl (hN.use ?_);simp only[ybe,ybb,go_sem,zA,zB,↓reduceIte,reduceCtorEq];rfl
theorem ymw(p:ProgT)(g:Gr)(c:Conf)(v:Nat):∀(sets:List (Int×Ex)) (s0:List Int),(ymk p g c v s0 sets).length=s0.length
 |[],_=>rfl
 | a::sets,s0=>by
   show(ymk p g c v (s0.set _ _) sets).length=_;rw[ymw p g c v sets];simp
theorem ybfs(p:ProgT)(g:Gr)(c:Conf)(v:Nat)(s0:List Int)(sets:List (Int×Ex))(k:Nat)(h:k<sets.length) :
 ymk p g c v s0 (sets.take (k+1))=(ymk p g c v s0 (sets.take k)).set (sets.getD k default).1.toNat (yji (p.vars.getD (sets.getD k default).1.toNat default).kind (ybh g v (p.vars.getD (sets.getD k default).1.toNat default)) (yfa g c v (sets.getD k default).2 (-1))):=by
 unfold ymk;rw[zS h,List.foldl_append,getD_at h];rfl
theorem ybtd(p:ProgT){g:Gr}(hg:ybc g)(hp:p.ok=true){c:Conf}(hc:ConfIn g.ports.length p.vars.length c){v:Nat}(hv:v<g.ports.length){r:Nat}(hr:r<p.rules.length) :
 Returns zG 102 [.rf (yec p.raw g),ybk c,.i .i64 v,.i .i64 r] (yj (yyt p g c v r)):=by
 refine Returns.of (ycht _ _ ?_);obtain⟨R,hR⟩:∃R,p.rules.getD r default=R:=⟨_,rfl⟩;have hp':=hp;unfold ProgT.ok at hp';simp only[zD,decide_eq_true_eq]at hp'
 have hok:R.ok p.vars.length=true:=by
  rw[<-hR,getD_at hr];exact List.all_eq_true.1 hp'.2 _ (zL _)
 unfold RuleT.ok at hok;simp only[zD,decide_eq_true_eq]at hok
 have hraw:p.raw.rules.getD r default=R.raw:=by
  rw[<-hR];simp[ProgT.raw,zK,hr]
 have hlen:p.raw.rules.length=p.rules.length:=by simp[ProgT.raw]
 have hsl:R.raw.sets.length=R.sets.length:=by simp[RuleT.raw]
 have hid:=hg.2.2.1;have hcl:=hc.len;have hrow:=hc.at_ hv;have hne:¬(c.getD v []).length=0:=by omega
 simp only[c102,ycbj,ycas,ybww,hne,yec,ycq,ygz,hraw,hlen,hsl,ybk,yj,go_sem,zA,zB,zC,zF,↓reduceIte,reduceCtorEq];obtain⟨nv,hnv⟩:∃k,p.vars.length=k:=⟨_,rfl⟩;have hrl:=hrow.1;rw[hnv]at hrl hok hc;rw[hnv]at hp';have hmv:yyt p g c v r=ymk p g c v (c.getD v []) R.sets:=by unfold yyt;rw[hR]
 have hml:∀k,(ymk p g c v (c.getD v []) (R.sets.take k)).length=nv:=fun k=>(ymw p g c v _ _).trans hrl;refine⟨by omega,by omega,by omega,?_⟩
 refine ybj (σ:=Nat) (fun k=>⟨[(28,.i .i64 k),(27,.i .i64 R.sets.length),(26,ygz R.raw.sets),(0,.rf (yec p.raw g)),(1,ybk c),(2,.i .i64 v),(9,.os (17,0) 0 nv true)],
  [(17,.one (some ⟨3,false,1,nv,fun i=>[.i .i64 ((ymk p g c v (c.getD v []) (R.sets.take k)).getD i 0)]⟩))]⟩) (fun k=>k<=R.sets.length) (fun k=>R.sets.length-k) 0 (zQ _) ?_ ?_
 ·refine yh [] [] [] ?_;simp only[yec,ycq,ygz,hlen,hsl,hrl,ybk,yj,allQ,live,yg,ybb,zH,go_sem,zA,↓reduceIte,reduceCtorEq];simp[ymk]
 ·intro k hk;simp only[ybwn,ybye,ybva,yec,ygz,hsl,splice,go_sem,zA,zB,zC,zF,↓reduceIte,reduceCtorEq];refine⟨fun hlt=>?_,fun hlt=>?_⟩
  ·have hk':k<R.sets.length:=by omega
   obtain⟨S,hS⟩:∃S,R.sets.getD k default=S:=⟨_,rfl⟩
   have hset:R.raw.sets.getD k default=⟨S.1,S.2.ser⟩:=by
    rw[<-hS];simp[RuleT.raw,zK,hk']
   have hSok:=List.all_eq_true.1 hok.2 S (by rw[<-hS,getD_at hk'];exact zL _)
   simp only[zD,decide_eq_true_eq]at hSok;have hV:=yve p.raw hg hc hv S.2 hSok.1.2 hSok.2;refine⟨by omega,?_⟩
   rw[hset];refine hV.use ?_;have hB:=ybhu (p.vars.getD S.1.toNat default).kind (ybh g v (p.vars.getD S.1.toNat default)) (yfa g c v S.2 (-1));have hvars:p.raw.vars=p.vars:=rfl;simp only[ybxf,ybe,yhv,ydw,varC,splice,hvars,hnv,go_sem,zA,zB,zC,↓reduceIte,reduceCtorEq];refine⟨by omega,by omega,by omega,hB.use ?_⟩
   simp only[go_sem,zA,↓reduceIte];have hb2:zAX 134217727 25=true:=by decide
   simp only[ybvc,hb2,go_sem,zA,zB,↓reduceIte,reduceCtorEq];refine⟨by omega,by omega,ikw (by omega) (by omega),?_⟩
   refine yu (k+1) (by omega) (by omega) ?_
   refine yh [] [] [] ?_;simp only[ybfs p g c v _ _ k hk',hS,allQ,live,yg,ybb,go_sem,zA,↓reduceIte,reduceCtorEq];refine⟨by omega,fun i hi=>?_⟩
   rw[ybrg (by rw[hml];omega)]
   by_cases q:i=S.1.toNat
   ·simp only[if_pos q];simp only[live,yg,go_sem,reduceCtorEq]
   ·simp only[if_neg q];simp only[live,yg,go_sem,reduceCtorEq]
  ·obtain rfl:k=R.sets.length:=by omega
   simp only[ycck,go_sem,zA,zB,↓reduceIte,reduceCtorEq];have hl:=hml R.sets.length;rw[zAF]at hl ⊢;rw[hmv,hl];exact Sim.refl _
theorem ykj(p:ProgT)(g:Gr)(c:Conf)(s:Nat){v:Nat}(hv:v<c.length):(yia p g c s).getD v []=if s.testBit v then yyt p g c v (yfv p g c v).toNat else c.getD v []:=by
 unfold yia;simp[zK,hv]
theorem yib(p:ProgT)(g:Gr)(c:Conf)(s:Nat):(yia p g c s).length=c.length:=by simp[yia]
theorem ybtk(p:ProgT){g:Gr}(hg:ybc g)(hp:p.ok=true){c:Conf}(hc:ConfIn g.ports.length p.vars.length c){s:Nat}(hs:s<2^32)(hen:subB s (ybu p g c)) :
 Returns zG 62 [.rf (yec p.raw g),ybk c,.i .u32 s] (ybk (yia p g c s)):=by
 refine Returns.of (ycjq [101] _ _ ?_);have h24:=hg.2.1;have hcl:=hc.len;have hp':=hp;unfold ProgT.ok at hp';simp only[zD,decide_eq_true_eq]at hp';have hC:=ybuh c (fun x hx=>by have:=(hc.row x hx).1;omega) (by omega)
 simp only[c62,ycmp,yclu,go_sem,zA,zB,↓reduceIte,reduceCtorEq];refine yga hC [] 100 [0,1,2] [] ?_ ?_
 ·simp only[go_sem,ydh,yho,yey,yeg,allQ,live,yg,go_sem,zA,↓reduceIte,reduceCtorEq]
 ·rintro r o' ⟨rfl,rfl⟩;simp only[ycnu,ybk,yj,yqj,ynl,nuF,nu,difN,yey,yeg,Fam.ren,OB.ren,dim,ybzl,yla,go_sem,zA,zB,↓reduceIte,reduceCtorEq];obtain⟨n,hn⟩:∃n,c.length=n:=⟨_,rfl⟩
  let row:Nat->Nat->List Int:=fun k i=>if i<k then(yia p g c s).getD i []else c.getD i []
  refine ybj (σ:=Nat) (fun k=>⟨[(13,.i .i64 k),(12,.i .i64 n),(7,.os (108,0) 0 n true),(0,.rf (yec p.raw g)),(1,ybk c),(2,.i .u32 s)],
   [(108,.one (some ⟨22,false,1,n,fun i=>[yj (row k i)]⟩))]⟩) (fun k=>k<=n) (fun k=>n-k) 0 (zQ _) ?_ ?_
  ·refine yh [] [] [] ?_;simp only[ybk,hn,allQ,live,yg,zH,go_sem,zA,↓reduceIte,reduceCtorEq];refine⟨Sim.refl _,fun i hi=>?_⟩;simp only[row,if_neg (zY i)];exact Sim.refl _
  ·intro k hk;have ht:=ybdg (s:=s) (v:=k) hs;simp only[IntKind.bits]at ht;simp only[ycsk,ycta,ycmc,ycry,yckx,ycon,IntKind.bits,ht,yox,go_sem,zA,zB,zAU,↓reduceIte,reduceCtorEq];refine⟨fun hlt=>⟨by omega,fun h1=>?_,fun h1=>?_⟩,fun hlt=>?_⟩
   ·have hk':k<c.length:=by omega
    have hkg:k<g.ports.length:=by omega
    have hr0:0<=yfv p g c k:=by
     have:=hen k h1;unfold ybu at this;rw[ykv]at this;simp only[zD,decide_eq_true_eq]at this;exact this.2
    have hrl:=(ybrp p g c k).2;have hr1:yfv p g c k=((yfv p g c k).toNat:Int):=by omega
    refine(ybcg p hg hp hc hkg).use ?_;simp only[ybe,splice,go_sem,zA,zB,zAU,↓reduceIte,reduceCtorEq];have hM:=ybtd p hg hp hc hkg (r:=(yfv p g c k).toNat) (by omega)
    rw[<-hr1]at hM;refine hM.use ?_;simp only[go_sem,zA,↓reduceIte];refine⟨by omega,by omega,ikw (by omega) (by omega),?_⟩
    refine yu (k+1) (by omega) (by omega) ?_
    refine yh [] [] [] ?_;simp only[allQ,live,yg,ybb,go_sem,zA,↓reduceIte,reduceCtorEq];refine⟨by omega,fun i hi=>?_⟩
    by_cases q:i=k
    ·simp only[if_pos q];subst q;simp only[go_sem,live,go_sem];simp only[row,if_pos (zAE i),ykj p g c s hk',h1,↓reduceIte];exact Sim.refl _
    ·simp only[if_neg q];simp only[go_sem,live,go_sem]
     have:row (k+1) i=row k i:=by
      simp only[row]
      by_cases q1:i<k
      ·rw[if_pos q1,if_pos (by omega)]
      ·rw[if_neg q1,if_neg (by omega)]
     rw[this];exact Sim.refl _
   ·have hk':k<c.length:=by omega
    refine⟨ikw (by omega) (by omega),?_⟩
    refine yu (k+1) (by omega) (by omega) ?_
    refine yh [] [] [] ?_;simp only[allQ,live,yg,ybb,go_sem,zA,↓reduceIte,reduceCtorEq];refine⟨by omega,fun i hi=>?_⟩
    have:row (k+1) i=row k i:=by
     simp only[row]
     by_cases q1:i<k
     ·rw[if_pos q1,if_pos (by omega)]
     ·by_cases q:i=k
      ·subst q;rw[if_neg q1,if_pos (by omega),ykj p g c s hk',if_neg (fun q=>h1 (yox.2 q))]
      ·rw[if_neg q1,if_neg (by omega)]
    rw[this];exact Sim.refl _
   ·obtain rfl:k=n:=by omega
    rw[yib,hn];refine yil fun q hq=>⟨⟨?_,trivial⟩,rfl⟩;simp only[row,if_pos hq];exact Sim.refl _
end Sh
end
section
namespace Sh
open Go Ev
def yvw(p:ProgT)(g:Gr):Bool:=p.vars.all fun x=>decide (x.kind=1)==false||(decide ((ybh g 0 x).1<=(ybh g 0 x).2)&&decide ((ybh g 0 x).2-(ybh g 0 x).1+1<=4096))
def yeu(Q1 Q2:(Nat->Option ABlk)->Value->Prop)(p:ProgR):List SV:=[.a (.string p.name),.ex Q1 (ydw p.vars),.ex Q2 (ycq p.rules)]
theorem ybum{Q1 Q2:(Nat->Option ABlk)->Value->Prop}(p:ProgT){g:Gr}(hg:ybc g)(hp:p.ok=true)(hf:yvw p g=true)(hV:Returns zG 130 [.ag (yeu Q1 Q2 p.raw)] (.b true))(hG:Returns zG 64 [grV g] (.b true)) :
 Returns zG 94 [.ag (yeu Q1 Q2 p.raw),grV g] (.i .i64 0):=by
 refine Returns.of (ycqc _ _ ?_);have hp':=hp;unfold ProgT.ok at hp';simp only[zD,decide_eq_true_eq]at hp';have hvars:p.raw.vars=p.vars:=rfl;simp only[yeu,grV]at hV hG;simp only[c94,ycmt,ycpr,ycru,ycre,yclz,ycor,yeu,grV,go_sem,zA,zB,zF,↓reduceIte,reduceCtorEq];refine hV.use ?_;simp only[ybe,go_sem,zA,zB,↓reduceIte];refine hG.use ?_;simp only[ydw,hvars,go_sem,zA,zB,zC,↓reduceIte,reduceCtorEq]
 have hall:∀k,k<p.vars.length->(p.vars.getD k default).ok=true/\((p.vars.getD k default).kind=1->(ybh g 0 (p.vars.getD k default)).1<=(ybh g 0 (p.vars.getD k default)).2/\(ybh g 0 (p.vars.getD k default)).2-(ybh g 0 (p.vars.getD k default)).1+1<=4096):=fun k hk=>by
  rw[getD_at hk];refine⟨List.all_eq_true.1 hp'.1.1.2 _ (zL _),fun h1=>?_⟩;have:=List.all_eq_true.1 hf _ (zL hk)
  simpa[h1]using this
 refine ybj (σ:=Nat) (fun k=>⟨[(18,.i .i64 k),(17,.i .i64 p.vars.length),(16,.ex Q1 (ydw p.vars)),(3,.pt (3,0) 0 0)],[(3,.one (some ⟨25,true,2,1,fun _=>[yj g.ids,ybf g.ports]⟩))]⟩) (fun k=>k<=p.vars.length) (fun k=>p.vars.length-k) 0 (zQ _) ?_ ?_
 ·refine yh [] [] [] ?_;simp only[ydw,allQ,live,yg,zH,go_sem,zA,↓reduceIte,reduceCtorEq]
 ·intro k hk;obtain⟨x,hx⟩:∃x,p.vars.getD k default=x:=⟨_,rfl⟩;simp only[ycow,ycpy,ycql,ycqk,ybwd,ycea,ybvq,ycao,ydw,varC,splice,ybb,hx,go_sem,zA,zB,zC,zF,↓reduceIte,reduceCtorEq];intro hlt;have hk':k<p.vars.length:=by omega
  obtain⟨hxo,hxb⟩:=hall k hk';rw[hx]at hxo hxb;have hB:=ysd hg hxo (v:=0) (by have:=hg.1;omega)
  simp only[varC,grV,zH]at hB;obtain⟨hb1,hb2⟩:=ypj hg hxo;have hvo:=ybft hxo;refine⟨by omega,fun h1=>⟨ikw (by omega) (by omega),?_⟩,fun h1=>hB.use ?_⟩
  ·refine yu (k+1) (by omega) (by omega) ?_
   refine yh [] [] [] ?_;simp only[allQ,live,yg,ybb,go_sem,zA,↓reduceIte,reduceCtorEq];omega
  ·obtain⟨hb3,hb4⟩:=hxb h1;obtain⟨b1,hb1'⟩:∃b,(ybh g 0 x).1=b:=⟨_,rfl⟩;obtain⟨b2,hb2'⟩:∃b,(ybh g 0 x).2=b:=⟨_,rfl⟩;have e:ybh g 0 x=(x.lo,x.hi+x.perNode*(g.ids.length:Int)+x.perID*maxI g.ids):=by unfold ybh;rw[if_pos h1]
   rw[e]at hb1' hb2';simp only[]at hb1' hb2';simp only[e]at hb3 hb4;rw[e];simp only[ybe,ybb,go_sem,zA,zB,↓reduceIte,reduceCtorEq];simp only[hb1',hb2']at hb3 hb4 ⊢;refine⟨fun _=>⟨ikw (by omega) (by omega),ikw (by omega) (by omega),fun hgt=>absurd hb4 (by omega),fun _=>⟨ikw (by omega) (by omega),?_⟩⟩,fun hlt2=>absurd hb3 (by omega)⟩
   refine yu (k+1) (by omega) (by omega) ?_
   refine yh [] [] [] ?_;simp only[allQ,live,yg,ybb,go_sem,zA,↓reduceIte,reduceCtorEq];omega
end Sh
end
section
namespace Sh
open Go Ev Go.RowKit
theorem ybhp{g:Gr}(hg:ybc g){x:VarR}(hx:x.ok=true)(v:Nat):-4096<=(ybh g v x).1/\(ybh g v x).2<=100000:=by
 obtain⟨h1,h2,h3,h4,h5⟩:=ybft hx;obtain⟨h6,h7⟩:=ypj hg hx;have h8:=hg.deg_lt (v:=v);unfold ybh;split
 ·exact⟨by simp only[];omega,by simp only[];omega⟩
 ·split
  ·exact⟨by simp only[];omega,by simp only[];omega⟩
  ·split
   ·exact⟨by simp only[];omega,by simp only[];omega⟩
   ·exact⟨by simp only[];omega,by simp only[];omega⟩
theorem yty{p:ProgT}{g:Gr}(hg:ybc g)(hp:p.ok=true){c:Conf}(hc:yhs p g c=true):ConfIn g.ports.length p.vars.length c:=by
 have h:=(ydz _ _ _).1 hc;have hp':=hp;unfold ProgT.ok at hp';simp only[zD,decide_eq_true_eq]at hp';refine⟨h.1.trans hg.2.2.1,fun s hs=>?_⟩;obtain⟨v,hv,rfl⟩:=zAN hs;have h2:=h.2 v _ (zI hv);have hl:(c[v]).length=p.vars.length:=by have:=h2.1;simpa using this
 refine⟨hl,fun x hx=>?_⟩;obtain⟨i,hi,rfl⟩:=zAN hx;have hi':i<p.vars.length:=by omega
 have h3:=h2.2 i (ybh g v p.vars[i]) _ (by simp[hi']) (zI hi)
 have h4:=ybhp hg (List.all_eq_true.1 hp'.1.1.2 _ (zL hi')) v;unfold InB;omega
structure Checked(Q1 Q2:(Nat->Option ABlk)->Value->Prop)(p:ProgT)(g:Gr):Prop where
 hg:ybc g
 hp:p.ok=true
 hf:yvw p g=true
 hV:Returns zG 130 [.ag (yeu Q1 Q2 p.raw)] (.b true)
theorem Checked.gv{Q1 Q2:(Nat->Option ABlk)->Value->Prop}{p:ProgT}{g:Gr}(h:Checked Q1 Q2 p g):Returns zG 64 [grV g] (.b true):=by
 have e:=yrh (yckc h.hg);rw[(ygu g).2 h.hg]at e;exact e
section
variable {Q1 Q2:(Nat->Option ABlk)->Value->Prop}{p:ProgT}{g:Gr}
theorem ybof(h:Checked Q1 Q2 p g)(c:Conf):Returns zG 59 [.ag (yeu Q1 Q2 p.raw),grV g,ybk c] (.i .i64 (if yhs p g c then 0 else 10)):=by
 refine Returns.of (ycpk _ _ ?_);have hp':=h.hp;unfold ProgT.ok at hp';simp only[zD,decide_eq_true_eq]at hp';have hid:=h.hg.2.2.1;have h24:=h.hg.2.1;have hF:=ybum p h.hg h.hp h.hf h.hV h.gv;have hT:=ywj p.raw h.hg hp'.1.1.2 hp'.1.1.1.2;have hW:=ybdy (n:=g.ids.length) p.vars (by omega) (ybh g) c (by omega)
 simp only[yeu,grV]at hF hT;simp only[c59,ycng,yctd,yeu,grV,go_sem,zA,zB,zF,↓reduceIte,reduceCtorEq];refine hF.use ?_;simp only[ybe,ycqw,yclb,ycmu,go_sem,zA,zB,↓reduceIte,reduceCtorEq];refine⟨fun h=>absurd rfl h,hT.useS ?_ ?_⟩
 ·exact⟨yyi ⟨Sim.refl _,ybcl _ _,ybcl _ _,trivial⟩,Sim.refl _,trivial⟩
 simp only[yhv]at hW ⊢;simp only[go_sem,↓reduceIte];refine hW.use ?_;simp only[go_sem];have hcf:∀b,ynk g.ids.length (fun v=>p.vars.map (ybh g v)) c=b->yhs p g c=b:=fun b h=>h;refine⟨fun h1=>?_,fun h1=>?_⟩
 ·simp only[ycod,hcf _ h1,ybb,go_sem,↓reduceIte]
 ·simp only[yckl,hcf _ h1,ybb,go_sem,↓reduceIte]
end
end Sh
end
section
namespace Sh
open Ev Go.RowKit
def cntV(k:Cnt):List SV:=[.i .i64 k.steps,.i .i64 k.moves,.i .i64 k.rounds,.i .i64 k.begun,.i .u32 k.pend]
def usV(l:List Nat):SV:=.sl 1 l.length (fun k=>[.i .u32 ((l.getD k 0:Nat):Int)])
end Sh
end
section
namespace Sh
open Ev Go.RowKit
end Sh
end
section
namespace Sh
open Go Ev
def ycmx:LO:=[o3 (.mv (ci' 0)) 4 0]
def ycpm:LO:=[mv' 1 5 0,o3 (.bin .lss (.tmp 5) (ci' 1)) 6 1]
def yclf:LO:=[o3 (.mv (ci' 0)) 4 0]
def ycnf:LO:=[mv' 0 7 0,mv' 1 8 0,bn' .rem 7 8 9 3,mv' 9 0 7]
def ycnz:LO:=[mv' 0 10 0,o3 (.bin .lss (.tmp 10) (ci' 0)) 11 1]
def ycsi:LO:=[mv' 0 12 0,mv' 1 13 0,bn' .add 12 13 14 3,mv' 14 0 7]
def ycnp:LO:=[mv' 0 15 0,mv' 15 4 1]
def c17:SC:=(.seq (.reg false ycmx) (.seq (.seq (.reg false ycpm) (.cond (.tmp 6) (.seq (.reg false yclf) .ret) .skip)) (.seq (.reg false ycnf) (.seq (.seq (.reg false ycnz) (.cond (.tmp 11) (.reg false ycsi) .skip)) (.seq (.reg false ycnp) .ret)))))
theorem ycme:Fn 17 c17 [.t 4]:=fn_0 Tryz.func17 (by kernel_rfl) (by kernel_rfl)
def ycpa:LO:=[o3 (.mv (ci' 0)) 4 0]
def ycqn:LO:=[mv' 1 5 0,mv' 0 6 0,ln' 6 7 2,bn' .lss 5 7 8 7]
def ycmn:LO:=[mv' 0 9 0,mv' 1 10 0,ix' 1 9 10 11 3,ld' false 1 11 12 7,mv' 12 4 15]
def yclx:LO:=[o3 (.mv (ci' 0)) 4 0]
def c74:SC:=(.seq (.reg false ycpa) (.seq (.seq (.reg false ycqn) (.cond (.tmp 8) (.seq (.reg false ycmn) .ret) .skip)) (.seq (.reg false yclx) .ret)))
theorem ycpx:Fn 74 c74 [.t 4]:=fn_0 Tryz.func74 (by kernel_rfl) (by kernel_rfl)
def yced:LO:=[o3 (.box 25 (.tmp 0)) 3 0,o3 (.mv (.const (.bool false))) 6 0]
def ybwj:LO:=[o3 (.mv (ci' 0)) 7 0]
def ycdg:LO:=[mv' 7 8 0,fa' 1 1 3 9 0,ld' false 1 9 10 2,mv' 1 11 0,ix' 1 10 11 12 14,ld' false 1 12 13 30,ln' 13 14 62,bn' .lss 8 14 15 127]
def yccn:LO:=[fa' 1 1 3 18 0,ld' false 1 18 19 1,mv' 1 20 0,ix' 1 19 20 21 7,ld' false 1 21 22 15,mv' 7 23 0,ix' 2 22 23 24 63,fa' 0 1 24 25 127,ld' false 1 25 26 255,mv' 2 27 0,bn' .eql 26 27 28 1023]
def ybxh:LO:=[o3 (.mv (.const (.bool true))) 6 0]
def ybyg:LO:=[mv' 7 16 0,o3 (.bin .add (.tmp 16) (ci' 1)) 17 1,mv' 17 7 3]
def ybvu:LO:=[o3 (.mv (.const (.bool false))) 6 0]
def c110:SC:=(.seq (.reg false yced) (.seq (.seq (.reg false ybwj) (.block 0 (.loop (.seq (.seq (.reg false ycdg) (.cond (.tmp 15) .skip (.exit 0))) (.seq (.block 1 (.seq (.reg false yccn) (.cond (.tmp 28) (.seq (.reg false ybxh) .ret) .skip))) (.reg false ybyg)))))) (.seq (.reg false ybvu) .ret)))
theorem ycgz:Fn 110 c110 [.t 6]:=fn_0 Tryz.func110 (by kernel_rfl) (by kernel_rfl)
def yciy:LO:=[o3 (.box 35 (.tmp 0)) 5 0,o3 (.box 25 (.tmp 1)) 6 0]
def ycgw:LO:=[mv' 2 12 0,mv' 3 13 0,bn' .eql 12 13 14 3,mv' 14 15 7,⟨.load true 2 (.tmp 6),some 16,some (15,false),15⟩,⟨.mv (.tmp 2),some 17,some (15,false),15⟩,⟨.mv (.tmp 3),some 18,some (15,false),15⟩,⟨.call (.func 110) [(.tmp 16),(.tmp 17),(.tmp 18)],some 19,some (15,false),127⟩,o3 (.pick (.tmp 15) (.const (.bool true)) (.tmp 19)) 20 255]
def ybgp:LO:=[mv' 3 21 0,mv' 4 22 0,o3 (.build [.i .i64 0,.i .i64 0] [(0,1,(.tmp 21)),(1,1,(.tmp 22))]) 23 3,mv' 2 24 0,mv' 4 25 0,o3 (.build [.i .i64 0,.i .i64 0] [(0,1,(.tmp 24)),(1,1,(.tmp 25))]) 26 24,o3 (.alloc 81 1 [.i .i64 0,.i .i64 0]) 10 0,o3 (.alloc 81 1 [.i .i64 0,.i .i64 0]) 11 0,o0 (.store 2 (.tmp 10) (.tmp 23)) 199,o0 (.store 2 (.tmp 11) (.tmp 26)) 511]
def ybet:LO:=[fa' 5 1 5 27 0,ld' false 1 27 28 1]
def ybii:LO:=[fa' 1 1 6 29 0,ld' false 1 29 30 1,mv' 2 31 0,ld' true 2 10 32 0,o3 (.bslice 81 2 1 [.i .i64 0,.i .i64 0] [(0,2,(.tmp 32))]) 33 8,fa' 1 1 6 34 0,ld' false 1 34 35 32,mv' 2 36 0,ix' 1 35 36 37 224,ld' false 1 37 38 480,o3 (.app 81 2 16 (.tmp 33) (.tmp 38)) 39 1016,ix' 1 30 31 40 2047,o0 (.store 1 (.tmp 40) (.tmp 39)) 4095]
def ybpg:LO:=[fa' 1 1 6 41 0,ld' false 1 41 42 1,mv' 3 43 0,ld' true 2 11 44 0,o3 (.bslice 81 2 1 [.i .i64 0,.i .i64 0] [(0,2,(.tmp 44))]) 45 8,fa' 1 1 6 46 0,ld' false 1 46 47 32,mv' 3 48 0,ix' 1 47 48 49 224,ld' false 1 49 50 480,o3 (.app 81 2 16 (.tmp 45) (.tmp 50)) 51 1016,ix' 1 42 43 52 2047,o0 (.store 1 (.tmp 52) (.tmp 51)) 4095]
def yctc:LO:=[fa' 1 1 6 53 0,ld' false 1 53 54 1,mv' 2 55 0,fa' 1 1 6 56 0,ld' false 1 56 57 8,mv' 3 58 0,fa' 1 1 6 59 0,ld' false 1 59 60 64,mv' 2 61 0,ix' 1 60 61 62 448,ld' false 1 62 63 960,ld' true 2 10 64 0,o3 (.bslice 81 2 1 [.i .i64 0,.i .i64 0] [(0,2,(.tmp 64))]) 65 2048,o3 (.app 81 2 16 (.tmp 63) (.tmp 65)) 66 8128,fa' 1 1 6 67 0,ld' false 1 67 68 16384,mv' 3 69 0,ix' 1 68 69 70 114688,ld' false 1 70 71 245760,ld' true 2 11 72 0,o3 (.bslice 81 2 1 [.i .i64 0,.i .i64 0] [(0,2,(.tmp 72))]) 73 524288,o3 (.app 81 2 16 (.tmp 71) (.tmp 73)) 74 2097088,ix' 1 54 55 75 4194247,o0 (.store 1 (.tmp 75) (.tmp 66)) 8388551,ix' 1 57 58 76 16777215,o0 (.store 1 (.tmp 76) (.tmp 74)) 33554431]
def c73:SC:=(.seq (.reg false yciy) (.seq (.seq (.reg false ycgw) (.cond (.tmp 20) .ret .skip)) (.seq (.reg false ybgp) (.seq (.seq (.reg false ybet) (.cond (.tmp 28) (.seq (.reg true ybii) (.seq (.reg true ybpg) .ret)) .skip)) (.reg true yctc)))))
theorem ycex:FnM 73 c73 []:=fn_m Tryz.func73 (by kernel_rfl) (by kernel_rfl)
def ycom:LO:=[o3 (.box 35 (.tmp 0)) 2 0,o3 (.alloc 25 1 [.a (.slice none 0 0),.a (.slice none 0 0)]) 4 0]
def ycqh:LO:=[fa' 0 1 2 10 0,ld' false 1 10 11 1,o3 (.wsub (.tmp 11) (ci' 1)) 12 3,mv' 1 13 0,cl' 17 [12,13] 14 15,o3 (.bin .add (ci' 1) (.tmp 14)) 15 31,mv' 15 5 63]
def yclp:LO:=[mv' 5 16 0,o3 (.mk 38 1 24 [.a (.slice none 0 0)] (.tmp 16) (.tmp 16)) 17 1,o3 (.build [.a (.slice none 0 0),.a (.slice none 0 0)] [(1,1,(.tmp 17))]) 18 3,o3 (.alloc 25 1 [.a (.slice none 0 0),.a (.slice none 0 0)]) 6 0,o0 (.store 2 (.tmp 6) (.tmp 18)) 15]
def yclt:LO:=[o3 (.mv (ci' 0)) 7 0]
def ycoy:LO:=[mv' 7 19 0,mv' 5 20 0,bn' .lss 19 20 21 3]
def ycsp:LO:=[fa' 3 1 2 24 0,ld' false 1 24 25 1,mv' 7 26 0,cl' 74 [25,26] 27 7,o3 (.call (.func 17) [(.tmp 27),(ci' 256)]) 28 15,mv' 28 8 31]
def yclj:LO:=[o3 (.mv (ci' 0)) 9 0]
def ycsr:LO:=[mv' 9 29 0,mv' 7 30 0,bn' .lss 29 30 31 3]
def ybwa:LO:=[fa' 0 1 6 34 0,ld' false 1 34 35 1,mv' 9 36 0,ix' 1 35 36 37 7,ld' false 1 37 38 15,mv' 8 39 0,bn' .eql 38 39 40 63]
def ybwt:LO:=[mv' 8 41 0,o3 (.bin .add (.tmp 41) (ci' 1)) 42 1,o3 (.bin .rem (.tmp 42) (ci' 256)) 43 3,mv' 43 8 7,o3 (.mv (.const (.int .i64 (-1)))) 9 15]
def ycmf:LO:=[mv' 9 32 0,o3 (.bin .add (.tmp 32) (ci' 1)) 33 1,mv' 33 9 3]
def yccq:LO:=[fa' 0 1 6 44 0,ld' false 1 44 45 1,mv' 8 46 0,o3 (.bslice 3 1 1 [.i .i64 0] [(0,1,(.tmp 46))]) 47 4,o3 (.app 3 1 8 (.tmp 45) (.tmp 47)) 48 15,fa' 0 1 6 49 31,o0 (.store 1 (.tmp 49) (.tmp 48)) 63]
def ycsy:LO:=[mv' 7 22 0,o3 (.bin .add (.tmp 22) (ci' 1)) 23 1,mv' 23 7 3]
def ybwr:LO:=[ld' true 2 6 50 0,o0 (.store 2 (.tmp 4) (.tmp 50)) 1]
def c55:SC:=(.seq (.reg false ycom) (.seq (.reg false ycqh) (.seq (.reg false yclp) (.seq (.seq (.reg false yclt) (.block 0 (.loop (.seq (.seq (.reg false ycoy) (.cond (.tmp 21) .skip (.exit 0))) (.seq (.block 1 (.seq (.reg false ycsp) (.seq (.seq (.reg false yclj) (.block 2 (.loop (.seq (.seq (.reg false ycsr) (.cond (.tmp 31) .skip (.exit 2))) (.seq (.block 3 (.seq (.reg false ybwa) (.cond (.tmp 40) (.reg false ybwt) .skip))) (.reg false ycmf)))))) (.reg false yccq)))) (.reg false ycsy)))))) (.seq (.reg false ybwr) .ret)))))
theorem yckf:FnM 55 c55 [.c 4 true 2]:=fn_m Tryz.func55 (by kernel_rfl) (by kernel_rfl)
def ycnm:LO:=[o3 (.box 35 (.tmp 0)) 2 0,o3 (.alloc 25 1 [.a (.slice none 0 0),.a (.slice none 0 0)]) 4 0]
def ycob:LO:=[ld' true 6 2 7 0,mv' 1 8 0,cl' 55 [7,8] 9 3,o3 (.alloc 25 1 [.a (.slice none 0 0),.a (.slice none 0 0)]) 5 0,o0 (.store 2 (.tmp 5) (.tmp 9)) 15]
def ycpz:LO:=[o3 (.mv (ci' 1)) 6 0]
def ychr:LO:=[mv' 6 10 0,fa' 1 1 5 11 0,ld' false 1 11 12 2,ln' 12 13 6,bn' .lss 10 13 14 15]
def ycqx:LO:=[ld' true 6 2 17 0,ld' true 2 5 18 0,fa' 1 1 2 19 0,ld' false 1 19 20 4,mv' 6 21 0,o3 (.bin .sub (.tmp 21) (ci' 1)) 22 16,cl' 74 [20,22] 23 60,mv' 6 24 0,cl' 17 [23,24] 25 252,mv' 6 26 0,fa' 2 1 2 27 0,ld' false 1 27 28 1024,mv' 6 29 0,o3 (.bin .sub (.tmp 29) (ci' 1)) 30 4096,cl' 74 [28,30] 31 15868,o3 (.call (.func 17) [(.tmp 31),(ci' 15)]) 32 32252,o3 (.bin .add (ci' 1) (.tmp 32)) 33 65020,cl' 73 [17,18,25,26,33] 34 131071]
def ycsa:LO:=[mv' 6 15 0,o3 (.bin .add (.tmp 15) (ci' 1)) 16 1,mv' 16 6 3]
def ycpq:LO:=[ld' true 2 5 35 0,o0 (.store 2 (.tmp 4) (.tmp 35)) 1]
def c36:SC:=(.seq (.reg false ycnm) (.seq (.reg false ycob) (.seq (.seq (.reg false ycpz) (.block 0 (.loop (.seq (.seq (.reg false ychr) (.cond (.tmp 14) .skip (.exit 0))) (.seq (.block 1 (.reg true ycqx)) (.reg false ycsa)))))) (.seq (.reg false ycpq) .ret))))
theorem ycge:FnM 36 c36 [.c 4 true 2]:=fn_m Tryz.func36 (by kernel_rfl) (by kernel_rfl)
def ycms:LO:=[o3 (.box 35 (.tmp 0)) 2 0,o3 (.box 25 (.tmp 1)) 3 0,o3 (.alloc 25 1 [.a (.slice none 0 0),.a (.slice none 0 0)]) 4 0]
def ycrz:LO:=[fa' 1 1 3 7 0,ld' false 1 7 8 1,ln' 8 9 3,mv' 9 5 7]
def ycrq:LO:=[mv' 5 10 0,mv' 10 6 1]
def ybqb:LO:=[mv' 6 11 0,o3 (.bin .add (.tmp 11) (ci' 1)) 12 1,fa' 1 1 2 13 0,ld' false 1 13 14 4,ln' 14 15 12,bn' .lss 12 15 16 31,mv' 16 17 63,⟨.mv (.tmp 6),some 18,some (17,true),127⟩,⟨.bin .lss (.tmp 18) (ci' 60),some 19,some (17,true),255⟩,o3 (.pick (.tmp 17) (.tmp 19) (.const (.bool false))) 20 511]
def ycte:LO:=[ld' true 6 2 23 0,ld' true 2 3 24 0,fa' 1 1 2 25 0,ld' false 1 25 26 4,mv' 6 27 0,ix' 1 26 27 28 28,ld' false 1 28 29 60,mv' 5 30 0,cl' 17 [29,30] 31 252,fa' 1 1 2 32 0,ld' false 1 32 33 512,mv' 6 34 0,o3 (.bin .add (.tmp 34) (ci' 1)) 35 2048,ix' 1 33 35 36 7680,ld' false 1 36 37 15872,mv' 5 38 0,cl' 17 [37,38] 39 65532,fa' 2 1 2 40 0,ld' false 1 40 41 131072,mv' 6 42 0,cl' 74 [41,42] 43 1048572,o3 (.call (.func 17) [(.tmp 43),(ci' 15)]) 44 2097148,o3 (.bin .add (ci' 1) (.tmp 44)) 45 4194300,cl' 73 [23,24,31,39,45] 46 8388607]
def ycrm:LO:=[mv' 6 21 0,o3 (.bin .add (.tmp 21) (ci' 2)) 22 1,mv' 22 6 3]
def ycfr:LO:=[ld' true 2 3 47 0,o0 (.store 2 (.tmp 4) (.tmp 47)) 1]
def c54:SC:=(.seq (.reg false ycms) (.seq (.reg false ycrz) (.seq (.seq (.reg false ycrq) (.block 0 (.loop (.seq (.seq (.reg false ybqb) (.cond (.tmp 20) .skip (.exit 0))) (.seq (.block 1 (.reg true ycte)) (.reg false ycrm)))))) (.seq (.reg false ycfr) .ret))))
theorem ycir:FnM 54 c54 [.c 4 true 2]:=fn_m Tryz.func54 (by kernel_rfl) (by kernel_rfl)
def ycrb:LO:=[o3 (.box 35 (.tmp 0)) 2 0,o3 (.alloc 25 1 [.a (.slice none 0 0),.a (.slice none 0 0)]) 4 0]
def ycqr:LO:=[ld' true 6 2 5 0,ld' true 6 2 6 0,mv' 1 7 0,cl' 36 [6,7] 8 6,cl' 54 [5,8] 9 15,o0 (.store 2 (.tmp 4) (.tmp 9)) 31]
def c53:SC:=(.seq (.reg false ycrb) (.seq (.reg true ycqr) .ret))
theorem ychg:FnU 53 c53 [.c 4 true 2]:=fn_u Tryz.func53 (by kernel_rfl) (by kernel_rfl)
end Sh
end
section
namespace Sh
open Ev Go.RowKit
instance:Inhabited Cnt:=⟨⟨0,0,0,0,0⟩⟩
structure DaemonOk(kind:Int)(net:List Nat)(res:Nat->Nat->Nat):Prop where
 resolve:∀(e w:Nat),e<2^24->e<2^net.length->e≠0->w<2^32->Returns zG 0 [usV net,.i .i64 kind,.i .u32 e,.i .u32 w] (.i .u32 (res e w))
 permits:∀(e w:Nat),e<2^24->e<2^net.length->e≠0->w<2^32->Returns zG 0 [usV net,.i .i64 kind,.i .u32 e,.i .u32 (res e w)] (.b true)
 zero:∀(w:Nat),w<2^32->∃x:Nat,Returns zG 0 [usV net,.i .i64 kind,.i .u32 0,.i .u32 w] (.i .u32 x)
 sub:∀(e w:Nat),e≠0->e<2^24->res e w≠0/\subB (res e w) e
theorem ybss{s e:Nat}(h:subB s e):difB s e=0:=by
 rw[yhw];intro i;rw[ykh];cases hb:s.testBit i with
 |false=>rfl
 |true=>rw[h i hb];rfl
end Sh
end
section
theorem ybsz{kind:Int}{b:Int×Int}(hb:b.1<=b.2)(h3:kind=3->b.1 <= -1 /\ -1<=b.2)(x:Int):b.1<=yji kind b x/\yji kind b x<=b.2:=by
 unfold yji;split
 ·assumption
 ·split
  ·exact h3 (by assumption)
  ·split<;>omega
namespace Sh
theorem ybsh{p:ProgT}{g:Gr}(hg:ybc g)(hp:p.ok=true)(hf:yvw p g=true){x:VarR}(hx:x∈p.vars)(v:Nat):(ybh g v x).1<=(ybh g v x).2/\(x.kind=3->(ybh g v x).1 <= -1 /\ -1<=(ybh g v x).2):=by
 have h1:=List.all_eq_true.1 hf x hx;have hp':=hp;unfold ProgT.ok at hp';simp only[zD,decide_eq_true_eq]at hp';have hxo:=ybft (List.all_eq_true.1 hp'.1.1.2 _ hx);rcases hxo.1 with h|h|h
 ·have e:ybh g v x=ybh g 0 x:=by unfold ybh;rw[if_pos h,if_pos h]
  rw[e];simp[h]at h1;exact⟨h1.1,fun q=>by omega⟩
 ·unfold ybh;rw[if_neg (by omega),if_pos h]
  exact⟨by decide,fun q=>by omega⟩
 ·unfold ybh;rw[if_neg (by omega),if_neg (by omega),if_pos h]
  exact⟨by simp only[];omega,fun _=>⟨by simp only[];omega,by simp only[];omega⟩⟩
theorem ybnh{p:ProgT}{g:Gr}(hg:ybc g)(hp:p.ok=true)(hf:yvw p g=true){v:Nat}{s:List Int}(hs:yfq (p.vars.map (ybh g v)) s){a:Int}(ha:0<=a/\a<p.vars.length)(y:Int) :
 yfq (p.vars.map (ybh g v)) (s.set a.toNat (yji (p.vars.getD a.toNat default).kind (ybh g v (p.vars.getD a.toNat default)) y)):=by
 refine⟨by rw[List.length_set];exact hs.1,fun i b x hb hx=>?_⟩
 by_cases q:a.toNat=i
 ·subst q;have hlt:a.toNat<p.vars.length:=by omega
  rw[List.getElem?_map,zI hlt]at hb;cases hb
  have hl:a.toNat<s.length:=by rw[hs.1,zAS];exact hlt
  rw[zV hl]at hx;cases hx
  rw[getD_at hlt];obtain⟨h1,h2⟩:=ybsh hg hp hf (zL hlt) v;exact ybsz h1 h2 y
 ·rw[zZ q]at hx;exact hs.2 i b x hb hx
theorem yrn{p:ProgT}{g:Gr}(hg:ybc g)(hp:p.ok=true)(hf:yvw p g=true)(c:Conf)(v:Nat):∀(sets:List (Int×Ex)) (s:List Int),(∀a∈sets,0<=a.1/\a.1<p.vars.length)->yfq (p.vars.map (ybh g v)) s->yfq (p.vars.map (ybh g v)) (ymk p g c v s sets)
 |[],s,_,hs=>hs
 | a::sets,s,ha,hs=>by
   show yfq _ (ymk p g c v (s.set _ _) sets);exact yrn hg hp hf c v sets _ (fun x hx=>ha x (List.mem_cons_of_mem _ hx)) (ybnh hg hp hf hs (ha a List.mem_cons_self) _)
theorem ybdz{p:ProgT}{g:Gr}(hg:ybc g)(hp:p.ok=true)(hf:yvw p g=true){c:Conf}(hc:yhs p g c=true)(s:Nat):yhs p g (yia p g c s)=true:=by
 have h:=(ydz _ _ _).1 hc;refine(ydz _ _ _).2 ⟨by rw[yib];exact h.1,fun v st hst=>?_⟩
 have hv:v<c.length:=by
  have:=(List.getElem?_eq_some_iff.1 hst).1
  rwa [yib]at this
 have e:st=(yia p g c s).getD v []:=by simp[zK,hst]
 rw[ykj p g c s hv]at e;have hold:=h.2 v (c.getD v []) (by rw[getD_at hv];exact zI hv)
 rw[e];split
 ·unfold yyt;refine yrn hg hp hf c v _ _ (fun a ha=>?_) hold;have hp':=hp;unfold ProgT.ok at hp';simp only[zD,decide_eq_true_eq]at hp'
  by_cases hr:(yfv p g c v).toNat<p.rules.length
  ·rw[getD_at hr]at ha;have hok:=List.all_eq_true.1 hp'.2 _ (zL hr);unfold RuleT.ok at hok;simp only[zD,decide_eq_true_eq]at hok;have:=List.all_eq_true.1 hok.2 a ha;simp only[zD,decide_eq_true_eq]at this;exact this.1.1
  ·have:p.rules.getD (yfv p g c v).toNat default=default:=by simp[zK,zX (Nat.le_of_not_lt hr)]
   rw[this]at ha;cases ha
 ·exact hold
theorem ychj(p:ProgT)(g:Gr)(c:Conf):ybu p g c<2^g.ids.length:=ybcm _ _
end Sh
end
section
namespace Sh
open Ev Go.RowKit
section
variable {Q1 Q2:(Nat->Option ABlk)->Value->Prop}{p:ProgT}{g:Gr}
end
end Sh
end
section
namespace Sh
open Ev Go.RowKit
section
variable {Q1 Q2:(Nat->Option ABlk)->Value->Prop}{p:ProgT}{g:Gr}
def yfx(l:List Conf):SV:=.sl 1 l.length (fun i=>[ybk (l.getD i [])])
def yku(l:List Cnt):SV:=.sl 5 l.length (fun i=>cntV (l.getD i default))
end
end Sh
end
section
def ybp(v m:Int):Int:=if m<1 then 0 else v%m
def atP(l:List Int)(i:Nat):Int:=l.getD i 0
theorem ydf{v m:Int}(h:1<=m):0<=ybp v m/\ybp v m<m:=by
 unfold ybp;rw[if_neg (by omega)]
 exact⟨zAI _ (by omega),zAA _ (by omega)⟩
namespace Sh
open Ev Go.RowKit
theorem ybcd{v m:Int}(h:1<=m):(if v.tmod m<0 then v.tmod m+m else v.tmod m)=v%m:=by
 have h1:=Int.emod_add_mul_ediv v m;have h2:=zAI v (show m≠0 by omega)
 have h3:=zAA v (show 0<m by omega)
 have h4:=Int.tmod_eq_emod (a:=v) (b:=m);have h5:(m.natAbs:Int)=m:=by omega
 rw[h4]
 by_cases q:0<=v\/m ∣ v
 ·simp only[if_pos q,zH,Int.sub_zero];rw[if_neg (by omega)]
 ·simp only[if_neg q,h5];rw[if_pos (by omega)]
  omega
theorem ycw(v m:Int)(hm:m<=4611686018427387904)(hv:inK .i64 v):Returns zG 17 [.i .i64 v,.i .i64 m] (.i .i64 (ybp v m)):=by
 refine Returns.of (ycme _ _ ?_);simp only[c17,ycmx,ycpm,yclf,ycnf,ycnz,ycsi,ycnp,ybb,go_sem,zA,zB,↓reduceIte,reduceCtorEq];unfold ybp;refine⟨fun h=>by rw[if_pos h],fun h=>⟨by omega,fun h2=>?_,fun h2=>?_⟩⟩
 ·have h3:=ybcd (v:=v) (show 1<=m by omega)
  rw[if_pos h2]at h3;rw[if_neg h,h3];have h4:=zAI v (show m≠0 by omega)
  have h5:=zAA v (show 0<m by omega)
  exact⟨ikw (by omega) (by omega),rfl⟩
 ·have h3:=ybcd (v:=v) (show 1<=m by omega)
  rw[if_neg h2]at h3;rw[if_neg h,h3]
theorem at_ret(l:List Int)(i:Nat):Returns zG 74 [yj l,.i .i64 i] (.i .i64 (atP l i)):=by
 refine Returns.of (ycpx _ _ ?_);simp only[c74,ycpa,ycqn,ycmn,yclx,yj,ybb,go_sem,zA,zB,↓reduceIte,reduceCtorEq];exact⟨fun h=>⟨by omega,rfl⟩,fun h=>by unfold atP;rw[zK,zX (by omega)];rfl⟩
theorem yclm{α:Type}(l:List α)(x d:α)(i:Nat):(l++[x]).getD i d=if i<l.length then l.getD i d else if i=l.length then x else d:=by
 by_cases h:i<l.length
 ·simp[zK,List.getElem?_append_left h,h]
 ·by_cases e:i=l.length
  ·subst e;simp[zK]
  ·rw[if_neg h,if_neg e,zK,zX (by simp;omega)]
   rfl
end Sh
end
section
namespace Sh
open Ev Go.RowKit
section
variable {p:ProgT}{g:Gr}
end
end Sh
end
section
namespace Sh
open Ev Go.RowKit
def blV(l:List Bool):SV:=.sl 1 l.length (fun k=>[.b (l.getD k false)])
def ybqi(l:List Bool)(k:Nat):Bool:=(l.take k).any id
structure HeldOk(legit:List Bool)(ks:List Cnt)(rounds moves:Int)(ended:Bool):Prop where
 len:legit.length=ks.length
 pos:0<legit.length
 stays:∀i,i<legit.length->ybqi legit i=true->legit.getD i false=true
 rounds:∀i,i<legit.length->ybqi legit (i+1)=false->((ks.getD i default).begun:Int)<=rounds
 moves:∀i,i<legit.length->ybqi legit (i+1)=false->0<=moves->((ks.getD i default).moves:Int)<=moves
 ends:ybqi legit legit.length=true\/ended=false
end Sh
end
section
namespace Sh
open Ev Go.RowKit
theorem ybdc{n nv:Nat}{c:Conf}(h:ConfIn n nv c):ybes c:=fun s hs x hx=>by
 have:=(h.row s hs).2 x hx;unfold InB at this;exact yeq (by omega)
end Sh
end
section
namespace Sh
open Go Ev
end Sh
end
section
namespace Sh
open Ev Go.RowKit
end Sh
end
section
namespace Sh
open Go Ev Go.RowKit
section
variable {m:Mem}{F:AM}
theorem row_of{z bk p n cp N e zz:Nat}{Tb:Ev.T Value}{L:Nat->List Value}(h1:m.b.get bk=some (.cells Tb N e zz))(h2:0<n)(h3:p+n*z<=N)(h4:∀a,a<n->(L a).length=z)(h5:∀a,a<n->∀j,j<z->Tb.get (p+a*z+j)=(L a)[j]?) :
 rowOf m z (.slice (some ⟨bk,p,none⟩) n cp)=some (ybt L n,[bk]):=by
 have hl:=ycr h4;show(bif zAZ n 0 then _ else _)=_;rw[show zAZ n 0=false by cases n with|zero=>omega|succ n=>rfl]
 simp only[cond_false];rw[h1];simp only;rw[zT h3];simp only[cond_true]
 have hg:=yfj (T:=Tb) (L:=ybt L n) (o:=p) (fun j hj=>by
  rw[hl]at hj;rcases zAB z with hz|hz
  ·subst hz;omega
  ·have hd:=Nat.div_add_mod j z;have hm:=Nat.mod_lt j hz;have hk:j/z<n:=Nat.div_lt_of_lt_mul (by rwa [zAW]at hj)
   have e1:j=j/z*z+j%z:=by rw[zAW];exact hd.symm
   rw[e1,yep h4 _ _ hk hm,<-Nat.add_assoc];exact h5 _ hk _ hm)
 rw[hl]at hg;rw[hg]
theorem row_zero{u:Value}(h:Z0 u)(z:Nat):rowOf m z u=some ([],[]):=by
 rcases h with rfl|⟨b,o,c,rfl⟩
 ·rfl
 ·rfl
theorem in64{n:Int}(h:I64 n):inI64 n=true:=by
 unfold I64 at h;unfold inI64;split
 ·rename_i k;exact zT (by simp only[Int.ofNat_eq_natCast]at h;omega)
 ·rename_i k;exact zT (by omega)
theorem ymo{a b:Int}(ha:I64 a)(hb:I64 b):∀{l:List Value}{r:List (Int×Int)},pairsOf l=some r->pairsOf (l++[.int .i64 a,.int .i64 b])=some (r++[(a,b)])
 | [],r,h=>by
   cases h
   show(bif inI64 a&&inI64 b then _ else _)=_;rw[in64 ha,in64 hb];rfl
 | .int .i64 x :: .int .i64 y::l,r,h=>by
   unfold pairsOf at h;split at h
   ·rename_i r' hr
    rw[Bool.cond_eq_ite]at h;split at h
    ·rename_i hc
     cases h
     show(match pairsOf (l++[.int .i64 a,.int .i64 b])with|some r=>bif inI64 x&&inI64 y then some ((x,y)::r)else none|none=>none)=_
     rw[ymo ha hb hr];simp only[hc,cond_true];rfl
    ·cases h
   ·cases h
theorem ybdx(hF:Le F m.b.get){ls:List (Int×Int)}{u:Value}(h:RV F om0 (ybd ls) u)(hI:∀l∈ls,I64 l.1/\I64 l.2):linksOf m u=some ls:=by
 unfold linksOf;rcases h.sl_inv with⟨h0,hz⟩|⟨bk,p,cp,T,N,e,zz,L,rfl,g1,g2,g3,g4,g5,g6,g7⟩
 ·rw[row_zero hz];have:ls=[]:=zO h0;subst this;rfl
 ·rcases zAB ls.length with h0|h0
  ·have:ls=[]:=zO h0;subst this;rfl
  ·rw[row_of (hF _ _ g1) h0 g3 g4 g5]
   have:∀n,n<=ls.length->pairsOf (ybt L n)=some (ls.take n):=by
    intro n
    induction n with
    |zero=>intro _;rfl
    | succ n ih =>
      intro hn;have hn':n<ls.length:=by omega
      have hl:=g6 n hn'
      have e1:L n=[.int .i64 ls[n].1,.int .i64 ls[n].2]:=by
       have e0:ls.getD n (0,0)=ls[n]:=by simp[zK,hn']
       rw[e0]at hl;obtain⟨x,y,e2,hx,hy⟩:=rvl2 hl;rw[e2,hx.int_inv,hy.int_inv]
      show pairsOf (ybt L n++L n)=_;rw[e1,zS hn'];have:=hI ls[n] (zL hn');exact ymo this.1 this.2 (ih (by omega))
   simp only;rw[this _ (zAY _),zAF]
theorem yboz{α β:Type}{f:α->Option β}:∀{l:List α}{r:List β},l.length=r.length->(∀(k:Nat) x y,l[k]?=some x->r[k]?=some y->f x=some y)->mapO f l=some r
 |[],[],_,_=>rfl
 | x::l,y::r,hl,h=>by
   unfold mapO;rw[h 0 x y rfl rfl];simp only;rw[yboz (by simpa using hl) fun k a b h1 h2=>h (k+1) a b (by simpa using h1) (by simpa using h2)]
 |[],_::_,hl,_=>by simp at hl
 |_::_,[],hl,_=>by simp at hl
theorem ybit{L:Nat->List Value}{n:Nat}(h:∀a,a<n->(L a).length=1){k:Nat}(hk:k<n):(ybt L n)[k]?=(L k)[0]?:=by
 have:=yep h k 0 hk (by omega)
 simpa using this
theorem ybfq{ids:SV}{P:List (List (Int×Int))}{u:Value}(h:RV F om0 (.rf [ids,ybf P]) u)(hI:∀ls∈P,∀l∈ls,I64 l.1/\I64 l.2) :
 ∃A v us,u = .pointer (some A)/\∀m:Mem,Le F m.b.get->graphOf m A=some ⟨v,us,P⟩:=by
 obtain⟨bk,p,T,N,e,zz,L,rfl,h1,h2,h3,h4,_⟩:=h.rf_inv;cases h4 with
 | cons a0 b0 =>
   cases b0 with
   | cons a1 b1 =>
     rename_i u0 _ u1 _
     cases b1
     have hbox:∀m:Mem,Le F m.b.get->boxPorts m ⟨bk,p,none⟩=some u1:=fun m hF=>by
      unfold boxPorts;simp only;rw[hF _ _ h1];simp only;rw[show Nat.blt (p+1) N=true from zT (show p+1+1<=N by simp at h2;omega)]
      simp only[cond_true];exact h3 1 (by simp)
     have fin:∀(us:List Value) (ft:List Nat),(∀m:Mem,Le F m.b.get->rowOf m 1 u1=some (us,ft))->us.length=P.length->(∀(k:Nat) x y,us[k]?=some x->P[k]?=some y->RV F om0 (ybd y) x) ->
      ∃A v us,Value.pointer (some ⟨bk,p,none⟩) = .pointer (some A)/\∀m:Mem,Le F m.b.get->graphOf m A=some ⟨v,us,P⟩:=fun us ft hr hl hx=>by
      refine⟨_,u1,us,rfl,fun m hF=>?_⟩;unfold graphOf;rw[hbox m hF];show ob (rowOf m 1 u1) _=_;rw[hr m hF];show ob (mapO (linksOf m) us) _=_;rw[yboz hl fun k x y q1 q2=>ybdx hF (hx k x y q1 q2) (hI y (List.mem_of_getElem? q2))];rfl
     rcases a1.sl_inv with⟨k0,hz⟩|⟨bk',p',cp,T',N',e',zz',L',rfl,g1,g2,g3,g4,g5,g6,g7⟩
     ·have:P=[]:=zO k0;subst this;exact fin [] [] (fun m _=>row_zero hz 1) rfl (fun k x y q _=>by simp at q)
     ·rcases zAB P.length with h0|h0
      ·have:P=[]:=zO h0;subst this;exact fin [] [] (fun m _=>rfl) rfl (fun k x y q _=>by simp at q)
      ·refine fin (ybt L' P.length) [bk'] (fun m hF=>row_of (hF _ _ g1) h0 g3 g4 g5) (by rw[ycr g4,Nat.mul_one]) fun k x y q1 q2=>?_
       have hk:k<P.length:=(List.getElem?_eq_some_iff.1 q2).1;rw[ybit g4 hk]at q1;have hl:=g6 k hk;have e0:P.getD k []=y:=by simp[zK,q2]
       rw[e0]at hl;obtain⟨v,e1,hv⟩:=rvl1 hl;rw[e1]at q1;cases q1
       exact hv
end
def ydi(P:List (List (Int×Int)))(k:Nat):El:=(flatAt 0 P).getD k ⟨0,0,0⟩
def ybpl(P:List (List (Int×Int))):ItS:=⟨(flatAt 0 P).length,fun k=>[.i .i64 (ydi P k).v,.ag [.i .i64 (ydi P k).a,.i .i64 (ydi P k).b]],[],fun _ _=>True,fun _ o=>o⟩
theorem ybuu{ids:SV}{P:List (List (Int×Int))}(hI:∀ls∈P,∀l∈ls,I64 l.1/\I64 l.2):ItC zG 107 [.rf [ids,ybf P]] (ybpl P):=by
 intro lo F ω s f m us hc hr _;obtain⟨u,rfl,hu⟩:=rvl1 hr
 have hu0:RV F om0 (.rf [ids,ybf P]) u:=by
  obtain⟨bk,p,T,N,e,zz,L,rfl,h1,h2,h3,h4,h5⟩:=hu.rf_inv;exact .rf h1 h2 h3 h4 h5
 obtain⟨A,v,vs,rfl,hg⟩:=ybfq hu0 hI;have el0:∀k,k<(flatAt 0 P).length->(flatAt 0 P)[k]?=some (ydi P k):=fun k hk=>by simp[ydi,zK,hk]
 refine⟨⟨(flatAt 0 P).length,fun k=>[(ydi P k).v0,(ydi P k).v1],fun _ m=>graphOf m A=some ⟨v,vs,P⟩,fun _ m=>m,fun _ _ M w M' w'=>M'=M/\w'=w⟩,⟨yum.1,fun k m hk hw _=>Grow.refl hw,?_,?_⟩,rfl,fun F' ω' s' f' m' k hF _ hc' hk _=>⟨hg m' (hF.trans hc'.sub),fun hk=>⟨.cons .i (.cons (.ag (.cons .i (.cons .i .nil))) .nil),hc'⟩⟩⟩
 ·rintro k φ M w m M' w' hk hw hR hs hp ⟨rfl,rfl⟩;exact Good.refl hR hs
 ·intro l St Stop φ M w cap' hread hgrow hyield h0 hcap;obtain⟨box,rfl,hbox⟩:=ygm hcap;refine CallsIn.mono (yum.2 l A ⟨v,vs,P⟩ (fun pre φ' M' w'=>φ.le φ'/\(∃post,flatAt 0 P=pre++post)/\St pre.length φ' M' w') Stop φ M w box ?_ ?_ ?_ ⟨φ.le_refl,⟨_,rfl⟩,h0⟩ hbox) ?_
  ·rintro pre φ' M' w' ⟨_,_,hst⟩;exact(hread _ _ _ _ hst).2
  ·rintro pre φ' M' w' w'' ⟨h1,h2,hst⟩ hb;exact⟨h1,h2,hgrow _ _ _ _ _ hst hb⟩
  ·rintro pre x post φ' M' w' ⟨h1,_,hst⟩ hfl;have hfl:flatAt 0 P=pre++x::post:=hfl;have hk:pre.length<(flatAt 0 P).length:=by rw[hfl];simp
   have ex:ydi P pre.length=x:=by
    have:=el0 _ hk;rw[hfl,List.getElem?_append_right (zAY _)]at this
    simpa using this.symm
   obtain⟨fn,tmps,asg,bd,hy1,hy2⟩:=hyield pre.length φ' M' w' [x.v0,x.v1] hk hst (by
    show VRL φ' [(ydi P pre.length).v0,(ydi P pre.length).v1] _;rw[ex];exact .cons (.simple rfl) (.cons (VR.atomA (v:=x.v1) rfl) .nil))
   refine⟨fn,tmps,asg,bd,hy1,hy2.mono ?_⟩
   ·rintro e w'' (⟨he,φ'',M'',h3,_,h4⟩|h)
    ·refine .inl ⟨he,φ'',M'',h3,Phi.le_trans h1 h3,⟨post,by rw[hfl];simp⟩,?_⟩
     rw[List.length_append];exact h4 M'' w'' ⟨rfl,rfl⟩
    ·exact .inr h
  ·rintro e w' ⟨h1,(⟨φ',M',_,_,hst⟩|h)⟩
   ·exact⟨h1,.inl ⟨φ',M',hst⟩⟩
   ·exact⟨h1,.inr h⟩
end Sh
end
section
namespace Sh
open Go Ev
def ycpt:LO:=[o3 (.box 25 (.tmp 0)) 1 0,o3 (.mv (.const (.nilFunc))) 2 0]
def ycof:LO:=[o3 (.mkfn 107 [] [(.tmp 1)]) 3 0,mv' 3 2 1]
def c68:SC:=(.seq (.reg false ycpt) (.seq (.reg false ycof) .ret))
theorem yclr:Fn 68 c68 [.t 2]:=fn_0 Tryz.func68 (by kernel_rfl) (by kernel_rfl)
end Sh
end
section
structure Tgt(S:Sys)(V:Conf->Prop)(T:Conf->Nat->List Int):Prop where
 valid:∀c s,V c->s≠0->subB s (S.en c)->V (S.mv c s)
 stay:∀c s v,V c->v<S.n->s.testBit v=false->(S.mv c s).getD v []=c.getD v []
 move:∀c s v,V c->v<S.n->s.testBit v=true->subB s (S.en c)->(S.mv c s).getD v []=T c v
 en:∀c v,V c->v<S.n->((S.en c).testBit v=false↔c.getD v []=T c v)
theorem Tgt.rounds{S:Sys}{V:Conf->Prop}{T:Conf->Nat->List Int}(h:Tgt S V T){P:Nat->Nat->List Int->Prop}(hT:∀c v r,V c->v<S.n->(∀u,u<S.n->P r u (c.getD u []))->P (r+1) v (T c v))(hl:∀r v s,P (r+1) v s->P r v s):ByRounds S V P where
 valid:=h.valid
 stay:=h.stay
 move:=fun c s v r hv hn hb hs hall=>by rw[h.move c s v hv hn hb hs];exact hT c v r hv hn hall
 rest:=fun c v r hv hn hb hall=>by rw[(h.en c v hv hn).1 hb];exact hT c v r hv hn hall
 less:=hl
theorem Sys.run_last{S:Sys}{res:Nat->Nat->Nat}:∀(ws:List Nat) (c:Conf) (k:Cnt) (i:Nat),i+1<(S.run res ws c k).length->∀p,(S.run res ws c k)[i]?=some p->S.en p.1≠0
 |[],c,k,i,h,p,hp=>by simp[Sys.run]at h
 | w :: ws,c,k,i,h,p,hp=>by
   unfold Sys.run at h hp;split at h
   ·simp at h
   ·rename_i h0
    rw[if_neg h0]at hp;cases i with
    | zero =>
      simp only[zAG]at hp;cases hp
      simp only[List.length_cons]at h;cases ws with
      |nil=>simp[Sys.run]at h
      | cons w' ws =>
        unfold Sys.run at h;split at h
        ·simp at h
        ·assumption
    |succ i=>exact Sys.run_last ws _ _ i (by simpa using h) p (by simpa using hp)
theorem Sys.runs_last{S:Sys}{res:Nat->Nat->Nat}{ws:List Nat}{c:Conf}{i:Nat}(h:i+1<(S.runs res ws c).length){p:Conf×Cnt}(hp:(S.runs res ws c)[i]?=some p):S.en p.1≠0:=by
 unfold Sys.runs at h hp;cases i with
 | zero =>
   simp only[zAG]at hp;cases hp
   cases ws with
   |nil=>simp[Sys.run]at h
   | cons w ws =>
     unfold Sys.run at h;split at h
     ·simp at h
     ·assumption
 |succ i=>exact Sys.run_last ws _ _ i (by simpa using h) p (by simpa using hp)
end
section
open Go.RowKit
end
section
def ype(g:Gr):Nat:=(g.ports.map zAR).sum
def addL(back:Bool)(l:List (Int×Int))(x:Int×Int):List (Int×Int):=if back then x::l else l++[x]
theorem ydq{back:Bool}{l:List (Int×Int)}{x y:Int×Int}:y∈addL back l x↔y=x\/y∈l:=by
 unfold addL;cases back<;>simp[or_comm]
def ybx(back:Bool)(g:Gr)(a b:Nat)(w:Int):Gr:=⟨g.ids,(g.ports.set a (addL back (g.ports.getD a []) (b,w))).set b (addL back (g.ports.getD b []) (a,w))⟩
theorem ydg(back:Bool)(g:Gr){a b:Nat}(w:Int)(ha:a<g.ports.length)(hb:b<g.ports.length)(v:Nat) :
 (ybx back g a b w).ports.getD v []=if v=b then addL back (g.ports.getD b []) (a,w)else if v=a then addL back (g.ports.getD a []) (b,w)else g.ports.getD v []:=by
 unfold ybx;simp only[zK]
 by_cases h1:v=b
 ·subst h1;rw[if_pos rfl,zV (by simpa using hb)]
  rfl
 ·rw[if_neg h1,zZ (fun q=>h1 q.symm)]
  by_cases h2:v=a
  ·subst h2;rw[if_pos rfl,zV ha];rfl
  ·rw[if_neg h2,zZ (fun q=>h2 q.symm)]
theorem ymv{back:Bool}{l:List (Int×Int)}{v n:Int}{x:Int×Int}(h:yck l v n)(hx:yjd v n x)(hno:∀y∈l,y.1≠x.1):yck (addL back l x) v n:=by
 refine⟨fun y hy=>?_,?_⟩
 ·rcases ydq.1 hy with rfl|hy
  ·exact hx
  ·exact h.1 y hy
 ·have hn:x.1∉l.map (·.1):=fun hm=>by
   obtain⟨y,hy,e⟩:=List.mem_map.1 hm;exact hno y hy e
  unfold addL;cases back
  ·simp only[Bool.false_eq_true,if_false,List.map_append,zAV,List.map_nil];rw[List.nodup_append];refine⟨h.2,by simp,fun p hp q hq=>?_⟩
   rw[List.mem_singleton]at hq;subst hq;intro e;exact hn (e▸hp)
  ·simp only[if_true,zAV];exact List.nodup_cons.2 ⟨hn,h.2⟩
theorem ywi{back:Bool}{g:Gr}(hg:ybc g){a b:Nat}{w:Int}(ha:a<g.ports.length)(hb:b<g.ports.length)(hab:a≠b)(hw:1<=w/\w<=15)(hno:∀y∈g.ports.getD a [],y.1≠(b:Int)):ybc (ybx back g a b w):=by
 obtain⟨h1,h2,h3,h4,h5,h6,h7⟩:=hg;have hlen:(ybx back g a b w).ports.length=g.ports.length:=by simp[ybx]
 have gd:∀(v:Nat) (hv:v<g.ports.length),g.ports.getD v []=g.ports[v]:=fun v hv=>by simp[zK,hv]
 have hno2:∀y∈g.ports.getD b [],y.1≠(a:Int):=fun y hy e=>by
  rw[gd b hb]at hy;have:=h7 ⟨b,hb⟩ y hy;rw[e,zN]at this;exact hno _ this rfl
 have at_:∀(v:Nat) (hv:v<g.ports.length),(ybx back g a b w).ports[v]'(by rw[hlen];exact hv)=if v=b then addL back (g.ports.getD b []) (a,w)else if v=a then addL back (g.ports.getD a []) (b,w)else g.ports.getD v []:=fun v hv=>by
  rw[<-ydg back g w ha hb v];simp[zK,hlen,hv]
 refine⟨by rw[hlen];exact h1,by rw[hlen];exact h2,by rw[hlen];exact h3,h4,h5,fun v=>?_,fun v l hl=>?_⟩
 ·have hv:v.1<g.ports.length:=zAQ v.isLt hlen;have hl':(((ybx back g a b w).ports.length:Nat):Int)=(g.ports.length:Int):=by rw[hlen]
  rw[hl'];show yck ((ybx back g a b w).ports[v.1]) _ _;rw[at_ v.1 hv];split
  ·rename_i e
   rw[e];refine ymv ?_ ⟨by simp only[];omega,by simp only[];omega,by simp only[];omega,hw.1,hw.2⟩ hno2
   rw[gd b hb];exact h6 ⟨b,hb⟩
  ·split
   ·rename_i e
    rw[e];refine ymv ?_ ⟨by simp only[];omega,by simp only[];omega,by simp only[];omega,hw.1,hw.2⟩ hno
    rw[gd a ha];exact h6 ⟨a,ha⟩
   ·rw[gd v.1 hv];exact h6 ⟨v.1,hv⟩
 ·have hv:v.1<g.ports.length:=zAQ v.isLt hlen
  change l∈(ybx back g a b w).ports[v.1]at hl
  rw[at_ v.1 hv]at hl
  have old:∀u x,x∈g.ports.getD u []->x∈(ybx back g a b w).ports.getD u []:=fun u x hx=>by
   rw[ydg back g w ha hb u];split
   ·rename_i e;subst e;exact ydq.2 (.inr hx)
   ·split
    ·rename_i e;subst e;exact ydq.2 (.inr hx)
    ·exact hx
  have sym:∀(u:Nat) (hu:u<g.ports.length),l∈g.ports.getD u []->((u:Int),l.2)∈(ybx back g a b w).ports.getD l.1.toNat []:=fun u hu hx=>by
   rw[gd u hu]at hx;exact old _ _ (h7 ⟨u,hu⟩ l hx)
  split at hl
  ·rename_i e
   rcases ydq.1 hl with rfl|hl
   ·rw[ydg back g w ha hb,e];simp only[zN];simp only[if_neg hab,if_true];exact ydq.2 (.inl rfl)
   ·rw[e];exact sym b hb hl
  ·split at hl
   ·rename_i e
    rcases ydq.1 hl with rfl|hl
    ·rw[ydg back g w ha hb,e];simp only[zN];simp only[if_true];exact ydq.2 (.inl rfl)
    ·rw[e];exact sym a ha hl
   ·exact sym v.1 hv hl
end
section
def Tre(g:Gr)(m:Nat):Prop:=∀v,0<v->v<m->∃u,u<v/\adj g u v
theorem Tre.walk{g:Gr}{m:Nat}(h:Tre g m):∀v,v<m->∃k,Walk g 0 k v:=by
 intro v
 induction v using Nat.strongRecOn with
 | _ v ih =>
   intro hv
   by_cases h0:v=0
   ·subst h0;exact⟨0,rfl⟩
   ·obtain⟨u,hu,ha⟩:=h v (by omega) hv
    obtain⟨k,hk⟩:=ih u hu (by omega)
    exact⟨k+1,u,hk,ha⟩
theorem Tre.conn{g:Gr}(hg:ybc g)(h:Tre g g.ports.length):yng g=true:=by
 unfold yng;rw[(ygu g).2 hg,Bool.true_and,yzv hg (a:=0) (by have:=hg.1;omega)]
 exact h.walk
theorem yik{g:Gr}{u v:Nat}:adj g u v↔∃l,l∈g.ports.getD u []/\l.1=(v:Int):=by
 constructor
 ·rintro⟨ls,h,l,hl,e⟩;exact⟨l,by simpa[zK,h]using hl,e⟩
 ·rintro⟨l,hl,e⟩;cases h:g.ports[u]? with
  |none=>simp[zK,h]at hl
  |some ls=>exact⟨ls,h,l,by simpa[zK,h]using hl,e⟩
theorem yzy{back:Bool}{g:Gr}{a b:Nat}{w:Int}(ha:a<g.ports.length)(hb:b<g.ports.length){u v:Nat}(h:adj g u v):adj (ybx back g a b w) u v:=by
 obtain⟨l,hl,e⟩:=yik.1 h;refine yik.2 ⟨l,?_,e⟩;rw[ydg back g w ha hb u];split
 ·rename_i q;subst q;exact ydq.2 (.inr hl)
 ·split
  ·rename_i q;subst q;exact ydq.2 (.inr hl)
  ·exact hl
theorem ybay{back:Bool}{g:Gr}{a b:Nat}{w:Int}(ha:a<g.ports.length)(hb:b<g.ports.length)(hab:a≠b):adj (ybx back g a b w) a b:=by
 refine yik.2 ⟨((b:Int),w),?_,rfl⟩;rw[ydg back g w ha hb a,if_neg hab,if_pos rfl];exact ydq.2 (.inl rfl)
theorem Tre.add{back:Bool}{g:Gr}{a b:Nat}{w:Int}(ha:a<g.ports.length)(hb:b<g.ports.length){m:Nat}(h:Tre g m):Tre (ybx back g a b w) m:=fun v h0 hv=>by
 obtain⟨u,hu,hadj⟩:=h v h0 hv;exact⟨u,hu,yzy ha hb hadj⟩
def bare(ids:List Int):Gr:=⟨ids,zAT ids.length []⟩
theorem yvr{ids:List Int}(h1:1<=ids.length)(h2:ids.length<=24)(h3:∀x∈ids,0<=x/\x<=255)(h4:ids.Nodup):ybc (bare ids):=by
 have e:∀v:Fin (bare ids).ports.length,(bare ids).ports[v]=[]:=fun v=>by
  have hv:v.1<ids.length:=by have:=v.isLt;simpa[bare]using this
  show(zAT ids.length ([]:List (Int×Int)))[v.1]'(by simpa using hv)=[]
  exact List.getElem_replicate ..
 refine⟨by simpa[bare]using h1,by simpa[bare]using h2,by simp[bare],h3,h4,fun v=>?_,fun v l hl=>?_⟩
 ·rw[e v];exact⟨fun l hl=>(nomatch hl),List.nodup_nil⟩
 ·rw[e v]at hl;cases hl
end
end Go.Proofs.YtiejahgklcjhkaaGreat
