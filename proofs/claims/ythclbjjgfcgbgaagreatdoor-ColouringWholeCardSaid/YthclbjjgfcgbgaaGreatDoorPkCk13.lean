/- Joined. -/
import Derived.Test.YthclbjjgfcgbgaaGreatDoorPkCk12
import Derived.Test.YthclbjjgfcgbgaaGreatDoorPkCk9
set_option linter.unusedSimpArgs false
set_option linter.unusedVariables false
set_option maxRecDepth 8000
open Nat renaming reduceEqDiff->zA,reduceAdd->zB,reduceLT->zC,reduceLeDiff->zD,le_refl->zS,ble_eq_true_of_le->zT,shiftRight_eq_div_pow->zU,zero_le->zW,mod_eq_of_lt->zY,pow_lt_pow_right->zAA,lt_of_le_of_lt->zAD,eq_zero_or_pos->zAF,testBit_lt_two_pow->zAL,pow_le_pow_right->zAN,lt_of_lt_of_le->zAP,lt_of_lt_of_eq->zAR,or_lt_two_pow->zAS,testBit_and->zAV,reduceMul->zAY,lt_irrefl->zAZ,mul_comm->zBB,le_succ->zBC,beq->zBD
open Bool renaming and_eq_true->zF
open Go.Proofs.Tryz renaming prog->zG
open BitVec renaming ofInt->zH,ofInt_natCast->zN,toNat_ofNat->zV,getLsbD_ofNat->zAM
open List renaming getD->zI,getElem_mem->zK,take_succ_eq_append_getElem->zL,getElem?_eq_getElem->zO,eq_nil_of_length_eq_zero->zQ,getElem?_set_self->zX,getElem?_eq_none->zZ,getElem?_set_ne->zAB,getElem_of_mem->zAC,append_assoc->zAG,foldl_append->zAH,take_length->zAI,mem_cons_of_mem->zAO,mem_cons_self->zAQ,length->zAT,getElem_map->zAU,length_map->zAW,replicate->zAX,map_cons->zBA
open Int renaming natCast_zero->zJ,toNat_natCast->zM,emod_lt_of_pos->zAE,reduceToNat->zAJ,emod_nonneg->zAK
open Go
namespace Go.Proofs.YthclbjjgfcgbgaaGreatDoor
section
namespace Sh
open Go Ev
theorem ydfb{g:Gr}(hg:ybg g):0<=maxI g.ids/\maxI g.ids<=255:=by
 have h1:=hg.1;have h2:=hg.2.2.1;rw[ycfa (by omega) fun x hx=>(hg.2.2.2.1 x hx).1]
 exact ysk hg
theorem ybpt{x:VarR}(h:x.ok=true):(x.kind=1\/x.kind=2\/x.kind=3)/\(0<=x.lo/\x.lo<=4096)/\(-4096<=x.hi/\x.hi<=4096)/\(0<=x.perNode/\x.perNode<=255)/\(0<=x.perID/\x.perID<=255):=by
 unfold VarR.ok at h;simp only[zF,decide_eq_true_eq]at h;obtain⟨⟨⟨⟨a,b⟩,c⟩,d⟩,e⟩:=h;exact⟨a,b,c,d,e⟩
theorem mulN{a b A B:Int}(h1:0<=a)(h2:a<=A)(h3:0<=b)(h4:b<=B):0<=a*b/\a*b<=A*B:=⟨Int.mul_nonneg h1 h3,Int.mul_le_mul h2 h4 h3 (by omega)⟩
theorem ysc{g:Gr}(hg:ybg g){x:VarR}(hx:x.ok=true):(0<=x.perNode*(g.ids.length:Int)/\x.perNode*(g.ids.length:Int)<=255*24)/\(0<=x.perID*maxI g.ids/\x.perID*maxI g.ids<=255*255):=by
 obtain⟨_,_,_,h4,h5⟩:=ybpt hx;have h6:=ydfb hg;have h7:=hg.2.1;have h8:=hg.2.2.1;exact⟨mulN h4.1 h4.2 (by omega) (by omega),mulN h5.1 h5.2 h6.1 h6.2⟩
theorem ybgz{g:Gr}(hg:ybg g){x:VarR}(hx:x.ok=true)(v:Int):Returns zG 176 [.ag (varC x),grV g,.i .i64 v] (.tp [.i .i64 x.lo,.i .i64 (x.hi+x.perNode*(g.ids.length:Int)+x.perID*maxI g.ids)]):=by
 refine Returns.of (ydea _ _ ?_);have h1:=hg.1;have h7:=hg.2.1;have h8:=hg.2.2.1;have hM:=ydek g.ids (by omega) (by omega)
 obtain⟨hb1,hb2⟩:=ysc hg hx;obtain⟨_,_,hv3,_,_⟩:=ybpt hx;simp only[ybc]at hM;simp only[c176,ycvi,ycjg,grV,varC,ybc,go_sem,zA,zB,zD,zC,↓reduceIte,reduceCtorEq];refine⟨ikw (by omega) (by omega),ikw (by omega) (by omega),hM.use ?_⟩
 simp only[ybh,go_sem,zA,zB,↓reduceIte,reduceCtorEq];refine⟨ikw (by omega) (by omega),ikw (by omega) (by omega),?_⟩
 exact Sim.refl _
theorem ybhi(g:Gr)(x:VarR)(v:Int):Returns zG 177 [.ag (varC x),grV g,.i .i64 v] (.tp [.i .i64 0,.i .i64 1]):=by
 refine Returns.of (ydcw _ _ ?_);simp only[c177,ycut,ycsw,grV,varC,go_sem,zA,zB,zC,↓reduceIte,reduceCtorEq];exact Sim.refl _
theorem ybfj{g:Gr}(hg:ybg g)(x:VarR){v:Nat}(hv:v<g.ports.length):Returns zG 178 [.ag (varC x),grV g,.i .i64 v] (.tp [.i .i64 (-1),.i .i64 (((g.ports.getD v []).length:Int)-1)]):=by
 refine Returns.of (ydaz _ _ ?_);have hd:=hg.deg_lt (v:=v);simp only[c178,ycld,ycnh,grV,yu,ybb,varC,go_sem,zA,zB,zC,↓reduceIte,reduceCtorEq];refine⟨by omega,ikw (by omega) (by omega),?_⟩
 exact Sim.refl _
theorem ybxw(kind:Int)(b:Int×Int)(x:Int):Returns zG 170 [.i .i64 kind,.ag [.i .i64 b.1,.i .i64 b.2],.i .i64 x] (.i .i64 (ylf kind b x)):=by
 refine Returns.of (ydbs _ _ ?_);simp only[c170,ycos,ycmw,ycku,ycno,yclm,ycux,ycth,ycre,yba,ylf,go_sem,zAJ,zA,zB,zD,zC,zAY,↓reduceIte,reduceCtorEq];refine⟨by omega,fun h1=>⟨by omega,fun h2=>by rw[if_pos ⟨h1,h2⟩],fun h2=>⟨fun h3=>by rw[if_neg (fun q=>h2 q.2),if_pos h3],fun h3=>⟨by omega,fun h4=>⟨by omega,by rw[if_neg (fun q=>h2 q.2),if_neg h3,if_pos h4]⟩,fun h4=>⟨by omega,by rw[if_neg (fun q=>h2 q.2),if_neg h3,if_neg h4]⟩⟩⟩⟩,fun h1=>⟨fun h3=>by rw[if_neg (fun q=>h1 q.1),if_pos h3],fun h3=>⟨by omega,fun h4=>⟨by omega,by rw[if_neg (fun q=>h1 q.1),if_neg h3,if_pos h4]⟩,fun h4=>⟨by omega,by rw[if_neg (fun q=>h1 q.1),if_neg h3,if_neg h4]⟩⟩⟩⟩
theorem yxf{g:Gr}(hg:ybg g){x:VarR}(hx:x.ok=true){v:Nat}(hv:v<g.ports.length):Returns zG 132 [.ag (varC x),grV g,.i .i64 v] (.tp [.i .i64 (ybo g v x).1,.i .i64 (ybo g v x).2]):=by
 refine Returns.of (ydax _ _ ?_);have h1:=ybgz hg hx v;have h2:=ybhi g x v;have h3:=ybfj hg x hv;obtain⟨hk,_⟩:=ybpt hx;simp only[varC,grV]at h1 h2 h3;simp only[c132,ycpu,ycuf,ycwb,varC,grV,splice,go_sem,zA,zB,zD,zC,↓reduceIte,reduceCtorEq]
 refine ybf (σ:=Nat) (fun k=>⟨[(17,.i .i64 k),(15,.os (14,0) 0 3 true),(16,.i .i64 3),(2,.i .i64 v),(3,.pt (3,0) 0 0),(4,.pt (4,0) 0 0)],
  [(3,.one (some ⟨160,true,6,1,fun _=>varC x⟩)),(4,.one (some ⟨27,true,2,1,fun _=>[ybc g.ids,yu g.ports]⟩)),
   (14,.one (some ⟨210,false,2,3,fun k=>if k=0 then[.i .i64 1,.fn 176 [] []]else if k=1 then[.i .i64 2,.fn 177 [] []]else[.i .i64 3,.fn 178 [] []]⟩))]⟩)
  (fun k=>k<=2/\(1<=k->x.kind≠1)/\(2<=k->x.kind≠2)) (fun k=>3-k) 0 ⟨by omega,by omega,by omega⟩ ?_ ?_
 .refine yh [] [] [] ?_;simp only[varC,allQ,live,yc,yba,zJ,go_sem,zA,zC,↓reduceIte,reduceCtorEq];refine⟨rfl,fun i hi=>?_⟩;rcases(show i=0\/i=1\/i=2 by omega)with rfl|rfl|rfl
  .simp only[live,yc,go_sem,↓reduceIte,reduceCtorEq]
  .simp only[if_neg (show ¬(1:Nat)=0 by omega),live,yc,go_sem,↓reduceIte,reduceCtorEq]
  .simp only[if_neg (show ¬(2:Nat)=0 by omega),if_neg (show ¬(2:Nat)=1 by omega),live,yc,go_sem,zA,↓reduceIte,reduceCtorEq]
 .rintro k ⟨hk2,hk3,hk4⟩;rcases(show k=0\/k=1\/k=2 by omega)with rfl|rfl|rfl
  .simp only[ybji,ybja,ybin,ybki,ybiu,yblc,varC,splice,go_sem,zA,zB,zD,zC,↓reduceIte,reduceCtorEq];refine⟨fun _=>⟨by omega,fun he=>h1.use ?_,fun he=>⟨ikw (by omega) (by omega),?_⟩⟩,fun h=>by omega⟩
   .simp only[ybh,go_sem,zA,zB,↓reduceIte,reduceCtorEq];have e:ybo g v x=(x.lo,x.hi+x.perNode*(g.ids.length:Int)+x.perID*maxI g.ids):=by unfold ybo;rw[if_pos he.symm]
    rw[e];exact Sim.refl _
   .refine yj 1 ⟨by omega,fun _ q=>he q.symm,by omega⟩ (by omega) ?_
    refine yh [] [] [] ?_;simp only[allQ,live,yc,yba,zJ,go_sem,zA,zC,↓reduceIte,reduceCtorEq];refine⟨by omega,fun i hi=>?_⟩
    rcases(show i=0\/i=1\/i=2 by omega)with rfl|rfl|rfl
    .simp only[live,yc,go_sem,↓reduceIte,reduceCtorEq]
    .simp only[if_neg (show ¬(1:Nat)=0 by omega),live,yc,go_sem,↓reduceIte,reduceCtorEq]
    .simp only[if_neg (show ¬(2:Nat)=0 by omega),if_neg (show ¬(2:Nat)=1 by omega),live,yc,go_sem,zA,↓reduceIte,reduceCtorEq]
  .simp only[ybji,ybja,ybin,ybki,ybiu,yblc,varC,splice,go_sem,zA,zB,zD,zC,↓reduceIte,reduceCtorEq];refine⟨fun _=>⟨by omega,fun he=>h2.use ?_,fun he=>⟨ikw (by omega) (by omega),?_⟩⟩,fun h=>by omega⟩
   .simp only[ybh,go_sem,zA,zB,↓reduceIte,reduceCtorEq];have e:ybo g v x=(0,1):=by unfold ybo;rw[if_neg (by omega),if_pos he.symm]
    rw[e];exact Sim.refl _
   .refine yj 2 ⟨by omega,fun _=>by omega,fun _ q=>he q.symm⟩ (by omega) ?_
    refine yh [] [] [] ?_;simp only[allQ,live,yc,yba,go_sem,zA,zC,↓reduceIte,reduceCtorEq];refine⟨by omega,fun i hi=>?_⟩
    rcases(show i=0\/i=1\/i=2 by omega)with rfl|rfl|rfl
    .simp only[live,yc,go_sem,↓reduceIte,reduceCtorEq]
    .simp only[if_neg (show ¬(1:Nat)=0 by omega),live,yc,go_sem,↓reduceIte,reduceCtorEq]
    .simp only[if_neg (show ¬(2:Nat)=0 by omega),if_neg (show ¬(2:Nat)=1 by omega),live,yc,go_sem,zA,↓reduceIte,reduceCtorEq]
  .simp only[ybji,ybja,ybin,ybki,ybiu,yblc,varC,splice,go_sem,zA,zB,zD,zC,↓reduceIte,reduceCtorEq];refine⟨fun _=>⟨by omega,fun he=>h3.use ?_,fun he=>by omega⟩,fun h=>by omega⟩
   simp only[ybh,go_sem,zA,zB,↓reduceIte,reduceCtorEq];have e:ybo g v x=(-1,((g.ports.getD v []).length:Int)-1):=by unfold ybo;rw[if_neg (by omega),if_neg (by omega),if_pos he.symm]
   rw[e];exact Sim.refl _
def ywy(n:Nat)(vars:List VarR)(b:Nat->VarR->Int×Int):SV:=.sl 1 n (fun v=>[.sl 2 vars.length (fun i=>[.i .i64 (b v (vars.getD i default)).1,.i .i64 (b v (vars.getD i default)).2])])
def rowT(vars:List VarR)(b:VarR->Int×Int):SV:=.sl 2 vars.length (fun i=>[.i .i64 (b (vars.getD i default)).1,.i .i64 (b (vars.getD i default)).2])
theorem ybac(p:ProgR){g:Gr}(hg:ybg g)(hp:p.vars.all VarR.ok=true)(hl:p.vars.length<=6):Returns zG 63 [.ag (yma p),grV g] (ywy g.ids.length p.vars (ybo g)):=by
 refine Returns.of (ydri _ _ ?_);have h24:=hg.2.1;have hid:=hg.2.2.1;obtain⟨n,hn⟩:∃n,g.ids.length=n:=⟨_,rfl⟩;obtain⟨nv,hnv⟩:∃k,p.vars.length=k:=⟨_,rfl⟩;rw[hn];rw[hnv]at hl;simp only[c63,ydgp,ydpi,ydtx,grV,ybc,yma,hn,go_sem,zA,zB,zD,zC,↓reduceIte,reduceCtorEq];refine⟨by omega,?_⟩
 refine ybf (σ:=Nat) (fun k=>⟨[(15,.i .i64 k),(14,.i .i64 n),(5,.os (12,0) 0 n true),(2,.pt (2,0) 0 0),(3,.pt (3,0) 0 0)],
  [(2,.one (some ⟨32,true,3,1,fun _=>yma p⟩)),(3,.one (some ⟨27,true,2,1,fun _=>[ybc g.ids,yu g.ports]⟩)),
   (12,.one (some ⟨92,false,1,n,fun i=>[if i<k then rowT p.vars (ybo g i)else .a (.slice none 0 0)]⟩))]⟩) (fun k=>k<=n) (fun k=>n-k) 0 (zW _) ?_ ?_
 .refine yh [] [] [] ?_;simp only[yma,ybc,hn,allQ,live,yc,zJ,go_sem,zA,zC,↓reduceIte,reduceCtorEq];intro i _;rw[if_neg (by omega)]
  simp only[yc,go_sem]
 .intro k hk;simp only[ydsm,ydop,ydik,ydkt,yma,yer,splice,hnv,go_sem,zA,zB,zD,zC,↓reduceIte,reduceCtorEq];refine⟨fun hlt=>⟨by omega,by omega,by omega,?_⟩,fun hlt=>?_⟩
  .have hk':k<n:=by omega
   let b:Nat->Int×Int:=fun i=>ybo g k (p.vars.getD i default)
   refine ybf (σ:=Nat) (fun j=>⟨[(28,.i .i64 j),(26,yer p.vars),(27,.i .i64 nv),(6,.i .i64 k),(15,.i .i64 k),(14,.i .i64 n),(5,.os (12,0) 0 n true),(2,.pt (2,0) 0 0),(3,.pt (3,0) 0 0)],
    [(2,.one (some ⟨32,true,3,1,fun _=>yma p⟩)),(3,.one (some ⟨27,true,2,1,fun _=>[ybc g.ids,yu g.ports]⟩)),
     (12,.one (some ⟨92,false,1,n,fun i=>[if i<k then rowT p.vars (ybo g i)else if i=k then .os (23,0) 0 nv true else .a (.slice none 0 0)]⟩)),
     (23,.one (some ⟨91,false,2,nv,fun i=>[.i .i64 (if i<j then(b i).1 else 0),.i .i64 (if i<j then(b i).2 else 0)]⟩))]⟩) (fun j=>j<=nv) (fun j=>nv-j) 0 (zW _) ?_ ?_
   .refine yh [] [] [] ?_;simp only[yma,yer,hnv,allQ,live,yc,yba,zJ,go_sem,zA,zC,↓reduceIte,reduceCtorEq];refine⟨fun i hi=>?_,fun i hi=>?_⟩
    .by_cases q2:i=k
     .simp only[if_pos q2,if_neg (show ¬i<k by omega)]
      simp only[live,yc,go_sem,zA,↓reduceIte,reduceCtorEq]
     .simp only[if_neg q2]
      by_cases q1:i<k
      .simp only[if_pos q1];simp only[rowT,live,yc,go_sem,reduceCtorEq]
      .simp only[if_neg q1];simp only[live,yc,go_sem,reduceCtorEq]
    .simp only[if_neg (Nat.not_lt_zero i),and_self]
   .intro j hj;simp only[ydge,ydtz,ydkh,ycom,ycjb,yma,yer,varC,splice,hnv,go_sem,zA,zB,zC,↓reduceIte,reduceCtorEq];refine⟨fun hlt=>?_,fun hlt=>?_⟩
    .have hj':j<nv:=by omega
     have hB:=yxf hg (x:=p.vars.getD j default) (by
      rw[getD_at (by omega)]
      exact List.all_eq_true.1 hp _ (zK _)) (v:=k) (by omega)
     simp only[varC,grV]at hB;refine⟨by omega,by omega,by omega,by omega,by omega,hB.use ?_⟩
     simp only[ybh,splice,go_sem,zAJ,zA,zB,zD,zAY,↓reduceIte,reduceCtorEq];refine⟨by omega,by omega,by omega,by decide,by omega,by omega,by omega,by decide,ikw (by omega) (by omega),?_⟩
     refine yj (j+1) (by omega) (by omega) ?_
     refine yh [] [] [] ?_;simp only[allQ,live,yc,yba,go_sem,zA,zC,↓reduceIte,reduceCtorEq];refine⟨by omega,fun i hi=>?_,fun i hi=>?_⟩
     .by_cases q1:i<k
      .simp only[if_pos q1];simp only[rowT,yc,go_sem]
      .simp only[if_neg q1]
       by_cases q2:i=k
       .simp only[if_pos q2];simp only[live,yc,go_sem,zA,↓reduceIte]
       .simp only[if_neg q2];simp only[yc,go_sem]
     .by_cases q2:i=j
      .subst q2;simp only[if_pos (Nat.lt_succ_self i),↓reduceIte];simp only[live,yba,go_sem,reduceCtorEq];exact⟨rfl,rfl⟩
      .simp only[if_neg q2]
       by_cases q1:i<j
       .simp only[if_pos q1,if_pos (show i<j+1 by omega)]
        simp only[live,yc,go_sem,reduceCtorEq]
       .simp only[if_neg q1,if_neg (show ¬i<j+1 by omega)]
        simp only[live,yc,go_sem,reduceCtorEq]
    .obtain rfl:j=nv:=by omega
     refine⟨ikw (by omega) (by omega),?_⟩
     refine yj (k+1) (by omega) (by omega) ?_
     refine yh [] [] [(23,0)] ?_;simp only[allQ,live,yc,yba,go_sem,zA,zD,zC,↓reduceIte,reduceCtorEq];refine⟨by omega,fun i hi=>?_⟩
     by_cases q1:i<k
     .simp only[if_pos q1,if_pos (show i<k+1 by omega)]
      simp only[rowT,yc,go_sem]
     .by_cases q2:i=k
      .simp only[if_neg q1,if_pos q2,if_pos (show i<k+1 by omega)]
       subst q2;simp only[rowT,hnv,go_sem,zA,↓reduceIte];refine ydo fun q hq=>?_;simp only[if_pos hq];simp only[SimL,go_sem];exact⟨Sim.refl _,Sim.refl _⟩
      .simp only[if_neg q1,if_neg q2,if_neg (show ¬i<k+1 by omega)]
       simp only[yc,go_sem]
  .obtain rfl:k=n:=by omega
   simp only[ycss,go_sem,zA,zB,↓reduceIte,reduceCtorEq];refine⟨fun q hq=>by simp only[if_pos hq];simp only[rowT,go_sem],?_⟩
   refine ydo fun q hq=>?_;simp only[if_pos hq];simp only[SimL,yc,rowT,hnv,go_sem]
end Sh
end
section
namespace Sh
open Go Ev
end Sh
end
section
namespace Sh
open Go Ev
theorem yhv(p:ProgR){g:Gr}(hg:ybg g){nv:Nat}{c:Conf}(hc:ConfIn g.ports.length nv c){v:Nat}(hv:v<g.ports.length)(e:List Tm)(hl:e.length<=1000):∀x:Ex,ybrz p g nv c v e x
 | .leaf op arg=>by
   intro bnd port at_ rest ho hp hpi he;obtain⟨d1,d2,d3⟩:=yfe (show e.drop at_=(op,arg)::rest from he)
   have hL:=ycdl p hg hc hv e ho port hp;have hr:=ho;simp only[Ex.ok,zF,decide_eq_true_eq]at hr;simp only[yjj,ybb]at hL;refine Returns.of (ysp _ _ ?_);simp only[c205,yvz,yxa,yvi,yvw,ywh,yvx,yvk,ywa,yvn,yxe,yor,yos,ypv,ypk,ypg,ypq,yov,ype,ypf,yjj,ybb,d2,splice,go_sem,zA,zB,zD,zC,↓reduceIte,reduceCtorEq];refine⟨by omega,fun h=>hL.use ?_,fun h=>by omega⟩
   simp only[ybh,go_sem,zA,zB,↓reduceIte,reduceCtorEq];refine⟨ikw (by omega) (by omega),?_⟩
   exact Sim.refl _
 | .un op a=>by
   intro bnd port at_ rest ho hp hpi he;obtain⟨d1,d2,d3⟩:=yfe (show e.drop at_=(op,0)::(a.ser++rest)from he)
   have hr:=ho;simp only[Ex.ok,zF,decide_eq_true_eq]at hr;have hV:=yhv p hg hc hv e hl a bnd port (at_+1) rest hr.2 hp hpi d3;rw[show((at_+1:Nat):Int)=(at_:Int)+1 by omega]at hV
   have hU:=ybxa op (ygr g c v a port) (yhy hg rfl hc hv a hr.2 hp hpi);simp only[yjj,ybb]at hV;refine Returns.of (ysp _ _ ?_);simp only[c205,yvz,yxa,yvi,yvw,ywh,yvx,yvk,ywa,yvn,yxe,yor,yos,ypv,ypk,ypg,ypq,yov,ype,ypf,yjj,ybb,d2,splice,go_sem,zA,zB,zD,zC,↓reduceIte,reduceCtorEq];refine⟨by omega,fun h=>by omega,fun h=>⟨fun h=>⟨ikw (by omega) (by omega),hV.use ?_⟩,fun h=>by omega⟩⟩
   simp only[ybh,go_sem,zA,zB,zD,↓reduceIte,reduceCtorEq];refine hU.use ?_;simp only[go_sem];rw[show at_+(Ex.un op a).ser.length=at_+1+a.ser.length by simp[Ex.ser];omega]
   exact Sim.refl _
 | .agg op a=>by
   intro bnd port at_ rest ho hp hpi he;obtain⟨d1,d2,d3⟩:=yfe (show e.drop at_=(op,0)::(a.ser++rest)from he)
   have hr:=ho;simp only[Ex.ok,zF,decide_eq_true_eq]at hr;have ho2:(Ex.agg op a).ok nv true=true:=by simp only[Ex.ok,zF,decide_eq_true_eq];exact hr
   have hA:=yxl p hg hc hv e hl ho2 (yhv p hg hc hv e hl a) at_ rest he;simp only[yjj,ybb]at hA;refine Returns.of (ysp _ _ ?_);simp only[c205,yvz,yxa,yvi,yvw,ywh,yvx,yvk,ywa,yvn,yxe,yor,yos,ypv,ypk,ypg,ypq,yov,ype,ypf,yjj,ybb,d2,splice,go_sem,zA,zB,zD,zC,↓reduceIte,reduceCtorEq];refine⟨by omega,fun h=>by omega,fun h=>⟨fun h=>by omega,fun h=>⟨fun h=>hA.use ?_,fun h=>by omega⟩⟩⟩
   simp only[ybh,go_sem,zA,zB,↓reduceIte,reduceCtorEq];exact Sim.refl _
 | .bin op a b=>by
   intro bnd port at_ rest ho hp hpi he;obtain⟨d1,d2,d3⟩:=yfe (show e.drop at_=(op,0)::((a.ser++b.ser)++rest)from he)
   have hr:=ho;simp only[Ex.ok,zF,decide_eq_true_eq]at hr;rw[zAG]at d3
   have hfit:at_+1+a.ser.length<=e.length:=by
    have:=congrArg zAT d3;simp at this;omega
   have hV1:=yhv p hg hc hv e hl a bnd port (at_+1) _ hr.1.2 hp hpi d3;have hV2:=yhv p hg hc hv e hl b bnd port (at_+1+a.ser.length) _ hr.2 hp hpi (yrq d3);rw[show((at_+1:Nat):Int)=(at_:Int)+1 by omega]at hV1
   have hB:=ybmg op (ygr g c v a port) (ygr g c v b port) (yhy hg rfl hc hv a hr.1.2 hp hpi) (yhy hg rfl hc hv b hr.2 hp hpi);simp only[yjj,ybb]at hV1 hV2;refine Returns.of (ysp _ _ ?_);simp only[c205,yvz,yxa,yvi,yvw,ywh,yvx,yvk,ywa,yvn,yxe,yor,yos,ypv,ypk,ypg,ypq,yov,ype,ypf,yjj,ybb,d2,splice,go_sem,zA,zB,zD,zC,↓reduceIte,reduceCtorEq];refine⟨by omega,fun h=>by omega,fun h=>⟨fun h=>by omega,fun h=>⟨fun h=>by omega,fun h=>⟨fun h=>⟨ikw (by omega) (by omega),hV1.use ?_⟩,fun h=>by omega⟩⟩⟩⟩
   simp only[ybh,go_sem,zA,zB,↓reduceIte,reduceCtorEq];refine hV2.use ?_;simp only[go_sem,zA,zB,zD,↓reduceIte];refine hB.use ?_;simp only[go_sem];rw[show at_+(Ex.bin op a b).ser.length=at_+1+a.ser.length+b.ser.length by simp[Ex.ser];omega]
   exact Sim.refl _
 | .ite x a b=>by
   intro bnd port at_ rest ho hp hpi he;obtain⟨d1,d2,d3⟩:=yfe (show e.drop at_=(43,0)::((x.ser++(a.ser++b.ser))++rest)from he)
   have hr:=ho;simp only[Ex.ok,zF]at hr;rw[zAG,zAG]at d3
   have hfit:at_+1+x.ser.length+a.ser.length<=e.length:=by
    have:=congrArg zAT d3;simp at this;omega
   have hV1:=yhv p hg hc hv e hl x bnd port (at_+1) _ hr.1.1 hp hpi d3;have hV2:=yhv p hg hc hv e hl a bnd port (at_+1+x.ser.length) _ hr.1.2 hp hpi (yrq d3);have hV3:=yhv p hg hc hv e hl b bnd port (at_+1+x.ser.length+a.ser.length) _ hr.2 hp hpi (yrq (yrq d3));rw[show((at_+1:Nat):Int)=(at_:Int)+1 by omega]at hV1
   simp only[yjj,ybb]at hV1 hV2 hV3;refine Returns.of (ysp _ _ ?_);simp only[c205,yvz,yxa,yvi,yvw,ywh,yvx,yvk,ywa,yvn,yxe,yor,yos,ypv,ypk,ypg,ypq,yov,ype,ypf,yjj,ybb,d2,splice,go_sem,zA,zB,zD,zC,↓reduceIte,reduceCtorEq];refine⟨by omega,fun h=>by omega,fun h=>⟨fun h=>by omega,fun h=>⟨fun h=>by omega,fun h=>⟨fun h=>by omega,fun h=>⟨ikw (by omega) (by omega),hV1.use ?_⟩⟩⟩⟩⟩
   simp only[ybh,go_sem,zA,zB,↓reduceIte,reduceCtorEq];refine hV2.use ?_;simp only[go_sem,zA,↓reduceIte,reduceCtorEq];refine hV3.use ?_;simp only[go_sem,zA,zB,↓reduceIte,reduceCtorEq];rw[show at_+(Ex.ite x a b).ser.length=at_+1+x.ser.length+a.ser.length+b.ser.length by simp[Ex.ser];omega]
   refine⟨fun h0=>?_,fun h0=>?_⟩
   .show Sim _ (.tp [.i .i64 (if _ then _ else _),_])
    rw[if_pos h0];exact Sim.refl _
   .show Sim _ (.tp [.i .i64 (if _ then _ else _),_])
    rw[if_neg (not_not_intro h0)];exact Sim.refl _
theorem ybci(p:ProgR){g:Gr}(hg:ybg g){nv:Nat}{c:Conf}(hc:ConfIn g.ports.length nv c){v:Nat}(hv:v<g.ports.length)(x:Ex)(hx:x.ok nv false=true)(hl:x.ser.length<=1000) :
 Returns zG 169 [.rf (ygi p g),ycm c,.i .i64 v,ybb x.ser] (.i .i64 (ygr g c v x (-1))):=by
 have hV:=yhv p hg hc hv x.ser hl x false (-1) 0 [] hx (fun q=>by cases q) (by unfold InB;omega) (by simp)
 refine Returns.of (ydci _ _ ?_);simp only[yjj,ygi,ycm,ybc,ybb,yu,ydx,zJ]at hV;simp only[c169,yckh,ycrj,ycns,ycup,ygi,ycm,ybc,ybb,yu,ydx,splice,go_sem,zA,zB,zD,zC,↓reduceIte,reduceCtorEq];refine .inl (hV.use ?_);simp only[ybh,yba,go_sem,zA,zB,↓reduceIte,reduceCtorEq]
end Sh
end
section
theorem ykt{a:Nat}(h:a<2^32):IntKind.wrap .u32 (a:Int)=a:=by
 unfold IntKind.wrap;simp[IntKind.bits,IntKind.signed];omega
theorem u32_and{a b:Nat}(ha:a<2^32)(hb:b<2^32):IntKind.wrap .u32 (((zH (IntKind.bits .u32) (a:Int))&&&zH (IntKind.bits .u32) (b:Int)).toNat:Int)=((a&&&b:Nat):Int):=by
 show IntKind.wrap .u32 (((zH 32 (a:Int))&&&zH 32 (b:Int)).toNat:Int)=_;rw[zN,zN,BitVec.toNat_and,zV,zV,zY ha,zY hb];exact ykt (zAD Nat.and_le_left ha)
theorem u32_or{a b:Nat}(ha:a<2^32)(hb:b<2^32):IntKind.wrap .u32 (((zH (IntKind.bits .u32) (a:Int))|||zH (IntKind.bits .u32) (b:Int)).toNat:Int)=((a|||b:Nat):Int):=by
 show IntKind.wrap .u32 (((zH 32 (a:Int))|||zH 32 (b:Int)).toNat:Int)=_;rw[zN,zN,BitVec.toNat_or,zV,zV,zY ha,zY hb];exact ykt (zAS ha hb)
theorem u32_andNot{a b:Nat}(ha:a<2^32)(hb:b<2^32):IntKind.wrap .u32 (((zH (IntKind.bits .u32) (a:Int)) &&& ~~~zH (IntKind.bits .u32) (b:Int)).toNat:Int)=((difB a b:Nat):Int):=by
 show IntKind.wrap .u32 (((zH 32 (a:Int)) &&& ~~~zH 32 (b:Int)).toNat:Int)=_
 have e:((zH 32 (a:Int)) &&& ~~~zH 32 (b:Int)).toNat=difB a b:=by
  rw[zN,zN];refine Nat.eq_of_testBit_eq fun i=>?_;rw[yyp,BitVec.testBit_toNat,BitVec.getLsbD_and,BitVec.getLsbD_not,zAM,zAM]
  by_cases hi:i<32
  .simp[hi]
  .rw[zAL (zAP ha (zAN (by omega) (by omega)))]
   simp
 rw[e];exact ykt (ysn ha)
theorem u32_neg{a:Nat}(h0:0<a)(ha:a<2^32):IntKind.wrap .u32 (0-(a:Int))=((2^32-a:Nat):Int):=by
 unfold IntKind.wrap;simp[IntKind.bits,IntKind.signed];omega
theorem yxh{v:Nat}(hv:v<32):IntKind.wrap .u32 (1*2^(v:Int).toNat)=((2^v:Nat):Int):=by
 have h:2^v<2^32:=zAA (by omega) hv
 have:=ykt h;rw[zM,Int.one_mul];rw[<-this]
 norm_cast
theorem ydao{a v:Nat}:(a:Int).fdiv (2^(v:Int).toNat)=((a>>>v:Nat):Int):=by
 rw[zM,zU];rw[Int.fdiv_eq_ediv_of_nonneg _ (Int.pow_nonneg (by omega))]
 simp
end
section
namespace Sh
open Go Ev
def yiw(p:ProgR)(g:Gr):List SV:=[.a (.string p.name),yer p.vars,ydf p.rules,.rf (ygi p g),ywy g.ids.length p.vars (ybo g)]
theorem ybav(p:ProgR){g:Gr}(hg:ybg g)(hp:p.vars.all VarR.ok=true)(hl:p.vars.length<=6):Returns zG 123 [.ag (yma p),grV g] (.rf (yiw p g)):=by
 refine Returns.of (ydbl _ _ ?_);have hS:=ybcv p hg;have hT:=ybac p hg hp hl;simp only[yma,grV]at hS hT;simp only[c123,yckk,ycne,yma,grV,go_sem,zA,zB,zC,↓reduceIte,reduceCtorEq];refine hS.use ?_;simp only[ybh,go_sem,zA,zB,zD,zC,↓reduceIte,reduceCtorEq];refine hT.use ?_;simp only[ywy,yiw,go_sem,zA,zB,zD,↓reduceIte];refine⟨by decide,by decide,Sim.refl _⟩
theorem ybzq(p:ProgT){g:Gr}(hg:ybg g)(hp:p.ok=true){c:Conf}(hc:ConfIn g.ports.length p.vars.length c){v:Nat}(hv:v<g.ports.length){r:Nat}(hr:r<p.rules.length) :
 Returns zG 168 [.rf (ygi p.raw g),ycm c,.i .i64 v,.i .i64 r] (.b (ynv g c v (p.rules.getD r default))):=by
 refine Returns.of (ydes _ _ ?_);obtain⟨R,hR⟩:∃R,p.rules.getD r default=R:=⟨_,rfl⟩
 have hok:R.ok p.vars.length=true:=by
  unfold ProgT.ok at hp;simp only[zF]at hp;rw[<-hR,getD_at hr];exact List.all_eq_true.1 hp.2 _ (zK _)
 unfold RuleT.ok at hok;simp only[zF,decide_eq_true_eq]at hok;have hV:=ybci p.raw hg hc hv R.guard hok.1.1.1 hok.1.1.2
 have hraw:p.raw.rules.getD r default=R.raw:=by
  rw[<-hR];simp[ProgT.raw,zI,hr]
 have hlen:p.raw.rules.length=p.rules.length:=by simp[ProgT.raw]
 simp only[ygi,ydf,hlen]at hV;rw[hR];simp only[c168,yckz,ycog,ygi,ydf,hraw,hlen,go_sem,zA,zB,zD,↓reduceIte,reduceCtorEq];refine⟨by omega,hV.use ?_⟩
 simp only[ybh,yrw,ynv,go_sem,zA,zB,↓reduceIte,reduceCtorEq]
theorem ydlt{p:ProgT}{g:Gr}{c:Conf}{v k:Nat}(hk:k<p.rules.length)(hn:(p.rules.take k).findIdx? (ynv g c v)=none)(h:ynv g c v (p.rules.getD k default)=true):ydw p g c v=k:=by
 unfold ydw
 have:p.rules.findIdx? (ynv g c v)=some k:=by
  rw[List.findIdx?_eq_some_iff_getElem];refine⟨hk,by rwa [getD_at hk]at h,fun j hj=>?_⟩
  rw[List.findIdx?_eq_none_iff]at hn;have:=hn p.rules[j] (List.mem_take_iff_getElem.2 ⟨j,by omega,rfl⟩)
  simpa using this
 rw[this]
theorem ybnr{p:ProgT}{g:Gr}{c:Conf}{v:Nat}(hn:(p.rules.take p.rules.length).findIdx? (ynv g c v)=none):ydw p g c v = -1:=by
 unfold ydw;rw[zAI]at hn;rw[hn]
theorem ychi(p:ProgT)(g:Gr)(c:Conf)(v:Nat):-1<=ydw p g c v/\ydw p g c v<p.rules.length:=by
 unfold ydw;split
 .rename_i i hi
  obtain⟨h,_⟩:=List.findIdx?_eq_some_iff_getElem.1 hi;omega
 .omega
theorem ycdy(p:ProgT){g:Gr}(hg:ybg g)(hp:p.ok=true){c:Conf}(hc:ConfIn g.ports.length p.vars.length c){v:Nat}(hv:v<g.ports.length) :
 Returns zG 126 [.rf (yiw p.raw g),ycm c,.i .i64 v] (.i .i64 (ydw p g c v)):=by
 refine Returns.of (ydan _ _ ?_);have hlen:p.raw.rules.length=p.rules.length:=by simp[ProgT.raw]
 have h12:p.rules.length<=12:=by
  unfold ProgT.ok at hp;simp only[zF,decide_eq_true_eq]at hp;exact hp.1.2
 simp only[c126,ycka,ycrg,yiw,ydf,hlen,go_sem,zA,zB,zD,↓reduceIte,reduceCtorEq];refine ybf (σ:=Nat) (fun k=>⟨[(14,.i .i64 k),(13,.i .i64 p.rules.length),(0,.rf (yiw p.raw g)),(1,ycm c),(2,.i .i64 v)],[]⟩) (fun k=>k<=p.rules.length/\(p.rules.take k).findIdx? (ynv g c v)=none) (fun k=>p.rules.length-k) 0 ⟨zW _,by simp⟩ ?_ ?_
 .refine yh [] [] [] ?_;simp only[yiw,ydf,hlen,allQ,live,yc,zJ,go_sem,zA,↓reduceIte,reduceCtorEq]
 .intro k ⟨hk,hno⟩;simp only[yclb,ycol,ycle,ycoe,ycqj,ycod,yiw,yba,go_sem,zA,zB,zD,↓reduceIte,reduceCtorEq];refine⟨fun hlt=>?_,fun hlt=>?_⟩
  .have hk':k<p.rules.length:=by omega
   refine(ybzq p hg hp hc hv hk').use ?_;simp only[ybh,yba,go_sem,zA,zB,↓reduceIte,reduceCtorEq];refine⟨fun h=>by rw[ydlt hk' hno h],fun h=>⟨ikw (by omega) (by omega),?_⟩⟩
   refine yj (k+1) ⟨by omega,?_⟩ (by omega) ?_
   .rw[zL hk',List.findIdx?_append,hno];rw[getD_at hk']at h;simp[h]
   .refine yh [] [] [] ?_;simp only[allQ,live,yc,yba,go_sem,zA,↓reduceIte,reduceCtorEq];simp
  .obtain rfl:k=p.rules.length:=by omega
   rw[ybnr hno]
theorem yqt(p:ProgT)(g:Gr)(c:Conf)(v:Nat):∀(sets:List (Int×Ex)) (s0:List Int),(yqw p g c v s0 sets).length=s0.length
 |[],_=>rfl
 | a::sets,s0=>by
   show(yqw p g c v (s0.set _ _) sets).length=_;rw[yqt p g c v sets];simp
theorem ybnn(p:ProgT)(g:Gr)(c:Conf)(v:Nat)(s0:List Int)(sets:List (Int×Ex))(k:Nat)(h:k<sets.length) :
 yqw p g c v s0 (sets.take (k+1))=(yqw p g c v s0 (sets.take k)).set (sets.getD k default).1.toNat (ylf (p.vars.getD (sets.getD k default).1.toNat default).kind (ybo g v (p.vars.getD (sets.getD k default).1.toNat default)) (ygr g c v (sets.getD k default).2 (-1))):=by
 unfold yqw;rw[zL h,zAH,getD_at h];rfl
theorem ynq(p:ProgT)(g:Gr)(c:Conf)(s:Nat){v:Nat}(hv:v<c.length):(yei p g c s).getD v []=if s.testBit v then yiz p g c v (ydw p g c v).toNat else c.getD v []:=by
 unfold yei;simp[zI,hv]
theorem ykc(p:ProgT)(g:Gr)(c:Conf)(s:Nat):(yei p g c s).length=c.length:=by simp[yei]
end Sh
end
section
namespace Sh
open Go Ev
def ybcq(p:ProgT)(g:Gr):Bool:=p.vars.all fun x=>decide (x.kind=1)==false||(decide ((ybo g 0 x).1<=(ybo g 0 x).2)&&decide ((ybo g 0 x).2-(ybo g 0 x).1+1<=4096))
def yfb(Q1 Q2:(Nat->Option ABlk)->Value->Prop)(p:ProgR):List SV:=[.a (.string p.name),.ex Q1 (yer p.vars),.ex Q2 (ydf p.rules)]
theorem ybdx(Q1 Q2:(Nat->Option ABlk)->Value->Prop)(p:ProgR):Sim (.ag (yfb Q1 Q2 p)) (.ag (yma p)):=ybao ⟨Sim.refl _,ybbx _ _,ybbx _ _,trivial⟩
theorem yzs{Q1 Q2:(Nat->Option ABlk)->Value->Prop}(p:ProgT){g:Gr}(hg:ybg g)(hp:p.ok=true)(hf:ybcq p g=true)(hV:Returns zG 130 [.ag (yfb Q1 Q2 p.raw)] (.b true))(hG:Returns zG 131 [grV g] (.b true)) :
 Returns zG 62 [.ag (yfb Q1 Q2 p.raw),grV g] (.i .i64 0):=by
 refine Returns.of (ydnw _ _ ?_);have hp':=hp;unfold ProgT.ok at hp';simp only[zF,decide_eq_true_eq]at hp';have hvars:p.raw.vars=p.vars:=rfl;simp only[yfb,grV]at hV hG;simp only[c62,ydld,ydst,ydlz,ydqz,ydua,ydpe,yfb,grV,go_sem,zA,zB,zC,↓reduceIte,reduceCtorEq];refine hV.use ?_;simp only[ybh,go_sem,zA,zB,↓reduceIte];refine hG.use ?_;simp only[yer,hvars,go_sem,zA,zB,zD,↓reduceIte,reduceCtorEq]
 have hall:∀k,k<p.vars.length->(p.vars.getD k default).ok=true/\((p.vars.getD k default).kind=1->(ybo g 0 (p.vars.getD k default)).1<=(ybo g 0 (p.vars.getD k default)).2/\(ybo g 0 (p.vars.getD k default)).2-(ybo g 0 (p.vars.getD k default)).1+1<=4096):=fun k hk=>by
  rw[getD_at hk];refine⟨List.all_eq_true.1 hp'.1.1.2 _ (zK _),fun h1=>?_⟩;have:=List.all_eq_true.1 hf _ (zK hk)
  simpa[h1]using this
 refine ybf (σ:=Nat) (fun k=>⟨[(18,.i .i64 k),(17,.i .i64 p.vars.length),(16,.ex Q1 (yer p.vars)),(3,.pt (3,0) 0 0)],[(3,.one (some ⟨27,true,2,1,fun _=>[ybc g.ids,yu g.ports]⟩))]⟩) (fun k=>k<=p.vars.length) (fun k=>p.vars.length-k) 0 (zW _) ?_ ?_
 .refine yh [] [] [] ?_;simp only[yer,allQ,live,yc,zJ,go_sem,zA,zC,↓reduceIte,reduceCtorEq]
 .intro k hk;obtain⟨x,hx⟩:∃x,p.vars.getD k default=x:=⟨_,rfl⟩;simp only[yduf,ydhl,ydnp,ydqm,ycwa,ycji,ycqw,ycna,yer,varC,splice,yba,hx,go_sem,zA,zB,zD,zC,↓reduceIte,reduceCtorEq];intro hlt;have hk':k<p.vars.length:=by omega
  obtain⟨hxo,hxb⟩:=hall k hk';rw[hx]at hxo hxb;have hB:=yxf hg hxo (v:=0) (by have:=hg.1;omega)
  simp only[varC,grV,zJ]at hB;obtain⟨hb1,hb2⟩:=ysc hg hxo;have hvo:=ybpt hxo;refine⟨by omega,fun h1=>⟨ikw (by omega) (by omega),?_⟩,fun h1=>hB.use ?_⟩
  .refine yj (k+1) (by omega) (by omega) ?_
   refine yh [] [] [] ?_;simp only[allQ,live,yc,yba,go_sem,zA,zC,↓reduceIte,reduceCtorEq];omega
  .obtain⟨hb3,hb4⟩:=hxb h1;obtain⟨b1,hb1'⟩:∃b,(ybo g 0 x).1=b:=⟨_,rfl⟩;obtain⟨b2,hb2'⟩:∃b,(ybo g 0 x).2=b:=⟨_,rfl⟩;have e:ybo g 0 x=(x.lo,x.hi+x.perNode*(g.ids.length:Int)+x.perID*maxI g.ids):=by unfold ybo;rw[if_pos h1]
   rw[e]at hb1' hb2';simp only[]at hb1' hb2';simp only[e]at hb3 hb4;rw[e];simp only[ybh,yba,go_sem,zA,zB,↓reduceIte,reduceCtorEq];simp only[hb1',hb2']at hb3 hb4 ⊢;refine⟨fun _=>⟨ikw (by omega) (by omega),ikw (by omega) (by omega),fun hgt=>absurd hb4 (by omega),fun _=>⟨ikw (by omega) (by omega),?_⟩⟩,fun hlt2=>absurd hb3 (by omega)⟩
   refine yj (k+1) (by omega) (by omega) ?_
   refine yh [] [] [] ?_;simp only[allQ,live,yc,yba,go_sem,zA,zC,↓reduceIte,reduceCtorEq];omega
end Sh
end
section
namespace Sh
open Go Ev Go.RowKit
theorem ycam{g:Gr}(hg:ybg g){x:VarR}(hx:x.ok=true)(v:Nat):-4096<=(ybo g v x).1/\(ybo g v x).2<=100000:=by
 obtain⟨h1,h2,h3,h4,h5⟩:=ybpt hx;obtain⟨h6,h7⟩:=ysc hg hx;have h8:=hg.deg_lt (v:=v);unfold ybo;split
 .exact⟨by simp only[];omega,by simp only[];omega⟩
 .split
  .exact⟨by simp only[];omega,by simp only[];omega⟩
  .split
   .exact⟨by simp only[];omega,by simp only[];omega⟩
   .exact⟨by simp only[];omega,by simp only[];omega⟩
theorem ybjy{p:ProgT}{g:Gr}(hg:ybg g)(hp:p.ok=true){c:Conf}(hc:yev p g c=true):ConfIn g.ports.length p.vars.length c:=by
 have h:=(yfk _ _ _).1 hc;have hp':=hp;unfold ProgT.ok at hp';simp only[zF,decide_eq_true_eq]at hp';refine⟨h.1.trans hg.2.2.1,fun s hs=>?_⟩;obtain⟨v,hv,rfl⟩:=zAC hs;have h2:=h.2 v _ (zO hv);have hl:(c[v]).length=p.vars.length:=by have:=h2.1;simpa using this
 refine⟨hl,fun x hx=>?_⟩;obtain⟨i,hi,rfl⟩:=zAC hx;have hi':i<p.vars.length:=by omega
 have h3:=h2.2 i (ybo g v p.vars[i]) _ (by simp[hi']) (zO hi)
 have h4:=ycam hg (List.all_eq_true.1 hp'.1.1.2 _ (zK hi')) v;unfold InB;omega
structure Checked(Q1 Q2:(Nat->Option ABlk)->Value->Prop)(p:ProgT)(g:Gr):Prop where
 hg:ybg g
 hp:p.ok=true
 hf:ybcq p g=true
 hV:Returns zG 130 [.ag (yfb Q1 Q2 p.raw)] (.b true)
theorem Checked.gv{Q1 Q2:(Nat->Option ABlk)->Value->Prop}{p:ProgT}{g:Gr}(h:Checked Q1 Q2 p g):Returns zG 131 [grV g] (.b true):=by
 have e:=yxc (ycyn h.hg);rw[(yha g).2 h.hg]at e;exact e
section
variable {Q1 Q2:(Nat->Option ABlk)->Value->Prop}{p:ProgT}{g:Gr}
theorem ybnf(k:Int):Returns zG 57 [.i .i64 k] (.b (decide (1<=k)&&decide (k<=4))):=by
 refine Returns.of (ydqb _ _ ?_);simp only[c57,ydiq,ydrj,yrw,go_sem,zA,zB,↓reduceIte,reduceCtorEq]
 by_cases h:k>=1<;>simp[h]
end
end Sh
end
section
theorem ynp(s a:Nat):∀b,yen s (a+b)=yen s a+yen (s>>>a) b
 |0=>rfl
 | b+1=>by
   show yen s (a+b)+(s.testBit (a+b)).toNat=_;rw[ynp s a b];show _=yen s a+(yen (s>>>a) b+((s>>>a).testBit b).toNat);rw[Nat.testBit_shiftRight];omega
theorem ypl(s:Nat):∀b,b<=8->yen (s&&&255) b=yen s b
 |0,_=>rfl
 | b+1,h=>by
   show yen _ b+_=yen s b+_;rw[ypl s b (by omega),zAV,show(255:Nat)=2^8-1 from rfl,Nat.testBit_two_pow_sub_one]
   simp[show b<8 by omega]
theorem ybob(s:Nat):popP s=yen (s>>>24&&&255) 8+yen (s>>>16&&&255) 8+yen (s>>>8&&&255) 8+yen (s&&&255) 8:=by
 simp only[ypl _ 8 (zS _)];have h1:=ynp s 8 24;have h2:=ynp (s>>>8) 8 16;have h3:=ynp (s>>>8>>>8) 8 8;simp only[<-Nat.shiftRight_add,zB]at h1 h2 h3;unfold popP;omega
namespace Sh
open Ev Go.RowKit
theorem yzi:∀k,k<256->yvr.getD k 0=yen k 8:=by decide
theorem ydbd:yvr.length=256:=by decide
theorem ybro(a v:Nat):(a:Int).fdiv (2^v)=((a>>>v:Nat):Int):=by
 have h:=ydao (a:=a) (v:=v)
 rwa [zM]at h
theorem ycjz{a:Nat}(ha:a<2^32):IntKind.wrap .u32 (((zH (IntKind.bits .u32) (a:Int))&&&zH (IntKind.bits .u32) 255).toNat:Int)=((a&&&255:Nat):Int):=u32_and (b:=255) ha (by decide)
theorem ydir{a n:Nat}(h:a<2^32):a>>>n<2^32:=by rw[zU];exact zAD (Nat.div_le_self _ _) h
theorem ybkn{s:Nat}(hs:s<2^32):Returns zG 113 [.i .u32 s] (.i .i64 (popP s)):=by
 refine Returns.of (ydfk _ _ ?_);simp only[c113,ycqf,ycum,clash,go_sem,zAJ,zA,zB,↓reduceIte,reduceCtorEq];have f1:=ycjz hs;have f2:=fun n=>ycjz (ydir (n:=n) hs);simp only[IntKind.bits]at f1 f2;simp only[ybro,f1,f2,zM,ydbd];have hp:=ybob s;have l1:s>>>24<256:=by rw[zU];omega
 have b1:∀x:Nat,x&&&255<256:=fun x=>zAD Nat.and_le_right (by omega)
 rw[ypl (s>>>24) 8 (zS _)]at hp;rw[yzi _ l1,yzi _ (b1 (s>>>16)),yzi _ (b1 (s>>>8)),yzi _ (b1 s)];have q1:=yjf (s>>>24) 8;have q2:=yjf (s>>>16&&&255) 8;have q3:=yjf (s>>>8&&&255) 8;have q4:=yjf (s&&&255) 8;have w1:=b1 (s>>>16);have w2:=b1 (s>>>8);have w3:=b1 s;have u8k:∀x:Int,0<=x->x<=255->inK .u8 x:=fun x h1 h2=>⟨by simpa[IntKind.min,IntKind.signed]using h1,by simpa[IntKind.max,IntKind.bits,IntKind.signed]using h2⟩
 refine⟨⟨by omega,by decide⟩,⟨by omega,by omega⟩,⟨by omega,by decide⟩,by omega,u8k _ (by omega) (by omega),⟨by omega,by decide⟩,by omega,u8k _ (by omega) (by omega),by omega,u8k _ (by omega) (by omega),?_⟩
 rw[wrap_in (ikw (by omega) (by omega)),hp]
 exact Sim.refl _
def cntV(k:Cnt):List SV:=[.i .i64 k.steps,.i .i64 k.moves,.i .i64 k.rounds,.i .i64 k.begun,.i .u32 k.pend]
def usV(l:List Nat):SV:=.sl 1 l.length (fun k=>[.i .u32 ((l.getD k 0:Nat):Int)])
end Sh
end
section
def netP(ls:List (Int×Int)):Nat:=ls.foldl (fun a l=>a|||2^l.1.toNat) 0
theorem ybyz(ls:List (Int×Int))(k:Nat)(h:k<ls.length):netP (ls.take (k+1))=netP (ls.take k)|||2^(ls.getD k (0,0)).1.toNat:=by
 unfold netP;rw[zL h,zAH,Sh.getD_at h];rfl
theorem ydee(ls:List (Int×Int))(h:∀l∈ls,l.1<24):netP ls<2^24:=by
 unfold netP
 have:∀(ls:List (Int×Int)) (a:Nat),(∀l∈ls,l.1<24)->a<2^24->ls.foldl (fun a l=>a|||2^l.1.toNat) a<2^24:=by
  intro ls
  induction ls with
  |nil=>intro a _ h;exact h
  | cons l ls ih =>
    intro a hl ha;refine ih _ (fun x hx=>hl x (zAO _ hx)) (zAS ha ?_);have:=hl l zAQ;exact zAA (by omega) (by omega)
 exact this ls 0 h (by decide)
namespace Sh
open Ev Go.RowKit
theorem ybmz{g:Gr}(hg:ybg g):Returns zG 124 [grV g] (usV (g.ports.map netP)):=by
 refine Returns.of (yddc _ _ ?_);have h3:=hg.2.2.1;have h4:=hg.2.1;simp only[c124,ycpw,ycpi,ycsh,grV,ybc,yu,go_sem,zA,zB,zC,↓reduceIte,reduceCtorEq];refine⟨by omega,?_⟩
 obtain⟨n,hn⟩:∃n,g.ports.length=n:=⟨_,rfl⟩
 let val:Nat->Nat->Nat:=fun k i=>if i<k then netP (g.ports.getD i [])else 0
 refine ybf (σ:=Nat) (fun k=>⟨[(15,.i .i64 k),(14,.i .i64 n),(13,yu g.ports),(3,.os (11,0) 0 n true)],
  [(11,.one (some ⟨77,false,1,n,fun i=>[.i .u32 (val k i:Nat)]⟩))]⟩) (fun k=>k<=n) (fun k=>n-k) 0 (zW _) ?_ ?_
 .refine yh [] [] [] ?_;simp only[yu,hn,allQ,live,yc,yba,zJ,go_sem,zA,zC,↓reduceIte,reduceCtorEq];simp[val]
 .intro k hk;obtain⟨L,hL⟩:∃L,g.ports.getD k []=L:=⟨_,rfl⟩;simp only[ycnm,ycnv,ycmj,yu,ybb,hn,hL,go_sem,zA,zB,↓reduceIte,reduceCtorEq];refine⟨fun hlt=>?_,fun hlt=>?_⟩
  .have hk':k<n:=by omega
   have hkp:k<g.ports.length:=by omega
   have hlk:∀l∈L,0<=l.1/\l.1<24:=fun l hl=>by
    rw[<-hL,getD_at hkp]at hl;obtain⟨a1,a2,_⟩:=(hg.2.2.2.2.2.1 ⟨k,hkp⟩).1 l hl;exact⟨a1,by omega⟩
   have hdeg:=hg.deg_lt (v:=k);rw[hL]at hdeg;refine⟨by omega,?_⟩
   obtain⟨m,hm⟩:∃m,L.length=m:=⟨_,rfl⟩;rw[hm]
   let val2:Nat->Nat->Nat:=fun j i=>if i<k then netP (g.ports.getD i [])else if i=k then netP (L.take j)else 0
   refine ybf (σ:=Nat) (fun j=>⟨[(22,.i .i64 j),(21,.i .i64 m),(20,ybb L),(4,.i .i64 k),(15,.i .i64 k),(14,.i .i64 n),(13,yu g.ports),(3,.os (11,0) 0 n true)],
    [(11,.one (some ⟨77,false,1,n,fun i=>[.i .u32 (val2 j i:Nat)]⟩))]⟩) (fun j=>j<=m) (fun j=>m-j) 0 (zW _) ?_ ?_
   .refine yh [] [] [] ?_;simp only[yu,ybb,hn,hm,allQ,live,yc,yba,zJ,go_sem,zA,zC,↓reduceIte,reduceCtorEq];intro i hi;simp only[val,val2]
    by_cases q:i<k
    .rw[if_pos q,if_pos q]
    .rw[if_neg q,if_neg q]
     by_cases q2:i=k
     .rw[if_pos q2];rfl
     .rw[if_neg q2]
   .intro j hj;obtain⟨l,hl⟩:∃l,L.getD j (0,0)=l:=⟨_,rfl⟩;simp only[ycsp,ycnt,yu,ybb,hn,hm,hl,go_sem,zA,zB,zC,↓reduceIte,reduceCtorEq];refine⟨fun hlj=>⟨by omega,?_⟩,fun hlj=>?_⟩
    .have hj':j<L.length:=by omega
     have hl2:=hlk l (by rw[<-hl,getD_at hj'];exact zK _)
     obtain⟨t,ht⟩:∃t:Nat,l.1=t:=⟨l.1.toNat,by omega⟩
     have h24t:t<24:=by omega
     have hval:val2 j k<2^24:=by
      simp only[val2,if_neg (zAZ k),if_true];exact ydee _ fun l hl=>(hlk l (List.mem_of_mem_take hl)).2
     have hp:2^t<2^24:=zAA (by omega) h24t
     have hsh:=yxh (v:=t) (by omega)
     have hor:=u32_or (a:=val2 j k) (b:=2^t) (by omega) (by omega)
     rw[zM]at hsh;simp only[IntKind.bits]at hor;simp only[ycma,ht,clash,hsh,hor,go_sem,zA,zB,zD,↓reduceIte,reduceCtorEq];refine⟨by omega,by omega,⟨by omega,by show _<((32:Nat):Int);omega⟩,by omega,by omega,by decide,?_⟩
     simp only[ycmx,go_sem,zA,zB,↓reduceIte,reduceCtorEq];refine⟨ikw (by omega) (by omega),?_⟩
     refine yj (j+1) (by omega) (by omega) ?_
     refine yh [] [] [] ?_;simp only[allQ,live,yc,yba,go_sem,zA,zC,↓reduceIte,reduceCtorEq];refine⟨by omega,fun i hi=>?_⟩
     have hsn:=ybyz L j hj';rw[hl,ht,zM]at hsn
     by_cases q:i=k
     .simp only[if_pos q];subst q;simp only[go_sem,live,yba,go_sem,reduceCtorEq];simp only[val2,if_neg (zAZ i),if_true,hsn]
     .simp only[if_neg q];simp only[go_sem,live,yba,go_sem,reduceCtorEq];simp only[val2,if_neg q]
    .obtain rfl:j=m:=by omega
     simp only[ycaq,go_sem,zA,zB,↓reduceIte,reduceCtorEq];refine⟨ikw (by omega) (by omega),?_⟩
     refine yj (k+1) (by omega) (by omega) ?_
     refine yh [] [] [] ?_;simp only[allQ,live,yc,yba,go_sem,zA,zC,↓reduceIte,reduceCtorEq];refine⟨by omega,fun i hi=>?_⟩
     simp only[val,val2]
     by_cases q:i<k
     .rw[if_pos q,if_pos (by omega)]
     .rw[if_neg q]
      by_cases q2:i=k
      .rw[if_pos q2,if_pos (by omega),q2,hL,<-hm,zAI]
      .rw[if_neg q2,if_neg (by omega)]
  .obtain rfl:k=n:=by omega
   simp only[ybqx,go_sem,zA,zB,↓reduceIte,reduceCtorEq];unfold usV;rw[zAW,hn];refine ybix fun i hi=>?_;have hi':i<g.ports.length:=by omega
   simp only[val,if_pos hi];simp[zI,hi']
end Sh
end
section
namespace Sh
open Go Ev
def yduc:LO:=[o3 (.mv (ci' 0)) 4 0]
def ydsg:LO:=[mv' 1 5 0,o3 (.bin .lss (.tmp 5) (ci' 1)) 6 1]
def ydiu:LO:=[o3 (.mv (ci' 0)) 4 0]
def ydhb:LO:=[mv' 0 7 0,mv' 1 8 0,bn' .rem 7 8 9 3,mv' 9 0 7]
def ydmo:LO:=[mv' 0 10 0,o3 (.bin .lss (.tmp 10) (ci' 0)) 11 1]
def ydtc:LO:=[mv' 0 12 0,mv' 1 13 0,bn' .add 12 13 14 3,mv' 14 0 7]
def ydih:LO:=[mv' 0 15 0,mv' 15 4 1]
def c49:SC:=(.seq (.reg false yduc) (.seq (.seq (.reg false ydsg) (.cond (.tmp 6) (.seq (.reg false ydiu) .ret) .skip)) (.seq (.reg false ydhb) (.seq (.seq (.reg false ydmo) (.cond (.tmp 11) (.reg false ydtc) .skip)) (.seq (.reg false ydih) .ret)))))
theorem ydgk:Fn 49 c49 [.t 4]:=fn_0 Tryz.func49 (by kernel_rfl) (by kernel_rfl)
def ydnr:LO:=[o3 (.mv (ci' 0)) 4 0]
def ydkr:LO:=[mv' 1 5 0,mv' 0 6 0,ln' 6 7 2,bn' .lss 5 7 8 7]
def ydjf:LO:=[mv' 0 9 0,mv' 1 10 0,ix' 1 9 10 11 3,ld' false 1 11 12 7,mv' 12 4 15]
def ydmt:LO:=[o3 (.mv (ci' 0)) 4 0]
def c50:SC:=(.seq (.reg false ydnr) (.seq (.seq (.reg false ydkr) (.cond (.tmp 8) (.seq (.reg false ydjf) .ret) .skip)) (.seq (.reg false ydmt) .ret)))
theorem ydov:Fn 50 c50 [.t 4]:=fn_0 Tryz.func50 (by kernel_rfl) (by kernel_rfl)
def ycvw:LO:=[o3 (.box 27 (.tmp 0)) 3 0,o3 (.mv (.const (.bool false))) 6 0]
def yciz:LO:=[o3 (.mv (ci' 0)) 7 0]
def ycwl:LO:=[mv' 7 8 0,fa' 1 1 3 9 0,ld' false 1 9 10 2,mv' 1 11 0,ix' 1 10 11 12 14,ld' false 1 12 13 30,ln' 13 14 62,bn' .lss 8 14 15 127]
def ycrp:LO:=[fa' 1 1 3 18 0,ld' false 1 18 19 1,mv' 1 20 0,ix' 1 19 20 21 7,ld' false 1 21 22 15,mv' 7 23 0,ix' 2 22 23 24 63,fa' 0 1 24 25 127,ld' false 1 25 26 255,mv' 2 27 0,bn' .eql 26 27 28 1023]
def ycpp:LO:=[o3 (.mv (.const (.bool true))) 6 0]
def yctr:LO:=[mv' 7 16 0,o3 (.bin .add (.tmp 16) (ci' 1)) 17 1,mv' 17 7 3]
def ycuw:LO:=[o3 (.mv (.const (.bool false))) 6 0]
def c116:SC:=(.seq (.reg false ycvw) (.seq (.seq (.reg false yciz) (.block 0 (.loop (.seq (.seq (.reg false ycwl) (.cond (.tmp 15) .skip (.exit 0))) (.seq (.block 1 (.seq (.reg false ycrp) (.cond (.tmp 28) (.seq (.reg false ycpp) .ret) .skip))) (.reg false yctr)))))) (.seq (.reg false ycuw) .ret)))
theorem ydcy:Fn 116 c116 [.t 6]:=fn_0 Tryz.func116 (by kernel_rfl) (by kernel_rfl)
def ydbx:LO:=[o3 (.box 24 (.tmp 0)) 5 0,o3 (.box 27 (.tmp 1)) 6 0]
def yczf:LO:=[mv' 2 12 0,mv' 3 13 0,bn' .eql 12 13 14 3,mv' 14 15 7,⟨.load true 2 (.tmp 6),some 16,some (15,false),15⟩,⟨.mv (.tmp 2),some 17,some (15,false),15⟩,⟨.mv (.tmp 3),some 18,some (15,false),15⟩,⟨.call (.func 116) [(.tmp 16),(.tmp 17),(.tmp 18)],some 19,some (15,false),127⟩,o3 (.pick (.tmp 15) (.const (.bool true)) (.tmp 19)) 20 255]
def ybqa:LO:=[mv' 3 21 0,mv' 4 22 0,o3 (.build [.i .i64 0,.i .i64 0] [(0,1,(.tmp 21)),(1,1,(.tmp 22))]) 23 3,mv' 2 24 0,mv' 4 25 0,o3 (.build [.i .i64 0,.i .i64 0] [(0,1,(.tmp 24)),(1,1,(.tmp 25))]) 26 24,o3 (.alloc 68 1 [.i .i64 0,.i .i64 0]) 10 0,o3 (.alloc 68 1 [.i .i64 0,.i .i64 0]) 11 0,o0 (.store 2 (.tmp 10) (.tmp 23)) 199,o0 (.store 2 (.tmp 11) (.tmp 26)) 511]
def ybnx:LO:=[fa' 5 1 5 27 0,ld' false 1 27 28 1]
def ybrx:LO:=[fa' 1 1 6 29 0,ld' false 1 29 30 1,mv' 2 31 0,ld' true 2 10 32 0,o3 (.bslice 68 2 1 [.i .i64 0,.i .i64 0] [(0,2,(.tmp 32))]) 33 8,fa' 1 1 6 34 0,ld' false 1 34 35 32,mv' 2 36 0,ix' 1 35 36 37 224,ld' false 1 37 38 480,o3 (.app 68 2 16 (.tmp 33) (.tmp 38)) 39 1016,ix' 1 30 31 40 2047,o0 (.store 1 (.tmp 40) (.tmp 39)) 4095]
def ybtu:LO:=[fa' 1 1 6 41 0,ld' false 1 41 42 1,mv' 3 43 0,ld' true 2 11 44 0,o3 (.bslice 68 2 1 [.i .i64 0,.i .i64 0] [(0,2,(.tmp 44))]) 45 8,fa' 1 1 6 46 0,ld' false 1 46 47 32,mv' 3 48 0,ix' 1 47 48 49 224,ld' false 1 49 50 480,o3 (.app 68 2 16 (.tmp 45) (.tmp 50)) 51 1016,ix' 1 42 43 52 2047,o0 (.store 1 (.tmp 52) (.tmp 51)) 4095]
def ydgw:LO:=[fa' 1 1 6 53 0,ld' false 1 53 54 1,mv' 2 55 0,fa' 1 1 6 56 0,ld' false 1 56 57 8,mv' 3 58 0,fa' 1 1 6 59 0,ld' false 1 59 60 64,mv' 2 61 0,ix' 1 60 61 62 448,ld' false 1 62 63 960,ld' true 2 10 64 0,o3 (.bslice 68 2 1 [.i .i64 0,.i .i64 0] [(0,2,(.tmp 64))]) 65 2048,o3 (.app 68 2 16 (.tmp 63) (.tmp 65)) 66 8128,fa' 1 1 6 67 0,ld' false 1 67 68 16384,mv' 3 69 0,ix' 1 68 69 70 114688,ld' false 1 70 71 245760,ld' true 2 11 72 0,o3 (.bslice 68 2 1 [.i .i64 0,.i .i64 0] [(0,2,(.tmp 72))]) 73 524288,o3 (.app 68 2 16 (.tmp 71) (.tmp 73)) 74 2097088,ix' 1 54 55 75 4194247,o0 (.store 1 (.tmp 75) (.tmp 66)) 8388551,ix' 1 57 58 76 16777215,o0 (.store 1 (.tmp 76) (.tmp 74)) 33554431]
def c48:SC:=(.seq (.reg false ydbx) (.seq (.seq (.reg false yczf) (.cond (.tmp 20) .ret .skip)) (.seq (.reg false ybqa) (.seq (.seq (.reg false ybnx) (.cond (.tmp 28) (.seq (.reg true ybrx) (.seq (.reg true ybtu) .ret)) .skip)) (.reg true ydgw)))))
theorem ydav:FnM 48 c48 []:=fn_m Tryz.func48 (by kernel_rfl) (by kernel_rfl)
def ydje:LO:=[o3 (.box 24 (.tmp 0)) 2 0,o3 (.alloc 27 1 [.a (.slice none 0 0),.a (.slice none 0 0)]) 4 0]
def ydju:LO:=[fa' 0 1 2 10 0,ld' false 1 10 11 1,o3 (.wsub (.tmp 11) (ci' 1)) 12 3,mv' 1 13 0,cl' 49 [12,13] 14 15,o3 (.bin .add (ci' 1) (.tmp 14)) 15 31,mv' 15 5 63]
def ydie:LO:=[mv' 5 16 0,o3 (.mk 135 1 24 [.a (.slice none 0 0)] (.tmp 16) (.tmp 16)) 17 1,o3 (.build [.a (.slice none 0 0),.a (.slice none 0 0)] [(1,1,(.tmp 17))]) 18 3,o3 (.alloc 27 1 [.a (.slice none 0 0),.a (.slice none 0 0)]) 6 0,o0 (.store 2 (.tmp 6) (.tmp 18)) 15]
def ydjl:LO:=[o3 (.mv (ci' 0)) 7 0]
def ydgx:LO:=[mv' 7 19 0,mv' 5 20 0,bn' .lss 19 20 21 3]
def ydnf:LO:=[fa' 3 1 2 24 0,ld' false 1 24 25 1,mv' 7 26 0,cl' 50 [25,26] 27 7,o3 (.call (.func 49) [(.tmp 27),(ci' 256)]) 28 15,mv' 28 8 31]
def ydlq:LO:=[o3 (.mv (ci' 0)) 9 0]
def ydgr:LO:=[mv' 9 29 0,mv' 7 30 0,bn' .lss 29 30 31 3]
def ycsb:LO:=[fa' 0 1 6 34 0,ld' false 1 34 35 1,mv' 9 36 0,ix' 1 35 36 37 7,ld' false 1 37 38 15,mv' 8 39 0,bn' .eql 38 39 40 63]
def ycsv:LO:=[mv' 8 41 0,o3 (.bin .add (.tmp 41) (ci' 1)) 42 1,o3 (.bin .rem (.tmp 42) (ci' 256)) 43 3,mv' 43 8 7,o3 (.mv (.const (.int .i64 (-1)))) 9 15]
def ydtf:LO:=[mv' 9 32 0,o3 (.bin .add (.tmp 32) (ci' 1)) 33 1,mv' 33 9 3]
def ycon:LO:=[fa' 0 1 6 44 0,ld' false 1 44 45 1,mv' 8 46 0,o3 (.bslice 3 1 1 [.i .i64 0] [(0,1,(.tmp 46))]) 47 4,o3 (.app 3 1 8 (.tmp 45) (.tmp 47)) 48 15,fa' 0 1 6 49 31,o0 (.store 1 (.tmp 49) (.tmp 48)) 63]
def ydlp:LO:=[mv' 7 22 0,o3 (.bin .add (.tmp 22) (ci' 1)) 23 1,mv' 23 7 3]
def ycng:LO:=[ld' true 2 6 50 0,o0 (.store 2 (.tmp 4) (.tmp 50)) 1]
def c47:SC:=(.seq (.reg false ydje) (.seq (.reg false ydju) (.seq (.reg false ydie) (.seq (.seq (.reg false ydjl) (.block 0 (.loop (.seq (.seq (.reg false ydgx) (.cond (.tmp 21) .skip (.exit 0))) (.seq (.block 1 (.seq (.reg false ydnf) (.seq (.seq (.reg false ydlq) (.block 2 (.loop (.seq (.seq (.reg false ydgr) (.cond (.tmp 31) .skip (.exit 2))) (.seq (.block 3 (.seq (.reg false ycsb) (.cond (.tmp 40) (.reg false ycsv) .skip))) (.reg false ydtf)))))) (.reg false ycon)))) (.reg false ydlp)))))) (.seq (.reg false ycng) .ret)))))
theorem ycyw:FnM 47 c47 [.c 4 true 2]:=fn_m Tryz.func47 (by kernel_rfl) (by kernel_rfl)
def ydrp:LO:=[o3 (.box 24 (.tmp 0)) 2 0,o3 (.alloc 27 1 [.a (.slice none 0 0),.a (.slice none 0 0)]) 4 0]
def ydow:LO:=[ld' true 6 2 7 0,mv' 1 8 0,cl' 47 [7,8] 9 3,o3 (.alloc 27 1 [.a (.slice none 0 0),.a (.slice none 0 0)]) 5 0,o0 (.store 2 (.tmp 5) (.tmp 9)) 15]
def ydmw:LO:=[o3 (.mv (ci' 1)) 6 0]
def ycyp:LO:=[mv' 6 10 0,fa' 1 1 5 11 0,ld' false 1 11 12 2,ln' 12 13 6,bn' .lss 10 13 14 15]
def ydsz:LO:=[ld' true 6 2 17 0,ld' true 2 5 18 0,fa' 1 1 2 19 0,ld' false 1 19 20 4,mv' 6 21 0,o3 (.bin .sub (.tmp 21) (ci' 1)) 22 16,cl' 50 [20,22] 23 60,mv' 6 24 0,cl' 49 [23,24] 25 252,mv' 6 26 0,fa' 2 1 2 27 0,ld' false 1 27 28 1024,mv' 6 29 0,o3 (.bin .sub (.tmp 29) (ci' 1)) 30 4096,cl' 50 [28,30] 31 15868,o3 (.call (.func 49) [(.tmp 31),(ci' 15)]) 32 32252,o3 (.bin .add (ci' 1) (.tmp 32)) 33 65020,cl' 48 [17,18,25,26,33] 34 131071]
def ydny:LO:=[mv' 6 15 0,o3 (.bin .add (.tmp 15) (ci' 1)) 16 1,mv' 16 6 3]
def ydiy:LO:=[ld' true 2 5 35 0,o0 (.store 2 (.tmp 4) (.tmp 35)) 1]
def c10:SC:=(.seq (.reg false ydrp) (.seq (.reg false ydow) (.seq (.seq (.reg false ydmw) (.block 0 (.loop (.seq (.seq (.reg false ycyp) (.cond (.tmp 14) .skip (.exit 0))) (.seq (.block 1 (.reg true ydsz)) (.reg false ydny)))))) (.seq (.reg false ydiy) .ret))))
theorem ydfl:FnM 10 c10 [.c 4 true 2]:=fn_m Tryz.func10 (by kernel_rfl) (by kernel_rfl)
def ydoh:LO:=[o3 (.box 24 (.tmp 0)) 2 0,o3 (.box 27 (.tmp 1)) 3 0,o3 (.alloc 27 1 [.a (.slice none 0 0),.a (.slice none 0 0)]) 4 0]
def ydre:LO:=[fa' 1 1 3 7 0,ld' false 1 7 8 1,ln' 8 9 3,mv' 9 5 7]
def ydkw:LO:=[mv' 5 10 0,mv' 10 6 1]
def ycdt:LO:=[mv' 6 11 0,o3 (.bin .add (.tmp 11) (ci' 1)) 12 1,fa' 1 1 2 13 0,ld' false 1 13 14 4,ln' 14 15 12,bn' .lss 12 15 16 31,mv' 16 17 63,⟨.mv (.tmp 6),some 18,some (17,true),127⟩,⟨.bin .lss (.tmp 18) (ci' 60),some 19,some (17,true),255⟩,o3 (.pick (.tmp 17) (.tmp 19) (.const (.bool false))) 20 511]
def ydmm:LO:=[ld' true 6 2 23 0,ld' true 2 3 24 0,fa' 1 1 2 25 0,ld' false 1 25 26 4,mv' 6 27 0,ix' 1 26 27 28 28,ld' false 1 28 29 60,mv' 5 30 0,cl' 49 [29,30] 31 252,fa' 1 1 2 32 0,ld' false 1 32 33 512,mv' 6 34 0,o3 (.bin .add (.tmp 34) (ci' 1)) 35 2048,ix' 1 33 35 36 7680,ld' false 1 36 37 15872,mv' 5 38 0,cl' 49 [37,38] 39 65532,fa' 2 1 2 40 0,ld' false 1 40 41 131072,mv' 6 42 0,cl' 50 [41,42] 43 1048572,o3 (.call (.func 49) [(.tmp 43),(ci' 15)]) 44 2097148,o3 (.bin .add (ci' 1) (.tmp 44)) 45 4194300,cl' 48 [23,24,31,39,45] 46 8388607]
def ydgb:LO:=[mv' 6 21 0,o3 (.bin .add (.tmp 21) (ci' 2)) 22 1,mv' 22 6 3]
def ycyy:LO:=[ld' true 2 3 47 0,o0 (.store 2 (.tmp 4) (.tmp 47)) 1]
def c80:SC:=(.seq (.reg false ydoh) (.seq (.reg false ydre) (.seq (.seq (.reg false ydkw) (.block 0 (.loop (.seq (.seq (.reg false ycdt) (.cond (.tmp 20) .skip (.exit 0))) (.seq (.block 1 (.reg true ydmm)) (.reg false ydgb)))))) (.seq (.reg false ycyy) .ret))))
theorem ydcq:FnM 80 c80 [.c 4 true 2]:=fn_m Tryz.func80 (by kernel_rfl) (by kernel_rfl)
def ydjn:LO:=[o3 (.box 24 (.tmp 0)) 2 0,o3 (.alloc 27 1 [.a (.slice none 0 0),.a (.slice none 0 0)]) 4 0]
def ydiw:LO:=[ld' true 6 2 5 0,ld' true 6 2 6 0,mv' 1 7 0,cl' 10 [6,7] 8 6,cl' 80 [5,8] 9 15,o0 (.store 2 (.tmp 4) (.tmp 9)) 31]
def c79:SC:=(.seq (.reg false ydjn) (.seq (.reg true ydiw) .ret))
theorem yczr:FnU 79 c79 [.c 4 true 2]:=fn_u Tryz.func79 (by kernel_rfl) (by kernel_rfl)
end Sh
end
section
namespace Sh
open Ev Go.RowKit
instance:Inhabited Cnt:=⟨⟨0,0,0,0,0⟩⟩
structure DaemonOk(kind:Int)(net:List Nat)(res:Nat->Nat->Nat):Prop where
 resolve:∀(e w:Nat),e<2^24->e<2^net.length->e≠0->w<2^32->Returns zG 0 [usV net,.i .i64 kind,.i .u32 e,.i .u32 w] (.i .u32 (res e w))
 permits:∀(e w:Nat),e<2^24->e<2^net.length->e≠0->w<2^32->Returns zG 171 [usV net,.i .i64 kind,.i .u32 e,.i .u32 (res e w)] (.b true)
 zero:∀(w:Nat),w<2^32->∃x:Nat,Returns zG 0 [usV net,.i .i64 kind,.i .u32 0,.i .u32 w] (.i .u32 x)
 sub:∀(e w:Nat),e≠0->e<2^24->res e w≠0/\subB (res e w) e
theorem yza{s e n:Nat}(h:subB s e)(he:e<2^n):s<2^n:=by
 refine Nat.lt_pow_two_of_testBit _ fun i hi=>?_;cases hb:s.testBit i with
 |false=>rfl
 | true =>
   have:=h i hb;rw[zAL (zAP he (zAN (by omega) hi))]at this
   cases this
end Sh
end
section
theorem ycef{kind:Int}{b:Int×Int}(hb:b.1<=b.2)(h3:kind=3->b.1 <= -1 /\ -1<=b.2)(x:Int):b.1<=ylf kind b x/\ylf kind b x<=b.2:=by
 unfold ylf;split
 .assumption
 .split
  .exact h3 (by assumption)
  .split<;>omega
namespace Sh
theorem ycii{p:ProgT}{g:Gr}(hg:ybg g)(hp:p.ok=true)(hf:ybcq p g=true){x:VarR}(hx:x∈p.vars)(v:Nat):(ybo g v x).1<=(ybo g v x).2/\(x.kind=3->(ybo g v x).1 <= -1 /\ -1<=(ybo g v x).2):=by
 have h1:=List.all_eq_true.1 hf x hx;have hp':=hp;unfold ProgT.ok at hp';simp only[zF,decide_eq_true_eq]at hp';have hxo:=ybpt (List.all_eq_true.1 hp'.1.1.2 _ hx);rcases hxo.1 with h|h|h
 .have e:ybo g v x=ybo g 0 x:=by unfold ybo;rw[if_pos h,if_pos h]
  rw[e];simp[h]at h1;exact⟨h1.1,fun q=>by omega⟩
 .unfold ybo;rw[if_neg (by omega),if_pos h]
  exact⟨by decide,fun q=>by omega⟩
 .unfold ybo;rw[if_neg (by omega),if_neg (by omega),if_pos h]
  exact⟨by simp only[];omega,fun _=>⟨by simp only[];omega,by simp only[];omega⟩⟩
theorem ybqh{p:ProgT}{g:Gr}(hg:ybg g)(hp:p.ok=true)(hf:ybcq p g=true){v:Nat}{s:List Int}(hs:yih (p.vars.map (ybo g v)) s){a:Int}(ha:0<=a/\a<p.vars.length)(y:Int) :
 yih (p.vars.map (ybo g v)) (s.set a.toNat (ylf (p.vars.getD a.toNat default).kind (ybo g v (p.vars.getD a.toNat default)) y)):=by
 refine⟨by rw[List.length_set];exact hs.1,fun i b x hb hx=>?_⟩
 by_cases q:a.toNat=i
 .subst q;have hlt:a.toNat<p.vars.length:=by omega
  rw[List.getElem?_map,zO hlt]at hb;cases hb
  have hl:a.toNat<s.length:=by rw[hs.1,zAW];exact hlt
  rw[zX hl]at hx;cases hx
  rw[getD_at hlt];obtain⟨h1,h2⟩:=ycii hg hp hf (zK hlt) v;exact ycef h1 h2 y
 .rw[zAB q]at hx;exact hs.2 i b x hb hx
theorem yvj{p:ProgT}{g:Gr}(hg:ybg g)(hp:p.ok=true)(hf:ybcq p g=true)(c:Conf)(v:Nat):∀(sets:List (Int×Ex)) (s:List Int),(∀a∈sets,0<=a.1/\a.1<p.vars.length)->yih (p.vars.map (ybo g v)) s->yih (p.vars.map (ybo g v)) (yqw p g c v s sets)
 |[],s,_,hs=>hs
 | a::sets,s,ha,hs=>by
   show yih _ (yqw p g c v (s.set _ _) sets);exact yvj hg hp hf c v sets _ (fun x hx=>ha x (zAO _ hx)) (ybqh hg hp hf hs (ha a zAQ) _)
theorem yix{p:ProgT}{g:Gr}(hg:ybg g)(hp:p.ok=true)(hf:ybcq p g=true){c:Conf}(hc:yev p g c=true)(s:Nat):yev p g (yei p g c s)=true:=by
 have h:=(yfk _ _ _).1 hc;refine(yfk _ _ _).2 ⟨by rw[ykc];exact h.1,fun v st hst=>?_⟩
 have hv:v<c.length:=by
  have:=(List.getElem?_eq_some_iff.1 hst).1
  rwa [ykc]at this
 have e:st=(yei p g c s).getD v []:=by simp[zI,hst]
 rw[ynq p g c s hv]at e;have hold:=h.2 v (c.getD v []) (by rw[getD_at hv];exact zO hv)
 rw[e];split
 .unfold yiz;refine yvj hg hp hf c v _ _ (fun a ha=>?_) hold;have hp':=hp;unfold ProgT.ok at hp';simp only[zF,decide_eq_true_eq]at hp'
  by_cases hr:(ydw p g c v).toNat<p.rules.length
  .rw[getD_at hr]at ha;have hok:=List.all_eq_true.1 hp'.2 _ (zK hr);unfold RuleT.ok at hok;simp only[zF,decide_eq_true_eq]at hok;have:=List.all_eq_true.1 hok.2 a ha;simp only[zF,decide_eq_true_eq]at this;exact this.1.1
  .have:p.rules.getD (ydw p g c v).toNat default=default:=by simp[zI,zZ (Nat.le_of_not_lt hr)]
   rw[this]at ha;cases ha
 .exact hold
theorem yoq(p:ProgT)(g:Gr)(c:Conf):ybj p g c<2^g.ids.length:=ybko _ _
end Sh
end
section
namespace Sh
open Ev Go.RowKit
def TT:(Nat->Option ABlk)->Value->Prop:=fun _ _=>True
def yey(p:ProgT)(g:Gr):SV:=.ex TT (.rf (yiw p.raw g))
section
variable {Q1 Q2:(Nat->Option ABlk)->Value->Prop}{p:ProgT}{g:Gr}
end
end Sh
end
section
namespace Sh
open Ev Go.RowKit
theorem Returns.exT{P:Program}{g:FuncId}{args:List SV}{r:SV}(h:Returns P g args r):Returns P g args (.ex TT r):=fun G m us h1 h2 h3=>by
 obtain⟨v,m',x,a,b,c,d,e⟩:=h G m us h1 h2 h3;exact⟨v,m',.ex TT r,a,b,c,rfl,.ex trivial (fun _ _ _ _ _=>trivial) (d▸e)⟩
section
variable {Q1 Q2:(Nat->Option ABlk)->Value->Prop}{p:ProgT}{g:Gr}
def yhx(l:List Conf):SV:=.sl 1 l.length (fun i=>[ycm (l.getD i [])])
def ynk(l:List Cnt):SV:=.sl 5 l.length (fun i=>cntV (l.getD i default))
end
end Sh
end
section
def ydi(v m:Int):Int:=if m<1 then 0 else v%m
def atP(l:List Int)(i:Nat):Int:=l.getD i 0
theorem yfx{v m:Int}(h:1<=m):0<=ydi v m/\ydi v m<m:=by
 unfold ydi;rw[if_neg (by omega)]
 exact⟨zAK _ (by omega),zAE _ (by omega)⟩
namespace Sh
open Ev Go.RowKit
theorem ybla{v m:Int}(h:1<=m):(if v.tmod m<0 then v.tmod m+m else v.tmod m)=v%m:=by
 have h1:=Int.emod_add_mul_ediv v m;have h2:=zAK v (show m≠0 by omega)
 have h3:=zAE v (show 0<m by omega)
 have h4:=Int.tmod_eq_emod (a:=v) (b:=m);have h5:(m.natAbs:Int)=m:=by omega
 rw[h4]
 by_cases q:0<=v\/m ∣ v
 .simp only[if_pos q,zJ,Int.sub_zero];rw[if_neg (by omega)]
 .simp only[if_neg q,h5];rw[if_pos (by omega)]
  omega
theorem yfw(v m:Int)(hm:m<=4611686018427387904)(hv:inK .i64 v):Returns zG 49 [.i .i64 v,.i .i64 m] (.i .i64 (ydi v m)):=by
 refine Returns.of (ydgk _ _ ?_);simp only[c49,yduc,ydsg,ydiu,ydhb,ydmo,ydtc,ydih,yba,go_sem,zA,zB,↓reduceIte,reduceCtorEq];unfold ydi;refine⟨fun h=>by rw[if_pos h],fun h=>⟨by omega,fun h2=>?_,fun h2=>?_⟩⟩
 .have h3:=ybla (v:=v) (show 1<=m by omega)
  rw[if_pos h2]at h3;rw[if_neg h,h3];have h4:=zAK v (show m≠0 by omega)
  have h5:=zAE v (show 0<m by omega)
  exact⟨ikw (by omega) (by omega),rfl⟩
 .have h3:=ybla (v:=v) (show 1<=m by omega)
  rw[if_neg h2]at h3;rw[if_neg h,h3]
theorem at_ret(l:List Int)(i:Nat):Returns zG 50 [ybc l,.i .i64 i] (.i .i64 (atP l i)):=by
 refine Returns.of (ydov _ _ ?_);simp only[c50,ydnr,ydkr,ydjf,ydmt,ybc,yba,go_sem,zA,zB,↓reduceIte,reduceCtorEq];exact⟨fun h=>⟨by omega,rfl⟩,fun h=>by unfold atP;rw[zI,zZ (by omega)];rfl⟩
theorem ydji{α:Type}(l:List α)(x d:α)(i:Nat):(l++[x]).getD i d=if i<l.length then l.getD i d else if i=l.length then x else d:=by
 by_cases h:i<l.length
 .simp[zI,List.getElem?_append_left h,h]
 .by_cases e:i=l.length
  .subst e;simp[zI]
  .rw[if_neg h,if_neg e,zI,zZ (by simp;omega)]
   rfl
end Sh
end
section
namespace Sh
open Ev Go.RowKit
section
variable {p:ProgT}{g:Gr}
end
end Sh
end
section
namespace Sh
open Ev Go.RowKit
def blV(l:List Bool):SV:=.sl 1 l.length (fun k=>[.b (l.getD k false)])
def ycgs(l:List Bool)(k:Nat):Bool:=(l.take k).any id
structure HeldOk(legit:List Bool)(ks:List Cnt)(rounds moves:Int)(ended:Bool):Prop where
 len:legit.length=ks.length
 pos:0<legit.length
 stays:∀i,i<legit.length->ycgs legit i=true->legit.getD i false=true
 rounds:∀i,i<legit.length->ycgs legit (i+1)=false->((ks.getD i default).begun:Int)<=rounds
 moves:∀i,i<legit.length->ycgs legit (i+1)=false->0<=moves->((ks.getD i default).moves:Int)<=moves
 ends:ycgs legit legit.length=true\/ended=false
def ycnb(kind:Int)(fair silent:Bool)(rounds moves:Int):List SV:=[.i .i64 kind,.b fair,.b silent,.i .i64 rounds,.i .i64 moves]
end Sh
end
section
namespace Sh
open Ev Go.RowKit
theorem ycgb{n nv:Nat}{c:Conf}(h:ConfIn n nv c):ybqf c:=fun s hs x hx=>by
 have:=(h.row s hs).2 x hx;unfold InB at this;exact ygj (by omega)
end Sh
end
section
namespace Sh
open Go Ev
end Sh
end
section
namespace Sh
open Ev Go.RowKit
end Sh
end
section
namespace Sh
open Go Ev Go.RowKit
section
variable {m:Mem}{F:AM}
theorem row_of{z bk p n cp N e zz:Nat}{Tb:Ev.T Value}{L:Nat->List Value}(h1:m.b.get bk=some (.cells Tb N e zz))(h2:0<n)(h3:p+n*z<=N)(h4:∀a,a<n->(L a).length=z)(h5:∀a,a<n->∀j,j<z->Tb.get (p+a*z+j)=(L a)[j]?) :
 rowOf m z (.slice (some ⟨bk,p,none⟩) n cp)=some (ych L n,[bk]):=by
 have hl:=ycl h4;show(bif zBD n 0 then _ else _)=_;rw[show zBD n 0=false by cases n with|zero=>omega|succ n=>rfl]
 simp only[cond_false];rw[h1];simp only;rw[zT h3];simp only[cond_true]
 have hg:=yhj (T:=Tb) (L:=ych L n) (o:=p) (fun j hj=>by
  rw[hl]at hj;rcases zAF z with hz|hz
  .subst hz;omega
  .have hd:=Nat.div_add_mod j z;have hm:=Nat.mod_lt j hz;have hk:j/z<n:=Nat.div_lt_of_lt_mul (by rwa [zBB]at hj)
   have e1:j=j/z*z+j%z:=by rw[zBB];exact hd.symm
   rw[e1,ygg h4 _ _ hk hm,<-Nat.add_assoc];exact h5 _ hk _ hm)
 rw[hl]at hg;rw[hg]
theorem row_zero{u:Value}(h:Z0 u)(z:Nat):rowOf m z u=some ([],[]):=by
 rcases h with rfl|⟨b,o,c,rfl⟩
 .rfl
 .rfl
theorem in64{n:Int}(h:I64 n):inI64 n=true:=by
 unfold I64 at h;unfold inI64;split
 .rename_i k;exact zT (by simp only[Int.ofNat_eq_natCast]at h;omega)
 .rename_i k;exact zT (by omega)
theorem yqf{a b:Int}(ha:I64 a)(hb:I64 b):∀{l:List Value}{r:List (Int×Int)},pairsOf l=some r->pairsOf (l++[.int .i64 a,.int .i64 b])=some (r++[(a,b)])
 | [],r,h=>by
   cases h
   show(bif inI64 a&&inI64 b then _ else _)=_;rw[in64 ha,in64 hb];rfl
 | .int .i64 x :: .int .i64 y::l,r,h=>by
   unfold pairsOf at h;split at h
   .rename_i r' hr
    rw[Bool.cond_eq_ite]at h;split at h
    .rename_i hc
     cases h
     show(match pairsOf (l++[.int .i64 a,.int .i64 b])with|some r=>bif inI64 x&&inI64 y then some ((x,y)::r)else none|none=>none)=_
     rw[yqf ha hb hr];simp only[hc,cond_true];rfl
    .cases h
   .cases h
theorem ywc(hF:Le F m.b.get){ls:List (Int×Int)}{u:Value}(h:RV F om0 (ybb ls) u)(hI:∀l∈ls,I64 l.1/\I64 l.2):linksOf m u=some ls:=by
 unfold linksOf;rcases h.sl_inv with⟨h0,hz⟩|⟨bk,p,cp,T,N,e,zz,L,rfl,g1,g2,g3,g4,g5,g6,g7⟩
 .rw[row_zero hz];have:ls=[]:=zQ h0;subst this;rfl
 .rcases zAF ls.length with h0|h0
  .have:ls=[]:=zQ h0;subst this;rfl
  .rw[row_of (hF _ _ g1) h0 g3 g4 g5]
   have:∀n,n<=ls.length->pairsOf (ych L n)=some (ls.take n):=by
    intro n
    induction n with
    |zero=>intro _;rfl
    | succ n ih =>
      intro hn;have hn':n<ls.length:=by omega
      have hl:=g6 n hn'
      have e1:L n=[.int .i64 ls[n].1,.int .i64 ls[n].2]:=by
       have e0:ls.getD n (0,0)=ls[n]:=by simp[zI,hn']
       rw[e0]at hl;obtain⟨x,y,e2,hx,hy⟩:=rvl2 hl;rw[e2,hx.int_inv,hy.int_inv]
      show pairsOf (ych L n++L n)=_;rw[e1,zL hn'];have:=hI ls[n] (zK hn');exact yqf this.1 this.2 (ih (by omega))
   simp only;rw[this _ (zS _),zAI]
theorem ybuh{α β:Type}{f:α->Option β}:∀{l:List α}{r:List β},l.length=r.length->(∀(k:Nat) x y,l[k]?=some x->r[k]?=some y->f x=some y)->mapO f l=some r
 |[],[],_,_=>rfl
 | x::l,y::r,hl,h=>by
   unfold mapO;rw[h 0 x y rfl rfl];simp only;rw[ybuh (by simpa using hl) fun k a b h1 h2=>h (k+1) a b (by simpa using h1) (by simpa using h2)]
 |[],_::_,hl,_=>by simp at hl
 |_::_,[],hl,_=>by simp at hl
theorem ybcb{L:Nat->List Value}{n:Nat}(h:∀a,a<n->(L a).length=1){k:Nat}(hk:k<n):(ych L n)[k]?=(L k)[0]?:=by
 have:=ygg h k 0 hk (by omega)
 simpa using this
theorem ybpp{ids:SV}{P:List (List (Int×Int))}{u:Value}(h:RV F om0 (.rf [ids,yu P]) u)(hI:∀ls∈P,∀l∈ls,I64 l.1/\I64 l.2) :
 ∃A v us,u = .pointer (some A)/\∀m:Mem,Le F m.b.get->graphOf m A=some ⟨v,us,P⟩:=by
 obtain⟨bk,p,T,N,e,zz,L,rfl,h1,h2,h3,h4,_⟩:=h.rf_inv;cases h4 with
 | cons a0 b0 =>
   cases b0 with
   | cons a1 b1 =>
     rename_i u0 _ u1 _
     cases b1
     have hbox:∀m:Mem,Le F m.b.get->boxPorts m ⟨bk,p,none⟩=some u1:=fun m hF=>by
      unfold boxPorts;simp only;rw[hF _ _ h1];simp only;rw[show Nat.blt (p+1) N=true from zT (show p+1+1<=N by simp at h2;omega)]
      simp only[cond_true];exact h3 1 (by simp)
     have fin:∀(us:List Value) (ft:List Nat),(∀m:Mem,Le F m.b.get->rowOf m 1 u1=some (us,ft))->us.length=P.length->(∀(k:Nat) x y,us[k]?=some x->P[k]?=some y->RV F om0 (ybb y) x) ->
      ∃A v us,Value.pointer (some ⟨bk,p,none⟩) = .pointer (some A)/\∀m:Mem,Le F m.b.get->graphOf m A=some ⟨v,us,P⟩:=fun us ft hr hl hx=>by
      refine⟨_,u1,us,rfl,fun m hF=>?_⟩;unfold graphOf;rw[hbox m hF];show ob (rowOf m 1 u1) _=_;rw[hr m hF];show ob (mapO (linksOf m) us) _=_;rw[ybuh hl fun k x y q1 q2=>ywc hF (hx k x y q1 q2) (hI y (List.mem_of_getElem? q2))];rfl
     rcases a1.sl_inv with⟨k0,hz⟩|⟨bk',p',cp,T',N',e',zz',L',rfl,g1,g2,g3,g4,g5,g6,g7⟩
     .have:P=[]:=zQ k0;subst this;exact fin [] [] (fun m _=>row_zero hz 1) rfl (fun k x y q _=>by simp at q)
     .rcases zAF P.length with h0|h0
      .have:P=[]:=zQ h0;subst this;exact fin [] [] (fun m _=>rfl) rfl (fun k x y q _=>by simp at q)
      .refine fin (ych L' P.length) [bk'] (fun m hF=>row_of (hF _ _ g1) h0 g3 g4 g5) (by rw[ycl g4,Nat.mul_one]) fun k x y q1 q2=>?_
       have hk:k<P.length:=(List.getElem?_eq_some_iff.1 q2).1;rw[ybcb g4 hk]at q1;have hl:=g6 k hk;have e0:P.getD k []=y:=by simp[zI,q2]
       rw[e0]at hl;obtain⟨v,e1,hv⟩:=rvl1 hl;rw[e1]at q1;cases q1
       exact hv
end
def yec(P:List (List (Int×Int)))(k:Nat):El:=(flatAt 0 P).getD k ⟨0,0,0⟩
def ybzn(P:List (List (Int×Int))):ItS:=⟨(flatAt 0 P).length,fun k=>[.i .i64 (yec P k).v,.ag [.i .i64 (yec P k).a,.i .i64 (yec P k).b]],[],fun _ _=>True,fun _ o=>o⟩
theorem ychp{ids:SV}{P:List (List (Int×Int))}(hI:∀ls∈P,∀l∈ls,I64 l.1/\I64 l.2):ItC zG 122 [.rf [ids,yu P]] (ybzn P):=by
 intro lo F ω s f m us hc hr _;obtain⟨u,rfl,hu⟩:=rvl1 hr
 have hu0:RV F om0 (.rf [ids,yu P]) u:=by
  obtain⟨bk,p,T,N,e,zz,L,rfl,h1,h2,h3,h4,h5⟩:=hu.rf_inv;exact .rf h1 h2 h3 h4 h5
 obtain⟨A,v,vs,rfl,hg⟩:=ybpp hu0 hI;have el0:∀k,k<(flatAt 0 P).length->(flatAt 0 P)[k]?=some (yec P k):=fun k hk=>by simp[yec,zI,hk]
 refine⟨⟨(flatAt 0 P).length,fun k=>[(yec P k).v0,(yec P k).v1],fun _ m=>graphOf m A=some ⟨v,vs,P⟩,fun _ m=>m,fun _ _ M w M' w'=>M'=M/\w'=w⟩,⟨yzf.1,fun k m hk hw _=>Grow.refl hw,?_,?_⟩,rfl,fun F' ω' s' f' m' k hF _ hc' hk _=>⟨hg m' (hF.trans hc'.sub),fun hk=>⟨.cons .i (.cons (.ag (.cons .i (.cons .i .nil))) .nil),hc'⟩⟩⟩
 .rintro k φ M w m M' w' hk hw hR hs hp ⟨rfl,rfl⟩;exact Good.refl hR hs
 .intro l St Stop φ M w cap' hread hgrow hyield h0 hcap;obtain⟨box,rfl,hbox⟩:=yfs hcap;refine CallsIn.mono (yzf.2 l A ⟨v,vs,P⟩ (fun pre φ' M' w'=>φ.le φ'/\(∃post,flatAt 0 P=pre++post)/\St pre.length φ' M' w') Stop φ M w box ?_ ?_ ?_ ⟨φ.le_refl,⟨_,rfl⟩,h0⟩ hbox) ?_
  .rintro pre φ' M' w' ⟨_,_,hst⟩;exact(hread _ _ _ _ hst).2
  .rintro pre φ' M' w' w'' ⟨h1,h2,hst⟩ hb;exact⟨h1,h2,hgrow _ _ _ _ _ hst hb⟩
  .rintro pre x post φ' M' w' ⟨h1,_,hst⟩ hfl;have hfl:flatAt 0 P=pre++x::post:=hfl;have hk:pre.length<(flatAt 0 P).length:=by rw[hfl];simp
   have ex:yec P pre.length=x:=by
    have:=el0 _ hk;rw[hfl,List.getElem?_append_right (zS _)]at this
    simpa using this.symm
   obtain⟨fn,tmps,asg,bd,hy1,hy2⟩:=hyield pre.length φ' M' w' [x.v0,x.v1] hk hst (by
    show VRL φ' [(yec P pre.length).v0,(yec P pre.length).v1] _;rw[ex];exact .cons (.simple rfl) (.cons (VR.atomA (v:=x.v1) rfl) .nil))
   refine⟨fn,tmps,asg,bd,hy1,hy2.mono ?_⟩
   .rintro e w'' (⟨he,φ'',M'',h3,_,h4⟩|h)
    .refine .inl ⟨he,φ'',M'',h3,Phi.le_trans h1 h3,⟨post,by rw[hfl];simp⟩,?_⟩
     rw[List.length_append];exact h4 M'' w'' ⟨rfl,rfl⟩
    .exact .inr h
  .rintro e w' ⟨h1,(⟨φ',M',_,_,hst⟩|h)⟩
   .exact⟨h1,.inl ⟨φ',M',hst⟩⟩
   .exact⟨h1,.inr h⟩
end Sh
end
section
namespace Sh
open Go Ev
def ydlb:LO:=[o3 (.box 27 (.tmp 0)) 1 0,o3 (.mv (.const (.nilFunc))) 2 0]
def ydsp:LO:=[o3 (.mkfn 122 [] [(.tmp 1)]) 3 0,mv' 3 2 1]
def c53:SC:=(.seq (.reg false ydlb) (.seq (.reg false ydsp) .ret))
theorem ydrx:Fn 53 c53 [.t 2]:=fn_0 Tryz.func53 (by kernel_rfl) (by kernel_rfl)
end Sh
end
section
structure Tgt(S:Sys)(V:Conf->Prop)(T:Conf->Nat->List Int):Prop where
 valid:∀c s,V c->s≠0->subB s (S.en c)->V (S.mv c s)
 stay:∀c s v,V c->v<S.n->s.testBit v=false->(S.mv c s).getD v []=c.getD v []
 move:∀c s v,V c->v<S.n->s.testBit v=true->subB s (S.en c)->(S.mv c s).getD v []=T c v
 en:∀c v,V c->v<S.n->((S.en c).testBit v=false↔c.getD v []=T c v)
end
section
open Go.RowKit
end
section
def yud(g:Gr):Nat:=(g.ports.map zAT).sum
def addL(back:Bool)(l:List (Int×Int))(x:Int×Int):List (Int×Int):=if back then x::l else l++[x]
theorem yeo{back:Bool}{l:List (Int×Int)}{x y:Int×Int}:y∈addL back l x↔y=x\/y∈l:=by
 unfold addL;cases back<;>simp[or_comm]
def ycs(back:Bool)(g:Gr)(a b:Nat)(w:Int):Gr:=⟨g.ids,(g.ports.set a (addL back (g.ports.getD a []) (b,w))).set b (addL back (g.ports.getD b []) (a,w))⟩
theorem yea(back:Bool)(g:Gr){a b:Nat}(w:Int)(ha:a<g.ports.length)(hb:b<g.ports.length)(v:Nat) :
 (ycs back g a b w).ports.getD v []=if v=b then addL back (g.ports.getD b []) (a,w)else if v=a then addL back (g.ports.getD a []) (b,w)else g.ports.getD v []:=by
 unfold ycs;simp only[zI]
 by_cases h1:v=b
 .subst h1;rw[if_pos rfl,zX (by simpa using hb)]
  rfl
 .rw[if_neg h1,zAB (fun q=>h1 q.symm)]
  by_cases h2:v=a
  .subst h2;rw[if_pos rfl,zX ha];rfl
  .rw[if_neg h2,zAB (fun q=>h2 q.symm)]
theorem yqd{back:Bool}{l:List (Int×Int)}{v n:Int}{x:Int×Int}(h:ydh l v n)(hx:yob v n x)(hno:∀y∈l,y.1≠x.1):ydh (addL back l x) v n:=by
 refine⟨fun y hy=>?_,?_⟩
 .rcases yeo.1 hy with rfl|hy
  .exact hx
  .exact h.1 y hy
 .have hn:x.1∉l.map (·.1):=fun hm=>by
   obtain⟨y,hy,e⟩:=List.mem_map.1 hm;exact hno y hy e
  unfold addL;cases back
  .simp only[Bool.false_eq_true,if_false,List.map_append,zBA,List.map_nil];rw[List.nodup_append];refine⟨h.2,by simp,fun p hp q hq=>?_⟩
   rw[List.mem_singleton]at hq;subst hq;intro e;exact hn (e▸hp)
  .simp only[if_true,zBA];exact List.nodup_cons.2 ⟨hn,h.2⟩
theorem ybdf{back:Bool}{g:Gr}(hg:ybg g){a b:Nat}{w:Int}(ha:a<g.ports.length)(hb:b<g.ports.length)(hab:a≠b)(hw:1<=w/\w<=15)(hno:∀y∈g.ports.getD a [],y.1≠(b:Int)):ybg (ycs back g a b w):=by
 obtain⟨h1,h2,h3,h4,h5,h6,h7⟩:=hg;have hlen:(ycs back g a b w).ports.length=g.ports.length:=by simp[ycs]
 have gd:∀(v:Nat) (hv:v<g.ports.length),g.ports.getD v []=g.ports[v]:=fun v hv=>by simp[zI,hv]
 have hno2:∀y∈g.ports.getD b [],y.1≠(a:Int):=fun y hy e=>by
  rw[gd b hb]at hy;have:=h7 ⟨b,hb⟩ y hy;rw[e,zM]at this;exact hno _ this rfl
 have at_:∀(v:Nat) (hv:v<g.ports.length),(ycs back g a b w).ports[v]'(by rw[hlen];exact hv)=if v=b then addL back (g.ports.getD b []) (a,w)else if v=a then addL back (g.ports.getD a []) (b,w)else g.ports.getD v []:=fun v hv=>by
  rw[<-yea back g w ha hb v];simp[zI,hlen,hv]
 refine⟨by rw[hlen];exact h1,by rw[hlen];exact h2,by rw[hlen];exact h3,h4,h5,fun v=>?_,fun v l hl=>?_⟩
 .have hv:v.1<g.ports.length:=zAR v.isLt hlen;have hl':(((ycs back g a b w).ports.length:Nat):Int)=(g.ports.length:Int):=by rw[hlen]
  rw[hl'];show ydh ((ycs back g a b w).ports[v.1]) _ _;rw[at_ v.1 hv];split
  .rename_i e
   rw[e];refine yqd ?_ ⟨by simp only[];omega,by simp only[];omega,by simp only[];omega,hw.1,hw.2⟩ hno2
   rw[gd b hb];exact h6 ⟨b,hb⟩
  .split
   .rename_i e
    rw[e];refine yqd ?_ ⟨by simp only[];omega,by simp only[];omega,by simp only[];omega,hw.1,hw.2⟩ hno
    rw[gd a ha];exact h6 ⟨a,ha⟩
   .rw[gd v.1 hv];exact h6 ⟨v.1,hv⟩
 .have hv:v.1<g.ports.length:=zAR v.isLt hlen
  change l∈(ycs back g a b w).ports[v.1]at hl
  rw[at_ v.1 hv]at hl
  have old:∀u x,x∈g.ports.getD u []->x∈(ycs back g a b w).ports.getD u []:=fun u x hx=>by
   rw[yea back g w ha hb u];split
   .rename_i e;subst e;exact yeo.2 (.inr hx)
   .split
    .rename_i e;subst e;exact yeo.2 (.inr hx)
    .exact hx
  have sym:∀(u:Nat) (hu:u<g.ports.length),l∈g.ports.getD u []->((u:Int),l.2)∈(ycs back g a b w).ports.getD l.1.toNat []:=fun u hu hx=>by
   rw[gd u hu]at hx;exact old _ _ (h7 ⟨u,hu⟩ l hx)
  split at hl
  .rename_i e
   rcases yeo.1 hl with rfl|hl
   .rw[yea back g w ha hb,e];simp only[zM];simp only[if_neg hab,if_true];exact yeo.2 (.inl rfl)
   .rw[e];exact sym b hb hl
  .split at hl
   .rename_i e
    rcases yeo.1 hl with rfl|hl
    .rw[yea back g w ha hb,e];simp only[zM];simp only[if_true];exact yeo.2 (.inl rfl)
    .rw[e];exact sym a ha hl
   .exact sym v.1 hv hl
end
section
def Tre(g:Gr)(m:Nat):Prop:=∀v,0<v->v<m->∃u,u<v/\adj g u v
theorem Tre.walk{g:Gr}{m:Nat}(h:Tre g m):∀v,v<m->∃k,Walk g 0 k v:=by
 intro v
 induction v using Nat.strongRecOn with
 | _ v ih =>
   intro hv
   by_cases h0:v=0
   .subst h0;exact⟨0,rfl⟩
   .obtain⟨u,hu,ha⟩:=h v (by omega) hv
    obtain⟨k,hk⟩:=ih u hu (by omega)
    exact⟨k+1,u,hk,ha⟩
theorem Tre.conn{g:Gr}(hg:ybg g)(h:Tre g g.ports.length):ybwk g=true:=by
 unfold ybwk;rw[(yha g).2 hg,Bool.true_and,ydcb hg (a:=0) (by have:=hg.1;omega)]
 exact h.walk
theorem ylp{g:Gr}{u v:Nat}:adj g u v↔∃l,l∈g.ports.getD u []/\l.1=(v:Int):=by
 constructor
 .rintro⟨ls,h,l,hl,e⟩;exact⟨l,by simpa[zI,h]using hl,e⟩
 .rintro⟨l,hl,e⟩;cases h:g.ports[u]? with
  |none=>simp[zI,h]at hl
  |some ls=>exact⟨ls,h,l,by simpa[zI,h]using hl,e⟩
theorem ybga{back:Bool}{g:Gr}{a b:Nat}{w:Int}(ha:a<g.ports.length)(hb:b<g.ports.length){u v:Nat}(h:adj g u v):adj (ycs back g a b w) u v:=by
 obtain⟨l,hl,e⟩:=ylp.1 h;refine ylp.2 ⟨l,?_,e⟩;rw[yea back g w ha hb u];split
 .rename_i q;subst q;exact yeo.2 (.inr hl)
 .split
  .rename_i q;subst q;exact yeo.2 (.inr hl)
  .exact hl
theorem ybhs{back:Bool}{g:Gr}{a b:Nat}{w:Int}(ha:a<g.ports.length)(hb:b<g.ports.length)(hab:a≠b):adj (ycs back g a b w) a b:=by
 refine ylp.2 ⟨((b:Int),w),?_,rfl⟩;rw[yea back g w ha hb a,if_neg hab,if_pos rfl];exact yeo.2 (.inl rfl)
theorem Tre.add{back:Bool}{g:Gr}{a b:Nat}{w:Int}(ha:a<g.ports.length)(hb:b<g.ports.length){m:Nat}(h:Tre g m):Tre (ycs back g a b w) m:=fun v h0 hv=>by
 obtain⟨u,hu,hadj⟩:=h v h0 hv;exact⟨u,hu,ybga ha hb hadj⟩
def bare(ids:List Int):Gr:=⟨ids,zAX ids.length []⟩
theorem ybdh{ids:List Int}(h1:1<=ids.length)(h2:ids.length<=24)(h3:∀x∈ids,0<=x/\x<=255)(h4:ids.Nodup):ybg (bare ids):=by
 have e:∀v:Fin (bare ids).ports.length,(bare ids).ports[v]=[]:=fun v=>by
  have hv:v.1<ids.length:=by have:=v.isLt;simpa[bare]using this
  show(zAX ids.length ([]:List (Int×Int)))[v.1]'(by simpa using hv)=[]
  exact List.getElem_replicate ..
 refine⟨by simpa[bare]using h1,by simpa[bare]using h2,by simp[bare],h3,h4,fun v=>?_,fun v l hl=>?_⟩
 .rw[e v];exact⟨fun l hl=>(nomatch hl),List.nodup_nil⟩
 .rw[e v]at hl;cases hl
end
section
abbrev ycbi:Ex:=.leaf 4 0
abbrev eVar(k:Int):Ex:=.leaf 5 k
abbrev eQ(k:Int):Ex:=.leaf 12 k
theorem ybaf{α:Type}(g:Gr)(v:Nat)(f:Int×Int->α)(h:Nat->α)(e:∀q,q<(g.ports.getD v []).length->h q=f ((g.ports.getD v []).getD q (0,0))):(List.range (g.ports.getD v []).length).map h=(g.ports.getD v []).map f:=by
 refine List.ext_getElem (by simp) fun i h1 h2=>?_
 have hi:i<(g.ports.getD v []).length:=by simpa using h1
 rw[zAU,List.getElem_range,zAU,e i hi];congr 1;rw[List.getD_eq_getElem?_getD,zO hi];rfl
def endP(c:Conf)(k:Nat)(l:Int×Int):Int:=(c.getD l.1.toNat []).getD k 0
theorem yte(b:Bool):(yfo b != 0)=b:=by cases b<;>rfl
section
variable {nm nd np nt nl:ByteArray}{g:Gr}{c:Conf}{v:Nat}
theorem bT1{x:ByteArray}:ybo g v ⟨x,1,0,0,1,0⟩=(0,0+1*(g.ids.length:Int)+0*maxI g.ids):=by
 show(if (1:Int)=1 then _ else _)=_
 rw[if_pos rfl]
end
end
section
section
variable {g:Gr}{a v:Nat}
theorem ypm{l:Int×Int}(hg:ybg g)(hv:v<g.ports.length)(hl:l∈g.ports.getD v []):0<=l.1/\l.1.toNat<g.ports.length/\adj g v l.1.toNat/\1<=l.2/\l.2<=15:=by
 have e:g.ports[v]?=some (g.ports.getD v []):=by simp[zI,hv]
 have h:=hg.link e hl;exact⟨h.1,by omega,⟨_,e,l,hl,by omega⟩,h.2.2.2.1,h.2.2.2.2⟩
theorem ybic{u:Nat}(h:adj g v u):∃l∈g.ports.getD v [],l.1.toNat=u:=by
 obtain⟨l,hl,e⟩:=ylp.1 h;exact⟨l,hl,by rw[e];simp⟩
end
section
variable {nm nd np nt nl:ByteArray}{g:Gr}
end
end
section
open Ev
theorem ybat:∀(ps:List (List (Int×Int))) (v:Nat) (x:El),x∈flatAt v ps->v<=x.v/\x.v<v+ps.length/\(x.a,x.b)∈ps.getD (x.v-v) []
 |[],_,_,h=>absurd h List.not_mem_nil
 | ls::l,v,x,h=>by
   rcases List.mem_append.1 h with h|h
   .obtain⟨y,hy,rfl⟩:=List.mem_map.1 h;refine⟨zS _,by simp,?_⟩
    simp only[Nat.sub_self,List.getD_cons_zero];exact hy
   .obtain⟨h1,h2,h3⟩:=ybat l (v+1) x h;refine⟨by omega,by simp only[List.length_cons];omega,?_⟩
    have e:x.v-v=(x.v-(v+1))+1:=by omega
    rw[e,List.getD_cons_succ];exact h3
theorem yry{g:Gr}(hg:ybg g){k:Nat}(hk:k<(flatAt 0 g.ports).length):(Sh.yec g.ports k).v<g.ports.length/\((Sh.yec g.ports k).a,(Sh.yec g.ports k).b)∈g.ports.getD (Sh.yec g.ports k).v []:=by
 have hm:Sh.yec g.ports k∈flatAt 0 g.ports:=by unfold Sh.yec;rw[Sh.getD_at hk];exact zK hk
 obtain⟨_,h2,h3⟩:=ybat _ _ _ hm;exact⟨by omega,by simpa using h3⟩
theorem ybrv{α:Type}{g:Gr}(f:α->El->α)(a:α){k:Nat}(hk:k<(flatAt 0 g.ports).length):((flatAt 0 g.ports).take (k+1)).foldl f a=f (((flatAt 0 g.ports).take k).foldl f a) (Sh.yec g.ports k):=by
 rw[zL hk,zAH];unfold Sh.yec;rw[Sh.getD_at hk];rfl
theorem ybxm{g:Gr}(hg:ybg g):∀ls∈g.ports,∀l∈ls,I64 l.1/\I64 l.2:=fun ls hls l hl=>by
 obtain⟨v,hv,e⟩:=zAC hls;have h24:=hg.2.1;have:g.ports.getD v []=ls:=by simp[zI,hv,e]
 obtain⟨h1,h2,_,h4,h5⟩:=ypm hg hv (by rw[this];exact hl)
 exact⟨Sh.ygj (by omega),Sh.ygj (by omega)⟩
end
section
namespace Sh
open Ev Go.RowKit
theorem ybqp{g:Gr}:Returns zG 53 [grV g] (.fn 122 [] [.rf [ybc g.ids,yu g.ports]]):=by
 refine Returns.of (ydrx _ _ ?_);simp only[c53,ydlb,ydsp,grV,clash,go_sem,zA,zB,zD,zC,↓reduceIte,reduceCtorEq];exact Sim.refl _
end Sh
end
section
namespace Sh
section
variable {nm nd np nt nl:ByteArray}{g:Gr}
end
end Sh
end
section
def ybcz(g:Gr)(s:Nat):Prop:=∀u v,adj g u v->s.testBit u=true->s.testBit v=false
structure ByRoundsC(S:Sys)(V:Conf->Prop)(D:Nat->Prop)(P:Nat->Nat->Conf->Prop):Prop where
 valid:∀c s,V c->s≠0->subB s (S.en c)->D s->V (S.mv c s)
 stay:∀c s v r r',r<=r'->r'<=r+1->V c->v<S.n->s.testBit v=false->subB s (S.en c)->D s->(∀u,u<S.n->P r u c)->P r' v c->P r' v (S.mv c s)
 move:∀c s v r,V c->v<S.n->s.testBit v=true->subB s (S.en c)->D s->(∀u,u<S.n->P r u c)->P (r+1) v (S.mv c s)
 rest:∀c v r,V c->v<S.n->(S.en c).testBit v=false->(∀u,u<S.n->P r u c)->P (r+1) v c
 less:∀r v c,P (r+1) v c->P r v c
structure RInvC(S:Sys)(V:Conf->Prop)(P:Nat->Nat->Conf->Prop)(c:Conf)(k:Cnt):Prop where
 valid:V c
 all:∀v,v<S.n->P k.rounds v c
 done:∀v,v<S.n->k.pend.testBit v=false->P (k.rounds+1) v c
 begun:k.begun<=k.rounds+1
section
variable {S:Sys}{V:Conf->Prop}{D:Nat->Prop}{P:Nat->Nat->Conf->Prop}
theorem ByRoundsC.start(h:ByRoundsC S V D P){c:Conf}(hv:V c)(h0:∀v,v<S.n->P 0 v c):RInvC S V P c (ysd (S.en c)) :=
 ⟨hv,h0,fun v hn hb=>h.rest c v 0 hv hn hb h0,by simp[ysd]⟩
theorem ByRoundsC.step(h:ByRoundsC S V D P)(c:Conf)(k:Cnt)(s:Nat)(hi:RInvC S V P c k)(h0:s≠0)(hs:subB s (S.en c))(hD:D s):RInvC S V P (S.mv c s) (addP k s (S.en (S.mv c s))):=by
 obtain⟨i1,i2,i3,i4⟩:=hi;have hv:=h.valid c s i1 h0 hs hD
 have hall:∀v,v<S.n->P k.rounds v (S.mv c s):=fun v hn=>by
  cases hb:s.testBit v with
  |true=>exact h.less _ _ _ (h.move c s v _ i1 hn hb hs hD i2)
  |false=>exact h.stay c s v _ _ (zS _) (zBC _) i1 hn hb hs hD i2 (i2 v hn)
 have hnext:∀v,v<S.n->(difB k.pend s&&&S.en (S.mv c s)).testBit v=false->P (k.rounds+1) v (S.mv c s):=fun v hn hb=>by
  rw[zAV,yyp]at hb;cases hb1:s.testBit v with
  |true=>exact h.move c s v _ i1 hn hb1 hs hD i2
  | false =>
    cases hb2:k.pend.testBit v with
    |false=>exact h.stay c s v _ _ (zBC _) (zS _) i1 hn hb1 hs hD i2 (i3 v hn hb2)
    | true =>
      rw[hb1,hb2]at hb;exact h.rest _ v _ hv hn (by simpa using hb) hall
 unfold addP;simp only
 by_cases hp:difB k.pend s&&&S.en (S.mv c s)=0
 .simp only[if_pos hp];have hall':∀v,v<S.n->P (k.rounds+1) v (S.mv c s):=fun v hn=>hnext v hn (by rw[hp];simp)
  exact⟨hv,hall',fun v hn hb=>h.rest _ v _ hv hn hb hall',by show k.rounds+1<=_;simp⟩
 .simp only[if_neg hp];exact⟨hv,hall,hnext,zS _⟩
end
end
end Go.Proofs.YthclbjjgfcgbgaaGreatDoor
