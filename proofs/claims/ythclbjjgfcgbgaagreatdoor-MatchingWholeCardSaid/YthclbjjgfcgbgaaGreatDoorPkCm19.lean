/- Joined. -/
import Derived.Test.YthclbjjgfcgbgaaGreatDoorPkCm18
set_option linter.unusedSimpArgs false
set_option linter.unusedVariables false
set_option maxRecDepth 8000
open Nat renaming reduceEqDiff->zA,reduceAdd->zB,reduceLT->zC,reduceBEq->zF,pow_le_pow_right->zG,reduceLeDiff->zH,zero_le->zI,lt_of_lt_of_le->zL,not_lt_zero->zQ,testBit_and->zW,testBit_two_pow->zX,le_refl->zY,testBit_lt_two_pow->zAC,le_trans->zAE,lt_trans->zAF,max_eq_right->zAI,max_eq_left->zAJ,mul_le_mul->zAK,le_total->zAL
open And renaming intro->zD
open Int renaming natCast_zero->zJ,lt_irrefl->zK,toNat_natCast->zO,reduceBNe->zU
open List renaming getD_eq_getElem?_getD->zM,length_map->zN,length_append->zT,getElem?_eq_getElem->zZ,getElem_mem->zAA,headD_cons->zAB,mem_cons_self->zAD,getElem?_map->zAG
open Classical renaming byContradiction->zS
open Go.Proofs.Tryz renaming prog->zV
open Bool renaming and_eq_true->zAH
open Go
namespace Go.Proofs.YthclbjjgfcgbgaaGreatDoor
section
def rkN(p:ProgT)(g:Gr)(d:Conf):Nat:=(rkT (tabP p g) d).toNat
def yccp(perm:Nat->Bool)(p:ProgT)(g:Gr)(c:Conf):List (Nat×Nat):=(chP perm (ybj p g c)).map fun s=>(s,rkN p g (ydm p g c s))
namespace Sh
open Ev Go.RowKit
section
variable {Q1 Q2:(Nat->Option ABlk)->Value->Prop}{p:ProgT}{g:Gr}
theorem ybvb(h:Checked Q1 Q2 p g){c:Conf}(hc:yfs p g c=true){v:Nat}(hv:v<g.ids.length):inR ((tabP p g).getD v []) (yis p g c v (ydy p g c v).toNat):=by
 have h1:=yih.1 (yix h.hg h.hp h.hf hc (2^v));have hl:c.length=g.ids.length:=(yke.1 (yih.1 hc)).1.trans (yhb _ _ _);have h2:=(yke.1 h1).2 v (by rw[show(tabP p g).length=g.ids.length from yhb _ _ _];exact hv)
 rw[ynf p g c _ (by omega),if_pos (by rw[zX];simp)]at h2
 exact h2
set_option maxHeartbeats 8000000 in
theorem ybzm (h:Checked Q1 Q2 p g) (hT:TabOk (tabP p g)) {kind:Int}(hkd:kind=2\/kind=3) (hn4:g.ids.length<=4) {c:Conf}(hc:yfs p g c=true) {perm:Nat->Bool}
 (hperm:∀e s,e<2^g.ids.length->s≠0->s<16->s&&&e=s->Returns zV 171 [usV (g.ports.map netP),.i .i64 kind,.i .u32 (e:Nat),.i .u32 (s:Nat)] (.b (perm s))) :
 Cm zV 60 [(302,0)] (ybu 302 303 c.length fun j=>c.getD j []) [.rf (ydi p g (g.ports.map netP) kind (tabP p g)),.os (302,0) 0 c.length true,.i .i64 (rkN p g c:Nat)] fun r o =>
  r = .tp [.i .u32 (ybj p g c:Nat),ybk (yccp perm p g c),.i .i64 0]/\o=ybu 302 303 c.length fun j=>c.getD j []:=by
 refine ydjq [(302,0)] [129,127] _ _ _ ?_;have hid:=h.hg.2.2.1;have h24:=h.hg.2.1;have cin:=ybmf h.hg h.hp hc;have hci:=yih.1 hc;obtain⟨hcl,hcr⟩:=yke.1 hci;have htl:(tabP p g).length=g.ids.length:=yhb _ _ _;have hcl':c.length=g.ids.length:=hcl.trans htl;have hen:ybj p g c<16:=zL (ype p g c) (zG (by omega) hn4:2^g.ids.length<=2^4)
 have hrow:∀v,v<g.ids.length->∃bs,(tabP p g).getD v []=bs/\bs.length<=6/\(c.getD v []).length=bs.length/\(yis p g c v (ydy p g c v).toNat).length=bs.length/\((yep (tabP p g)).getD v []).length=bs.length /\
  ∀i,i<bs.length->(-1000000<=(c.getD v []).getD i 0/\(c.getD v []).getD i 0<=1000000)/\(-1000000<=(yis p g c v (ydy p g c v).toNat).getD i 0/\(yis p g c v (ydy p g c v).toNat).getD i 0<=1000000)/\(0<=((yep (tabP p g)).getD v []).getD i 0/\((yep (tabP p g)).getD v []).getD i 0<=32768):=fun v hv=>by
  have hv':v<(tabP p g).length:=by omega
  obtain⟨hr,hb⟩:=hT.at_ hv';obtain⟨h1,h2⟩:=ymo.1 (hcr v hv');obtain⟨h3,h4⟩:=ymo.1 (ybvb h hc hv);refine⟨_,rfl,hr.2,h1,h3,yty hv',fun i hi=>?_⟩;have a:=hb i hi;have b:=h2 i hi;have d:=h4 i hi;obtain⟨m,e1,e2⟩:=ybsz 1 hT.bd hv' hi;have e3:((yep (tabP p g)).getD v []).getD i 0=(m:Int):=e1;have e4:=hT.tot;rw[e3];omega
 have hgrTo:∀v,v<g.ids.length->∀x,x<=(c.getD v []).length -> -1000000000000<=sumI (fun i=>((yis p g c v (ydy p g c v).toNat).getD i 0-(c.getD v []).getD i 0)*((yep (tabP p g)).getD v []).getD i 0) x/\sumI (fun i=>((yis p g c v (ydy p g c v).toNat).getD i 0-(c.getD v []).getD i 0)*((yep (tabP p g)).getD v []).getD i 0) x<=1000000000000:=fun v hv x hx=>by
  obtain⟨bs,-,h1,h2,-,-,h3⟩:=hrow v hv;have:=ybhw (B:=65536000000) x fun i hi=>ycxf (a:=(yis p g c v (ydy p g c v).toNat).getD i 0-(c.getD v []).getD i 0) (b:=((yep (tabP p g)).getD v []).getD i 0) (by have:=h3 i (by omega);omega) (h3 i (by omega)).2.2
  have hx6:(x:Int)<=6:=by omega
  omega
 have hgeq:∀v,v<g.ids.length->¬ydy p g c v<0->ylm p g c v=sumI (fun i=>((yis p g c v (ydy p g c v).toNat).getD i 0-(c.getD v []).getD i 0)*((yep (tabP p g)).getD v []).getD i 0) (c.getD v []).length:=fun v hv hr=>by
  obtain⟨bs,-,h1,h2,h3,h4,-⟩:=hrow v hv;unfold ylm;rw[if_neg hr];exact ybsr (by omega) (by show((yep (tabP p g)).getD v []).length=_;omega)
 have hgrow:∀v,v<g.ids.length -> -1000000000000<=ylm p g c v/\ylm p g c v<=1000000000000:=fun v hv=>by
  by_cases hr:ydy p g c v<0
  .have:ylm p g c v=0:=if_pos hr;omega
  .rw[hgeq v hv hr];exact hgrTo v hv _ (zY _)
 have hRule:=fun v (hv:v<g.ids.length)=>ychn p h.hg h.hp cin (v:=v) (by omega)
 have hMove:=fun v (hv:v<g.ids.length) (r:Nat) (hr:r<p.rules.length)=>ycjj p h.hg h.hp cin (v:=v) (by omega) hr
 let bc:List SV:=ydi p g (g.ports.map netP) kind (tabP p g)
 let w:Nat->List Int:=fun j=>c.getD j []
 let K:Own:=ybu 302 303 c.length w
 let f:Nat->Bool:=fun j=>decide (ydy p g c j>=0)
 simp only[c60,ydqs,ydtp,ydmx,ydnb,ydi,ybu,clash,go_sem,zA,zB,zC,↓reduceIte,reduceCtorEq];refine ybf (σ:=Nat) (fun v=>⟨[(23,.i .i64 v),(22,.i .i64 (c.length:Nat)),(1,.os (302,0) 0 c.length true),(0,.rf bc),(9,.i .u32 (ymn f v:Nat)),(2,.i .i64 (rkN p g c:Nat)),(10,.pt (10,0) 0 0)],(10,.one (some ⟨150,true,1,24,fun j=>[.i .i64 (if j<v then ylm p g c j else 0)]⟩))::K⟩) (fun v=>v<=g.ids.length) (fun v=>g.ids.length-v) 0 (zI _) ?_ ?_
 .refine ybi [] [] [] ?_;simp only[K,ybu,ycq,bc,ydi,ycz,ybc,ymn,zQ,allQ,live,yc,zJ,go_sem,zA,zC,↓reduceIte,reduceCtorEq];exact⟨fun _ _ _ _ e=>e,fun i hi=>⟨Sim.refl _,by rw[if_pos hi]⟩,fun i b hb=>yds hb⟩
 .intro v hv
  by_cases hlt:v<g.ids.length
  .have d1 : decide ((v:Int)<(c.length:Int))=true:=by simp;omega
   have hrl:=ycgo p g c v;have hst:ymn f (v+1)=if f v=true then ymn f v|||2^v else ymn f v:=rfl
   have hsl:=ybmu f v;have h2v:2^v<=2^4:=zG (by omega) (by omega)
   have hR:=hRule v hlt
   by_cases hr:ydy p g c v<0
   .have d2:decide (ydy p g c v<0)=true:=decide_eq_true hr;have hf0:f v=false:=decide_eq_false (by omega)
    rw[hf0,if_neg (by decide)]at hst
    have hg0:ylm p g c v=0:=if_pos hr;simp only[ycgu,ydfq,ydde,ydgk,yceb,K,ybu,bc,ydi,yfd,d1,clash,go_sem,zA,zB,zH,zF,↓reduceIte,reduceCtorEq];refine .inl ⟨fun q hq=>?_,hR.useS ⟨ybbq _ _,?_,Sim.refl _,trivial⟩ (zD rfl ?_)⟩
    .simp only[ycq,if_pos hq];exact⟨zY _,fun _ _=>⟨trivial,trivial⟩⟩
    .unfold ycz;refine ydp fun q hq=>?_;simp only[ycq,if_pos hq];exact⟨⟨Sim.refl _,trivial⟩,rfl⟩
    simp only[ybh,d2,clash,go_sem,zA,zB,↓reduceIte,reduceCtorEq]
    repeat refine zD (by first|omega|decide|exact ikw (by omega) (by omega)) ?_
    refine yj (v+1) hlt (by omega) ?_
    refine ybi [] [] [] ?_;simp only[ycq,hst,allQ,live,yc,yx,go_sem,zA,zC,↓reduceIte,reduceCtorEq];refine⟨fun _ _ _ _ e=>e,by omega,fun j hj=>?_,fun i hi=>by rw[if_pos hi],fun i b hb=>yds hb⟩
    by_cases e:j<v
    .rw[if_pos e,if_pos (by omega)]
    .rw[if_neg e]
     by_cases e2:j=v
     .rw[if_pos (by omega),e2,hg0]
     .rw[if_neg (by omega)]
   .have d2:decide (ydy p g c v<0)=false:=decide_eq_false hr;obtain⟨r,hre⟩:∃r:Nat,ydy p g c v=(r:Int):=⟨(ydy p g c v).toNat,by omega⟩
    have hf0:f v=true:=decide_eq_true (by omega)
    rw[hf0,if_pos rfl]at hst;have hM:=hMove v hlt r (by omega)
    have hmi:=ybvb h hc hlt;rw[hre]at hR d2 hmi;rw[zO]at hmi;have hgT:=hgrTo v hlt;have hge:=hgeq v hlt hr;obtain⟨bs,-,w1,w2,w3,w4,w5⟩:=hrow v hlt;rw[hre,zO]at hgT hge w3 w5;have hpl:(yep (tabP p g)).length=g.ids.length:=(ybaj _ 1).trans htl;obtain⟨M,hMe⟩:∃M,yis p g c v r=M:=⟨_,rfl⟩;obtain⟨cv,hcve⟩:∃cv,c.getD v []=cv:=⟨_,rfl⟩;obtain⟨qv,hqve⟩:∃qv,(yep (tabP p g)).getD v []=qv:=⟨_,rfl⟩;rw[hMe]at hM hgT hge w3 w5
    rw[hcve]at hgT hge w2 w5;rw[hqve]at hgT hge w4 w5
    let gt:Nat->Int:=sumI (fun i=>(M.getD i 0-cv.getD i 0)*qv.getD i 0)
    have u1:=ybnd (v:=v) (by omega)
    have u2:=u32_or (a:=ymn f v) (b:=2^v) (by omega) (by omega)
    rw[<-hst]at u2;simp only[IntKind.bits,zO]at u1 u2;simp only[ycgu,ydfq,ydde,ydgk,K,ybu,bc,ydi,yfd,d1,clash,go_sem,zA,zB,zH,zF,↓reduceIte,reduceCtorEq];refine .inl ⟨fun q hq=>?_,hR.useS ⟨ybbq _ _,?_,Sim.refl _,trivial⟩ (zD rfl ?_)⟩
    .simp only[ycq,if_pos hq];exact⟨zY _,fun _ _=>⟨trivial,trivial⟩⟩
    .unfold ycz;refine ydp fun q hq=>?_;simp only[ycq,if_pos hq];exact⟨⟨Sim.refl _,trivial⟩,rfl⟩
    simp only[ybh,ydtt,ydwf,d2,u1,u2,clash,go_sem,zA,zB,zH,zF,↓reduceIte,reduceCtorEq]
    repeat refine zD (by first|omega|decide|exact ikw (by omega) (by omega)) ?_
    refine yco hM [(302,302),(303,303)] 400 [11,23,22,1,0,9,2,10] [10] ?_ ?_
    .simp only[ybu,ycq,to1,okN,yby,ydn,ycs,yck,allQ,live,yc,go_sem,zA,zB,zC,zF,↓reduceIte,reduceCtorEq];exact⟨fun _ _ _ _ e=>e,ybbq _ _,fun i hi=>⟨Sim.refl _,by rw[if_pos hi]⟩,fun i b hb=>yds hb⟩
    rintro r o' ⟨rfl,rfl⟩;simp only[ybu,ybc,yiq,yhr,nuF,nu,difN,ycs,yck,Fam.ren,OB.ren,dim,yyb,yfx,go_sem,zA,zB,zF,↓reduceIte,reduceCtorEq];refine ybf (σ:=Nat) (fun x=>⟨[(48,.i .i64 x),(47,.i .i64 (M.length:Nat)),(46,ybc M),(11,.i .i64 v),(23,.i .i64 v),(22,.i .i64 (c.length:Nat)),(1,.os (302,0) 0 c.length true),(0,.rf bc),(9,.i .u32 (ymn f (v+1):Nat)),(2,.i .i64 (rkN p g c:Nat)),(10,.pt (10,0) 0 0)],(10,.one (some ⟨150,true,1,24,fun j=>[.i .i64 (if j=v then gt x else if j<v then ylm p g c j else 0)]⟩))::K⟩) (fun x=>x<=M.length) (fun x=>M.length-x) 0 (zI _) ?_ ?_
    .refine ybi [] [] [] ?_;simp only[K,ybu,ycq,bc,ydi,ybc,allQ,live,yc,yx,zJ,go_sem,zA,zC,↓reduceIte,reduceCtorEq];refine⟨fun _ _ _ _ e=>e,Sim.refl _,fun i hi=>?_,fun i hi=>⟨Sim.refl _,by rw[if_pos hi]⟩,fun i b hb=>yjb (h':=nu [(302,302),(303,303)] 400) hb⟩
     have:gt 0=0:=rfl
     by_cases e:i=v
     .rw[if_pos e,if_neg (by omega),this]
     .rw[if_neg e]
    .intro x hx
     by_cases hlt2:x<M.length
     .have d3:=dec_lt hlt2;have hg1:=hgT x (by omega)
      have hg2:=hgT (x+1) (by omega)
      have hgs:gt (x+1)=gt x+(M.getD x 0-cv.getD x 0)*qv.getD x 0:=rfl
      change -1000000000000<=gt x/\gt x<=1000000000000 at hg1
      change -1000000000000<=gt (x+1)/\gt (x+1)<=1000000000000 at hg2
      obtain⟨y1,y2,y3⟩:=w5 x (by omega)
      obtain⟨Mx,hMx⟩:∃y,M.getD x 0=y:=⟨_,rfl⟩;obtain⟨cx,hcx⟩:∃y,cv.getD x 0=y:=⟨_,rfl⟩;obtain⟨qx,hqx⟩:∃y,qv.getD x 0=y:=⟨_,rfl⟩;rw[hMx,hcx,hqx]at hgs;rw[hMx]at y2;rw[hcx]at y1;rw[hqx]at y3;have hmb:=ycxf (a:=Mx-cx) (b:=qx) (by omega) y3
      have hvc:v<c.length:=by omega
      have hwv:w v=cv:=hcve;simp only[K,ybu,ycq,intO,if_pos hvc,hwv,ybwl,ycvf,ycol,ycvh,bc,ydi,ycz,ybc,d3,hqve,hMx,hcx,hqx,splice,clash,go_sem,zA,zB,↓reduceIte,reduceCtorEq]
      repeat refine zD (by first|omega|decide|exact ikw (by omega) (by omega)) ?_
      refine yj (x+1) hlt2 (by omega) ?_
      refine ybi [] [] [] ?_;simp only[allQ,live,yc,yx,go_sem,zA,zC,↓reduceIte,reduceCtorEq];refine⟨fun _ _ _ _ e=>e,by omega,fun i hi=>yfn ?_,fun i hi=>by rw[if_pos hi],fun i b hb=>yds hb⟩
      by_cases e:i=v
      .rw[if_pos e,if_pos e,hgs]
      .rw[if_neg e,if_neg e,if_neg e]
     .obtain rfl:x=M.length:=by omega
      simp only[K,ybu,ybwl,yceb,bc,ydi,ybc,zK,clash,go_sem,zA,zB,↓reduceIte,reduceCtorEq]
      repeat refine zD (by first|omega|decide|exact ikw (by omega) (by omega)) ?_
      refine yj (v+1) hlt (by omega) ?_
      refine ybi [] [] [] ?_;simp only[ycq,allQ,live,yc,yx,go_sem,zA,zC,↓reduceIte,reduceCtorEq];refine⟨fun _ _ _ _ e=>e,⟨by omega,Sim.refl _⟩,fun j hj=>?_,fun i hi=>by rw[if_pos hi],fun i b hb=>yds hb⟩
      by_cases e:j=v
      .rw[if_pos e,if_pos (by omega),e,hge]
       show sumI _ M.length=_;rw[show M.length=cv.length by omega]
      .rw[if_neg e]
       by_cases e2:j<v
       .rw[if_pos e2,if_pos (by omega)]
       .rw[if_neg e2,if_neg (by omega)]
  .obtain rfl:v=g.ids.length:=by omega
   have d1:decide (((g.ids.length:Nat):Int)<(c.length:Int))=false:=by simp;omega
   have hef:ymn f g.ids.length=ybj p g c:=rfl;obtain⟨en,hene⟩:∃e,ybj p g c=e:=⟨_,rfl⟩;have hsz:=ybil (net:=g.ports.map netP) hkd hen (fun s h1 h2 h3=>hperm _ s (ype p g c) h1 h2 h3);have hstep:=fun s (hs:subB s (ybj p g c)) (h2:s<2^g.ids.length)=>ydhh h.hg h.hp (fun c hc s=>yix h.hg h.hp h.hf hc s) hT.bd hc (by omega) hs h2
   have hmem:=fun s (hs:s∈chP perm (ybj p g c))=>yblg hs;rw[hef];rw[hene]at hsz hstep hmem hen ⊢;obtain⟨ch,hche⟩:∃l,chP perm en=l:=⟨_,rfl⟩;have harc:yccp perm p g c=ch.map fun s=>(s,rkN p g (ydm p g c s)):=by unfold yccp;rw[hene,hche]
   rw[harc];rw[hche]at hsz hmem;have hchl:ch.length<=16:=by rw[<-hche];exact ybba _ _ _
   simp only[usV]at hsz;simp only[K,ybu,ycgu,ycpw,bc,ydi,d1,clash,go_sem,zA,zB,zH,zF,↓reduceIte,reduceCtorEq];refine hsz.use ?_;simp only[ybh,ycsy,ycow,ycos,splice,clash,go_sem,zA,zB,zC,↓reduceIte,reduceCtorEq]
   repeat refine zD (by first|omega|decide|exact ikw (by omega) (by omega)) ?_
   let R:Nat->Nat:=fun s=>rkN p g (ydm p g c s)
   let u:Nat->Nat->Nat:=fun i j=>if j<i then ch.getD j 0 else 0
   let w:Nat->Nat->Int:=fun i j=>if j<i then(R (ch.getD j 0):Nat)else 0
   have hu0:∀j,u 0 j=0:=fun j=>if_neg (zQ j);have hw0:∀j,w 0 j=0:=fun j=>if_neg (zQ j)
   let G:OB:=⟨150,true,1,24,fun j=>[.i .i64 (if j<g.ids.length then ylm p g c j else 0)]⟩
   let B:Own:=[(17,.one (some ⟨78,true,1,1,fun _=>[.os (98,0) 0 ch.length true]⟩)),(10,.one (some G))]++K
   let C:(Nat->Nat)->(Nat->Int)->Nat×Fam:=fun u w=>(98,.one (some ⟨103,false,2,ch.length,fun j=>[.i .u32 (u j:Nat),.i .i64 (w j)]⟩))
   refine ybf (σ:=Nat) (fun i=>⟨[(101,.i .i64 i),(100,.i .i64 (ch.length:Nat)),(99,usV ch),(9,.i .u32 (en:Nat)),(2,.i .i64 (rkN p g c:Nat)),(10,.pt (10,0) 0 0),(17,.pt (17,0) 0 0)],C (u i) (w i)::B⟩) (fun i=>i<=ch.length) (fun i=>ch.length-i) 0 (zI _) ?_ ?_
   .refine ybi [] [] [] ?_;simp only[K,ybu,ycq,usV,G,B,C,hu0,hw0,allQ,live,yc,zJ,go_sem,zA,zC,↓reduceIte,reduceCtorEq];exact⟨fun _ _ _ _ e=>e,fun i hi=>by rw[if_pos hi],fun i b hb=>yds hb⟩
   .intro i hi
    by_cases hlt:i<ch.length
    .have d2:=dec_lt hlt;obtain⟨s,hs⟩:∃s,ch.getD i 0=s:=⟨_,rfl⟩;obtain⟨m1,m2,m3,-⟩:=hmem s (by rw[<-hs];exact getD_mem hlt)
     have s24:s<2^24:=by omega
     have hsub:subB s en:=fun v hv=>by
      have:(s&&&en).testBit v=true:=by rw[m3];exact hv
      rw[zW,zAH]at this;exact this.2
     have hen2:en<2^g.ids.length:=by rw[<-hene];exact ype p g c
     have hs2:s<2^g.ids.length:=yzv hsub hen2
     let gv:Nat->Int:=fun q=>(rkN p g c:Nat)+sumI (fun j=>ylm p g c ((ybw s).getD j 0)) q
     have hlast:gv (ybw s).length=(R s:Nat):=by
      have e1:=hstep s hsub hs2;have e2:=(yxq hci).1;have e3:=(yxq (yih.1 (yix h.hg h.hp h.hf hc s))).1;show((rkT (tabP p g) c).toNat:Int)+_=((rkT (tabP p g) (ydm p g c s)).toNat:Int);omega
     have hnode:∀q,q<(ybw s).length->(ybw s).getD q 0<g.ids.length:=fun q hq=>by
      obtain⟨-,hb⟩:=ybnk s24 (getD_mem hq);refine zS fun hge=>?_;rw[zAC (zL hs2 (zG (by omega) (by omega)))]at hb
      cases hb
     have hnl:(ybw s).length<=32:=by
      have:=List.length_filter_le (fun v=>s.testBit v) (List.range 32);unfold ybw
      simpa using this
     have hrk:rkN p g c<=32768:=by
      have e2:=yxq hci;have e3:=hT.tot;show(rkT (tabP p g) c).toNat<=_;omega
     have hgv:∀q,q<=(ybw s).length -> -100000000000000<=gv q/\gv q<=100000000000000:=fun q hq=>by
      have:=ybhw (f:=fun j=>ylm p g c ((ybw s).getD j 0)) (B:=1000000000000) q fun j hj=>hgrow _ (hnode j (by omega))
      have hq':(q:Int)<=32:=by omega
      show -100000000000000<=(rkN p g c:Int)+_/\(rkN p g c:Int)+_<=100000000000000;omega
     have hgs:∀q,gv (q+1)=gv q+ylm p g c ((ybw s).getD q 0):=fun q=>by
      exact(Int.add_assoc _ _ _).symm
     simp only[K,ybu,ybxp,ycvs,ycsz,yczk,usV,G,B,C,d2,hs,splice,clash,go_sem,zA,zB,zH,zC,↓reduceIte,reduceCtorEq]
     repeat refine zD (by first|omega|decide|exact ikw (by omega) (by omega)) ?_
     refine yco (ybmh (s:=s)) [(1,60)] 0 [101,100,99,9,2,10,17,18] [17,18,10,98,302,303] ?_ ?_
     .simp only[ycq,okN,yby,ydn,ycs,yck,allQ,live,yc,go_sem,zA,zF,↓reduceIte,reduceCtorEq];exact⟨fun k hk=>by split<;>rfl,fun i b hb=>(yct hb).2▸yjn⟩
     rintro r o' ⟨rfl,rfl⟩;simp only[setO,yiq,yhr,nuF,nu,difN,ycs,yck,Fam.ren,OB.ren,dim,ygr,ycay,ycch,go_sem,zA,zF,↓reduceIte]
     refine yjl (ybfn (b:=60) (s:=s) (by omega)) [(60,0),(17,0),(18,0),(10,0),(98,0),(302,0)] (fun q (_:Unit)=>⟨[(113,.fn 172 [] [.pt (60,0) 0 0]),(101,.i .i64 i),(100,.i .i64 (ch.length:Nat)),(99,usV ch),(9,.i .u32 (en:Nat)),(2,.i .i64 (rkN p g c:Nat)),(10,.pt (10,0) 0 0),(17,.pt (17,0) 0 0),(18,.pt (18,0) 0 0)],
      (60,.one (some (setO (ydq s q))))::(18,.one (some ⟨3,true,1,1,fun _=>[.i .i64 i]⟩))::C (fun k=>if k=i then s else u i k) (fun k=>if k=i then gv q else w i k)::B⟩)
      (fun q _=>q<=(ybw s).length) () (zI _) ⟨fun β h=>by rw[List.mem_singleton.1 h];simp,fun β h=>by rw[List.mem_singleton.1 h];exact zAD⟩ ?_ (fun _=>rfl) ?_ ?_ ?_
     .refine ybi [] [] [] ?_;simp only[K,ybu,ycq,setO,usV,ydq,G,B,C,allQ,live,yc,go_sem,zA,zC,↓reduceIte,reduceCtorEq];refine⟨fun _ _ _ _ e=>e,fun k hk=>?_,fun i hi=>by rw[if_pos hi],fun i b hb=>yds hb⟩
      have h0:gv 0=(rkN p g c:Nat):=Int.add_zero _
      by_cases e:k=i
      .rw[if_pos e,if_pos e,if_pos e,h0];exact yne rfl
      .rw[if_neg e,if_neg e,if_neg e];exact yne rfl
     .intro q _ hq _;refine⟨rfl,?_⟩;simp only[usV,allQ,go_sem,zA]
     .intro q _ hq hlt2;have hlt2:q<(ybw s).length:=hlt2;have hv:=hnode q hlt2;have g1:=hgv q (by omega)
      have g2:=hgv (q+1) (by omega)
      have g3:=hgs q;have g4:=hgrow _ hv;obtain⟨v,hve⟩:∃v,(ybw s).getD q 0=v:=⟨_,rfl⟩;rw[hve]at hv g3 g4;refine⟨_,rfl,?_⟩;simp only[ybdd];simp only[K,ybu,ycvb,ycux,usV,G,B,C,hve,if_pos hv,splice,clash,go_sem,zA,zB,↓reduceIte,reduceCtorEq]
      repeat refine zD (by first|omega|decide|exact ikw (by omega) (by omega)) ?_
      refine ybi [] [] [] ?_;simp only[ycq,setO,allQ,live,yc,go_sem,zA,zC,↓reduceIte,reduceCtorEq];refine⟨fun _ _ _ _ e=>e,fun k hk=>?_,fun i hi=>by rw[if_pos hi],fun i b hb=>yds hb⟩
      by_cases e:k=i
      .rw[if_pos e,if_pos e,if_pos e,g3];exact yne rfl
      .simp only[if_neg e];exact yne rfl
     .intro _ _;simp only[ycuh,ybdd,clash,go_sem,zA,zB,↓reduceIte,reduceCtorEq]
      repeat refine zD (by first|omega|decide|exact ikw (by omega) (by omega)) ?_
      refine yj (i+1) hlt (by omega) ?_
      refine ybi [] [] [] ?_;simp only[K,ybu,ycq,usV,G,B,C,hlast,allQ,live,yc,yx,go_sem,zA,zC,↓reduceIte,reduceCtorEq];refine⟨fun _ _ _ _ e=>e,by omega,fun k hk=>?_,fun i hi=>by rw[if_pos hi],fun i b hb=>yds hb⟩
      show _=((if k<i+1 then ch.getD k 0 else 0:Nat):Int)/\_=(if k<i+1 then((R (ch.getD k 0):Nat):Int)else 0)
      by_cases e:k=i
      .rw[if_pos e,if_pos e,if_pos (by omega),if_pos (by omega),e,hs]
       exact⟨rfl,rfl⟩
      .rw[if_neg e,if_neg e]
       by_cases e2:k<i
       .rw[if_pos (by omega),if_pos (by omega)]
        exact⟨congrArg _ (if_pos e2),if_pos e2⟩
       .rw[if_neg (by omega),if_neg (by omega)]
        exact⟨congrArg _ (if_neg e2),if_neg e2⟩
    .obtain rfl:i=ch.length:=by omega
     simp only[ybxp,ycvu,yga,usV,G,B,C,K,ybu,zK,clash,go_sem,zA,zB,↓reduceIte,reduceCtorEq]
     repeat refine zD (by first|omega|decide|exact ikw (by omega) (by omega)) ?_
     refine⟨.tp [.i .u32 (en:Nat),ybk (ch.map fun s=>(s,rkN p g (ydm p g c s))),.i .i64 0],K,?_,?_,rfl,rfl⟩
     .refine ybi [] [] [(98,0)] ?_;simp only[K,ybu,ycq,ybk,zN,allQ,live,yc,go_sem,zA,zC,↓reduceIte,reduceCtorEq];refine⟨fun _ _ _ _ e=>e,ywu ⟨Sim.refl _,ydp fun q hq=>?_,Sim.refl _,trivial⟩,fun i hi=>by rw[if_pos hi],fun i b hb=>?_⟩
      .have e1:u ch.length q=ch.getD q 0:=if_pos hq;have e2:w ch.length q=(R (ch.getD q 0):Nat):=if_pos hq
       have e3:(ch.map fun s=>(s,rkN p g (ydm p g c s))).getD q (0,0)=(ch.getD q 0,R (ch.getD q 0)):=by
        simp only[zM,zAG,zZ hq];rfl
       rw[e1,e2,e3];exact⟨⟨Sim.refl _,Sim.refl _,trivial⟩,rfl⟩
      .obtain⟨q,rfl⟩:=yct hb;exact⟨_,if_pos q,ybdv (ycl _)⟩
     .simp only[K,ybu,ycq,yby,ydn,ybk,allQ,live,go_sem,zA,↓reduceIte];exact⟨fun k hk=>by rw[if_pos hk],fun i b hb=>(yct hb).2▸yjn⟩
end
end Sh
end
section
def cfP(p:ProgT)(g:Gr)(k:Nat):Conf:=(unT (tabP p g) k).1
def spcP(perm:Nat->Bool)(p:ProgT)(g:Gr):Spc:=⟨ybl (tabP p g),fun k=>ybj p g (cfP p g k),fun k=>yccp perm p g (cfP p g k)⟩
def cfA(T:List (List (Int×Int))):Nat->Conf
 |0=>(unT T 0).1
 |k+1=>(advT T (cfA T k)).1
theorem ycbo{T:List (List (Int×Int))}(hb:bdT T):∀{k:Nat},k<ybl T->cfA T k=(unT T k).1
 |0,_=>rfl
 | k+1,h=>by
   show(advT T (cfA T k)).1=_;rw[ycbo hb (by omega),ydis hb h]
theorem yduv{p:ProgT}{g:Gr}{k:Nat}(hk:k<ybl (tabP p g)):rkN p g (cfP p g k)=k:=by
 unfold rkN cfP;rw[ybnz,Nat.mod_eq_of_lt hk,zO]
theorem ybtp{p:ProgT}{g:Gr}(hb:bdT (tabP p g))(k:Nat):yfs p g (cfP p g k)=true:=yih.2 (ywz k hb)
namespace Sh
open Ev Go.RowKit
theorem ycak{h:Nm->Nm}{vir:List Nat}{O1 O:Own}(l:List (Nat×Nat)):telL h vir [] O1 O [ybk l] [ybk l]:=⟨.inl ⟨(yhn _ _ _).2 trivial,by rw[yec];exact Sim.refl _,rfl⟩,rfl,trivial⟩
section
variable {Q1 Q2:(Nat->Option ABlk)->Value->Prop}{p:ProgT}{g:Gr}
set_option maxHeartbeats 8000000 in
theorem ybtj (h:Checked Q1 Q2 p g) (hT:TabOk (tabP p g)) {kind:Int}(hkd:kind=2\/kind=3) (hn4:g.ids.length<=4) {perm:Nat->Bool}
 (hperm:∀e s,e<2^g.ids.length->s≠0->s<16->s&&&e=s->Returns zV 171 [usV (g.ports.map netP),.i .i64 kind,.i .u32 (e:Nat),.i .u32 (s:Nat)] (.b (perm s)))
 (htot:sumA (spcP perm p g) (ybl (tabP p g))<=262144) :
 Returns zV 14 [.ag (yfj Q1 Q2 p.raw),grV g,.i .i64 kind] (.tp [.ag (spcC (spcP perm p g)),.i .i64 0]):=by
 refine Returns.of (yddm [59,61,60] _ _ ?_);have hC:=ybvs h hT;have hD:=ybqv kind;have hBd:=ybhc h hT kind;have hL:=ycgk h hT;have hS:=fun k (hk:k<ybl (tabP p g))=>ybzm h hT hkd hn4 (c:=cfP p g k) (ybtp hT.bd k) hperm;have hv:(decide (1<=kind)&&decide (kind<=4))=true:=by rcases hkd with rfl|rfl<;>rfl
 rw[hv]at hD;obtain⟨S,hSe⟩:∃S,spcP perm p g=S:=⟨_,rfl⟩;have hSN:S.N=ybl (tabP p g):=by rw[<-hSe];rfl
 have hSe1:∀k,ybj p g (cfP p g k)=S.en k:=fun k=>by rw[<-hSe];rfl
 have hSa:∀k,yccp perm p g (cfP p g k)=S.arcs k:=fun k=>by rw[<-hSe];rfl
 have hmono:=fun k (hk:k<=S.N)=>ykk S hk;rw[hSe]at htot ⊢;rw[<-hSN]at htot;have hNle:=hT.tot;obtain⟨T,hTe⟩:∃T,tabP p g=T:=⟨_,rfl⟩;have hcf:∀k,cfP p g k=(unT T k).1:=fun k=>by rw[<-hTe];rfl
 have hrk:=fun k=>yduv (p:=p) (g:=g) (k:=k);have htl:T.length=g.ids.length:=by rw[<-hTe];exact yhb _ _ _
 rw[hTe]at hT hC hL hBd hS hSN hNle;simp only[hTe]at hrk hS;have hA:=fun k=>ybqh hT (c:=cfA T k);simp only[yfj,grV]at hC hBd hL;simp only[c14,ydrz,ydmb,yfj,grV,clash,go_sem,zA,zB,zC,zF,↓reduceIte,reduceCtorEq];refine hC.use ?_;simp only[ybh,ydmz,ydnd,clash,zU,go_sem,zA,zB,zF,↓reduceIte,reduceCtorEq];refine hD.use ?_;simp only[ybh,ydrx,ydlk,clash,zU,go_sem,zA,zB,zF,↓reduceIte,reduceCtorEq];refine hBd.use ?_
 simp only[ydrr,ycqq,clash,go_sem,zA,zB,zH,zC,↓reduceIte,reduceCtorEq]
 repeat refine zD (by first|omega|decide|exact ikw (by omega) (by omega)) ?_
 refine yco hL [(302,72),(303,73)] 400 [10,8,11,6] [46,48,11,6] ?_ ?_
 .simp only[ydi,usV,yu,ycz,yfd,okN,yby,ydn,ycs,yck,allQ,live,yc,go_sem,zA,zB,zF,↓reduceIte,reduceCtorEq]
 rintro r o' ⟨rfl,rfl⟩;simp only[ybu,yiq,yhr,nuF,nu,difN,ycs,yck,Fam.ren,OB.ren,dim,ygr,ymc,yfx,go_sem,zA,zB,zF,↓reduceIte,reduceCtorEq];simp only[ycwm,ycyu,clash,go_sem,zA,zB,↓reduceIte]
 let B:Own:=[(6,.one (some ⟨41,true,2,1,fun _=>[.a (.slice none 0 0),.a (.slice none 0 0)]⟩)),(11,.one (some ⟨41,true,2,1,fun _=>[.os (46,0) 0 (ybl T) true,.os (48,0) 0 (ybl T) true]⟩))]
 let e:Nat->Nat->Nat:=fun k j=>if j<k then S.en j else 0
 let a:Nat->Nat->SV:=fun k j=>if j<k then ybk (S.arcs j)else .a (.slice none 0 0)
 have he0:∀j,e 0 j=0:=fun j=>if_neg (zQ j)
 have hacl:∀{p:Nm->Bool}(k j:Nat),cln p 5 (a k j)=true:=fun k j=>by
  show cln _ 5 (if j<k then ybk (S.arcs j)else .a (.slice none 0 0))=true
  split<;>rfl
 have ha0:∀j,a 0 j = .a (.slice none 0 0):=fun j=>if_neg (zQ j)
 let O2:(Nat->Nat)->(Nat->SV)->Own:=fun e a=>[(46,.one (some ⟨77,false,1,ybl T,fun j=>[.i .u32 (e j:Nat)]⟩)),(48,.one (some ⟨78,false,1,ybl T,fun j=>[a j]⟩))]
 refine ybf (σ:=Nat) (fun k=>⟨[(57,.i .i64 k),(56,.i .i64 (ybl T:Nat)),(10,.rf (ydi p g (g.ports.map netP) kind T)),(12,.os (72,0) 0 T.length true),(14,.i .i64 (sumA S k:Nat)),(11,.pt (11,0) 0 0),(6,.pt (6,0) 0 0)],
  ybu 72 73 T.length (fun j=>(cfA T k).getD j [])++(O2 (e k) (a k)++B)⟩) (fun k=>k<=ybl T) (fun k=>ybl T-k) 0 (zI _) ?_ ?_
 .refine yh [] [] [] ?_
  have hl0:∀v,v<T.length->(cfA T 0).getD v []=lowT T v:=fun v hv=>by
   show(unT T 0).1.getD v []=_;rw[ybvz hT.bd,yvg hv]
  simp only[B,O2,he0,ha0,ybu,ycq,ydi,usV,yu,ycz,yfd,allQ,live,yc,yx,zJ,go_sem,zA,zC,↓reduceIte,reduceCtorEq];refine⟨fun _ _ _ _ e=>e,rfl,fun v hv=>⟨by rw[hl0 v hv];exact Sim.refl _,by rw[if_pos hv]⟩,fun v b hb=>?_⟩
  obtain⟨q,rfl⟩:=yct hb;rw[hl0 v q];exact yjb (h':=nu [(302,72),(303,73)] 400) (w:=lowT T) (if_pos q)
 .intro k hk
  by_cases hlt:k<ybl T
  .have d1:=dec_lt hlt;have hck:=ycbo hT.bd hlt;have hcn:=ycbo (k:=k+1) hT.bd;have hAk:=hA k (by rw[hck];exact ywz k hT.bd)
   have hSk:=hS k hlt;rw[hSe1,hSa,hrk k hlt,hcf k,<-hck]at hSk;have hcl:(cfA T k).length=T.length:=(yke.1 (by rw[hck];exact ywz k hT.bd)).1
   have hnx:(advT T (cfA T k)).1=cfA T (k+1):=rfl;rw[hnx]at hAk;obtain⟨c,hc⟩:∃c,cfA T k=c:=⟨_,rfl⟩;obtain⟨c',hc'⟩:∃c,cfA T (k+1)=c:=⟨_,rfl⟩;rw[hc]at hcl hSk hAk;rw[hc']at hAk;have hm1:=hmono (k+1) (by omega)
   have hs1:sumA S (k+1)=sumA S k+(S.arcs k).length:=rfl;obtain⟨tot,htote⟩:∃t,sumA S k=t:=⟨_,rfl⟩;rw[htote]at hs1;have d2:decide ((tot:Int)+((S.arcs k).length:Int)>262144)=false:=by simp;omega
   rw[hcl]at hSk;simp only[ybyl,ycxr,ycpj,B,O2,ybu,d1,hc,clash,go_sem,zA,zB,zF,↓reduceIte,reduceCtorEq];refine yco hSk [(302,72),(303,73)] 400 [15,57,56,10,12,14,11,6] [46,48,11,6] ?_ ?_
   .simp only[ybu,ycq,ydi,usV,yu,ycz,yfd,to1,okN,yby,ydn,ycs,yck,allQ,live,yc,go_sem,zA,zB,zC,zF,↓reduceIte,reduceCtorEq];exact⟨⟨fun _ _ _ _ e=>e,fun i hi=>by rw[if_pos hi],fun i b hb=>yds (w:=fun j=>c.getD j []) hb⟩,fun j _=>hacl k j⟩
   rintro r o' ⟨rfl,rfl⟩;simp only[ybu,ybk,yiq,yhr,nuF,nu,difN,ycs,yck,Fam.ren,OB.ren,dim,ygr,yyb,ymc,yfx,go_sem,zA,zB,zF,↓reduceIte,reduceCtorEq];simp only[ycwc,ycyt,ycny,ycwj,ydi,htote,d2,splice,clash,zU,go_sem,zA,zB,zH,zF,↓reduceIte,reduceCtorEq]
   repeat refine zD (by first|omega|decide|exact ikw (by omega) (by omega)) ?_
   refine yco hAk [(302,72),(303,73)] 400 [57,56,10,12,14,11,6] [46,48,11,6] ?_ ?_
   .simp only[ybu,ycq,usV,yu,ycz,yfd,to1,okN,yby,ydn,ycs,yck,allQ,live,yc,go_sem,zA,zB,zC,zF,↓reduceIte,reduceCtorEq];refine⟨⟨fun _ _ _ _ e=>e,fun i hi=>by rw[if_pos hi],fun i b hb=>yjb (h':=nu [(302,72),(303,73)] 400) (w:=fun j=>c.getD j []) hb⟩,?_⟩
    exact⟨fun j _=>by split<;>rfl,fun j _=>by
     split
     .rfl
     .show(cln _ 5 (a k j)&&true)=true;rw[hacl];rfl⟩
   rintro r o' ⟨rfl,rfl⟩;simp only[ybu,usV,yu,ycz,yfd,yiq,yhr,nuF,nu,difN,ycs,yck,Fam.ren,OB.ren,dim,ymc,yfx,go_sem,zA,zF,↓reduceIte];simp only[ycyr,clash,go_sem,zA,zB,↓reduceIte,reduceCtorEq]
   repeat refine zD (by first|omega|decide|exact ikw (by omega) (by omega)) ?_
   refine yj (k+1) hlt (by omega) ?_
   refine yh [] [] [] ?_;simp only[ycq,allQ,live,yc,yx,go_sem,zA,zC,↓reduceIte,reduceCtorEq];rw[hc',hs1];refine⟨fun _ _ _ _ e=>e,⟨by omega,by omega⟩,fun i hi=>⟨Sim.refl _,by rw[if_pos hi]⟩,fun i b hb=>yjb (h':=nu [(302,72),(303,73)] 400) (w:=fun j=>c'.getD j []) hb,?_⟩
   refine⟨fun i hi=>yfn ?_,fun i hi=>?_⟩
   .show _=[SV.i .u32 ((if i<k+1 then S.en i else 0:Nat):Int)]
    by_cases q:i=k
    .rw[if_pos q,if_pos (by omega),q]
    .rw[if_neg q]
     by_cases q2:i<k
     .rw[if_pos (by omega),show e k i=S.en i from if_pos q2]
     .rw[if_neg (by omega),show e k i=0 from if_neg q2]
   .by_cases q:i=k
    .rw[if_pos q,show a (k+1) i=ybk (S.arcs k)from(if_pos (by omega)).trans (by rw[q])]
     exact ycak _
    .rw[if_neg q]
     by_cases q2:i<k
     .rw[show a (k+1) i=ybk (S.arcs i)from if_pos (by omega),show a k i=ybk (S.arcs i)from if_pos q2]
      exact ycak _
     .rw[show a (k+1) i = .a (.slice none 0 0)from if_neg (by omega),show a k i = .a (.slice none 0 0)from if_neg q2]
      exact yib rfl
  .obtain rfl:k=ybl T:=by omega
   simp only[ybyl,ycyx,B,O2,ybu,zK,splice,clash,go_sem,zA,zB,↓reduceIte];have e1:∀q,q<ybl T->a (ybl T) q=ybk (S.arcs q):=fun q hq=>if_pos hq;have e2:∀q,q<ybl T->e (ybl T) q=S.en q:=fun q hq=>if_pos hq;refine⟨fun q hq=>by rw[e1 q hq];trivial,ywu ⟨?_,Sim.refl _,trivial⟩⟩
   unfold spcC;rw[hSN];refine ybca ⟨ydp fun q hq=>?_,ydp fun q hq=>?_,trivial⟩
   .rw[e2 q hq];exact⟨⟨Sim.refl _,trivial⟩,rfl⟩
   .rw[e1 q hq];exact⟨⟨Sim.refl _,trivial⟩,rfl⟩
end
end Sh
end
section
namespace Sh
open Ev Go.RowKit
def boxS(N:Nat)(lg:Nat->Bool)(x:(Nat->Bool)×List (Nat×Nat)):Own :=
 [(3,.one (some ⟨45,true,1,1,fun _=>[yba N lg]⟩)),(6,.one (some ⟨166,true,1,1,fun _=>[.mr (18,0)]⟩)),(18,.one (some ⟨CU,true,0,0,fun c=>[.b (x.1 c)]⟩)),
  (7,.one (some ⟨167,true,1,1,fun _=>[.os (72,0) 0 x.2.length true]⟩)),(72,ygd x.2)]
def addF:SV:=.fn 137 [] [.pt (3,0) 0 0,.pt (6,0) 0 0,.pt (7,0) 0 0]
theorem ybkv{F j:Nat}{f:Nat->List Nat}{p:Nm->Bool}(h:p (F,j)=true):cln p 5 (rowC F f j)=true:=by
 unfold rowC;split
 .rfl
 .exact h
theorem yblb{e:Nat}{k:IntKind}{l:List Nat}{b:OB}{p:Nm->Bool}(hb:rowB e k l=some b):∀i,i<b.n->(b.g i).all (cln p 5)=true:=by
 unfold rowB at hb;split at hb
 .cases hb
 .cases hb;exact fun _ _=>rfl
set_option maxHeartbeats 4000000 in
theorem ycjf{S : Spc}(h:S.ok)(lg:Nat->Bool){n:Nat}(hn:n<=24)(hen:∀k,k<S.N->S.en k<2^n)(hM:S.N*2^n<=262144) :
 Ct zV 75 [.ag (spcC S),yba S.N lg] fun r=>∃R:Nat->List Nat,Sim r (.tp [.sl 1 S.N fun k=>[usV (R k)],.i .i64 0])/\(∀k,∀x∈R k,x<2^n/\lg k=false)/\∀k,(R k).length<=262144:=by
 refine ydff [137] _ _ ?_;have hle:=h.le;have h2n:2^n<=2^24:=zG (by omega) hn
 simp only[c75,ydrb,ydpk,ydrm,ydny,ydut,spcC,ybk,yba,splice,clash,go_sem,zA,zB,zH,zC,↓reduceIte,reduceCtorEq]
 refine ybf (σ:=Nat×(Nat->Bool)×List (Nat×Nat)) (fun y=>⟨[(23,.i .i64 y.1),(22,.i .i64 (S.N:Nat)),(21,.sl 1 S.N fun k=>[.i .u32 (S.en k:Nat)]),(8,addF),(2,.pt (2,0) 0 0),(3,.pt (3,0) 0 0),(7,.pt (7,0) 0 0)],(2,spcO S)::boxS S.N lg y.2⟩)
  (fun y=>y.1<=S.N/\QI S.N n lg y.2) (fun y=>S.N-y.1) (0,fun _=>false,[]) ⟨zI _,QI.start _ _ _⟩ ?_ ?_
 .refine yh [] [72] [] ?_;simp only[boxS,addF,spcO,spcC,ybk,yba,ygd,ylp,allQ,live,yc,zJ,go_sem,zA,zC,zF,↓reduceIte,reduceCtorEq];exact fun i _=>⟨(72,0),rfl,rfl,rfl⟩
 .rintro⟨k,x⟩ ⟨hk,hx⟩;simp only at hk hx ⊢;have hxl:=hx.len
  by_cases hlt:k<S.N
  .have d1:=dec_lt hlt;have hA:=yyu (lg:=lg) (x:=x) (by omega) hlt hle (s:=S.en k) (by have:=h.lt k hlt;omega)
   have hx':=hx.step hlt (hen k hlt);simp only[yfi,ygd,yba]at hA;simp only[ydgg,ydwn,ydtz,ydwm,boxS,addF,spcO,spcC,ybk,yba,ygd,d1,clash,go_sem,zA,zB,zH,↓reduceIte,reduceCtorEq]
   repeat refine zD (by first|omega|decide|exact ikw (by omega) (by omega)) ?_
   refine yco hA [(301,3),(302,6),(303,18),(304,7),(305,72)] 400 [23,22,21,8,2,3,7] [2] ?_ ?_
   .simp only[to1,okN,yby,ydn,ycs,yck,allQ,live,yc,go_sem,zA,zB,zC,zF,↓reduceIte,reduceCtorEq]
   rintro r o' ⟨rfl,rfl⟩
   generalize yvn lg x k (S.en k)=x' at hx'
   simp only[yiq,yhr,nuF,nu,difN,ycs,yck,Fam.ren,OB.ren,dim,ygr,ybyy,yyb,ymc,yfx,ybnt,go_sem,zA,zB,zF,↓reduceIte,reduceCtorEq]
   repeat refine zD (by first|omega|decide|exact ikw (by omega) (by omega)) ?_
   refine yj (k+1,x') ⟨hlt,hx'⟩ (by show _-(k+1)<_-k;omega) ?_
   refine yh [] [] [] ?_;simp only[allQ,live,yc,yx,go_sem,zA,zC,↓reduceIte,reduceCtorEq];omega
  .obtain rfl:k=S.N:=by omega
   simp only[ydgg,ydmu,ycxu,boxS,spcO,spcC,ybk,yba,ygd,zK,clash,go_sem,zA,zB,zC,↓reduceIte,reduceCtorEq]
   repeat refine zD (by first|omega|decide|exact ikw (by omega) (by omega)) ?_
   let st2:Nat->(Nat->Bool)×List (Nat×Nat)->(Nat->List Nat)->Own:=fun _ x R=>(2,spcO S)::(36,.one (some ⟨38,false,1,S.N,fun j=>[rowC 73 R j]⟩))::(73,yhw 77 .u32 R)::boxS S.N lg x
   refine ybf (σ:=Nat×((Nat->Bool)×List (Nat×Nat))×(Nat->List Nat)) (fun y=>⟨[(12,.i .i64 y.1),(11,.os (36,0) 0 S.N true),(8,addF),(2,.pt (2,0) 0 0),(7,.pt (7,0) 0 0)],st2 0 y.2.1 y.2.2⟩)
    (fun y=>QI S.N n lg y.2.1/\y.1<=y.2.1.2.length/\(∀k,∀z∈y.2.2 k,z<2^n/\lg k=false)/\∀k,(y.2.2 k).length<=y.1) (fun y=>262145-y.1) (0,x,fun _=>[]) ⟨hx,zI _,fun _ _ h=>(nomatch h),fun _=>zI _⟩ ?_ ?_
   .refine yh [] [] [] ?_;simp only[st2,boxS,addF,spcO,spcC,ybk,yba,ygd,rowC,yhw,rowB,allQ,live,yc,zJ,go_sem,zA,zC,↓reduceIte,reduceCtorEq]
   .rintro⟨i,x,R⟩ ⟨hx,hi,hR1,hR2⟩;simp only at hx hi hR1 hR2 ⊢;have hxl:=hx.len
    by_cases hlt:i<x.2.length
    .have d1 := dec_lt hlt;have d2:decide ((x.2.length:Int)>262144)=false:=by simp;omega
     obtain⟨⟨k,s⟩,hks⟩:∃p,x.2.getD i (0,0)=p:=⟨_,rfl⟩
     obtain⟨hkN,hs,hlk⟩:k<S.N/\s<2^n/\lg k=false:=by
      have:=hx.lt (x.2.getD i (0,0)) (by rw[ykq hlt];exact zAA _)
      rw[hks]at this;exact this
     have hal:=h.len hkN;obtain⟨R',hR'⟩:∃R',(fun q=>if q=k then R k++[s]else R q)=R':=⟨_,rfl⟩
     have hst1:R' k=R k++[s]:=by rw[<-hR'];simp
     have hst0:∀j,¬j=k->R' j=R j:=fun j e=>by rw[<-hR'];simp[e]
     have hRk:=hR2 k
     by_cases q:(R k).length=0
     .simp only[ybkk,ybxf,ycdp,ycam,ybvw,st2,boxS,spcO,spcC,ybk,yba,ygd,rowC,yhw,rowB,q,d1,d2,hks,splice,clash,go_sem,zA,zB,zH,zC,Nat.reduceMul,↓reduceIte,reduceCtorEq]
      repeat refine zD (by first|omega|decide|exact ikw (by omega) (by omega)) ?_
      refine ybf (σ:=Nat×((Nat->Bool)×List (Nat×Nat))) (fun y=>⟨[(70,.i .i64 y.1),(69,.i .i64 ((S.arcs k).length:Nat)),(68,ybk (S.arcs k)),(12,.i .i64 i),(11,.os (36,0) 0 S.N true),(8,addF),(2,.pt (2,0) 0 0),(7,.pt (7,0) 0 0),(13,.pt (13,0) 0 0)],(13,.one (some ⟨109,true,2,1,fun _=>[.i .i64 (k:Nat),.i .u32 (s:Nat)]⟩))::st2 0 y.2 R'⟩)
       (fun y=>y.1<=(S.arcs k).length/\QI S.N n lg y.2/\i<y.2.2.length) (fun y=>(S.arcs k).length-y.1) (0,x) ⟨zI _,hx,hlt⟩ ?_ ?_
      .refine yh [(73,fun j=>if j=k then(61,0)else(73,j))] [] [] ?_
       simp only[st2,boxS,addF,spcO,spcC,ybk,yba,ygd,yhw,allQ,live,yc,zJ,go_sem,zA,zC,↓reduceIte,reduceCtorEq];refine⟨?_,fun i hi=>?_,fun i b hb=>?_⟩
       .repeat' apply zD
        all_goals first|exact fun i _=>ybar (by decide) (by decide)|exact fun i _=>yql (by decide) (by decide)|exact fun i _ j _=>ywm (by decide)
       .refine yna (F:=73) (e:=77) (k:=.u32) (f:=R') [(73,fun j=>if j=k then(61,0)else(73,j))] ?_ rfl
        by_cases e:i=k
        .subst e;have e1:(R' i).length=1:=by rw[hst1,zT,q];rfl
         simp only[e1,go_sem,↓reduceIte,reduceCtorEq]
        .simp only[hst0 i e,e,go_sem,↓reduceIte]
       .by_cases e:i=k
        .subst e;rw[hst1]at hb;simp only[go_sem,zA,↓reduceIte];exact yea (e:=77) (k:=.u32) rfl hb (ybmk q rfl)
        .rw[hst0 i e]at hb;simp only[e,go_sem,zA,↓reduceIte];exact⟨_,hb,yea (e:=77) (k:=.u32) rfl hb (yeu (e:=77) (k:=.u32) hb)⟩
      .rintro⟨j,x⟩ ⟨hj,hx,hlt⟩;simp only at hj hx hlt ⊢;have hxl:=hx.len
       by_cases hlt2:j<(S.arcs k).length
       .have d3:=dec_lt hlt2;have hto:=h.to k hkN j hlt2;have hsub:=(h.sub k hkN j hlt2).1;obtain⟨⟨a,t⟩,hat⟩:∃p,(S.arcs k).getD j (0,0)=p:=⟨_,rfl⟩;rw[hat]at hto hsub;simp only at hto hsub;have hAf:=yuc h (k:=k) (p:=s) (s:=a) (t:=t) (by omega) (by omega) hto
        have hap:yfw S s a t<2^n:=by
         unfold yfw ymj;split
         .exact hen t hto
         .exact ybuu (yuh hs)
        have hA:=yyu (lg:=lg) (x:=x) (by omega) hto hle (s:=yfw S s a t) (by omega)
        have hx':=hx.step (lg:=lg) hto hap;have hxl':=yblz (lg:=lg) (x:=x) (k:=t) (s:=yfw S s a t);simp only[yfi,ygd,yba]at hA;simp only[spcC,ybk]at hAf;simp only[ybec,ycco,ybtx,ybud,ybsq,st2,boxS,addF,spcO,spcC,ybk,yba,ygd,d3,hat,splice,clash,go_sem,zA,zB,zC,zF,↓reduceIte,reduceCtorEq]
        repeat refine zD (by first|omega|decide|exact ikw (by omega) (by omega)) ?_
        refine hAf.use ?_;simp only[ybh,splice,clash,go_sem,zA,zB,zC,↓reduceIte,reduceCtorEq]
        repeat refine zD (by first|omega|decide|exact ikw (by omega) (by omega)) ?_
        refine yco hA [(301,3),(302,6),(303,18),(304,7),(305,72)] 400 [70,69,68,12,11,8,2,7,13] [2,36,73,13] ?_ ?_
        .simp only[yhw,to1,okN,yby,ydn,ycs,yck,allQ,live,yc,go_sem,zA,zB,zC,zF,↓reduceIte,reduceCtorEq];exact⟨fun q _=>ybkv rfl,fun q b hb=>yblb hb⟩
        rintro r o' ⟨rfl,rfl⟩
        generalize yvn lg x t (yfw S s a t)=x' at hx' hxl'
        simp only[yhw,yiq,yhr,nuF,nu,difN,ycs,yck,Fam.ren,OB.ren,dim,ygr,ybyy,yyb,ymc,yfx,ybnt,go_sem,zA,zB,zF,↓reduceIte,reduceCtorEq]
        repeat refine zD (by first|omega|decide|exact ikw (by omega) (by omega)) ?_
        refine yj (j+1,x') ⟨hlt2,hx',by show i<x'.2.length;omega⟩ (by show _-(j+1)<_-j;omega) ?_
        refine yh [] [] [] ?_;simp only[allQ,live,yc,yx,go_sem,zA,zC,↓reduceIte,reduceCtorEq];exact⟨fun _ _ _ _ e=>e,by omega,fun i _=>yjr (e:=77) (k:=.u32) [] rfl rfl,fun i b hb=>⟨b,hb,yea (e:=77) (k:=.u32) rfl hb (yeu (e:=77) (k:=.u32) hb)⟩⟩
       .obtain rfl:j=(S.arcs k).length:=by omega
        simp only[ybec,ycap,st2,boxS,addF,spcO,spcC,ybk,yba,ygd,zK,clash,go_sem,zA,zB,↓reduceIte,reduceCtorEq]
        repeat refine zD (by first|omega|decide|exact ikw (by omega) (by omega)) ?_
        refine yj (i+1,x,R') ⟨hx,hlt,fun u z hz=>?_,fun u=>?_⟩ (by show 262145-(i+1)<262145-i;omega) ?_
        .have hz:z∈R' u:=hz
         by_cases e:u=k
         .subst e;rw[hst1]at hz;rcases List.mem_append.1 hz with r|r
          .exact hR1 u z r
          .rw[List.mem_singleton.1 r];exact⟨hs,hlk⟩
         .rw[hst0 u e]at hz;exact hR1 u z hz
        .show(R' u).length<=i+1
         by_cases e:u=k
         .subst e;rw[hst1,zT];have:=hR2 u;show _+1<=_;omega
         .rw[hst0 u e];have:=hR2 u;omega
        refine yh [] [] [] ?_;simp only[yhw,allQ,live,yc,yx,go_sem,zA,zC,↓reduceIte,reduceCtorEq];exact⟨fun _ _ _ _ e=>e,by omega,fun i _=>yjr (e:=77) (k:=.u32) [] rfl rfl,fun i b hb=>⟨b,hb,yea (e:=77) (k:=.u32) rfl hb (yeu (e:=77) (k:=.u32) hb)⟩⟩
     .have q0 : 0<(R k).length:=by omega
      simp only[ybkk,ybxf,ycdp,ycam,ybvw,st2,boxS,spcO,spcC,ybk,yba,ygd,rowC,yhw,rowB,q,d1,d2,hks,splice,clash,go_sem,zA,zB,zH,zC,↓reduceIte,reduceCtorEq]
      repeat refine zD (by first|omega|decide|exact ikw (by omega) (by omega)) ?_
      refine ybf (σ:=Nat×((Nat->Bool)×List (Nat×Nat))) (fun y=>⟨[(70,.i .i64 y.1),(69,.i .i64 ((S.arcs k).length:Nat)),(68,ybk (S.arcs k)),(12,.i .i64 i),(11,.os (36,0) 0 S.N true),(8,addF),(2,.pt (2,0) 0 0),(7,.pt (7,0) 0 0),(13,.pt (13,0) 0 0)],(13,.one (some ⟨109,true,2,1,fun _=>[.i .i64 (k:Nat),.i .u32 (s:Nat)]⟩))::st2 0 y.2 R'⟩)
       (fun y=>y.1<=(S.arcs k).length/\QI S.N n lg y.2/\i<y.2.2.length) (fun y=>(S.arcs k).length-y.1) (0,x) ⟨zI _,hx,hlt⟩ ?_ ?_
      .refine yh [(73,fun j=>if j=k then(61,0)else(73,j))] [] [] ?_
       simp only[st2,boxS,addF,spcO,spcC,ybk,yba,ygd,yhw,allQ,live,yc,zJ,go_sem,zA,zC,↓reduceIte,reduceCtorEq];refine⟨?_,fun i hi=>?_,fun i b hb=>?_⟩
       .repeat' apply zD
        all_goals first|exact fun i _=>ybar (by decide) (by decide)|exact fun i _=>yql (by decide) (by decide)|exact fun i _ j _=>ywm (by decide)
       .refine yna (F:=73) (e:=77) (k:=.u32) (f:=R') [(73,fun j=>if j=k then(61,0)else(73,j))] ?_ rfl
        by_cases e:i=k
        .subst e;have e1:(R' i).length=(R i).length+1:=by rw[hst1,zT];rfl
         have e2:¬(R i).length+1=0:=by omega
         simp only[e1,e2,go_sem,↓reduceIte]
        .simp only[hst0 i e,e,go_sem,↓reduceIte]
       .by_cases e:i=k
        .subst e;rw[hst1]at hb;simp only[go_sem,zA,↓reduceIte];exact yea (e:=77) (k:=.u32) rfl hb (ybcs (g':=fun i=>List.take 1 (List.drop (i*1) [.i .u32 (s:Int)])) rfl (fun _ _=>rfl) rfl)
        .rw[hst0 i e]at hb;simp only[e,go_sem,zA,↓reduceIte];exact⟨_,hb,yea (e:=77) (k:=.u32) rfl hb (yeu (e:=77) (k:=.u32) hb)⟩
      .rintro⟨j,x⟩ ⟨hj,hx,hlt⟩;simp only at hj hx hlt ⊢;have hxl:=hx.len
       by_cases hlt2:j<(S.arcs k).length
       .have d3:=dec_lt hlt2;have hto:=h.to k hkN j hlt2;have hsub:=(h.sub k hkN j hlt2).1;obtain⟨⟨a,t⟩,hat⟩:∃p,(S.arcs k).getD j (0,0)=p:=⟨_,rfl⟩;rw[hat]at hto hsub;simp only at hto hsub;have hAf:=yuc h (k:=k) (p:=s) (s:=a) (t:=t) (by omega) (by omega) hto
        have hap:yfw S s a t<2^n:=by
         unfold yfw ymj;split
         .exact hen t hto
         .exact ybuu (yuh hs)
        have hA:=yyu (lg:=lg) (x:=x) (by omega) hto hle (s:=yfw S s a t) (by omega)
        have hx':=hx.step (lg:=lg) hto hap;have hxl':=yblz (lg:=lg) (x:=x) (k:=t) (s:=yfw S s a t);simp only[yfi,ygd,yba]at hA;simp only[spcC,ybk]at hAf;simp only[ybec,ycco,ybtx,ybud,ybsq,st2,boxS,addF,spcO,spcC,ybk,yba,ygd,d3,hat,splice,clash,go_sem,zA,zB,zC,zF,↓reduceIte,reduceCtorEq]
        repeat refine zD (by first|omega|decide|exact ikw (by omega) (by omega)) ?_
        refine hAf.use ?_;simp only[ybh,splice,clash,go_sem,zA,zB,zC,↓reduceIte,reduceCtorEq]
        repeat refine zD (by first|omega|decide|exact ikw (by omega) (by omega)) ?_
        refine yco hA [(301,3),(302,6),(303,18),(304,7),(305,72)] 400 [70,69,68,12,11,8,2,7,13] [2,36,73,13] ?_ ?_
        .simp only[yhw,to1,okN,yby,ydn,ycs,yck,allQ,live,yc,go_sem,zA,zB,zC,zF,↓reduceIte,reduceCtorEq];exact⟨fun q _=>ybkv rfl,fun q b hb=>yblb hb⟩
        rintro r o' ⟨rfl,rfl⟩
        generalize yvn lg x t (yfw S s a t)=x' at hx' hxl'
        simp only[yhw,yiq,yhr,nuF,nu,difN,ycs,yck,Fam.ren,OB.ren,dim,ygr,ybyy,yyb,ymc,yfx,ybnt,go_sem,zA,zB,zF,↓reduceIte,reduceCtorEq]
        repeat refine zD (by first|omega|decide|exact ikw (by omega) (by omega)) ?_
        refine yj (j+1,x') ⟨hlt2,hx',by show i<x'.2.length;omega⟩ (by show _-(j+1)<_-j;omega) ?_
        refine yh [] [] [] ?_;simp only[allQ,live,yc,yx,go_sem,zA,zC,↓reduceIte,reduceCtorEq];exact⟨fun _ _ _ _ e=>e,by omega,fun i _=>yjr (e:=77) (k:=.u32) [] rfl rfl,fun i b hb=>⟨b,hb,yea (e:=77) (k:=.u32) rfl hb (yeu (e:=77) (k:=.u32) hb)⟩⟩
       .obtain rfl:j=(S.arcs k).length:=by omega
        simp only[ybec,ycap,st2,boxS,addF,spcO,spcC,ybk,yba,ygd,zK,clash,go_sem,zA,zB,↓reduceIte,reduceCtorEq]
        repeat refine zD (by first|omega|decide|exact ikw (by omega) (by omega)) ?_
        refine yj (i+1,x,R') ⟨hx,hlt,fun u z hz=>?_,fun u=>?_⟩ (by show 262145-(i+1)<262145-i;omega) ?_
        .have hz:z∈R' u:=hz
         by_cases e:u=k
         .subst e;rw[hst1]at hz;rcases List.mem_append.1 hz with r|r
          .exact hR1 u z r
          .rw[List.mem_singleton.1 r];exact⟨hs,hlk⟩
         .rw[hst0 u e]at hz;exact hR1 u z hz
        .show(R' u).length<=i+1
         by_cases e:u=k
         .subst e;rw[hst1,zT];have:=hR2 u;show _+1<=_;omega
         .rw[hst0 u e];have:=hR2 u;omega
        refine yh [] [] [] ?_;simp only[yhw,allQ,live,yc,yx,go_sem,zA,zC,↓reduceIte,reduceCtorEq];exact⟨fun _ _ _ _ e=>e,by omega,fun i _=>yjr (e:=77) (k:=.u32) [] rfl rfl,fun i b hb=>⟨b,hb,yea (e:=77) (k:=.u32) rfl hb (yeu (e:=77) (k:=.u32) hb)⟩⟩
    .obtain rfl:i=x.2.length:=by omega
     simp only[ybkk,ycxq,st2,boxS,addF,spcO,spcC,ybk,yba,ygd,zK,clash,go_sem,zA,zB,↓reduceIte,reduceCtorEq];refine⟨fun q hq=>?_,R,ywu ⟨ydp fun q hq=>?_,Sim.refl _,trivial⟩,hR1,fun q=>by have:=hR2 q;omega⟩
     .unfold rowC
      by_cases e:(R q).length=0
      .simp only[e,go_sem,↓reduceIte]
      .simp only[e,yhw,rowB,go_sem,zA,↓reduceIte]
     .unfold rowC
      by_cases e:(R q).length=0
      .simp only[e,SimL,usV,go_sem,↓reduceIte];exact ybkd
      .simp only[e,yhw,rowB,SimL,usV,go_sem,zA,↓reduceIte];exact Sim.refl _
end Sh
end
section
namespace Sh
open Ev Go.RowKit
structure RdB(S:Spc)(lg:Nat->Bool)(n:Nat)(B:Nat->Nat->Nat->Prop):Prop where
 one:∀k,k<S.N->lg k=false->∀s,s<2^n->B k s 1
 done:∀k,k<S.N->lg k=false->∀s,s<2^n->∀i,i<(S.arcs k).length->lg ((S.arcs k).getD i (0,0)).2=false->ymj S s ((S.arcs k).getD i (0,0)).1 ((S.arcs k).getD i (0,0)).2=0->∀x,B ((S.arcs k).getD i (0,0)).2 (S.en ((S.arcs k).getD i (0,0)).2) x->B k s (1+x)
 more:∀k,k<S.N->lg k=false->∀s,s<2^n->∀i,i<(S.arcs k).length->lg ((S.arcs k).getD i (0,0)).2=false->ymj S s ((S.arcs k).getD i (0,0)).1 ((S.arcs k).getD i (0,0)).2≠0->∀x,B ((S.arcs k).getD i (0,0)).2 (ymj S s ((S.arcs k).getD i (0,0)).1 ((S.arcs k).getD i (0,0)).2) x->B k s x
 le:∀k s x,B k s x->x<=1000000
theorem ybxb{a b c d:Nat}(hb:b<2^32)(hd:d<2^32)(e:mkey (a:Int) (b:Int)=mkey (c:Int) (d:Int)):a=c/\b=d:=by
 unfold mkey at e;simp only[zO]at e;omega
set_option maxHeartbeats 4000000 in
theorem ybvl {S:Spc}(h:S.ok){lg:Nat->Bool}(hf:S.free lg){n:Nat}(hn:n<=24)(hen:∀k,k<S.N->S.en k<2^n)(hM:S.N*2^n<=262144){B:Nat->Nat->Nat->Prop}(hB:RdB S lg n B) :
 Ct zV 19 [.ag (spcC S),yba S.N lg] fun r=>∃f:Nat->Nat,Sim r (.tp [.sl 1 S.N fun k=>[.i .i64 (f k:Nat)],.i .i64 0])/\∀k,k<S.N->f k=0\/(lg k=false/\B k (S.en k) (f k)):=by
 refine ydxu _ _ ?_;have hle:=h.le;have h2n:2^n<=2^24:=zG (by omega) hn
 have hO:=ybdp h hf;have hR:=ycjf h lg hn hen hM;simp only[spcC,ybk,yba]at hO hR;simp only[c19,ydli,ydxn,spcC,ybk,yba,clash,go_sem,zA,zB,zC,↓reduceIte,reduceCtorEq];refine hO.fnd (V:=fun L=>.tp [yci L,.i .i64 0]) (fun r L h=>h.1) fun r L hL=>?_;obtain⟨-,hlt,hlen,hall⟩:=hL;simp only[ybh,ydqx,ydsx,clash,yci,zU,go_sem,zA,zB,↓reduceIte,reduceCtorEq];refine hR.fnd (V:=fun R=>.tp [.sl 1 S.N fun k=>[usV (R k)],.i .i64 0]) (fun r L h=>h.1) fun r R hR=>?_
 obtain⟨-,hR1,hR2⟩:=hR;simp only[ydtu,ydos,ydks,clash,usV,zU,go_sem,zA,zB,zC,↓reduceIte,reduceCtorEq]
 let VI:(Nat->Nat)->Prop:=fun V=>∀(k:Nat),k<S.N->∀(s:Nat),s<2^n->V (mkey (k:Int) (s:Int))=0\/(lg k=false/\B k s (V (mkey (k:Int) (s:Int))))
 let mp:(Nat->Nat)->Nat×Fam:=fun V=>(41,.one (some ⟨CU,true,1,0,fun c=>[.i .i64 (V c:Nat)]⟩))
 refine ybf (σ:=Nat×(Nat->Nat)) (fun y=>⟨[(44,.i .i64 y.1),(43,.i .i64 (L.length:Nat)),(42,yci L),(1,yba S.N lg),(2,.pt (2,0) 0 0),(8,.sl 1 S.N fun k=>[usV (R k)]),(9,.mr (41,0))],[(2,spcO S),mp y.2]⟩) (fun y=>y.1<=L.length/\VI y.2) (fun y=>L.length-y.1) (0,fun _=>0) ⟨zI _,fun _ _ _ _=>.inl rfl⟩ ?_ ?_
 .refine yh [] [] [] ?_;simp only[mp,yci,usV,spcO,spcC,ybk,yba,ylp,allQ,live,yc,zJ,go_sem,zA,zC,↓reduceIte,reduceCtorEq]
 .rintro⟨i,V⟩ ⟨hi,hV⟩;simp only at hi hV ⊢
  by_cases hlt2:i<L.length
  .have d1 := dec_lt hlt2;obtain⟨k,hk⟩:∃k,L.getD i 0=k:=⟨_,rfl⟩;have hkN:k<S.N:=by rw[<-hk,getD_at hlt2];exact hlt _ (zAA _)
   have hal:=h.len hkN;have hRl:=hR2 k;simp only[ydfc,ycyj,ycvk,mp,yci,usV,spcO,spcC,ybk,yba,d1,hk,clash,go_sem,zA,zB,↓reduceIte,reduceCtorEq]
   repeat refine zD (by first|omega|decide|exact ikw (by omega) (by omega)) ?_
   refine ybf (σ:=Nat×(Nat->Nat)) (fun y=>⟨[(53,.i .i64 y.1),(52,.i .i64 ((R k).length:Nat)),(51,usV (R k)),(11,.i .i64 k),(44,.i .i64 i),(43,.i .i64 (L.length:Nat)),(42,yci L),(1,yba S.N lg),(2,.pt (2,0) 0 0),(8,.sl 1 S.N fun k=>[usV (R k)]),(9,.mr (41,0))],[(2,spcO S),mp y.2]⟩) (fun y=>y.1<=(R k).length/\VI y.2) (fun y=>(R k).length-y.1) (0,V) ⟨zI _,hV⟩ ?_ ?_
   .refine yh [] [] [] ?_;simp only[mp,yci,usV,spcO,spcC,ybk,yba,allQ,live,yc,zJ,go_sem,zA,zC,↓reduceIte,reduceCtorEq]
   .rintro⟨u,V⟩ ⟨hu,hV⟩;simp only at hu hV ⊢
    by_cases hlt3:u<(R k).length
    .have d2 := dec_lt hlt3;obtain⟨s,hs⟩:∃s,(R k).getD u 0=s:=⟨_,rfl⟩;obtain⟨hs2,hlk⟩:=hR1 k s (by rw[<-hs,getD_at hlt3];exact zAA _)
     simp only[ybso,ycpy,ycnc,ycsf,ycwt,mp,yci,usV,spcO,spcC,ybk,yba,d2,hs,splice,clash,go_sem,zA,zB,zH,zC,↓reduceIte,reduceCtorEq]
     repeat refine zD (by first|omega|decide|exact ikw (by omega) (by omega)) ?_
     refine ybf (σ:=Nat×Nat) (fun z=>⟨[(66,.i .i64 z.1),(65,.i .i64 ((S.arcs k).length:Nat)),(64,ybk (S.arcs k)),(15,.i .i64 z.2),(14,.pt (14,0) 0 0),(53,.i .i64 u),(52,.i .i64 ((R k).length:Nat)),(51,usV (R k)),(11,.i .i64 k),(44,.i .i64 i),(43,.i .i64 (L.length:Nat)),(42,yci L),(1,yba S.N lg),(2,.pt (2,0) 0 0),(8,.sl 1 S.N fun k=>[usV (R k)]),(9,.mr (41,0))],
      [(14,.one (some ⟨109,true,2,1,fun _=>[.i .i64 (k:Nat),.i .u32 (s:Nat)]⟩)),(2,spcO S),mp V]⟩) (fun z=>z.1<=(S.arcs k).length/\B k s z.2) (fun z=>(S.arcs k).length-z.1) (0,1) ⟨zI _,hB.one k hkN hlk s hs2⟩ ?_ ?_
     .refine yh [] [] [] ?_;simp only[mp,yci,usV,spcO,spcC,ybk,yba,allQ,live,yc,yx,zJ,go_sem,zA,zC,↓reduceIte,reduceCtorEq];rfl
     .rintro⟨j,m⟩ ⟨hj,hm⟩;simp only at hj hm ⊢;have hm6:=hB.le _ _ _ hm
      by_cases hlt4:j<(S.arcs k).length
      .have d3 := dec_lt hlt4;have hto:=h.to k hkN j hlt4;have hsub:=(h.sub k hkN j hlt4).1;have hdone:=hB.done k hkN hlk s hs2 j hlt4;have hmore:=hB.more k hkN hlk s hs2 j hlt4;obtain⟨⟨a,t⟩,hat⟩:∃p,(S.arcs k).getD j (0,0)=p:=⟨_,rfl⟩;rw[hat]at hto hsub hdone hmore;simp only at hto hsub hdone hmore;cases hlt':lg t with
       | true =>
         simp only[ybbv,yboc,yblk,yblq,mp,yci,usV,spcO,spcC,ybk,yba,d3,hat,hlt',splice,clash,go_sem,zA,zB,zC,↓reduceIte,reduceCtorEq]
         repeat refine zD (by first|omega|decide|exact ikw (by omega) (by omega)) ?_
         refine yj (j+1,m) ⟨hlt4,hm⟩ (by show _-(j+1)<_-j;omega) ?_
         refine yh [] [] [] ?_;simp only[allQ,live,yc,yx,go_sem,zA,zC,↓reduceIte,reduceCtorEq];omega
       | false =>
         have hAf:=yuc h (k:=k) (p:=s) (s:=a) (t:=t) (by omega) (by omega) hto
         have hap:yfw S s a t<2^n:=by
          unfold yfw ymj;split
          .exact hen t hto
          .exact ybuu (yuh hs2)
         have hVt:=hV t hto (yfw S s a t) hap;obtain⟨v,hv⟩:∃v,V (mkey (t:Int) (yfw S s a t:Int))=v:=⟨_,rfl⟩;rw[hv]at hVt
         have hv6:v<=1000000:=by
          rcases hVt with r|⟨_,r⟩
          .omega
          .exact hB.le _ _ _ r
         simp only[spcC,ybk]at hAf
         by_cases hp0:ymj S s a t=0
         .have e1:B k s (max m (1+v)):=by
           rcases zAL m (1+v)with r|r
           .rw[zAI r];rcases hVt with q|⟨_,q⟩
            .rw[q];exact hB.one k hkN hlk s hs2
            .refine hdone hlt' hp0 v ?_;have:yfw S s a t=S.en t:=if_pos hp0;rw[this]at q;exact q
           .rw[zAJ r];exact hm
          rw[decide_eq_true hp0]at hAf;simp only[ybbv,yboc,yblk,ybxz,mp,yci,usV,spcO,spcC,ybk,yba,d3,hat,hlt',splice,clash,go_sem,zA,zB,zC,↓reduceIte,reduceCtorEq]
          repeat refine zD (by first|omega|decide|exact ikw (by omega) (by omega)) ?_
          refine hAf.use ?_;simp only[ybh,ybtg,ycrs,yblq,splice,clash,zAB,hv,go_sem,zA,zB,zC,↓reduceIte,reduceCtorEq]
          repeat refine zD (by first|omega|decide|exact ikw (by omega) (by omega)) ?_
          refine yj (j+1,max m (1+v)) ⟨hlt4,e1⟩ (by show _-(j+1)<_-j;omega) ?_
          refine yh [] [] [] ?_;simp only[allQ,live,yc,yx,go_sem,zA,zC,↓reduceIte,reduceCtorEq];omega
         .have e1:B k s (max m v):=by
           rcases zAL m v with r|r
           .rw[zAI r];rcases hVt with q|⟨_,q⟩
            .have:m=v:=by omega
             rw[<-this];exact hm
            .refine hmore hlt' hp0 v ?_;have:yfw S s a t=ymj S s a t:=if_neg hp0;rw[this]at q;exact q
           .rw[zAJ r];exact hm
          rw[decide_eq_false hp0]at hAf;simp only[ybbv,yboc,yblk,ybxz,mp,yci,usV,spcO,spcC,ybk,yba,d3,hat,hlt',splice,clash,go_sem,zA,zB,zC,↓reduceIte,reduceCtorEq]
          repeat refine zD (by first|omega|decide|exact ikw (by omega) (by omega)) ?_
          refine hAf.use ?_;simp only[ybh,ybtg,ycuc,yblq,splice,clash,zAB,hv,go_sem,zA,zB,zC,↓reduceIte,reduceCtorEq]
          repeat refine zD (by first|omega|decide|exact ikw (by omega) (by omega)) ?_
          refine yj (j+1,max m v) ⟨hlt4,e1⟩ (by show _-(j+1)<_-j;omega) ?_
          refine yh [] [] [] ?_;simp only[allQ,live,yc,yx,go_sem,zA,zC,↓reduceIte,reduceCtorEq];omega
      .obtain rfl:j=(S.arcs k).length:=by omega
       obtain⟨V',hV'⟩:∃V':Nat->Nat,(fun c=>if c=mkey (k:Int) (s:Int)then m else V c)=V':=⟨_,rfl⟩
       have hVV:VI V':=fun k' hk' s' hs'=>by
        rw[<-hV'];show(if _ then m else V _)=0\/(lg k'=false/\B k' s' (if _ then m else V _))
        by_cases e:mkey (k':Int) (s':Int)=mkey (k:Int) (s:Int)
        .obtain⟨rfl,rfl⟩:=ybxb (by omega) (by omega) e
         rw[if_pos rfl];exact .inr ⟨hlk,hm⟩
        .rw[if_neg e];exact hV k' hk' s' hs'
       simp only[ybbv,ydaa,ycnn,mp,yci,usV,spcO,spcC,ybk,yba,zK,clash,yebp,go_sem,zA,zB,↓reduceIte,reduceCtorEq]
       repeat refine zD (by first|omega|decide|exact ikw (by omega) (by omega)) ?_
       refine yj (u+1,V') ⟨hlt3,hVV⟩ (by show _-(u+1)<_-u;omega) ?_
       refine yh [] [] [] ?_;simp only[allQ,live,yc,yx,go_sem,zA,zC,↓reduceIte,reduceCtorEq];refine⟨by omega,fun i=>?_,fun i hi=>absurd hi (by omega)⟩
       rw[<-hV']
       by_cases e:i=mkey (k:Int) (s:Int)
       .simp only[if_pos e]
       .simp only[if_neg e]
    .obtain rfl:u=(R k).length:=by omega
     simp only[ybso,ycyi,mp,yci,usV,spcO,spcC,ybk,yba,zK,clash,go_sem,zA,zB,↓reduceIte,reduceCtorEq]
     repeat refine zD (by first|omega|decide|exact ikw (by omega) (by omega)) ?_
     refine yj (i+1,V) ⟨hlt2,hV⟩ (by show _-(i+1)<_-i;omega) ?_
     refine yh [] [] [] ?_;simp only[allQ,live,yc,yx,go_sem,zA,zC,↓reduceIte,reduceCtorEq];omega
  .obtain rfl:i=L.length:=by omega
   simp only[ydfc,ycmh,ycor,mp,yci,usV,spcO,spcC,ybk,yba,zK,clash,go_sem,zA,zB,zH,zC,↓reduceIte,reduceCtorEq]
   repeat refine zD (by first|omega|decide|exact ikw (by omega) (by omega)) ?_
   let f:Nat->Nat->Nat:=fun k q=>if q<k/\lg q=false then V (mkey (q:Int) (S.en q:Int))else 0
   refine ybf (σ:=Nat) (fun k=>⟨[(106,.i .i64 k),(105,.i .i64 (S.N:Nat)),(104,.sl 1 S.N fun k=>[.i .u32 (S.en k:Nat)]),(1,yba S.N lg),(9,.mr (41,0)),(20,.os (102,0) 0 S.N true)],[(102,.one (some ⟨3,false,1,S.N,fun q=>[.i .i64 (f k q:Nat)]⟩)),mp V]⟩) (fun k=>k<=S.N) (fun k=>S.N-k) 0 (zI _) ?_ ?_
   .refine yh [] [] [] ?_;simp only[mp,yba,allQ,live,yc,yx,zJ,go_sem,zA,zC,↓reduceIte,reduceCtorEq]
    exact fun i _=>by
     show(0:Int)=((if i<0/\lg i=false then _ else 0:Nat):Int)
     rw[if_neg (fun r=>by omega)]
     rfl
   .intro k hk
    by_cases hlt:k<S.N
    .have d1:=dec_lt hlt;have he:=h.lt k hlt;cases hq:lg k with
     | true =>
       have hfk:∀q,f (k+1) q=f k q:=fun q=>by
        show(if _ then _ else _)=if _ then _ else _
        by_cases e:q=k
        .subst e;rw[hq,if_neg (fun r=>by cases r.2),if_neg (fun r=>by cases r.2)]
        .by_cases r:q<k/\lg q=false
         .rw[if_pos r,if_pos ⟨by omega,r.2⟩]
         .rw[if_neg r,if_neg (fun w=>r ⟨by omega,w.2⟩)]
       simp only[ybng,ycct,ybwb,ycfh,mp,yba,d1,hq,clash,go_sem,zA,zB,↓reduceIte,reduceCtorEq]
       repeat refine zD (by first|omega|decide|exact ikw (by omega) (by omega)) ?_
       refine yj (k+1) hlt (by omega) ?_
       refine yh [] [] [] ?_;simp only[hfk,allQ,live,yc,yx,go_sem,zA,zC,↓reduceIte,reduceCtorEq];omega
     | false =>
       have hfk:∀q,f (k+1) q=if q=k then V (mkey (k:Int) (S.en k:Int))else f k q:=fun q=>by
        show(if _ then _ else _)=if _ then _ else(if _ then _ else _)
        by_cases e:q=k
        .subst e;rw[if_pos rfl,if_pos ⟨by omega,hq⟩]
        .rw[if_neg e]
         by_cases r:q<k/\lg q=false
         .rw[if_pos r,if_pos ⟨by omega,r.2⟩]
         .rw[if_neg r,if_neg (fun w=>r ⟨by omega,w.2⟩)]
       simp only[ybng,ycct,ybwb,yczb,ycfh,mp,yba,d1,hq,splice,clash,zAB,go_sem,zA,zB,zH,↓reduceIte,reduceCtorEq]
       repeat refine zD (by first|omega|decide|exact ikw (by omega) (by omega)) ?_
       refine yj (k+1) hlt (by omega) ?_
       refine yh [] [] [] ?_;simp only[hfk,allQ,live,yc,yx,go_sem,zA,zC,↓reduceIte,reduceCtorEq];refine⟨by omega,fun i hi=>yfn ?_⟩
       by_cases e:i=k
       .simp only[if_pos e]
       .simp only[if_neg e]
    .obtain rfl:k=S.N:=by omega
     simp only[ybng,ycqa,mp,yba,zK,clash,go_sem,zA,zB,↓reduceIte,reduceCtorEq];refine⟨f S.N,Sim.refl _,fun k hk=>?_⟩;show(if _ then _ else _)=0\/(_/\B k (S.en k) (if _ then _ else _))
     by_cases r:k<S.N/\lg k=false
     .rw[if_pos r];exact hV k hk (S.en k) (hen k hk)
     .rw[if_neg r];exact .inl rfl
end Sh
end
section
structure WLaw(p:ProgT)(g:Gr)(perm:Nat->Bool)(D:Nat->Prop)(L:Conf->Bool)(J:Conf->Cnt->Prop)(R:Nat)(M:Nat->Prop):Prop where
 tab:TabOk (tabP p g)
 n4:g.ids.length<=4
 big:ybl (tabP p g)*2^g.ids.length<=262144
 fit:∀c,yfs p g c=true->∀s,yfs p g (ydm p g c s)=true
 permD:∀s,s<2^g.ids.length->perm s=true->D s
 low:∀e,e<16->e≠0->perm ((4294967296-e)&&&e)=true
 start:∀c,yfs p g c=true->J c (ybdq (ybj p g c))
 step:∀c k s,yfs p g c=true->J c k->s≠0->subB s (ybj p g c)->D s->J (ydm p g c s) (addP k s (ybj p g (ydm p g c s)))
 rests:∀c,yfs p g c=true->(ybj p g c=0↔L c=true)
 rounds:∀c k,yfs p g c=true->J c k->L c=false->k.rounds+1<=R
 r1000:R<=100000
 moves:∀c k,yfs p g c=true->J c k->M k.moves
 noloop:∀c s m,Loop (yms p g) (fun c=>yfs p g c=true) c s m->(∀i,D (s i))->False
theorem ydfy{perm:Nat->Bool}{e n:Nat}(hn:n<=4)(he:e<2^n):(chP perm e).length<=2^n:=by
 have h16:2^n<=16:=zG (by omega) hn
 have:=ykg (perm:=perm) (e:=e) (n:=2^n) (16-2^n) fun t h1 _ h=>by
  have:t&&&e<=e:=Nat.and_le_right;rw[h.2]at this;omega
 rw[show 2^n+(16-2^n)=16 by omega]at this
 show(chTo perm e 16).length<=_;rw[this];exact ybba _ _ _
theorem yki{s e:Nat}(h:s&&&e=s):subB s e:=fun v hv=>by
 have:(s&&&e).testBit v=true:=by rw[h];exact hv
 rw[zW,zAH]at this;exact this.2
namespace WLaw
variable {p:ProgT}{g:Gr}{perm:Nat->Bool}{D:Nat->Prop}{L:Conf->Bool}{J:Conf->Cnt->Prop}{R:Nat}{M:Nat->Prop}
theorem en16(h:WLaw p g perm D L J R M)(c:Conf):ybj p g c<16:=zL (Sh.ype p g c) (zG (by omega) h.n4:2^g.ids.length<=2^4)
theorem yvh(h:WLaw p g perm D L J R M){k i:Nat}(hi:i<((spcP perm p g).arcs k).length) :
 ∃s,((spcP perm p g).arcs k).getD i (0,0)=(s,rkN p g (ydm p g (cfP p g k) s))/\s=(chP perm (ybj p g (cfP p g k))).getD i 0/\s<16/\s≠0/\s&&&ybj p g (cfP p g k)=s/\perm s=true:=by
 change i<((chP perm (ybj p g (cfP p g k))).map _).length at hi
 rw[zN]at hi;refine⟨_,?_,rfl,yblg (Sh.getD_mem hi)⟩;show((chP perm (ybj p g (cfP p g k))).map _).getD i (0,0)=_;simp only[zM,zAG,zZ hi];rfl
theorem conf(h:WLaw p g perm D L J R M)(k:Nat):yfs p g (cfP p g k)=true:=ybtp h.tab.bd k
theorem ydsa(h:WLaw p g perm D L J R M){d:Conf}(hd:yfs p g d=true):rkN p g d<ybl (tabP p g)/\cfP p g (rkN p g d)=d:=by
 have hi:=yih.1 hd;have:=yxq hi;refine⟨?_,yboh hi⟩;unfold rkN;omega
theorem ybgy(h:WLaw p g perm D L J R M){k s:Nat}:cfP p g (rkN p g (ydm p g (cfP p g k) s))=ydm p g (cfP p g k) s:=(h.ydsa (h.fit _ (h.conf k) s)).2
theorem ybas(h:WLaw p g perm D L J R M)(k:Nat):((spcP perm p g).arcs k).length=(chP perm (ybj p g (cfP p g k))).length:=zN _
theorem yrh(h:WLaw p g perm D L J R M):∀k,sumA (spcP perm p g) k<=k*2^g.ids.length
 |0=>zI _
 | k + 1=>by
   have h1:=yrh h k
   have h2:((spcP perm p g).arcs k).length<=2^g.ids.length:=by
    rw[h.ybas];exact ydfy h.n4 (Sh.ype p g _)
   show sumA (spcP perm p g) k+((spcP perm p g).arcs k).length<=(k+1)*2^g.ids.length;rw[Nat.succ_mul];omega
theorem tot(h:WLaw p g perm D L J R M):sumA (spcP perm p g) (ybl (tabP p g))<=262144:=zAE (h.yrh _) h.big
theorem yyv(h:WLaw p g perm D L J R M)(k:Nat):(spcP perm p g).en k=0↔((spcP perm p g).arcs k).length=0:=by
 rw[h.ybas];show ybj p g (cfP p g k)=0↔_;constructor
 .intro e;rw[e,yblo];rfl
 .intro e;refine zS fun q=>ydrj (h.en16 _) q (h.low _ (h.en16 _) q) (List.length_eq_zero_iff.1 e)
theorem ok(h:WLaw p g perm D L J R M):(spcP perm p g).ok:=by
 have hlt:∀k,ybj p g (cfP p g k)<2^24:=fun k=>zAF (h.en16 _) (by omega)
 refine⟨ynt h.tab.bd,h.tab.tot,fun k _=>hlt k,fun k _=>h.yyv k,fun k _ i hi=>?_,fun k _ i hi=>?_,fun k _ i hi=>?_,h.tot⟩
 .obtain⟨s,e,-,h1,-,h2,-⟩:=h.yvh hi;rw[e];exact⟨zAF h1 (by omega),Sh.yblf h2⟩
 .obtain⟨s,e,es,h1,h0,h2,-⟩:=h.yvh hi;rw[e];unfold ybjb
  by_cases q:i=0
  .rw[if_pos q];show 0<s;omega
  .rw[if_neg q];obtain⟨s',e',es',-⟩:=h.yvh (k:=k) (i:=i-1) (by omega)
   rw[e'];show s'<s;have hl:=hi;rw[h.ybas]at hl;rw[es,es',ykq hl,ykq (by omega)]
   exact List.pairwise_iff_getElem.1 (ybgu _ _ _) _ _ _ _ (by omega)
 .obtain⟨s,e,-⟩:=h.yvh hi;rw[e];exact(h.ydsa (h.fit _ (h.conf k) s)).1
theorem free(h:WLaw p g perm D L J R M):(spcP perm p g).free fun k=>L (cfP p g k):=by
 refine⟨fun k _ hl e=>?_,fun f m hB=>?_⟩
 .have:(spcP perm p g).en k=0:=(h.yyv k).2 (by rw[e];rfl)
  have:=(h.rests _ (h.conf k)).1 this;rw[hl]at this;cases this
 .have ha:∀i,∃s,s<2^g.ids.length/\s≠0/\subB s (ybj p g (cfP p g (f i)))/\D s/\cfP p g (f (i+1))=ydm p g (cfP p g (f i)) s:=fun i=>by
   obtain⟨a,h1,h2⟩:=hB.arc i;obtain⟨j,hj,rfl⟩:=List.getElem_of_mem h1;obtain⟨s,e,-,h3,h4,h5,h6⟩:=h.yvh hj;rw[ykq hj]at e;rw[e]at h2;have hs2:s<2^g.ids.length:=Sh.yzv (yki h5) (Sh.ype p g _);refine⟨s,hs2,h4,yki h5,h.permD s hs2 h6,?_⟩;rw[<-h2];exact h.ybgy
  let s:Nat->Nat:=fun i=>(ha i).choose
  have hs:=fun i=>(ha i).choose_spec;exact h.noloop (fun i=>cfP p g (f i)) s m ⟨hB.pos,fun i=>by show cfP p g _=_;rw[hB.per],fun i=>h.conf _,fun i=>(hs i).2.1,fun i=>(hs i).2.2.1,fun i=>(hs i).2.2.2.2⟩ fun i=>(hs i).2.2.2.1
theorem rest(h:WLaw p g perm D L J R M)(k:Nat)(hl:L (cfP p g k)=true):((spcP perm p g).arcs k).length=0:=(h.yyv k).1 ((h.rests _ (h.conf k)).2 hl)
def BM(p:ProgT)(g:Gr)(J:Conf->Cnt->Prop)(M:Nat->Prop)(k x:Nat):Prop:=∀kk,J (cfP p g k) kk->M (x+kk.moves)
theorem mvB(h:WLaw p g perm D L J R M):Sh.MvB (spcP perm p g) (fun k=>L (cfP p g k)) (BM p g J M):=by
 refine⟨fun k _ kk hk=>by rw[Nat.zero_add];exact h.moves _ _ (h.conf k) hk,fun k _ _ i hi x hB kk hk=>?_⟩
 obtain⟨s,e,-,h3,h4,h5,h6⟩:=h.yvh hi;rw[e]at hB ⊢;have hs2:s<2^g.ids.length:=Sh.yzv (yki h5) (Sh.ype p g _);have:=h.step _ _ s (h.conf k) hk h4 (yki h5) (h.permD s hs2 h6);rw[<-h.ybgy]at this;have:=hB _ this;show M (popP s+x+kk.moves);rw[show popP s+x+kk.moves=x+(kk.moves+popP s)by omega]
 exact this
def BR(p:ProgT)(g:Gr)(J:Conf->Cnt->Prop)(R k s x:Nat):Prop:=(∀kk,J (cfP p g k) kk->kk.pend=s->kk.rounds+x<=R)/\x<=1+R
theorem rdB(h:WLaw p g perm D L J R M):Sh.RdB (spcP perm p g) (fun k=>L (cfP p g k)) g.ids.length (BR p g J R):=by
 have nx:∀k i,i<((spcP perm p g).arcs k).length->∀kk,J (cfP p g k) kk->J (cfP p g (((spcP perm p g).arcs k).getD i (0,0)).2) (addP kk (((spcP perm p g).arcs k).getD i (0,0)).1 ((spcP perm p g).en (((spcP perm p g).arcs k).getD i (0,0)).2)):=fun k i hi kk hk=>by
  obtain⟨s,e,-,h3,h4,h5,h6⟩:=h.yvh hi;rw[e];have hs2:s<2^g.ids.length:=Sh.yzv (yki h5) (Sh.ype p g _);have:=h.step _ _ s (h.conf k) hk h4 (yki h5) (h.permD s hs2 h6);rw[<-h.ybgy]at this;exact this
 refine⟨fun k _ hl s _=>⟨fun kk hk _=>h.rounds _ _ (h.conf k) hk hl,by omega⟩,fun k _ hl s _ i hi hl2 hp x hB=>⟨fun kk hk he=>?_,?_⟩,fun k _ hl s _ i hi hl2 hp x hB=>⟨fun kk hk he=>?_,hB.2⟩,fun k s x hB=>?_⟩
 .have h1:=nx k i hi kk hk;unfold ymj at hp;unfold addP at h1;simp only[he,hp,if_true]at h1;have:=hB.1 _ h1 rfl;have:kk.rounds+1+x<=R:=this;omega
 .have:=hB.1 _ (h.start _ (h.conf _)) rfl;have:0+x<=R:=this;omega
 .have h1:=nx k i hi kk hk;unfold ymj at hp hB;unfold addP at h1;simp only[he,if_neg hp]at h1;have:=hB.1 _ h1 rfl;exact this
 .have:=hB.2;have:=h.r1000;omega
theorem ycjy(h:WLaw p g perm D L J R M){k x:Nat}(hx:BM p g J M k x):M x:=hx _ (h.start _ (h.conf k))
theorem ybyh(h:WLaw p g perm D L J R M){k x:Nat}(hx:x=0\/(L (cfP p g k)=false/\BR p g J R k ((spcP perm p g).en k) x)):x<=R:=by
 rcases hx with rfl|⟨-,hx⟩
 .exact zI _
 .have:=hx.1 _ (h.start _ (h.conf k)) rfl;have:0+x<=R:=this;omega
end WLaw
end
section
theorem ybmj{r:Nat}:∀T:List (List (Int×Int)),(∀x∈T,ybq x<=r)->ybl T<=r^T.length
 |[],_=>zY _
 | x::T,h=>by
   show ybq x*ybl T<=r^(T.length+1);rw[Nat.pow_succ,Nat.mul_comm (r^T.length)];exact zAK (h x zAD) (ybmj T fun y hy=>h y (List.mem_cons_of_mem _ hy))
theorem ysf{p:ProgT}{g:Gr}{x:List (Int×Int)}(h:x∈tabP p g):∃v,v<g.ids.length/\x=p.vars.map (ybm g v):=by
 unfold tabP tabT at h;obtain⟨v,hv,rfl⟩:=List.mem_map.1 h;exact⟨v,List.mem_range.1 hv,rfl⟩
theorem ybyj {p:ProgT}{g:Gr}{m r:Nat}(hn:g.ids.length<=m) (hm:m<=4) (hv:0<p.vars.length/\p.vars.length<=6)
 (hb:∀v,v<g.ids.length->∀x∈p.vars,-1000000<=(ybm g v x).1/\(ybm g v x).1<=(ybm g v x).2/\(ybm g v x).2<=1000000)
 (hr:∀v,v<g.ids.length->ybq (p.vars.map (ybm g v))<=r) (h1:1<=r) (h2:r^m<=32768) (h3:r^m*2^m<=262144):TabOk (tabP p g)/\ybl (tabP p g)*2^g.ids.length<=262144:=by
 have hl:(tabP p g).length=g.ids.length:=yhb _ _ _
 have hp:ybl (tabP p g)<=r^m:=by
  refine zAE (ybmj (r:=r) _ fun x hx=>?_) ?_
  .obtain⟨v,hv,rfl⟩:=ysf hx;exact hr v hv
  .rw[hl];exact zG h1 hn
 refine⟨⟨fun x hx b hb'=>?_,fun x hx b hb'=>?_,by omega,fun x hx=>?_,by omega⟩,zAE (zAK hp (zG (by omega) hn)) h3⟩
 .obtain⟨v,hv,rfl⟩:=ysf hx;obtain⟨y,hy,rfl⟩:=List.mem_map.1 hb';exact(hb v hv y hy).2.1
 .obtain⟨v,hv,rfl⟩:=ysf hx;obtain⟨y,hy,rfl⟩:=List.mem_map.1 hb';exact⟨(hb v hv y hy).1,(hb v hv y hy).2.2⟩
 .obtain⟨v,hv,rfl⟩:=ysf hx;rw[zN];omega
theorem ydio{g:Gr}(hg:ybg g)(v:Nat):(g.ports.getD v []).length<=g.ports.length:=by
 by_cases hv:v<g.ports.length
 .obtain⟨h1,h2⟩:=hg.2.2.2.2.2.1 ⟨v,hv⟩;rw[ykq hv]
  have:=ytt g.ports.length ((g.ports[v]).map (·.1)) (fun x hx=>by
   obtain⟨l,hl,rfl⟩:=List.mem_map.1 hx;obtain⟨a,b,-⟩:=h1 l hl;exact⟨a,by omega⟩) h2
  rwa [zN]at this
 .rw[zM,List.getElem?_eq_none (by omega)]
  exact zI _
end
section
section
variable {g:Gr}
theorem ycgf{u v:Nat}(h:adj g v u):(netG g v).testBit u=true:=by
 obtain⟨ls,h1,l,hl,e⟩:=h;refine(ybmm _ _).2 ⟨l,?_,by rw[e];rfl⟩
 rw[zM,h1];exact hl
theorem ycji(hg:ybg g)(v:Nat):(netG g v).testBit v=false:=by
 cases q:(netG g v).testBit v with
 |false=>rfl
 | true =>
   obtain⟨ls,h1,l,hl,e⟩:=ybni hg q;obtain⟨hv,rfl⟩:=List.getElem?_eq_some_iff.1 h1;have:=((hg.2.2.2.2.2.1 ⟨v,hv⟩).1 l hl).2.2.1;exact absurd e this
theorem ybob{s:Nat}(hs:s<2^32)(h:Sh.indB (g.ports.map netP) s=true):ybda g s:=fun u v ha hu=>by
 have h1:=(Sh.yyo hs).1 h u hu;rw[ybir]at h1;cases q:s.testBit v with
 |false=>rfl
 | true =>
   have:(netG g u&&&s).testBit v=true:=by rw[zW,ycgf ha,q];rfl
   rw[h1]at this;simp at this
theorem yddf:∀e,e<16->e≠0->∃i,i<4/\(4294967296-e)&&&e=2^i:=by decide +kernel
theorem ybsv(hg:ybg g)(e:Nat)(he:e<16)(h0:e≠0):Sh.indB (g.ports.map netP) ((4294967296-e)&&&e)=true:=by
 obtain⟨i,hi,e1⟩:=yddf e he h0;rw[e1];have h16:2^i<2^32:=Nat.pow_lt_pow_right (by omega) (by omega)
 refine(Sh.yyo h16).2 fun v hv=>?_;rw[zX,decide_eq_true_iff]at hv;subst hv;rw[ybir,ygx];intro j;rw[zW,zX]
 by_cases q:i=j
 .rw[<-q,ycji hg];rfl
 .rw[decide_eq_false q,Bool.and_false]
end
namespace Sh
open Ev Go.RowKit
theorem ybsx{g:Gr}(hg:ybg g)(h4:g.ids.length<=4):∀e s,e<2^g.ids.length->s≠0->s<16->s&&&e=s->Returns zV 171 [usV (g.ports.map netP),.i .i64 2,.i .u32 (e:Nat),.i .u32 (s:Nat)] (.b (indB (g.ports.map netP) s)):=fun e s he h0 hs h=>by
 have h16:2^g.ids.length<=2^4:=zG (by omega) h4
 have hpl:=hg.2.2.1;refine ybau (by omega) h0 (by omega) (yblf h) (fun v hv=>?_) fun v=>zAF (by rw[ybir];exact ydhn hg v) (by omega:2^24<2^32)
 have:=yki h v hv;rw[zN];refine zS fun q=>?_;rw[zAC (zL he (zG (by omega) (by omega)))]at this
 cases this
end Sh
end
section
theorem Loop.bounded {S:Sys}{V:Conf->Prop}{c:Nat->Conf}{s:Nat->Nat}{m:Nat}(hL:Loop S V c s m) (hlt:∀c,S.en c<2^32) {J:Conf->Cnt->Prop}(start:J (c 0) (ybdq (S.en (c 0)))) (step:∀t k,J (c t) k->J (S.mv (c t) (s t)) (addP k (s t) (S.en (S.mv (c t) (s t))))) {M:Nat}
 (bound:∀t k,J (c t) k->k.moves<=M):False:=by
 have key:∀t,∃k,J (c t) k/\t<=k.moves:=fun t=>by
  induction t with
  |zero=>exact⟨_,start,zI _⟩
  | succ t ih =>
    obtain⟨k,h1,h2⟩:=ih;have h3:=step t k h1;rw[<-hL.nx t]at h3;refine⟨_,h3,?_⟩;have:1<=popP (s t):=ybkm _ (ybid (hL.sub t) (hlt _)) (hL.ne t);show t+1<=k.moves+popP (s t);omega
 obtain⟨k,h1,h2⟩:=key (M+1);have:=bound _ k h1;omega
section
variable {nm np na nb nw nc nr:ByteArray}{g:Gr}
theorem ybdf(hg:ybg g){c:Conf}(hv:yfs (ybs nm np na nb nw) g c=true):MtJ nm np na nb nw g c (ybdq ((yms (ybs nm np na nb nw) g).en c)):=by
 have h:=ybav hv;refine⟨hv,fun _=>True,⟨fun v u e=>ybal hg h e,fun v u _ hn=>absurd trivial hn⟩,?_⟩;have:=ybxa g (toP g c) fun _=>True;show 2*0+_<=_;omega
theorem ybkn(hg:ybg g){c:Conf}{k:Cnt}{s:Nat}(hJ:MtJ nm np na nb nw g c k)(hs:subB s ((yms (ybs nm np na nb nw) g).en c))(hD:ybda g s):MtJ nm np na nb nw g ((yms (ybs nm np na nb nw) g).mv c s) (addP k s ((yms (ybs nm np na nb nw) g).en ((yms (ybs nm np na nb nw) g).mv c s))):=by
 refine⟨Sh.yix hg ydns (ybgp hg) hJ.valid s,?_⟩;obtain⟨I,h1,h2⟩:=hJ.moves;obtain⟨I',h3,h4⟩:=ydef hg hJ.valid h1 hs hD;refine⟨I',h3,?_⟩;show 2*(k.moves+popP s)+potN g (toP g (ydm _ g c s)) I'<=_;omega
theorem ydtl(hg:ybg g)(p:ProgT)(c:Conf):ybj p g c<2^32:=by
 have h1:=Sh.ype p g c;have h2:=hg.2.1;have h3:=hg.2.2.1;exact zL h1 (zG (by omega) (by omega))
theorem ybqd(hg:ybg g){c:Nat->Conf}{s:Nat->Nat}{m:Nat}(hL:Loop (yms (ybs nm np na nb nw) g) (fun c=>yfs (ybs nm np na nb nw) g c=true) c s m)(hI:∀i,ybda g (s i)):False :=
 hL.bounded (fun c=>ydtl hg _ c) (J:=MtJ nm np na nb nw g) (ybdf hg (hL.val 0)) (fun t k h=>ybkn hg h (hL.sub t) (hI t)) fun t k h=>ybat h
end
end
section
section
variable {nm np na nb nw:ByteArray}{g:Gr}
theorem ydbf(hg:ybg g)(hn:g.ports.length<=4):WLaw (ybs nm np na nb nw) g (Sh.indB (g.ports.map netP)) (ybda g) (yek g) (fun c k=>MtJ nm np na nb nw g c k/\k.rounds<=k.moves) (2*yel g+g.ports.length) (fun x=>x<=2*yel g+g.ports.length):=by
 have hpl:=hg.2.2.1;have h2:=ybwu hg;have hbt:∀v,ybm g v ⟨np,3,0,0,0,0⟩=(-1,((g.ports.getD v []).length:Int)-1):=fun v=>rfl;have hdg:=ydio hg
 have hpn:yfg g<=24*4:=by
  have h1:=yjg hg g.ports.length (zY _);rw[ymq]at h1;omega
 have ht:=ybyj (p:=ybs nm np na nb nw) (g:=g) (m:=4) (r:=5) (by omega) (by omega) ⟨Nat.succ_pos _,by show 1<=6;omega⟩ (fun v hv x hx=>by
  have:=hdg v;rw[List.mem_singleton.1 hx,hbt];show -1000000<=(-1:Int)/\(-1:Int)<=((g.ports.getD v []).length:Int)-1/\((g.ports.getD v []).length:Int)-1<=1000000;omega) (fun v hv=>by
  have:=hdg v;show szP (ybm g v ⟨np,3,0,0,0,0⟩)*1<=5;rw[hbt];unfold szP;show(((g.ports.getD v []).length:Int)-1 - -1+1).toNat*1<=5;omega) (by omega) (by decide) (by decide)
 have stepM:∀c k s,MtJ nm np na nb nw g c k/\k.rounds<=k.moves->s≠0->subB s (ybj (ybs nm np na nb nw) g c)->ybda g s->MtJ nm np na nb nw g (ydm (ybs nm np na nb nw) g c s) (addP k s (ybj (ybs nm np na nb nw) g (ydm (ybs nm np na nb nw) g c s)))/\(addP k s (ybj (ybs nm np na nb nw) g (ydm (ybs nm np na nb nw) g c s))).rounds<=k.moves+popP s/\k.rounds+1<=k.moves+popP s:=fun c k s hJ h0 hs hD=>by
  have hp:1<=popP s:=ybkm _ (ybid hs (ydtl hg _ c)) h0;refine⟨ybkn hg hJ.1 hs hD,?_,by have:=hJ.2;omega⟩
  have:=hJ.2;show(if difB k.pend s&&&_=0 then k.rounds+1 else k.rounds)<=_
  split<;>omega
 exact {
  tab:=ht.1
  n4:=by omega
  big:=ht.2
  fit:=fun c hc s=>Sh.yix hg ydns (ybgp hg) hc s
  permD:=fun s hs h=>ybob (zL hs (zG (by omega) (by omega))) h
  low:=ybsv hg
  start:=fun c hc=>⟨ybdf hg hc,zI _⟩
  step:=fun c k s hc hJ h0 hs hD=>⟨(stepM c k s hJ h0 hs hD).1,(stepM c k s hJ h0 hs hD).2.1⟩
  rests:=fun c hc=>yma hg hc
  rounds:=fun c k hc hJ hL=>by
   have he:ybj (ybs nm np na nb nw) g c≠0:=fun e=>by
    have:=(yma hg hc).1 e;rw[hL]at this;cases this
   have h16:ybj (ybs nm np na nb nw) g c<16:=zL (Sh.ype _ g c) (zG (by omega) (by omega):2^g.ids.length<=2^4)
   obtain⟨l1,l2,l3,-⟩:=yuf _ h16 he;have hI:ybda g ((4294967296-ybj (ybs nm np na nb nw) g c)&&&ybj (ybs nm np na nb nw) g c):=ybob (by omega) (ybsv hg _ h16 he)
   obtain⟨h3,-,h4⟩:=stepM c k _ hJ l1 (yki l3) hI;have h5:=ybat h3;have h6:k.moves+popP ((4294967296-ybj (ybs nm np na nb nw) g c)&&&ybj (ybs nm np na nb nw) g c)<=g.ports.length+yfg g:=h5;omega
  r1000:=by omega
  moves:=fun c k hc hJ=>by have:=ybat hJ.1;omega
  noloop:=fun c s m h hD=>ybqd hg h hD }
end
end
section
namespace Sh
open Go Ev
def c8_0:LO:=[o3 (.box 24 (.tmp 0)) 1 0,o3 (.mv (.const (.bool false))) 2 0]
def c8_1:LO:=[ld' true 6 1 22 0,o3 (.call (.func 22) [(.tmp 22),(ci' 4)]) 23 1,o3 (.alloc 27 1 [.a (.slice none 0 0),.a (.slice none 0 0)]) 3 0,o0 (.store 2 (.tmp 3) (.tmp 23)) 7]
def c8_2:LO:=[cl' 39 [] 24 0,cl' 11 [24] 25 1,o3 (.alloc 32 1 [.a (.string (ByteArray.mk #[])),.a (.slice none 0 0),.a (.slice none 0 0)]) 4 0,o0 (.store 3 (.tmp 4) (.tmp 25)) 7]
def c8_3:LO:=[ld' true 2 3 26 0,cl' 40 [26] 27 1,o3 (.alloc 36 1 [.i .i64 0,.b false,.b false,.i .i64 0,.i .i64 0]) 5 0,o0 (.store 5 (.tmp 5) (.tmp 27)) 7]
def c8_4:LO:=[ld' true 3 4 29 0,ld' true 2 3 30 0,fa' 0 1 5 31 0,ld' false 1 31 32 4,cl' 14 [29,30,32] 33 15,mv' 33 28 31,xt' 28 0 34 63,xt' 28 1 35 63,o3 (.alloc 41 1 [.a (.slice none 0 0),.a (.slice none 0 0)]) 6 0,o0 (.store 2 (.tmp 6) (.tmp 34)) 383,mv' 35 7 1023]
def c8_5:LO:=[mv' 7 36 0,o3 (.bin .neq (.tmp 36) (ci' 0)) 37 1,mv' 37 38 3,⟨.faddr 1 1 (.tmp 6),some 39,some (38,false),7⟩,⟨.load false 1 (.tmp 39),some 40,some (38,false),15⟩,⟨.len (.tmp 40),some 41,some (38,false),31⟩,⟨.bin .eql (.tmp 41) (ci' 0),some 42,some (38,false),63⟩,o3 (.pick (.tmp 38) (.const (.bool true)) (.tmp 42)) 43 127]
def c8_6:LO:=[o3 (.mv (.const (.bool false))) 2 0]
def c8_7:LO:=[o3 (.mv (.const (.slice none 0 0))) 8 0]
def c8_8:LO:=[o3 (.mv (ci' 0)) 9 0]
def c8_9:LO:=[mv' 9 44 0,fa' 1 1 6 45 0,ld' false 1 45 46 2,ln' 46 47 6,bn' .lss 44 47 48 15]
def ydqw:LO:=[ld' true 3 4 52 0,ld' true 2 3 53 0,mv' 9 54 0,cl' 15 [52,53,54] 55 7,mv' 55 51 15,xt' 51 0 56 31,xt' 51 1 57 31,mv' 56 10 63,mv' 57 11 255]
def ydyy:LO:=[mv' 11 58 0,o3 (.bin .neq (.tmp 58) (ci' 0)) 59 1]
def yeah:LO:=[o3 (.mv (.const (.bool false))) 2 0]
def ydsj:LO:=[mv' 8 60 0,ld' true 2 3 61 0,mv' 10 62 0,cl' 41 [61,62] 63 6,o3 (.bslice 4 1 1 [.b false] [(0,1,(.tmp 63))]) 64 14,o3 (.app 4 1 1 (.tmp 60) (.tmp 64)) 65 31,mv' 65 8 63]
def ydvx:LO:=[mv' 9 49 0,o3 (.bin .add (.tmp 49) (ci' 1)) 50 1,mv' 50 9 3]
def ydpf:LO:=[ld' true 2 6 67 0,mv' 8 68 0,cl' 17 [67,68] 69 3,mv' 69 66 7,xt' 66 0 70 15,xt' 66 1 71 15,mv' 70 12 31,mv' 71 13 127]
def ydrp:LO:=[ld' true 2 6 73 0,mv' 8 74 0,cl' 18 [73,74] 75 3,mv' 75 72 7,xt' 72 0 76 15,xt' 72 1 77 15,mv' 76 14 31,mv' 77 15 127]
def ydot:LO:=[mv' 13 78 0,o3 (.bin .neq (.tmp 78) (ci' 0)) 79 1,mv' 79 80 3,⟨.mv (.tmp 15),some 81,some (80,false),7⟩,⟨.bin .neq (.tmp 81) (ci' 0),some 82,some (80,false),15⟩,o3 (.pick (.tmp 80) (.const (.bool true)) (.tmp 82)) 83 31,mv' 83 84 63,⟨.mv (.tmp 14),some 85,some (84,false),127⟩,⟨.un .not (.tmp 85),some 86,some (84,false),255⟩,o3 (.pick (.tmp 84) (.const (.bool true)) (.tmp 86)) 87 511,mv' 87 88 1023,⟨.mv (.tmp 12),some 89,some (88,false),2047⟩,⟨.len (.tmp 89),some 90,some (88,false),4095⟩,⟨.mv (.tmp 8),some 91,some (88,false),2047⟩,⟨.len (.tmp 91),some 92,some (88,false),10239⟩,⟨.bin .neq (.tmp 90) (.tmp 92),some 93,some (88,false),32767⟩,o3 (.pick (.tmp 88) (.const (.bool true)) (.tmp 93)) 94 65535]
def yeal:LO:=[o3 (.mv (.const (.bool false))) 2 0]
def ydyq:LO:=[o3 (.mv (ci' 0)) 16 0]
def ydjt:LO:=[mv' 16 95 0,mv' 12 96 0,ln' 96 97 2,bn' .lss 95 97 98 7]
def ydtc:LO:=[mv' 12 101 0,mv' 16 102 0,ix' 1 101 102 103 3,ld' false 1 103 104 7]
def yebm:LO:=[o3 (.mv (.const (.bool false))) 2 0]
def ydpn:LO:=[mv' 16 99 0,o3 (.bin .add (.tmp 99) (ci' 1)) 100 1,mv' 100 16 3]
def ydve:LO:=[ld' true 2 6 106 0,mv' 8 107 0,cl' 19 [106,107] 108 3,mv' 108 105 7,xt' 105 0 109 15,xt' 105 1 110 15,mv' 109 17 31,mv' 110 18 127]
def ydnz:LO:=[ld' true 2 6 112 0,mv' 8 113 0,cl' 20 [112,113] 114 3,mv' 114 111 7,xt' 111 0 115 15,xt' 111 1 116 15,mv' 115 19 31,mv' 116 20 127]
def ydvl:LO:=[mv' 18 117 0,o3 (.bin .neq (.tmp 117) (ci' 0)) 118 1,mv' 118 119 3,⟨.mv (.tmp 20),some 120,some (119,false),7⟩,⟨.bin .neq (.tmp 120) (ci' 0),some 121,some (119,false),15⟩,o3 (.pick (.tmp 119) (.const (.bool true)) (.tmp 121)) 122 31,mv' 122 123 63,⟨.mv (.tmp 17),some 124,some (123,false),127⟩,⟨.len (.tmp 124),some 125,some (123,false),255⟩,⟨.mv (.tmp 8),some 126,some (123,false),127⟩,⟨.len (.tmp 126),some 127,some (123,false),639⟩,⟨.bin .neq (.tmp 125) (.tmp 127),some 128,some (123,false),2047⟩,o3 (.pick (.tmp 123) (.const (.bool true)) (.tmp 128)) 129 4095,mv' 129 130 8191,⟨.mv (.tmp 19),some 131,some (130,false),16383⟩,⟨.len (.tmp 131),some 132,some (130,false),32767⟩,⟨.mv (.tmp 8),some 133,some (130,false),16383⟩,⟨.len (.tmp 133),some 134,some (130,false),81919⟩,⟨.bin .neq (.tmp 132) (.tmp 134),some 135,some (130,false),262143⟩,o3 (.pick (.tmp 130) (.const (.bool true)) (.tmp 135)) 136 524287]
def yeag:LO:=[o3 (.mv (.const (.bool false))) 2 0]
def ydlq:LO:=[o3 (.mv (ci' 0)) 21 0]
def ydhb:LO:=[mv' 21 137 0,mv' 17 138 0,ln' 138 139 2,bn' .lss 137 139 140 7]
def ydoy:LO:=[mv' 17 143 0,mv' 21 144 0,ix' 1 143 144 145 3,ld' false 1 145 146 7,fa' 3 1 5 147 0,ld' false 1 147 148 16,bn' .gtr 146 148 149 63,mv' 149 150 127,⟨.faddr 4 1 (.tmp 5),some 151,some (150,false),255⟩,⟨.load false 1 (.tmp 151),some 152,some (150,false),511⟩,⟨.bin .geq (.tmp 152) (ci' 0),some 153,some (150,false),1023⟩,⟨.mv (.tmp 153),some 154,some (150,false),2047⟩,⟨.mv (.tmp 19),some 155,some (154,true),4095⟩,⟨.mv (.tmp 21),some 156,some (154,true),4095⟩,⟨.idx 1 (.tmp 155) (.tmp 156),some 157,some (154,true),16383⟩,⟨.load false 1 (.tmp 157),some 158,some (154,true),32767⟩,⟨.faddr 4 1 (.tmp 5),some 159,some (154,true),4095⟩,⟨.load false 1 (.tmp 159),some 160,some (154,true),69631⟩,⟨.bin .gtr (.tmp 158) (.tmp 160),some 161,some (154,true),262143⟩,⟨.pick (.tmp 154) (.tmp 161) (.const (.bool false)),some 162,some (150,false),524287⟩,o3 (.pick (.tmp 150) (.const (.bool true)) (.tmp 162)) 163 1048575]
def yeav:LO:=[o3 (.mv (.const (.bool false))) 2 0]
def yebe:LO:=[mv' 21 141 0,o3 (.bin .add (.tmp 141) (ci' 1)) 142 1,mv' 142 21 3]
def ydyp:LO:=[cl' 42 [] 164 0,mv' 164 2 1]
def c8:SC:=(.seq (.reg false c8_0) (.seq (.reg false c8_1) (.seq (.reg false c8_2) (.seq (.reg false c8_3) (.seq (.reg false c8_4) (.seq (.seq (.reg false c8_5) (.cond (.tmp 43) (.seq (.reg false c8_6) .ret) .skip)) (.seq (.reg false c8_7) (.seq (.seq (.reg false c8_8) (.block 0 (.loop (.seq (.seq (.reg false c8_9) (.cond (.tmp 48) .skip (.exit 0))) (.seq (.block 1 (.seq (.reg false ydqw) (.seq (.seq (.reg false ydyy) (.cond (.tmp 59) (.seq (.reg false yeah) .ret) .skip)) (.reg false ydsj)))) (.reg false ydvx)))))) (.seq (.reg false ydpf) (.seq (.reg false ydrp) (.seq (.seq (.reg false ydot) (.cond (.tmp 94) (.seq (.reg false yeal) .ret) .skip)) (.seq (.seq (.reg false ydyq) (.block 2 (.loop (.seq (.seq (.reg false ydjt) (.cond (.tmp 98) .skip (.exit 2))) (.seq (.block 3 (.seq (.reg false ydtc) (.cond (.tmp 104) (.seq (.reg false yebm) .ret) .skip))) (.reg false ydpn)))))) (.seq (.reg false ydve) (.seq (.reg false ydnz) (.seq (.seq (.reg false ydvl) (.cond (.tmp 136) (.seq (.reg false yeag) .ret) .skip)) (.seq (.seq (.reg false ydlq) (.block 4 (.loop (.seq (.seq (.reg false ydhb) (.cond (.tmp 140) .skip (.exit 4))) (.seq (.block 5 (.seq (.reg true ydoy) (.cond (.tmp 163) (.seq (.reg false yeav) .ret) .skip))) (.reg false yebe)))))) (.seq (.reg false ydyp) .ret)))))))))))))))))
theorem yebd:Fn 8 c8 [.t 2]:=fn_0 Tryz.func8 (by kernel_rfl) (by kernel_rfl)
end Sh
end
end Go.Proofs.YthclbjjgfcgbgaaGreatDoor
