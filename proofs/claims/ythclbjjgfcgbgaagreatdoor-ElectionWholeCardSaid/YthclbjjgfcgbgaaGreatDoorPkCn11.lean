/- Joined. -/
import Derived.Test.YthclbjjgfcgbgaaGreatDoorPkCn10
set_option linter.unusedSimpArgs false
set_option linter.unusedVariables false
set_option maxRecDepth 8000
open Nat renaming reduceEqDiff->zA,reduceAdd->zB,reduceLT->zC,reduceBEq->zD,reduceLeDiff->zF,pow_le_pow_right->zG,zero_le->zH,lt_of_lt_of_le->zL,not_lt_zero->zO,le_trans->zU,le_refl->zV,testBit_and->zX,testBit_two_pow->zY,testBit_lt_two_pow->zAC,lt_trans->zAF,max_eq_right->zAI,max_eq_left->zAJ,mul_le_mul->zAL,le_total->zAM
open Int renaming lt_irrefl->zI,reduceBNe->zK,toNat_natCast->zM,lt_or_le->zAN
open Classical renaming byContradiction->zJ
open List renaming getD_eq_getElem?_getD->zN,length_map->zQ,length_append->zT,countP_mono_left->zW,getElem?_eq_getElem->zZ,getElem_mem->zAA,headD_cons->zAB,mem_cons_self->zAE,getElem?_map->zAG,countP_map->zAK,take->zAO,drop->zAP
open Go.Proofs.Tryz renaming prog->zS
open And renaming intro->zAD
open Bool renaming and_eq_true->zAH
open Go
namespace Go.Proofs.YthclbjjgfcgbgaaGreatDoor
section
def rkN(p:ProgT)(g:Gr)(d:Conf):Nat:=(rkT (tabP p g) d).toNat
def ychp(perm:Nat->Bool)(p:ProgT)(g:Gr)(c:Conf):List (Nat×Nat):=(chP perm (ybq p g c)).map fun s=>(s,rkN p g (yds p g c s))
namespace Sh
open Ev Go.RowKit
section
variable {Q1 Q2:(Nat->Option ABlk)->Value->Prop}{p:ProgT}{g:Gr}
theorem ycio(h:Checked Q1 Q2 p g){c:Conf}(b:yfe p g c=true){v:Nat}(e:v<g.ids.length):inR ((tabP p g).getD v []) (ykq p g c v (yeu p g c v).toNat):=by
 have d:=yjd.1 (ykt h.hg h.hp h.hf b (2^v));have f:c.length=g.ids.length:=(ymm.1 (yjd.1 b)).1.trans (yhz _ _ _);have a:=(ymm.1 d).2 v (by rw[show(tabP p g).length=g.ids.length from yhz _ _ _];exact e)
 rw[yqh p g c _ (by omega),if_pos (by rw[zY];simp)]at a
 exact a
set_option maxHeartbeats 8000000 in
theorem ybzm (h:Checked Q1 Q2 p g) (hT:TabOk (tabP p g)) {kind:Int}(d4:kind=2\/kind=3) (d5:g.ids.length<=4) {c:Conf}(hc:yfe p g c=true) {perm:Nat->Bool}
 (b2:∀e s,e<2^g.ids.length->s≠0->s<16->s&&&e=s->Returns zS 171 [usV (g.ports.map netP),.i .i64 kind,.i .u32 (e:Nat),.i .u32 (s:Nat)] (.b (perm s))) :
 Cm zS 60 [(302,0)] (ybt 302 303 c.length fun j=>c.getD j []) [.rf (ydq p g (g.ports.map netP) kind (tabP p g)),.os (302,0) 0 c.length true,.i .i64 (rkN p g c:Nat)] fun r o =>
  r = .tp [.i .u32 (ybq p g c:Nat),ybm (ychp perm p g c),.i .i64 0]/\o=ybt 302 303 c.length fun j=>c.getD j []:=by
 refine ydoc [(302,0)] [129,127] _ _ _ ?_;have hid:=h.hg.2.2.1;have e7:=h.hg.2.1;have b4:=ybue h.hg h.hp hc;have a8:=yjd.1 hc;obtain⟨c5,c6⟩:=ymm.1 a8;have c2:(tabP p g).length=g.ids.length:=yhz _ _ _;have e6:c.length=g.ids.length:=c5.trans c2;have b6:ybq p g c<16:=zL (ybaa p g c) (zG (by omega) d5:2^g.ids.length<=2^4)
 have U:∀v,v<g.ids.length->∃W,(tabP p g).getD v []=W/\W.length<=6/\(c.getD v []).length=W.length/\(ykq p g c v (yeu p g c v).toNat).length=W.length/\((yfc (tabP p g)).getD v []).length=W.length /\
  ∀i,i<W.length->(-1000000<=(c.getD v []).getD i 0/\(c.getD v []).getD i 0<=1000000)/\(-1000000<=(ykq p g c v (yeu p g c v).toNat).getD i 0/\(ykq p g c v (yeu p g c v).toNat).getD i 0<=1000000)/\(0<=((yfc (tabP p g)).getD v []).getD i 0/\((yfc (tabP p g)).getD v []).getD i 0<=32768):=fun v E=>by
  have a0:v<(tabP p g).length:=by omega
  obtain⟨L,n⟩:=hT.at_ a0;obtain⟨h1,h2⟩:=yph.1 (c6 v a0);obtain⟨h3,h4⟩:=yph.1 (ycio h hc E);refine⟨_,rfl,L.2,h1,h3,yxq a0,fun i t=>?_⟩;have a:=n i t;have b:=h2 i t;have d:=h4 i t;obtain⟨m,e1,H⟩:=ycel 1 hT.bd a0 t;have e3:((yfc (tabP p g)).getD v []).getD i 0=(m:Int):=e1;have e4:=hT.tot;rw[e3];omega
 have P:∀v,v<g.ids.length->∀x,x<=(c.getD v []).length -> -1000000000000<=sumI (fun i=>((ykq p g c v (yeu p g c v).toNat).getD i 0-(c.getD v []).getD i 0)*((yfc (tabP p g)).getD v []).getD i 0) x/\sumI (fun i=>((ykq p g c v (yeu p g c v).toNat).getD i 0-(c.getD v []).getD i 0)*((yfc (tabP p g)).getD v []).getD i 0) x<=1000000000000:=fun v E x hx=>by
  obtain⟨W,-,h1,h2,-,-,h3⟩:=U v E;have:=yblq (B:=65536000000) x fun i t=>yddd (a:=(ykq p g c v (yeu p g c v).toNat).getD i 0-(c.getD v []).getD i 0) (b:=((yfc (tabP p g)).getD v []).getD i 0) (by have:=h3 i (by omega);omega) (h3 i (by omega)).2.2
  have f6:(x:Int)<=6:=by omega
  omega
 have a2:∀v,v<g.ids.length->¬yeu p g c v<0->yos p g c v=sumI (fun i=>((ykq p g c v (yeu p g c v).toNat).getD i 0-(c.getD v []).getD i 0)*((yfc (tabP p g)).getD v []).getD i 0) (c.getD v []).length:=fun v E L=>by
  obtain⟨W,-,h1,h2,h3,h4,-⟩:=U v E;unfold yos;rw[if_neg L];exact ychm (by omega) (by show((yfc (tabP p g)).getD v []).length=_;omega)
 have Q:∀v,v<g.ids.length -> -1000000000000<=yos p g c v/\yos p g c v<=1000000000000:=fun v E=>by
  by_cases L:yeu p g c v<0
  .have:yos p g c v=0:=if_pos L;omega
  .rw[a2 v E L];exact P v E _ (zV _)
 have a7:=fun v (E:v<g.ids.length)=>ycpp p h.hg h.hp b4 (v:=v) (by omega)
 have a5:=fun v (E:v<g.ids.length) (r:Nat) (L:r<p.rules.length)=>ycrv p h.hg h.hp b4 (v:=v) (by omega) L
 let bc:List SV:=ydq p g (g.ports.map netP) kind (tabP p g)
 let w:Nat->List Int:=fun j=>c.getD j []
 let K:Own:=ybt 302 303 c.length w
 let f:Nat->Bool:=fun j=>decide (yeu p g c j>=0)
 simp only[c60,yeip,ydvt,yedb,yeid,ydq,ybt,clash,go_sem,zA,zB,zC];refine ybe (σ:=Nat) (fun v=>⟨[(23,.i .i64 v),(22,.i .i64 (c.length:Nat)),(1,.os (302,0) 0 c.length true),(0,.rf bc),(9,.i .u32 (ypu f v:Nat)),(2,.i .i64 (rkN p g c:Nat)),(10,.pt (10,0) 0 0)],(10,.one (some ⟨150,true,1,24,fun j=>[.i .i64 (if j<v then yos p g c j else 0)]⟩))::K⟩) (fun v=>v<=g.ids.length) (fun v=>g.ids.length-v) 0 (zH _) ?_ ?_
 .refine ybl [] [] [] ?_;simp only[K,ybt,ycw,bc,ydq,ydi,ybb,ypu,zO,wk,go_sem,zA,zC];exact⟨fun _ _ _ _ e=>e,fun i t=>⟨Sim.refl _,by rw[if_pos t]⟩,fun i b n=>ydy n⟩
 .intro v E
  by_cases A:v<g.ids.length
  .have d1 : decide ((v:Int)<(c.length:Int))=true:=by simp;omega
   have f4:=ycpm p g c v;have Y:ypu f (v+1)=if f v=true then ypu f v|||2^v else ypu f v:=rfl
   have f5:=ybro f v;have e8:2^v<=2^4:=zG (by omega) (by omega)
   have hR:=a7 v A
   by_cases L:yeu p g c v<0
   .have d2:decide (yeu p g c v<0)=true:=decide_eq_true L;have b0:f v=false:=decide_eq_false (by omega)
    rw[b0,if_neg (by decide)]at Y
    have c8:yos p g c v=0:=if_pos L;simp only[ycnv,ydtq,ydpi,ydus,ycmr,K,ybt,bc,ydq,yfw,d1,clash,go_sem,zA,zB,zF,zD];refine .inl ⟨fun q F=>?_,hR.useS ⟨ybhr _ _,?_,Sim.refl _,trivial⟩ (zAD rfl ?_)⟩
    .simp only[ycw,if_pos F];exact⟨zV _,fun _ _=>⟨trivial,trivial⟩⟩
    .unfold ydi;refine yej fun q F=>?_;simp only[ycw,if_pos F];exact⟨⟨Sim.refl _,trivial⟩,rfl⟩
    simp only[ybj,d2,clash,go_sem,zA,zB]
    repeat refine ybd ?_
    refine yu (v+1) A (by omega) ?_
    refine ybl [] [] [] ?_;simp only[ycw,Y,wk,go_sem,zA,zC];refine⟨fun _ _ _ _ e=>e,by omega,fun j hj=>?_,fun i t=>by rw[if_pos t],fun i b n=>ydy n⟩
    by_cases e:j<v
    .rw[if_pos e,if_pos (by omega)]
    .rw[if_neg e]
     by_cases H:j=v
     .rw[if_pos (by omega),H,c8]
     .rw[if_neg (by omega)]
   .have d2:decide (yeu p g c v<0)=false:=decide_eq_false L;obtain⟨r,c0⟩:∃r:Nat,yeu p g c v=(r:Int):=⟨(yeu p g c v).toNat,by omega⟩
    have b0:f v=true:=decide_eq_true (by omega)
    rw[b0,if_pos rfl]at Y;have hM:=a5 v A r (by omega)
    have b9:=ycio h hc A;rw[c0]at hR d2 b9;rw[zM]at b9;have I:=P v A;have J:=a2 v A L;obtain⟨W,-,w1,w2,w3,w4,w5⟩:=U v A;rw[c0,zM]at I J w3 w5;have f1:(yfc (tabP p g)).length=g.ids.length:=(ybfe _ 1).trans c2;obtain⟨M,c4⟩:∃M,ykq p g c v r=M:=⟨_,rfl⟩;obtain⟨cv,a1⟩:∃cv,c.getD v []=cv:=⟨_,rfl⟩;obtain⟨qv,a3⟩:∃qv,(yfc (tabP p g)).getD v []=qv:=⟨_,rfl⟩;rw[c4]at hM I J w3 w5;rw[a1]at I J w2 w5;rw[a3]at I J w4 w5
    let gt:Nat->Int:=sumI (fun i=>(M.getD i 0-cv.getD i 0)*qv.getD i 0)
    have u1:=yww (v:=v) (by omega)
    have u2:=u32_or (a:=ypu f v) (b:=2^v) (by omega) (by omega)
    rw[<-Y]at u2;simp only[IntKind.bits,zM]at u1 u2;simp only[ycnv,ydtq,ydpi,ydus,K,ybt,bc,ydq,yfw,d1,clash,go_sem,zA,zB,zF,zD];refine .inl ⟨fun q F=>?_,hR.useS ⟨ybhr _ _,?_,Sim.refl _,trivial⟩ (zAD rfl ?_)⟩
    .simp only[ycw,if_pos F];exact⟨zV _,fun _ _=>⟨trivial,trivial⟩⟩
    .unfold ydi;refine yej fun q F=>?_;simp only[ycw,if_pos F];exact⟨⟨Sim.refl _,trivial⟩,rfl⟩
    simp only[ybj,ydvi,yehm,d2,u1,u2,clash,go_sem,zA,zB,zF,zD]
    repeat refine ybd ?_
    refine yek hM [(302,302),(303,303)] 400 [11,23,22,1,0,9,2,10] [10] ?_ ?_
    .simp only[ybt,ycw,to1,okN,ycl,yfk,yee,ydu,wk,go_sem,zA,zB,zC,zD];exact⟨fun _ _ _ _ e=>e,ybhr _ _,fun i t=>⟨Sim.refl _,by rw[if_pos t]⟩,fun i b n=>ydy n⟩
    rintro r o' ⟨rfl,rfl⟩;simp only[ybt,ybb,yoy,ymh,nuF,nu,difN,yee,ydu,Fam.ren,OB.ren,dim,ybcl,ykv,go_sem,zA,zB,zD];refine ybe (σ:=Nat) (fun x=>⟨[(48,.i .i64 x),(47,.i .i64 (M.length:Nat)),(46,ybb M),(11,.i .i64 v),(23,.i .i64 v),(22,.i .i64 (c.length:Nat)),(1,.os (302,0) 0 c.length true),(0,.rf bc),(9,.i .u32 (ypu f (v+1):Nat)),(2,.i .i64 (rkN p g c:Nat)),(10,.pt (10,0) 0 0)],(10,.one (some ⟨150,true,1,24,fun j=>[.i .i64 (if j=v then gt x else if j<v then yos p g c j else 0)]⟩))::K⟩) (fun x=>x<=M.length) (fun x=>M.length-x) 0 (zH _) ?_ ?_
    .refine ybl [] [] [] ?_;simp only[K,ybt,ycw,bc,ydq,ybb,wk,go_sem,zA,zC];refine⟨fun _ _ _ _ e=>e,Sim.refl _,fun i t=>?_,fun i t=>⟨Sim.refl _,by rw[if_pos t]⟩,fun i b n=>ykm (h':=nu [(302,302),(303,303)] 400) n⟩
     have:gt 0=0:=rfl
     by_cases e:i=v
     .rw[if_pos e,if_neg (by omega),this]
     .rw[if_neg e]
    .intro x hx
     by_cases D:x<M.length
     .have d3:=dec_lt D;have c9:=I x (by omega)
      have d0:=I (x+1) (by omega)
      have X:gt (x+1)=gt x+(M.getD x 0-cv.getD x 0)*qv.getD x 0:=rfl
      change -1000000000000<=gt x/\gt x<=1000000000000 at c9
      change -1000000000000<=gt (x+1)/\gt (x+1)<=1000000000000 at d0
      obtain⟨y1,y2,y3⟩:=w5 x (by omega)
      obtain⟨Mx,a6⟩:∃y,M.getD x 0=y:=⟨_,rfl⟩;obtain⟨cx,a9⟩:∃y,cv.getD x 0=y:=⟨_,rfl⟩;obtain⟨qx,b3⟩:∃y,qv.getD x 0=y:=⟨_,rfl⟩;rw[a6,a9,b3]at X;rw[a6]at y2;rw[a9]at y1;rw[b3]at y3;have e9:=yddd (a:=Mx-cx) (b:=qx) (by omega) y3
      have d7:v<c.length:=by omega
      have d9:w v=cv:=a1;simp only[K,ybt,ycw,intO,if_pos d7,d9,ycfl,ycyl,ydiv,yddt,bc,ydq,ydi,ybb,d3,a3,a6,a9,b3,splice,clash,go_sem,zA,zB]
      repeat refine ybd ?_
      refine yu (x+1) D (by omega) ?_
      refine ybl [] [] [] ?_;simp only[wk,go_sem,zA,zC];refine⟨fun _ _ _ _ e=>e,by omega,fun i t=>yga ?_,fun i t=>by rw[if_pos t],fun i b n=>ydy n⟩
      by_cases e:i=v
      .rw[if_pos e,if_pos e,X]
      .rw[if_neg e,if_neg e,if_neg e]
     .obtain rfl:x=M.length:=by omega
      simp only[K,ybt,ycfl,ycmr,bc,ydq,ybb,zI,clash,go_sem,zA,zB]
      repeat refine ybd ?_
      refine yu (v+1) A (by omega) ?_
      refine ybl [] [] [] ?_;simp only[ycw,wk,go_sem,zA,zC];refine⟨fun _ _ _ _ e=>e,⟨by omega,Sim.refl _⟩,fun j hj=>?_,fun i t=>by rw[if_pos t],fun i b n=>ydy n⟩
      by_cases e:j=v
      .rw[if_pos e,if_pos (by omega),e,J]
       show sumI _ M.length=_;rw[show M.length=cv.length by omega]
      .rw[if_neg e]
       by_cases H:j<v
       .rw[if_pos H,if_pos (by omega)]
       .rw[if_neg H,if_neg (by omega)]
  .obtain rfl:v=g.ids.length:=by omega
   have d1:decide (((g.ids.length:Nat):Int)<(c.length:Int))=false:=by simp;omega
   have c7:ypu f g.ids.length=ybq p g c:=rfl;obtain⟨en,O⟩:∃e,ybq p g c=e:=⟨_,rfl⟩;have Z:=ybni (net:=g.ports.map netP) d4 b6 (fun s h1 h2 h3=>b2 _ s (ybaa p g c) h1 h2 h3);have V:=fun s (hs:subB s (ybq p g c)) (h2:s<2^g.ids.length)=>ydpa h.hg h.hp (fun c hc s=>ykt h.hg h.hp h.hf hc s) hT.bd hc (by omega) hs h2
   have S:=fun s (hs:s∈chP perm (ybq p g c))=>ybtz hs;rw[c7];rw[O]at Z V S b6 ⊢;obtain⟨z,N⟩:∃l,chP perm en=l:=⟨_,rfl⟩;have b5:ychp perm p g c=z.map fun s=>(s,rkN p g (yds p g c s)):=by unfold ychp;rw[O,N]
   rw[b5];rw[N]at Z S;have e5:z.length<=16:=by rw[<-N];exact ybdo _ _ _
   simp only[usV]at Z;simp only[K,ybt,ycnv,ycyc,bc,ydq,d1,clash,go_sem,zA,zB,zF,zD];refine Z.use ?_;simp only[ybj,yczz,ydai,yddc,splice,clash,go_sem,zA,zB,zC]
   repeat refine ybd ?_
   let R:Nat->Nat:=fun s=>rkN p g (yds p g c s)
   let u:Nat->Nat->Nat:=fun i j=>if j<i then z.getD j 0 else 0
   let w:Nat->Nat->Int:=fun i j=>if j<i then(R (z.getD j 0):Nat)else 0
   have d6:∀j,u 0 j=0:=fun j=>if_neg (zO j);have d8:∀j,w 0 j=0:=fun j=>if_neg (zO j)
   let G:OB:=⟨150,true,1,24,fun j=>[.i .i64 (if j<g.ids.length then yos p g c j else 0)]⟩
   let B:Own:=[(17,.one (some ⟨78,true,1,1,fun _=>[.os (98,0) 0 z.length true]⟩)),(10,.one (some G))]++K
   let C:(Nat->Nat)->(Nat->Int)->Nat×Fam:=fun u w=>(98,.one (some ⟨103,false,2,z.length,fun j=>[.i .u32 (u j:Nat),.i .i64 (w j)]⟩))
   refine ybe (σ:=Nat) (fun i=>⟨[(101,.i .i64 i),(100,.i .i64 (z.length:Nat)),(99,usV z),(9,.i .u32 (en:Nat)),(2,.i .i64 (rkN p g c:Nat)),(10,.pt (10,0) 0 0),(17,.pt (17,0) 0 0)],C (u i) (w i)::B⟩) (fun i=>i<=z.length) (fun i=>z.length-i) 0 (zH _) ?_ ?_
   .refine ybl [] [] [] ?_;simp only[K,ybt,ycw,usV,G,B,C,d6,d8,wk,go_sem,zA,zC];exact⟨fun _ _ _ _ e=>e,fun i t=>by rw[if_pos t],fun i b n=>ydy n⟩
   .intro i t
    by_cases A:i<z.length
    .have d2:=dec_lt A;obtain⟨s,hs⟩:∃s,z.getD i 0=s:=⟨_,rfl⟩;obtain⟨m1,m2,m3,-⟩:=S s (by rw[<-hs];exact getD_mem A)
     have e0:s<2^24:=by omega
     have a4:subB s en:=fun v E=>by
      have:(s&&&en).testBit v=true:=by rw[m3];exact E
      rw[zX,zAH]at this;exact this.2
     have b7:en<2^g.ids.length:=by rw[<-O];exact ybaa p g c
     have c1:s<2^g.ids.length:=ybdy a4 b7
     let gv:Nat->Int:=fun q=>(rkN p g c:Nat)+sumI (fun j=>yos p g c ((ybx s).getD j 0)) q
     have b1:gv (ybx s).length=(R s:Nat):=by
      have e1:=V s a4 c1;have H:=(ybbe a8).1;have e3:=(ybbe (yjd.1 (ykt h.hg h.hp h.hf hc s))).1;show((rkT (tabP p g) c).toNat:Int)+_=((rkT (tabP p g) (yds p g c s)).toNat:Int);omega
     have T:∀q,q<(ybx s).length->(ybx s).getD q 0<g.ids.length:=fun q F=>by
      obtain⟨-,n⟩:=ybqj e0 (getD_mem F);refine zJ fun J=>?_;rw[zAC (zL c1 (zG (by omega) (by omega)))]at n
      cases n
     have f0:(ybx s).length<=32:=by
      have:=List.length_filter_le (fun v=>s.testBit v) (List.range 32);unfold ybx
      simpa using this
     have f3:rkN p g c<=32768:=by
      have H:=ybbe a8;have e3:=hT.tot;show(rkT (tabP p g) c).toNat<=_;omega
     have b8:∀q,q<=(ybx s).length -> -100000000000000<=gv q/\gv q<=100000000000000:=fun q F=>by
      have:=yblq (f:=fun j=>yos p g c ((ybx s).getD j 0)) (B:=1000000000000) q fun j hj=>Q _ (T j (by omega))
      have f2:(q:Int)<=32:=by omega
      show -100000000000000<=(rkN p g c:Int)+_/\(rkN p g c:Int)+_<=100000000000000;omega
     have X:∀q,gv (q+1)=gv q+yos p g c ((ybx s).getD q 0):=fun q=>by
      exact(Int.add_assoc _ _ _).symm
     simp only[K,ybt,ycjc,ydgq,ycwd,ydad,usV,G,B,C,d2,hs,splice,clash,go_sem,zA,zB,zF,zC]
     repeat refine ybd ?_
     refine yek (ybsb (s:=s)) [(1,60)] 0 [101,100,99,9,2,10,17,18] [17,18,10,98,302,303] ?_ ?_
     .simp only[ycw,to1,okN,ycl,yfk,yee,ydu,wk,go_sem,zA,zD];exact⟨fun k hk=>by split<;>rfl,fun i b n=>(yda n).2▸ylw⟩
     rintro r o' ⟨rfl,rfl⟩;simp only[setO,yoy,ymh,nuF,nu,difN,yee,ydu,Fam.ren,OB.ren,dim,yid,ycmu,ycmq,go_sem,zA,zD]
     refine ylx (ybjc (b:=60) (s:=s) (by omega)) [(60,0),(17,0),(18,0),(10,0),(98,0),(302,0)] (fun q (_:Unit)=>⟨[(113,.fn 172 [] [.pt (60,0) 0 0]),(101,.i .i64 i),(100,.i .i64 (z.length:Nat)),(99,usV z),(9,.i .u32 (en:Nat)),(2,.i .i64 (rkN p g c:Nat)),(10,.pt (10,0) 0 0),(17,.pt (17,0) 0 0),(18,.pt (18,0) 0 0)],
      (60,.one (some (setO (ydz s q))))::(18,.one (some ⟨3,true,1,1,fun _=>[.i .i64 i]⟩))::C (fun k=>if k=i then s else u i k) (fun k=>if k=i then gv q else w i k)::B⟩)
      (fun q _=>q<=(ybx s).length) () (zH _) ⟨fun β h=>by rw[List.mem_singleton.1 h];simp,fun β h=>by rw[List.mem_singleton.1 h];exact zAE⟩ ?_ (fun _=>rfl) ?_ ?_ ?_
     .refine ybl [] [] [] ?_;simp only[K,ybt,ycw,setO,usV,ydz,G,B,C,wk,go_sem,zA,zC];refine⟨fun _ _ _ _ e=>e,fun k hk=>?_,fun i t=>by rw[if_pos t],fun i b n=>ydy n⟩
      have h0:gv 0=(rkN p g c:Nat):=Int.add_zero _
      by_cases e:k=i
      .rw[if_pos e,if_pos e,if_pos e,h0];exact yrr rfl
      .rw[if_neg e,if_neg e,if_neg e];exact yrr rfl
     .intro q _ F _;refine⟨rfl,?_⟩;simp only[usV,wk,go_sem,zA]
     .intro q _ F D;have D:q<(ybx s).length:=D;have E:=T q D;have g1:=b8 q (by omega)
      have g2:=b8 (q+1) (by omega)
      have g3:=X q;have g4:=Q _ E;obtain⟨v,c3⟩:∃v,(ybx s).getD q 0=v:=⟨_,rfl⟩;rw[c3]at E g3 g4;refine⟨_,rfl,?_⟩;simp only[ybgp];simp only[K,ybt,ydlg,ydez,usV,G,B,C,c3,if_pos E,splice,clash,go_sem,zA,zB]
      repeat refine ybd ?_
      refine ybl [] [] [] ?_;simp only[ycw,setO,wk,go_sem,zA,zC];refine⟨fun _ _ _ _ e=>e,fun k hk=>?_,fun i t=>by rw[if_pos t],fun i b n=>ydy n⟩
      by_cases e:k=i
      .rw[if_pos e,if_pos e,if_pos e,g3];exact yrr rfl
      .simp only[if_neg e];exact yrr rfl
     .intro _ _;simp only[ydif,ybgp,clash,go_sem,zA,zB]
      repeat refine ybd ?_
      refine yu (i+1) A (by omega) ?_
      refine ybl [] [] [] ?_;simp only[K,ybt,ycw,usV,G,B,C,b1,wk,go_sem,zA,zC];refine⟨fun _ _ _ _ e=>e,by omega,fun k hk=>?_,fun i t=>by rw[if_pos t],fun i b n=>ydy n⟩
      show _=((if k<i+1 then z.getD k 0 else 0:Nat):Int)/\_=(if k<i+1 then((R (z.getD k 0):Nat):Int)else 0)
      by_cases e:k=i
      .rw[if_pos e,if_pos e,if_pos (by omega),if_pos (by omega),e,hs]
       exact⟨rfl,rfl⟩
      .rw[if_neg e,if_neg e]
       by_cases H:k<i
       .rw[if_pos (by omega),if_pos (by omega)]
        exact⟨congrArg _ (if_pos H),if_pos H⟩
       .rw[if_neg (by omega),if_neg (by omega)]
        exact⟨congrArg _ (if_neg H),if_neg H⟩
    .obtain rfl:i=z.length:=by omega
     simp only[ycjc,ydih,yhq,usV,G,B,C,K,ybt,zI,clash,go_sem,zA,zB]
     repeat refine ybd ?_
     refine⟨.tp [.i .u32 (en:Nat),ybm (z.map fun s=>(s,rkN p g (yds p g c s))),.i .i64 0],K,?_,?_,rfl,rfl⟩
     .refine ybl [] [] [(98,0)] ?_;simp only[K,ybt,ycw,ybm,zQ,wk,go_sem,zA,zC];refine⟨fun _ _ _ _ e=>e,ybbg ⟨Sim.refl _,yej fun q F=>?_,Sim.refl _,trivial⟩,fun i t=>by rw[if_pos t],fun i b n=>?_⟩
      .have e1:u z.length q=z.getD q 0:=if_pos F;have H:w z.length q=(R (z.getD q 0):Nat):=if_pos F
       have e3:(z.map fun s=>(s,rkN p g (yds p g c s))).getD q (0,0)=(z.getD q 0,R (z.getD q 0)):=by
        simp only[zN,zAG,zZ F];rfl
       rw[e1,H,e3];exact⟨⟨Sim.refl _,Sim.refl _,trivial⟩,rfl⟩
      .obtain⟨q,rfl⟩:=yda n;exact⟨_,if_pos q,ybiv (ycr _)⟩
     .simp only[K,ybt,ycw,ycl,yfk,ybm,wk,go_sem,zA];exact⟨fun k hk=>by rw[if_pos hk],fun i b n=>(yda n).2▸ylw⟩
end
end Sh
end
section
def cfP(p:ProgT)(g:Gr)(k:Nat):Conf:=(unT (tabP p g) k).1
def spcP(perm:Nat->Bool)(p:ProgT)(g:Gr):Spc:=⟨ybn (tabP p g),fun k=>ybq p g (cfP p g k),fun k=>ychp perm p g (cfP p g k)⟩
def cfA(T:List (List (Int×Int))):Nat->Conf
 |0=>(unT T 0).1
 |k+1=>(advT T (cfA T k)).1
theorem ybzk{T:List (List (Int×Int))}(a:bdT T):∀{k:Nat},k<ybn T->cfA T k=(unT T k).1
 |0,_=>rfl
 | k+1,h=>by
   show(advT T (cfA T k)).1=_;rw[ybzk a (by omega),ydsc a h]
theorem ydzo{p:ProgT}{g:Gr}{k:Nat}(hk:k<ybn (tabP p g)):rkN p g (cfP p g k)=k:=by
 unfold rkN cfP;rw[ybty,Nat.mod_eq_of_lt hk,zM]
theorem ycck{p:ProgT}{g:Gr}(a:bdT (tabP p g))(k:Nat):yfe p g (cfP p g k)=true:=yjd.2 (ybbb k a)
namespace Sh
open Ev Go.RowKit
theorem yclc{h:Nm->Nm}{a:List Nat}{b O:Own}(l:List (Nat×Nat)):telL h a [] b O [ybm l] [ybm l]:=⟨.inl ⟨(yhn _ _ _).2 trivial,by rw[yec];exact Sim.refl _,rfl⟩,rfl,trivial⟩
section
variable {Q1 Q2:(Nat->Option ABlk)->Value->Prop}{p:ProgT}{g:Gr}
set_option maxHeartbeats 8000000 in
theorem ycbd (h:Checked Q1 Q2 p g) (d:TabOk (tabP p g)) {kind:Int}(O:kind=2\/kind=3) (a3:g.ids.length<=4) {perm:Nat->Bool}
 (H:∀e s,e<2^g.ids.length->s≠0->s<16->s&&&e=s->Returns zS 171 [usV (g.ports.map netP),.i .i64 kind,.i .u32 (e:Nat),.i .u32 (s:Nat)] (.b (perm s)))
 (z:sumA (spcP perm p g) (ybn (tabP p g))<=262144) :
 Returns zS 14 [.ag (yfz Q1 Q2 p.raw),grV g,.i .i64 kind] (.tp [.ag (spcC (spcP perm p g)),.i .i64 0]):=by
 refine Returns.of (ydqd [59,61,60] _ _ ?_);have W:=ycep h d;have hD:=ybxo kind;have A:=ybox h d kind;have X:=ycos h d;have Y:=fun k (hk:k<ybn (tabP p g))=>ybzm h d O a3 (c:=cfP p g k) (ycck d.bd k) H;have I:(decide (1<=kind)&&decide (kind<=4))=true:=by rcases O with rfl|rfl<;>rfl
 rw[I]at hD;obtain⟨S,n⟩:∃S,spcP perm p g=S:=⟨_,rfl⟩;have C:S.N=ybn (tabP p g):=by rw[<-n];rfl
 have K:∀k,ybq p g (cfP p g k)=S.en k:=fun k=>by rw[<-n];rfl
 have Z:∀k,ychp perm p g (cfP p g k)=S.arcs k:=fun k=>by rw[<-n];rfl
 have G:=fun k (hk:k<=S.N)=>ynl S hk;rw[n]at z ⊢;rw[<-C]at z;have J:=d.tot;obtain⟨T,u⟩:∃T,tabP p g=T:=⟨_,rfl⟩;have a1:∀k,cfP p g k=(unT T k).1:=fun k=>by rw[<-u];rfl
 have Q:=fun k=>ydzo (p:=p) (g:=g) (k:=k);have a7:T.length=g.ids.length:=by rw[<-u];exact yhz _ _ _
 rw[u]at d W X A Y C J;simp only[u]at Q Y;have hA:=fun k=>ybxy d (c:=cfA T k);simp only[yfz,grV]at W A X;simp only[c14,yeio,yehz,yfz,grV,clash,go_sem,zA,zB,zC,zD];refine W.use ?_;simp only[ybj,yeew,yefq,clash,zK,go_sem,zA,zB,zD];refine hD.use ?_;simp only[ybj,ydyc,yeff,clash,zK,go_sem,zA,zB,zD];refine A.use ?_;simp only[yedz,ydhu,clash,go_sem,zA,zB,zF,zC]
 repeat refine ybd ?_
 refine yek X [(302,72),(303,73)] 400 [10,8,11,6] [46,48,11,6] ?_ ?_
 .simp only[ydq,usV,yg,ydi,yfw,to1,okN,ycl,yfk,yee,ydu,wk,go_sem,zA,zB,zD]
 rintro r o' ⟨rfl,rfl⟩;simp only[ybt,yoy,ymh,nuF,nu,difN,yee,ydu,Fam.ren,OB.ren,dim,yid,yqw,ykv,go_sem,zA,zB,zD];simp only[ydeb,yczm,clash,go_sem,zA,zB]
 let B:Own:=[(6,.one (some ⟨41,true,2,1,fun _=>[.a (.slice none 0 0),.a (.slice none 0 0)]⟩)),(11,.one (some ⟨41,true,2,1,fun _=>[.os (46,0) 0 (ybn T) true,.os (48,0) 0 (ybn T) true]⟩))]
 let e:Nat->Nat->Nat:=fun k j=>if j<k then S.en j else 0
 let a:Nat->Nat->SV:=fun k j=>if j<k then ybm (S.arcs j)else .a (.slice none 0 0)
 have a2:∀j,e 0 j=0:=fun j=>if_neg (zO j)
 have y:∀{p:Nm->Bool}(k j:Nat),cln p 5 (a k j)=true:=fun k j=>by
  show cln _ 5 (if j<k then ybm (S.arcs j)else .a (.slice none 0 0))=true
  split<;>rfl
 have a0:∀j,a 0 j = .a (.slice none 0 0):=fun j=>if_neg (zO j)
 let V:(Nat->Nat)->(Nat->SV)->Own:=fun e a=>[(46,.one (some ⟨77,false,1,ybn T,fun j=>[.i .u32 (e j:Nat)]⟩)),(48,.one (some ⟨78,false,1,ybn T,fun j=>[a j]⟩))]
 refine ybe (σ:=Nat) (fun k=>⟨[(57,.i .i64 k),(56,.i .i64 (ybn T:Nat)),(10,.rf (ydq p g (g.ports.map netP) kind T)),(12,.os (72,0) 0 T.length true),(14,.i .i64 (sumA S k:Nat)),(11,.pt (11,0) 0 0),(6,.pt (6,0) 0 0)],
  ybt 72 73 T.length (fun j=>(cfA T k).getD j [])++(V (e k) (a k)++B)⟩) (fun k=>k<=ybn T) (fun k=>ybn T-k) 0 (zH _) ?_ ?_
 .refine yj ?_
  have P:∀v,v<T.length->(cfA T 0).getD v []=lowT T v:=fun v I=>by
   show(unT T 0).1.getD v []=_;rw[ychh d.bd,yyy I]
  simp only[B,V,a2,a0,ybt,ycw,ydq,usV,yg,ydi,yfw,wk,go_sem,zA,zC];refine⟨fun _ _ _ _ e=>e,rfl,fun v I=>⟨by rw[P v I];exact Sim.refl _,by rw[if_pos I]⟩,fun v b D=>?_⟩
  obtain⟨q,rfl⟩:=yda D;rw[P v q];exact ykm (h':=nu [(302,72),(303,73)] 400) (w:=lowT T) (if_pos q)
 .intro k hk
  by_cases f:k<ybn T
  .have d1:=dec_lt f;have E:=ybzk d.bd f;have a5:=ybzk (k:=k+1) d.bd;have m:=hA k (by rw[E];exact ybbb k d.bd)
   have o:=Y k f;rw[K,Z,Q k f,a1 k,<-E]at o;have M:(cfA T k).length=T.length:=(ymm.1 (by rw[E];exact ybbb k d.bd)).1
   have a4:(advT T (cfA T k)).1=cfA T (k+1):=rfl;rw[a4]at m;obtain⟨c,hc⟩:∃c,cfA T k=c:=⟨_,rfl⟩;obtain⟨c',L⟩:∃c,cfA T (k+1)=c:=⟨_,rfl⟩;rw[hc]at M o m;rw[L]at m;have a6:=G (k+1) (by omega)
   have R:sumA S (k+1)=sumA S k+(S.arcs k).length:=rfl;obtain⟨tot,l⟩:∃t,sumA S k=t:=⟨_,rfl⟩;rw[l]at R;have d2:decide ((tot:Int)+((S.arcs k).length:Int)>262144)=false:=by simp;omega
   rw[M]at o;simp only[ycil,ydbd,ydkf,B,V,ybt,d1,hc,clash,go_sem,zA,zB,zD];refine yek o [(302,72),(303,73)] 400 [15,57,56,10,12,14,11,6] [46,48,11,6] ?_ ?_
   .simp only[ybt,ycw,ydq,usV,yg,ydi,yfw,to1,okN,ycl,yfk,yee,ydu,wk,go_sem,zA,zB,zC,zD];exact⟨⟨fun _ _ _ _ e=>e,fun i F=>by rw[if_pos F],fun i b D=>ydy (w:=fun j=>c.getD j []) D⟩,fun j _=>y k j⟩
   rintro r o' ⟨rfl,rfl⟩;simp only[ybt,ybm,yoy,ymh,nuF,nu,difN,yee,ydu,Fam.ren,OB.ren,dim,yid,ybcl,yqw,ykv,go_sem,zA,zB,zD];simp only[ydlc,ydlf,ydbn,ydej,ydq,l,d2,splice,clash,zK,go_sem,zA,zB,zF,zD]
   repeat refine ybd ?_
   refine yek m [(302,72),(303,73)] 400 [57,56,10,12,14,11,6] [46,48,11,6] ?_ ?_
   .simp only[ybt,ycw,usV,yg,ydi,yfw,to1,okN,ycl,yfk,yee,ydu,wk,go_sem,zA,zB,zC,zD];refine⟨⟨fun _ _ _ _ e=>e,fun i F=>by rw[if_pos F],fun i b D=>ykm (h':=nu [(302,72),(303,73)] 400) (w:=fun j=>c.getD j []) D⟩,?_⟩
    exact⟨fun j _=>by split<;>rfl,fun j _=>by
     split
     .rfl
     .show(cln _ 5 (a k j)&&true)=true;rw[y];rfl⟩
   rintro r o' ⟨rfl,rfl⟩;simp only[ybt,usV,yg,ydi,yfw,yoy,ymh,nuF,nu,difN,yee,ydu,Fam.ren,OB.ren,dim,yqw,ykv,go_sem,zA,zD];simp only[ydjc,clash,go_sem,zA,zB]
   repeat refine ybd ?_
   refine yu (k+1) f (by omega) ?_
   refine yj ?_;simp only[ycw,wk,go_sem,zA,zC];rw[L,R];refine⟨fun _ _ _ _ e=>e,⟨by omega,by omega⟩,fun i F=>⟨Sim.refl _,by rw[if_pos F]⟩,fun i b D=>ykm (h':=nu [(302,72),(303,73)] 400) (w:=fun j=>c'.getD j []) D,?_⟩
   refine⟨fun i F=>yga ?_,fun i F=>?_⟩
   .show _=[SV.i .u32 ((if i<k+1 then S.en i else 0:Nat):Int)]
    by_cases q:i=k
    .rw[if_pos q,if_pos (by omega),q]
    .rw[if_neg q]
     by_cases U:i<k
     .rw[if_pos (by omega),show e k i=S.en i from if_pos U]
     .rw[if_neg (by omega),show e k i=0 from if_neg U]
   .by_cases q:i=k
    .rw[if_pos q,show a (k+1) i=ybm (S.arcs k)from(if_pos (by omega)).trans (by rw[q])]
     exact yclc _
    .rw[if_neg q]
     by_cases U:i<k
     .rw[show a (k+1) i=ybm (S.arcs i)from if_pos (by omega),show a k i=ybm (S.arcs i)from if_pos U]
      exact yclc _
     .rw[show a (k+1) i = .a (.slice none 0 0)from if_neg (by omega),show a k i = .a (.slice none 0 0)from if_neg U]
      exact yje rfl
  .obtain rfl:k=ybn T:=by omega
   simp only[ycil,yddl,B,V,ybt,zI,splice,clash,go_sem,zA,zB];have e1:∀q,q<ybn T->a (ybn T) q=ybm (S.arcs q):=fun q x=>if_pos x;have e2:∀q,q<ybn T->e (ybn T) q=S.en q:=fun q x=>if_pos x;refine⟨fun q x=>by rw[e1 q x];trivial,ybbg ⟨?_,Sim.refl _,trivial⟩⟩
   unfold spcC;rw[C];refine ybsc ⟨yej fun q x=>?_,yej fun q x=>?_,trivial⟩
   .rw[e2 q x];exact⟨⟨Sim.refl _,trivial⟩,rfl⟩
   .rw[e1 q x];exact⟨⟨Sim.refl _,trivial⟩,rfl⟩
end
end Sh
end
section
namespace Sh
open Ev Go.RowKit
def boxS(N:Nat)(lg:Nat->Bool)(x:(Nat->Bool)×List (Nat×Nat)):Own :=
 [(3,.one (some ⟨45,true,1,1,fun _=>[ybc N lg]⟩)),(6,.one (some ⟨166,true,1,1,fun _=>[.mr (18,0)]⟩)),(18,.one (some ⟨CU,true,0,0,fun c=>[.b (x.1 c)]⟩)),
  (7,.one (some ⟨167,true,1,1,fun _=>[.os (72,0) 0 x.2.length true]⟩)),(72,ygq x.2)]
def addF:SV:=.fn 137 [] [.pt (3,0) 0 0,.pt (6,0) 0 0,.pt (7,0) 0 0]
theorem ybsj{F j:Nat}{f:Nat->List Nat}{p:Nm->Bool}(h:p (F,j)=true):cln p 5 (rowC F f j)=true:=by
 unfold rowC;split
 .rfl
 .exact h
theorem ybte{e:Nat}{k:IntKind}{l:List Nat}{b:OB}{p:Nm->Bool}(a:rowB e k l=some b):∀i,i<b.n->(b.g i).all (cln p 5)=true:=by
 unfold rowB at a;split at a
 .cases a
 .cases a;exact fun _ _=>rfl
set_option maxHeartbeats 4000000 in
theorem ycok{S : Spc}(h:S.ok)(lg:Nat->Bool){n:Nat}(hn:n<=24)(M:∀k,k<S.N->S.en k<2^n)(hM:S.N*2^n<=262144) :
 Ct zS 75 [.ag (spcC S),ybc S.N lg] fun r=>∃R:Nat->List Nat,Sim r (.tp [.sl 1 S.N fun k=>[usV (R k)],.i .i64 0])/\(∀k,∀x∈R k,x<2^n/\lg k=false)/\∀k,(R k).length<=262144:=by
 refine ydtf [137] _ _ ?_;have P:=h.le;have a0:2^n<=2^24:=zG (by omega) hn
 simp only[c75,yeec,yeem,ydvr,yeiu,yech,spcC,ybm,ybc,splice,clash,go_sem,zA,zB,zF,zC,↓reduceIte,reduceCtorEq]
 refine ybe (σ:=Nat×(Nat->Bool)×List (Nat×Nat)) (fun y=>⟨[(23,.i .i64 y.1),(22,.i .i64 (S.N:Nat)),(21,.sl 1 S.N fun k=>[.i .u32 (S.en k:Nat)]),(8,addF),(2,.pt (2,0) 0 0),(3,.pt (3,0) 0 0),(7,.pt (7,0) 0 0)],(2,spcO S)::boxS S.N lg y.2⟩)
  (fun y=>y.1<=S.N/\QI S.N n lg y.2) (fun y=>S.N-y.1) (0,fun _=>false,[]) ⟨zH _,QI.start _ _ _⟩ ?_ ?_
 .refine yca [] [72] [] ?_;simp only[boxS,addF,spcO,spcC,ybm,ybc,ygq,yox,wk,go_sem,zA,zC,zD,↓reduceIte,reduceCtorEq];exact fun i _=>⟨(72,0),rfl,rfl,rfl⟩
 .rintro⟨k,x⟩ ⟨hk,w⟩;simp only at hk w ⊢;have Q:=w.len
  by_cases c:k<S.N
  .have d1:=dec_lt c;have K:=ybgb (lg:=lg) (x:=x) (by omega) c P (s:=S.en k) (by have:=h.lt k c;omega)
   have B:=w.step c (M k c);simp only[yfu,ygq,ybc]at K;simp only[ydrv,ydvz,ydyn,yehx,boxS,addF,spcO,spcC,ybm,ybc,ygq,d1,clash,go_sem,zA,zB,zF,↓reduceIte,reduceCtorEq]
   repeat refine ybd ?_
   refine yek K [(301,3),(302,6),(303,18),(304,7),(305,72)] 400 [23,22,21,8,2,3,7] [2] ?_ ?_
   .simp only[to1,okN,ycl,yfk,yee,ydu,wk,go_sem,zA,zB,zC,zD,↓reduceIte,reduceCtorEq]
   rintro r Z ⟨rfl,rfl⟩
   generalize ybag lg x k (S.en k)=x' at B
   simp only[yoy,ymh,nuF,nu,difN,yee,ydu,Fam.ren,OB.ren,dim,yid,ycib,ybcl,yqw,ykv,ybqx,go_sem,zA,zB,zD,↓reduceIte,reduceCtorEq]
   repeat refine ybd ?_
   refine yu (k+1,x') ⟨c,B⟩ (by show _-(k+1)<_-k;omega) ?_
   refine yj ?_;simp only[wk,go_sem,zA,zC,↓reduceIte,reduceCtorEq];omega
  .obtain rfl:k=S.N:=by omega
   simp only[ydrv,ydxo,ydkd,boxS,spcO,spcC,ybm,ybc,ygq,zI,clash,go_sem,zA,zB,zC,↓reduceIte,reduceCtorEq]
   repeat refine ybd ?_
   let m:Nat->(Nat->Bool)×List (Nat×Nat)->(Nat->List Nat)->Own:=fun _ x R=>(2,spcO S)::(36,.one (some ⟨38,false,1,S.N,fun j=>[rowC 73 R j]⟩))::(73,yjb 77 .u32 R)::boxS S.N lg x
   refine ybe (σ:=Nat×((Nat->Bool)×List (Nat×Nat))×(Nat->List Nat)) (fun y=>⟨[(12,.i .i64 y.1),(11,.os (36,0) 0 S.N true),(8,addF),(2,.pt (2,0) 0 0),(7,.pt (7,0) 0 0)],m 0 y.2.1 y.2.2⟩)
    (fun y=>QI S.N n lg y.2.1/\y.1<=y.2.1.2.length/\(∀k,∀z∈y.2.2 k,z<2^n/\lg k=false)/\∀k,(y.2.2 k).length<=y.1) (fun y=>262145-y.1) (0,x,fun _=>[]) ⟨w,zH _,fun _ _ h=>(nomatch h),fun _=>zH _⟩ ?_ ?_
   .refine yj ?_;simp only[m,boxS,addF,spcO,spcC,ybm,ybc,ygq,rowC,yjb,rowB,wk,go_sem,zA,zC,↓reduceIte,reduceCtorEq]
   .rintro⟨i,x,R⟩ ⟨w,X,E,D⟩;simp only at w X E D ⊢;have Q:=w.len
    by_cases c:i<x.2.length
    .have d1 := dec_lt c;have d2:decide ((x.2.length:Int)>262144)=false:=by simp;omega
     obtain⟨⟨k,s⟩,O⟩:∃p,x.2.getD i (0,0)=p:=⟨_,rfl⟩
     obtain⟨hkN,V,U⟩:k<S.N/\s<2^n/\lg k=false:=by
      have:=w.lt (x.2.getD i (0,0)) (by rw[yqg c];exact zAA _)
      rw[O]at this;exact this
     have a2:=h.len hkN;obtain⟨C,T⟩:∃C,(fun q=>if q=k then R k++[s]else R q)=C:=⟨_,rfl⟩
     have v:C k=R k++[s]:=by rw[<-T];simp
     have o:∀j,¬j=k->C j=R j:=fun j e=>by rw[<-T];simp[e]
     have a1:=D k
     by_cases q:(R k).length=0
     .simp only[ybsf,ycid,ycmt,yclm,ycao,m,boxS,spcO,spcC,ybm,ybc,ygq,rowC,yjb,rowB,q,d1,d2,O,splice,clash,go_sem,zA,zB,zF,zC,Nat.reduceMul,↓reduceIte,reduceCtorEq]
      repeat refine ybd ?_
      refine ybe (σ:=Nat×((Nat->Bool)×List (Nat×Nat))) (fun y=>⟨[(70,.i .i64 y.1),(69,.i .i64 ((S.arcs k).length:Nat)),(68,ybm (S.arcs k)),(12,.i .i64 i),(11,.os (36,0) 0 S.N true),(8,addF),(2,.pt (2,0) 0 0),(7,.pt (7,0) 0 0),(13,.pt (13,0) 0 0)],(13,.one (some ⟨109,true,2,1,fun _=>[.i .i64 (k:Nat),.i .u32 (s:Nat)]⟩))::m 0 y.2 C⟩)
       (fun y=>y.1<=(S.arcs k).length/\QI S.N n lg y.2/\i<y.2.2.length) (fun y=>(S.arcs k).length-y.1) (0,x) ⟨zH _,w,c⟩ ?_ ?_
      .refine yca [(73,fun j=>if j=k then(61,0)else(73,j))] [] [] ?_
       simp only[m,boxS,addF,spcO,spcC,ybm,ybc,ygq,yjb,wk,go_sem,zA,zC,↓reduceIte,reduceCtorEq];refine⟨?_,fun i X=>?_,fun i b d=>?_⟩
       .repeat' apply zAD
        all_goals first|exact fun i _=>ybgi (by decide) (by decide)|exact fun i _=>yuj (by decide) (by decide)|exact fun i _ j _=>ybco (by decide)
       .refine yqo (F:=73) (e:=77) (k:=.u32) (f:=C) [(73,fun j=>if j=k then(61,0)else(73,j))] ?_ rfl
        by_cases e:i=k
        .subst e;have W:(C i).length=1:=by rw[v,zT,q];rfl
         simp only[W,go_sem,↓reduceIte,reduceCtorEq]
        .simp only[o i e,e,go_sem,↓reduceIte]
       .by_cases e:i=k
        .subst e;rw[v]at d;simp only[go_sem,zA,↓reduceIte];exact yeo (e:=77) (k:=.u32) rfl d (ybrz q rfl)
        .rw[o i e]at d;simp only[e,go_sem,zA,↓reduceIte];exact⟨_,d,yeo (e:=77) (k:=.u32) rfl d (yfi (e:=77) (k:=.u32) d)⟩
      .rintro⟨j,x⟩ ⟨Y,w,c⟩;simp only at Y w c ⊢;have Q:=w.len
       by_cases g:j<(S.arcs k).length
       .have d3:=dec_lt g;have l:=h.to k hkN j g;have A:=(h.sub k hkN j g).1;obtain⟨⟨a,t⟩,I⟩:∃p,(S.arcs k).getD j (0,0)=p:=⟨_,rfl⟩;rw[I]at l A;simp only at l A;have H:=yzp h (k:=k) (p:=s) (s:=a) (t:=t) (by omega) (by omega) l
        have L:ygm S s a t<2^n:=by
         unfold ygm ypt;split
         .exact M t l
         .exact ybzn (yty V)
        have K:=ybgb (lg:=lg) (x:=x) (by omega) l P (s:=ygm S s a t) (by omega)
        have B:=w.step (lg:=lg) l L;have J:=ybrx (lg:=lg) (x:=x) (k:=t) (s:=ygm S s a t);simp only[yfu,ygq,ybc]at K;simp only[spcC,ybm]at H;simp only[ybhx,ycdb,ycce,ycej,ycgm,m,boxS,addF,spcO,spcC,ybm,ybc,ygq,d3,I,splice,clash,go_sem,zA,zB,zC,zD,↓reduceIte,reduceCtorEq]
        repeat refine ybd ?_
        refine H.use ?_;simp only[ybj,splice,clash,go_sem,zA,zB,zC,↓reduceIte,reduceCtorEq]
        repeat refine ybd ?_
        refine yek K [(301,3),(302,6),(303,18),(304,7),(305,72)] 400 [70,69,68,12,11,8,2,7,13] [2,36,73,13] ?_ ?_
        .simp only[yjb,to1,okN,ycl,yfk,yee,ydu,wk,go_sem,zA,zB,zC,zD,↓reduceIte,reduceCtorEq];exact⟨fun q _=>ybsj rfl,fun q b d=>ybte d⟩
        rintro r Z ⟨rfl,rfl⟩
        generalize ybag lg x t (ygm S s a t)=x' at B J
        simp only[yjb,yoy,ymh,nuF,nu,difN,yee,ydu,Fam.ren,OB.ren,dim,yid,ycib,ybcl,yqw,ykv,ybqx,go_sem,zA,zB,zD,↓reduceIte,reduceCtorEq]
        repeat refine ybd ?_
        refine yu (j+1,x') ⟨g,B,by show i<x'.2.length;omega⟩ (by show _-(j+1)<_-j;omega) ?_
        refine yj ?_;simp only[wk,go_sem,zA,zC,↓reduceIte,reduceCtorEq];exact⟨fun _ _ _ _ e=>e,by omega,fun i _=>ylh (e:=77) (k:=.u32) [] rfl rfl,fun i b d=>⟨b,d,yeo (e:=77) (k:=.u32) rfl d (yfi (e:=77) (k:=.u32) d)⟩⟩
       .obtain rfl:j=(S.arcs k).length:=by omega
        simp only[ybhx,ycgn,m,boxS,addF,spcO,spcC,ybm,ybc,ygq,zI,clash,go_sem,zA,zB,↓reduceIte,reduceCtorEq]
        repeat refine ybd ?_
        refine yu (i+1,x,C) ⟨w,c,fun u z G=>?_,fun u=>?_⟩ (by show 262145-(i+1)<262145-i;omega) ?_
        .have G:z∈C u:=G
         by_cases e:u=k
         .subst e;rw[v]at G;rcases List.mem_append.1 G with r|r
          .exact E u z r
          .rw[List.mem_singleton.1 r];exact⟨V,U⟩
         .rw[o u e]at G;exact E u z G
        .show(C u).length<=i+1
         by_cases e:u=k
         .subst e;rw[v,zT];have:=D u;show _+1<=_;omega
         .rw[o u e];have:=D u;omega
        refine yj ?_;simp only[yjb,wk,go_sem,zA,zC,↓reduceIte,reduceCtorEq];exact⟨fun _ _ _ _ e=>e,by omega,fun i _=>ylh (e:=77) (k:=.u32) [] rfl rfl,fun i b d=>⟨b,d,yeo (e:=77) (k:=.u32) rfl d (yfi (e:=77) (k:=.u32) d)⟩⟩
     .have q0 : 0<(R k).length:=by omega
      simp only[ybsf,ycid,ycmt,yclm,ycao,m,boxS,spcO,spcC,ybm,ybc,ygq,rowC,yjb,rowB,q,d1,d2,O,splice,clash,go_sem,zA,zB,zF,zC,↓reduceIte,reduceCtorEq]
      repeat refine ybd ?_
      refine ybe (σ:=Nat×((Nat->Bool)×List (Nat×Nat))) (fun y=>⟨[(70,.i .i64 y.1),(69,.i .i64 ((S.arcs k).length:Nat)),(68,ybm (S.arcs k)),(12,.i .i64 i),(11,.os (36,0) 0 S.N true),(8,addF),(2,.pt (2,0) 0 0),(7,.pt (7,0) 0 0),(13,.pt (13,0) 0 0)],(13,.one (some ⟨109,true,2,1,fun _=>[.i .i64 (k:Nat),.i .u32 (s:Nat)]⟩))::m 0 y.2 C⟩)
       (fun y=>y.1<=(S.arcs k).length/\QI S.N n lg y.2/\i<y.2.2.length) (fun y=>(S.arcs k).length-y.1) (0,x) ⟨zH _,w,c⟩ ?_ ?_
      .refine yca [(73,fun j=>if j=k then(61,0)else(73,j))] [] [] ?_
       simp only[m,boxS,addF,spcO,spcC,ybm,ybc,ygq,yjb,wk,go_sem,zA,zC,↓reduceIte,reduceCtorEq];refine⟨?_,fun i X=>?_,fun i b d=>?_⟩
       .repeat' apply zAD
        all_goals first|exact fun i _=>ybgi (by decide) (by decide)|exact fun i _=>yuj (by decide) (by decide)|exact fun i _ j _=>ybco (by decide)
       .refine yqo (F:=73) (e:=77) (k:=.u32) (f:=C) [(73,fun j=>if j=k then(61,0)else(73,j))] ?_ rfl
        by_cases e:i=k
        .subst e;have W:(C i).length=(R i).length+1:=by rw[v,zT];rfl
         have e2:¬(R i).length+1=0:=by omega
         simp only[W,e2,go_sem,↓reduceIte]
        .simp only[o i e,e,go_sem,↓reduceIte]
       .by_cases e:i=k
        .subst e;rw[v]at d;simp only[go_sem,zA,↓reduceIte];exact yeo (e:=77) (k:=.u32) rfl d (ybir (g':=fun i=>zAO 1 (zAP (i*1) [.i .u32 (s:Int)])) rfl (fun _ _=>rfl) rfl)
        .rw[o i e]at d;simp only[e,go_sem,zA,↓reduceIte];exact⟨_,d,yeo (e:=77) (k:=.u32) rfl d (yfi (e:=77) (k:=.u32) d)⟩
      .rintro⟨j,x⟩ ⟨Y,w,c⟩;simp only at Y w c ⊢;have Q:=w.len
       by_cases g:j<(S.arcs k).length
       .have d3:=dec_lt g;have l:=h.to k hkN j g;have A:=(h.sub k hkN j g).1;obtain⟨⟨a,t⟩,I⟩:∃p,(S.arcs k).getD j (0,0)=p:=⟨_,rfl⟩;rw[I]at l A;simp only at l A;have H:=yzp h (k:=k) (p:=s) (s:=a) (t:=t) (by omega) (by omega) l
        have L:ygm S s a t<2^n:=by
         unfold ygm ypt;split
         .exact M t l
         .exact ybzn (yty V)
        have K:=ybgb (lg:=lg) (x:=x) (by omega) l P (s:=ygm S s a t) (by omega)
        have B:=w.step (lg:=lg) l L;have J:=ybrx (lg:=lg) (x:=x) (k:=t) (s:=ygm S s a t);simp only[yfu,ygq,ybc]at K;simp only[spcC,ybm]at H;simp only[ybhx,ycdb,ycce,ycej,ycgm,m,boxS,addF,spcO,spcC,ybm,ybc,ygq,d3,I,splice,clash,go_sem,zA,zB,zC,zD,↓reduceIte,reduceCtorEq]
        repeat refine ybd ?_
        refine H.use ?_;simp only[ybj,splice,clash,go_sem,zA,zB,zC,↓reduceIte,reduceCtorEq]
        repeat refine ybd ?_
        refine yek K [(301,3),(302,6),(303,18),(304,7),(305,72)] 400 [70,69,68,12,11,8,2,7,13] [2,36,73,13] ?_ ?_
        .simp only[yjb,to1,okN,ycl,yfk,yee,ydu,wk,go_sem,zA,zB,zC,zD,↓reduceIte,reduceCtorEq];exact⟨fun q _=>ybsj rfl,fun q b d=>ybte d⟩
        rintro r Z ⟨rfl,rfl⟩
        generalize ybag lg x t (ygm S s a t)=x' at B J
        simp only[yjb,yoy,ymh,nuF,nu,difN,yee,ydu,Fam.ren,OB.ren,dim,yid,ycib,ybcl,yqw,ykv,ybqx,go_sem,zA,zB,zD,↓reduceIte,reduceCtorEq]
        repeat refine ybd ?_
        refine yu (j+1,x') ⟨g,B,by show i<x'.2.length;omega⟩ (by show _-(j+1)<_-j;omega) ?_
        refine yj ?_;simp only[wk,go_sem,zA,zC,↓reduceIte,reduceCtorEq];exact⟨fun _ _ _ _ e=>e,by omega,fun i _=>ylh (e:=77) (k:=.u32) [] rfl rfl,fun i b d=>⟨b,d,yeo (e:=77) (k:=.u32) rfl d (yfi (e:=77) (k:=.u32) d)⟩⟩
       .obtain rfl:j=(S.arcs k).length:=by omega
        simp only[ybhx,ycgn,m,boxS,addF,spcO,spcC,ybm,ybc,ygq,zI,clash,go_sem,zA,zB,↓reduceIte,reduceCtorEq]
        repeat refine ybd ?_
        refine yu (i+1,x,C) ⟨w,c,fun u z G=>?_,fun u=>?_⟩ (by show 262145-(i+1)<262145-i;omega) ?_
        .have G:z∈C u:=G
         by_cases e:u=k
         .subst e;rw[v]at G;rcases List.mem_append.1 G with r|r
          .exact E u z r
          .rw[List.mem_singleton.1 r];exact⟨V,U⟩
         .rw[o u e]at G;exact E u z G
        .show(C u).length<=i+1
         by_cases e:u=k
         .subst e;rw[v,zT];have:=D u;show _+1<=_;omega
         .rw[o u e];have:=D u;omega
        refine yj ?_;simp only[yjb,wk,go_sem,zA,zC,↓reduceIte,reduceCtorEq];exact⟨fun _ _ _ _ e=>e,by omega,fun i _=>ylh (e:=77) (k:=.u32) [] rfl rfl,fun i b d=>⟨b,d,yeo (e:=77) (k:=.u32) rfl d (yfi (e:=77) (k:=.u32) d)⟩⟩
    .obtain rfl:i=x.2.length:=by omega
     simp only[ybsf,ycxi,m,boxS,addF,spcO,spcC,ybm,ybc,ygq,zI,clash,go_sem,zA,zB,↓reduceIte,reduceCtorEq];refine⟨fun q hq=>?_,R,ybbg ⟨yej fun q hq=>?_,Sim.refl _,trivial⟩,E,fun q=>by have:=D q;omega⟩
     .unfold rowC
      by_cases e:(R q).length=0
      .simp only[e,go_sem,↓reduceIte]
      .simp only[e,yjb,rowB,go_sem,zA,↓reduceIte]
     .unfold rowC
      by_cases e:(R q).length=0
      .simp only[e,SimL,usV,go_sem,↓reduceIte];exact yboq
      .simp only[e,yjb,rowB,SimL,usV,go_sem,zA,↓reduceIte];exact Sim.refl _
end Sh
end
section
namespace Sh
open Ev Go.RowKit
structure RdB(S:Spc)(lg:Nat->Bool)(n:Nat)(B:Nat->Nat->Nat->Prop):Prop where
 one:∀k,k<S.N->lg k=false->∀s,s<2^n->B k s 1
 done:∀k,k<S.N->lg k=false->∀s,s<2^n->∀i,i<(S.arcs k).length->lg ((S.arcs k).getD i (0,0)).2=false->ypt S s ((S.arcs k).getD i (0,0)).1 ((S.arcs k).getD i (0,0)).2=0->∀x,B ((S.arcs k).getD i (0,0)).2 (S.en ((S.arcs k).getD i (0,0)).2) x->B k s (1+x)
 more:∀k,k<S.N->lg k=false->∀s,s<2^n->∀i,i<(S.arcs k).length->lg ((S.arcs k).getD i (0,0)).2=false->ypt S s ((S.arcs k).getD i (0,0)).1 ((S.arcs k).getD i (0,0)).2≠0->∀x,B ((S.arcs k).getD i (0,0)).2 (ypt S s ((S.arcs k).getD i (0,0)).1 ((S.arcs k).getD i (0,0)).2) x->B k s x
 le:∀k s x,B k s x->x<=1000000
theorem ycez{a b c d:Nat}(f:b<2^32)(g:d<2^32)(e:mkey (a:Int) (b:Int)=mkey (c:Int) (d:Int)):a=c/\b=d:=by
 unfold mkey at e;simp only[zM]at e;omega
set_option maxHeartbeats 4000000 in
theorem ybzt {S:Spc}(h:S.ok){lg:Nat->Bool}(hf:S.free lg){n:Nat}(hn:n<=24)(O:∀k,k<S.N->S.en k<2^n)(hM:S.N*2^n<=262144){B:Nat->Nat->Nat->Prop}(T:RdB S lg n B) :
 Ct zS 19 [.ag (spcC S),ybc S.N lg] fun r=>∃f:Nat->Nat,Sim r (.tp [.sl 1 S.N fun k=>[.i .i64 (f k:Nat)],.i .i64 0])/\∀k,k<S.N->f k=0\/(lg k=false/\B k (S.en k) (f k)):=by
 refine ydwf _ _ ?_;have b1:=h.le;have a8:2^n<=2^24:=zG (by omega) hn
 have hO:=ybkn h hf;have X:=ycok h lg hn O hM;simp only[spcC,ybm,ybc]at hO X;simp only[c19,yeap,yedo,spcC,ybm,ybc,clash,go_sem,zA,zB,zC,↓reduceIte,reduceCtorEq];refine hO.fnd (V:=fun L=>.tp [ycp L,.i .i64 0]) (fun r L h=>h.1) fun r L hL=>?_;obtain⟨-,x,a7,a6⟩:=hL;simp only[ybj,ydzu,yejr,clash,ycp,zK,go_sem,zA,zB,↓reduceIte,reduceCtorEq];refine X.fnd (V:=fun R=>.tp [.sl 1 S.N fun k=>[usV (R k)],.i .i64 0]) (fun r L h=>h.1) fun r R X=>?_
 obtain⟨-,a0,a1⟩:=X;simp only[ydyf,yeeu,yebz,clash,usV,zK,go_sem,zA,zB,zC,↓reduceIte,reduceCtorEq]
 let VI:(Nat->Nat)->Prop:=fun V=>∀(k:Nat),k<S.N->∀(s:Nat),s<2^n->V (mkey (k:Int) (s:Int))=0\/(lg k=false/\B k s (V (mkey (k:Int) (s:Int))))
 let d:(Nat->Nat)->Nat×Fam:=fun V=>(41,.one (some ⟨CU,true,1,0,fun c=>[.i .i64 (V c:Nat)]⟩))
 refine ybe (σ:=Nat×(Nat->Nat)) (fun y=>⟨[(44,.i .i64 y.1),(43,.i .i64 (L.length:Nat)),(42,ycp L),(1,ybc S.N lg),(2,.pt (2,0) 0 0),(8,.sl 1 S.N fun k=>[usV (R k)]),(9,.mr (41,0))],[(2,spcO S),d y.2]⟩) (fun y=>y.1<=L.length/\VI y.2) (fun y=>L.length-y.1) (0,fun _=>0) ⟨zH _,fun _ _ _ _=>.inl rfl⟩ ?_ ?_
 .refine yj ?_;simp only[d,ycp,usV,spcO,spcC,ybm,ybc,yox,wk,go_sem,zA,zC,↓reduceIte,reduceCtorEq]
 .rintro⟨i,V⟩ ⟨Y,K⟩;simp only at Y K ⊢
  by_cases E:i<L.length
  .have d1 := dec_lt E;obtain⟨k,hk⟩:∃k,L.getD i 0=k:=⟨_,rfl⟩;have hkN:k<S.N:=by rw[<-hk,getD_at E];exact x _ (zAA _)
   have b0:=h.len hkN;have a9:=a1 k;simp only[ydrw,ycvy,ycxy,d,ycp,usV,spcO,spcC,ybm,ybc,d1,hk,clash,go_sem,zA,zB,↓reduceIte,reduceCtorEq]
   repeat refine ybd ?_
   refine ybe (σ:=Nat×(Nat->Nat)) (fun y=>⟨[(53,.i .i64 y.1),(52,.i .i64 ((R k).length:Nat)),(51,usV (R k)),(11,.i .i64 k),(44,.i .i64 i),(43,.i .i64 (L.length:Nat)),(42,ycp L),(1,ybc S.N lg),(2,.pt (2,0) 0 0),(8,.sl 1 S.N fun k=>[usV (R k)]),(9,.mr (41,0))],[(2,spcO S),d y.2]⟩) (fun y=>y.1<=(R k).length/\VI y.2) (fun y=>(R k).length-y.1) (0,V) ⟨zH _,K⟩ ?_ ?_
   .refine yj ?_;simp only[d,ycp,usV,spcO,spcC,ybm,ybc,wk,go_sem,zA,zC,↓reduceIte,reduceCtorEq]
   .rintro⟨u,V⟩ ⟨hu,K⟩;simp only at hu K ⊢
    by_cases F:u<(R k).length
    .have d2 := dec_lt F;obtain⟨s,hs⟩:∃s,(R k).getD u 0=s:=⟨_,rfl⟩;obtain⟨G,D⟩:=a0 k s (by rw[<-hs,getD_at F];exact zAA _)
     simp only[yciq,ydau,ydkb,ydaq,ydkp,d,ycp,usV,spcO,spcC,ybm,ybc,d2,hs,splice,clash,go_sem,zA,zB,zF,zC,↓reduceIte,reduceCtorEq]
     repeat refine ybd ?_
     refine ybe (σ:=Nat×Nat) (fun z=>⟨[(66,.i .i64 z.1),(65,.i .i64 ((S.arcs k).length:Nat)),(64,ybm (S.arcs k)),(15,.i .i64 z.2),(14,.pt (14,0) 0 0),(53,.i .i64 u),(52,.i .i64 ((R k).length:Nat)),(51,usV (R k)),(11,.i .i64 k),(44,.i .i64 i),(43,.i .i64 (L.length:Nat)),(42,ycp L),(1,ybc S.N lg),(2,.pt (2,0) 0 0),(8,.sl 1 S.N fun k=>[usV (R k)]),(9,.mr (41,0))],
      [(14,.one (some ⟨109,true,2,1,fun _=>[.i .i64 (k:Nat),.i .u32 (s:Nat)]⟩)),(2,spcO S),d V]⟩) (fun z=>z.1<=(S.arcs k).length/\B k s z.2) (fun z=>(S.arcs k).length-z.1) (0,1) ⟨zH _,T.one k hkN D s G⟩ ?_ ?_
     .refine yj ?_;simp only[d,ycp,usV,spcO,spcC,ybm,ybc,wk,go_sem,zA,zC,↓reduceIte,reduceCtorEq];rfl
     .rintro⟨j,m⟩ ⟨hj,Q⟩;simp only at hj Q ⊢;have b2:=T.le _ _ _ Q
      by_cases b:j<(S.arcs k).length
      .have d3 := dec_lt b;have H:=h.to k hkN j b;have M:=(h.sub k hkN j b).1;have l:=T.done k hkN D s G j b;have o:=T.more k hkN D s G j b;obtain⟨⟨a,t⟩,J⟩:∃p,(S.arcs k).getD j (0,0)=p:=⟨_,rfl⟩;rw[J]at H M l o;simp only at H M l o;cases g:lg t with
       | true =>
         simp only[yblh,ybrs,ybtv,ybrn,d,ycp,usV,spcO,spcC,ybm,ybc,d3,J,g,splice,clash,go_sem,zA,zB,zC,↓reduceIte,reduceCtorEq]
         repeat refine ybd ?_
         refine yu (j+1,m) ⟨b,Q⟩ (by show _-(j+1)<_-j;omega) ?_
         refine yj ?_;simp only[wk,go_sem,zA,zC,↓reduceIte,reduceCtorEq];omega
       | false =>
         have C:=yzp h (k:=k) (p:=s) (s:=a) (t:=t) (by omega) (by omega) H
         have a3:ygm S s a t<2^n:=by
          unfold ygm ypt;split
          .exact O t H
          .exact ybzn (yty G)
         have I:=K t H (ygm S s a t) a3;obtain⟨v,hv⟩:∃v,V (mkey (t:Int) (ygm S s a t:Int))=v:=⟨_,rfl⟩;rw[hv]at I
         have b3:v<=1000000:=by
          rcases I with r|⟨_,r⟩
          .omega
          .exact T.le _ _ _ r
         simp only[spcC,ybm]at C
         by_cases A:ypt S s a t=0
         .have e1:B k s (max m (1+v)):=by
           rcases zAM m (1+v)with r|r
           .rw[zAI r];rcases I with q|⟨_,q⟩
            .rw[q];exact T.one k hkN D s G
            .refine l g A v ?_;have:ygm S s a t=S.en t:=if_pos A;rw[this]at q;exact q
           .rw[zAJ r];exact Q
          rw[decide_eq_true A]at C;simp only[yblh,ybrs,ybtv,ycht,d,ycp,usV,spcO,spcC,ybm,ybc,d3,J,g,splice,clash,go_sem,zA,zB,zC,↓reduceIte,reduceCtorEq]
          repeat refine ybd ?_
          refine C.use ?_;simp only[ybj,ycdn,ycyw,ybrn,splice,clash,zAB,hv,go_sem,zA,zB,zC,↓reduceIte,reduceCtorEq]
          repeat refine ybd ?_
          refine yu (j+1,max m (1+v)) ⟨b,e1⟩ (by show _-(j+1)<_-j;omega) ?_
          refine yj ?_;simp only[wk,go_sem,zA,zC,↓reduceIte,reduceCtorEq];omega
         .have e1:B k s (max m v):=by
           rcases zAM m v with r|r
           .rw[zAI r];rcases I with q|⟨_,q⟩
            .have:m=v:=by omega
             rw[<-this];exact Q
            .refine o g A v ?_;have:ygm S s a t=ypt S s a t:=if_neg A;rw[this]at q;exact q
           .rw[zAJ r];exact Q
          rw[decide_eq_false A]at C;simp only[yblh,ybrs,ybtv,ycht,d,ycp,usV,spcO,spcC,ybm,ybc,d3,J,g,splice,clash,go_sem,zA,zB,zC,↓reduceIte,reduceCtorEq]
          repeat refine ybd ?_
          refine C.use ?_;simp only[ybj,ycdn,ydge,ybrn,splice,clash,zAB,hv,go_sem,zA,zB,zC,↓reduceIte,reduceCtorEq]
          repeat refine ybd ?_
          refine yu (j+1,max m v) ⟨b,e1⟩ (by show _-(j+1)<_-j;omega) ?_
          refine yj ?_;simp only[wk,go_sem,zA,zC,↓reduceIte,reduceCtorEq];omega
      .obtain rfl:j=(S.arcs k).length:=by omega
       obtain⟨W,U⟩:∃W:Nat->Nat,(fun c=>if c=mkey (k:Int) (s:Int)then m else V c)=W:=⟨_,rfl⟩
       have a2:VI W:=fun k' a4 s' a5=>by
        rw[<-U];show(if _ then m else V _)=0\/(lg k'=false/\B k' s' (if _ then m else V _))
        by_cases e:mkey (k':Int) (s':Int)=mkey (k:Int) (s:Int)
        .obtain⟨rfl,rfl⟩:=ycez (by omega) (by omega) e
         rw[if_pos rfl];exact .inr ⟨D,Q⟩
        .rw[if_neg e];exact K k' a4 s' a5
       simp only[yblh,ycvr,ydaf,d,ycp,usV,spcO,spcC,ybm,ybc,zI,clash,yelg,go_sem,zA,zB,↓reduceIte,reduceCtorEq]
       repeat refine ybd ?_
       refine yu (u+1,W) ⟨F,a2⟩ (by show _-(u+1)<_-u;omega) ?_
       refine yj ?_;simp only[wk,go_sem,zA,zC,↓reduceIte,reduceCtorEq];refine⟨by omega,fun i=>?_,fun i Y=>absurd Y (by omega)⟩
       rw[<-U]
       by_cases e:i=mkey (k:Int) (s:Int)
       .simp only[if_pos e]
       .simp only[if_neg e]
    .obtain rfl:u=(R k).length:=by omega
     simp only[yciq,ydip,d,ycp,usV,spcO,spcC,ybm,ybc,zI,clash,go_sem,zA,zB,↓reduceIte,reduceCtorEq]
     repeat refine ybd ?_
     refine yu (i+1,V) ⟨E,K⟩ (by show _-(i+1)<_-i;omega) ?_
     refine yj ?_;simp only[wk,go_sem,zA,zC,↓reduceIte,reduceCtorEq];omega
  .obtain rfl:i=L.length:=by omega
   simp only[ydrw,ydeu,ydke,d,ycp,usV,spcO,spcC,ybm,ybc,zI,clash,go_sem,zA,zB,zF,zC,↓reduceIte,reduceCtorEq]
   repeat refine ybd ?_
   let f:Nat->Nat->Nat:=fun k q=>if q<k/\lg q=false then V (mkey (q:Int) (S.en q:Int))else 0
   refine ybe (σ:=Nat) (fun k=>⟨[(106,.i .i64 k),(105,.i .i64 (S.N:Nat)),(104,.sl 1 S.N fun k=>[.i .u32 (S.en k:Nat)]),(1,ybc S.N lg),(9,.mr (41,0)),(20,.os (102,0) 0 S.N true)],[(102,.one (some ⟨3,false,1,S.N,fun q=>[.i .i64 (f k q:Nat)]⟩)),d V]⟩) (fun k=>k<=S.N) (fun k=>S.N-k) 0 (zH _) ?_ ?_
   .refine yj ?_;simp only[d,ybc,wk,go_sem,zA,zC,↓reduceIte,reduceCtorEq]
    exact fun i _=>by
     show(0:Int)=((if i<0/\lg i=false then _ else 0:Nat):Int)
     rw[if_neg (fun r=>by omega)]
     rfl
   .intro k hk
    by_cases x:k<S.N
    .have d1:=dec_lt x;have he:=h.lt k x;cases Z:lg k with
     | true =>
       have P:∀q,f (k+1) q=f k q:=fun q=>by
        show(if _ then _ else _)=if _ then _ else _
        by_cases e:q=k
        .subst e;rw[Z,if_neg (fun r=>by cases r.2),if_neg (fun r=>by cases r.2)]
        .by_cases r:q<k/\lg q=false
         .rw[if_pos r,if_pos ⟨by omega,r.2⟩]
         .rw[if_neg r,if_neg (fun w=>r ⟨by omega,w.2⟩)]
       simp only[ybrd,yclx,ycme,yckg,d,ybc,d1,Z,clash,go_sem,zA,zB,↓reduceIte,reduceCtorEq]
       repeat refine ybd ?_
       refine yu (k+1) x (by omega) ?_
       refine yj ?_;simp only[P,wk,go_sem,zA,zC,↓reduceIte,reduceCtorEq];omega
     | false =>
       have P:∀q,f (k+1) q=if q=k then V (mkey (k:Int) (S.en k:Int))else f k q:=fun q=>by
        show(if _ then _ else _)=if _ then _ else(if _ then _ else _)
        by_cases e:q=k
        .subst e;rw[if_pos rfl,if_pos ⟨by omega,Z⟩]
        .rw[if_neg e]
         by_cases r:q<k/\lg q=false
         .rw[if_pos r,if_pos ⟨by omega,r.2⟩]
         .rw[if_neg r,if_neg (fun w=>r ⟨by omega,w.2⟩)]
       simp only[ybrd,yclx,ycme,ydjj,yckg,d,ybc,d1,Z,splice,clash,zAB,go_sem,zA,zB,zF,↓reduceIte,reduceCtorEq]
       repeat refine ybd ?_
       refine yu (k+1) x (by omega) ?_
       refine yj ?_;simp only[P,wk,go_sem,zA,zC,↓reduceIte,reduceCtorEq];refine⟨by omega,fun i Y=>yga ?_⟩
       by_cases e:i=k
       .simp only[if_pos e]
       .simp only[if_neg e]
    .obtain rfl:k=S.N:=by omega
     simp only[ybrd,ydgy,d,ybc,zI,clash,go_sem,zA,zB,↓reduceIte,reduceCtorEq];refine⟨f S.N,Sim.refl _,fun k hk=>?_⟩;show(if _ then _ else _)=0\/(_/\B k (S.en k) (if _ then _ else _))
     by_cases r:k<S.N/\lg k=false
     .rw[if_pos r];exact K k hk (S.en k) (O k hk)
     .rw[if_neg r];exact .inl rfl
end Sh
end
section
structure WLaw(p:ProgT)(g:Gr)(perm:Nat->Bool)(D:Nat->Prop)(L:Conf->Bool)(J:Conf->Cnt->Prop)(R:Nat)(M:Nat->Prop):Prop where
 tab:TabOk (tabP p g)
 n4:g.ids.length<=4
 big:ybn (tabP p g)*2^g.ids.length<=262144
 fit:∀c,yfe p g c=true->∀s,yfe p g (yds p g c s)=true
 permD:∀s,s<2^g.ids.length->perm s=true->D s
 low:∀e,e<16->e≠0->perm ((4294967296-e)&&&e)=true
 start:∀c,yfe p g c=true->J c (ybkm (ybq p g c))
 step:∀c k s,yfe p g c=true->J c k->s≠0->subB s (ybq p g c)->D s->J (yds p g c s) (addP k s (ybq p g (yds p g c s)))
 rests:∀c,yfe p g c=true->(ybq p g c=0↔L c=true)
 rounds:∀c k,yfe p g c=true->J c k->L c=false->k.rounds+1<=R
 r1000:R<=100000
 moves:∀c k,yfe p g c=true->J c k->M k.moves
 noloop:∀c s m,Loop (yud p g) (fun c=>yfe p g c=true) c s m->(∀i,D (s i))->False
theorem ydun{perm:Nat->Bool}{e n:Nat}(b:n<=4)(d:e<2^n):(chP perm e).length<=2^n:=by
 have a:2^n<=16:=zG (by omega) b
 have:=ynh (perm:=perm) (e:=e) (n:=2^n) (16-2^n) fun t c _ h=>by
  have:t&&&e<=e:=Nat.and_le_right;rw[h.2]at this;omega
 rw[show 2^n+(16-2^n)=16 by omega]at this
 show(chTo perm e 16).length<=_;rw[this];exact ybdo _ _ _
theorem yqb{s e:Nat}(h:s&&&e=s):subB s e:=fun v a=>by
 have:(s&&&e).testBit v=true:=by rw[h];exact a
 rw[zX,zAH]at this;exact this.2
namespace WLaw
variable {p:ProgT}{g:Gr}{perm:Nat->Bool}{D:Nat->Prop}{L:Conf->Bool}{J:Conf->Cnt->Prop}{R:Nat}{M:Nat->Prop}
theorem en16(h:WLaw p g perm D L J R M)(c:Conf):ybq p g c<16:=zL (Sh.ybaa p g c) (zG (by omega) h.n4:2^g.ids.length<=2^4)
theorem yyz(h:WLaw p g perm D L J R M){k i:Nat}(a:i<((spcP perm p g).arcs k).length) :
 ∃s,((spcP perm p g).arcs k).getD i (0,0)=(s,rkN p g (yds p g (cfP p g k) s))/\s=(chP perm (ybq p g (cfP p g k))).getD i 0/\s<16/\s≠0/\s&&&ybq p g (cfP p g k)=s/\perm s=true:=by
 change i<((chP perm (ybq p g (cfP p g k))).map _).length at a
 rw[zQ]at a;refine⟨_,?_,rfl,ybtz (Sh.getD_mem a)⟩;show((chP perm (ybq p g (cfP p g k))).map _).getD i (0,0)=_;simp only[zN,zAG,zZ a];rfl
theorem conf(h:WLaw p g perm D L J R M)(k:Nat):yfe p g (cfP p g k)=true:=ycck h.tab.bd k
theorem yeab(h:WLaw p g perm D L J R M){d:Conf}(b:yfe p g d=true):rkN p g d<ybn (tabP p g)/\cfP p g (rkN p g d)=d:=by
 have a:=yjd.1 b;have:=ybbe a;refine⟨?_,ybtm a⟩;unfold rkN;omega
theorem yboj(h:WLaw p g perm D L J R M){k s:Nat}:cfP p g (rkN p g (yds p g (cfP p g k) s))=yds p g (cfP p g k) s:=(h.yeab (h.fit _ (h.conf k) s)).2
theorem ybei(h:WLaw p g perm D L J R M)(k:Nat):((spcP perm p g).arcs k).length=(chP perm (ybq p g (cfP p g k))).length:=zQ _
theorem ybuc(h:WLaw p g perm D L J R M):∀k,sumA (spcP perm p g) k<=k*2^g.ids.length
 |0=>zH _
 | k + 1=>by
   have a:=ybuc h k
   have b:((spcP perm p g).arcs k).length<=2^g.ids.length:=by
    rw[h.ybei];exact ydun h.n4 (Sh.ybaa p g _)
   show sumA (spcP perm p g) k+((spcP perm p g).arcs k).length<=(k+1)*2^g.ids.length;rw[Nat.succ_mul];omega
theorem tot(h:WLaw p g perm D L J R M):sumA (spcP perm p g) (ybn (tabP p g))<=262144:=zU (h.ybuc _) h.big
theorem ybfl(h:WLaw p g perm D L J R M)(k:Nat):(spcP perm p g).en k=0↔((spcP perm p g).arcs k).length=0:=by
 rw[h.ybei];show ybq p g (cfP p g k)=0↔_;constructor
 .intro e;rw[e,ybst];rfl
 .intro e;refine zJ fun q=>ydxn (h.en16 _) q (h.low _ (h.en16 _) q) (List.length_eq_zero_iff.1 e)
theorem ok(h:WLaw p g perm D L J R M):(spcP perm p g).ok:=by
 have c:∀k,ybq p g (cfP p g k)<2^24:=fun k=>zAF (h.en16 _) (by omega)
 refine⟨ysj h.tab.bd,h.tab.tot,fun k _=>c k,fun k _=>h.ybfl k,fun k _ i a=>?_,fun k _ i a=>?_,fun k _ i a=>?_,h.tot⟩
 .obtain⟨s,e,-,d,-,f,-⟩:=h.yyz a;rw[e];exact⟨zAF d (by omega),Sh.ybrv f⟩
 .obtain⟨s,e,m,d,o,f,-⟩:=h.yyz a;rw[e];unfold ybqd
  by_cases q:i=0
  .rw[if_pos q];show 0<s;omega
  .rw[if_neg q];obtain⟨n,l,b,-⟩:=h.yyz (k:=k) (i:=i-1) (by omega)
   rw[l];show n<s;have j:=a;rw[h.ybei]at j;rw[m,b,yqg j,yqg (by omega)]
   exact List.pairwise_iff_getElem.1 (ybme _ _ _) _ _ _ _ (by omega)
 .obtain⟨s,e,-⟩:=h.yyz a;rw[e];exact(h.yeab (h.fit _ (h.conf k) s)).1
theorem free(h:WLaw p g perm D L J R M):(spcP perm p g).free fun k=>L (cfP p g k):=by
 refine⟨fun k _ v e=>?_,fun f m d=>?_⟩
 .have:(spcP perm p g).en k=0:=(h.ybfl k).2 (by rw[e];rfl)
  have:=(h.rests _ (h.conf k)).1 this;rw[v]at this;cases this
 .have o:∀i,∃s,s<2^g.ids.length/\s≠0/\subB s (ybq p g (cfP p g (f i)))/\D s/\cfP p g (f (i+1))=yds p g (cfP p g (f i)) s:=fun i=>by
   obtain⟨a,r,l⟩:=d.arc i;obtain⟨j,q,rfl⟩:=List.getElem_of_mem r;obtain⟨s,e,-,w,t,n,u⟩:=h.yyz q;rw[yqg q]at e;rw[e]at l;have b:s<2^g.ids.length:=Sh.ybdy (yqb n) (Sh.ybaa p g _);refine⟨s,b,t,yqb n,h.permD s b u,?_⟩;rw[<-l];exact h.yboj
  let s:Nat->Nat:=fun i=>(o i).choose
  have c:=fun i=>(o i).choose_spec;exact h.noloop (fun i=>cfP p g (f i)) s m ⟨d.pos,fun i=>by show cfP p g _=_;rw[d.per],fun i=>h.conf _,fun i=>(c i).2.1,fun i=>(c i).2.2.1,fun i=>(c i).2.2.2.2⟩ fun i=>(c i).2.2.2.1
theorem rest(h:WLaw p g perm D L J R M)(k:Nat)(a:L (cfP p g k)=true):((spcP perm p g).arcs k).length=0:=(h.ybfl k).1 ((h.rests _ (h.conf k)).2 a)
def BM(p:ProgT)(g:Gr)(J:Conf->Cnt->Prop)(M:Nat->Prop)(k x:Nat):Prop:=∀a,J (cfP p g k) a->M (x+a.moves)
theorem mvB(h:WLaw p g perm D L J R M):Sh.MvB (spcP perm p g) (fun k=>L (cfP p g k)) (BM p g J M):=by
 refine⟨fun k _ a hk=>by rw[Nat.zero_add];exact h.moves _ _ (h.conf k) hk,fun k _ _ i l x d a hk=>?_⟩
 obtain⟨s,e,-,m,f,c,j⟩:=h.yyz l;rw[e]at d ⊢;have b:s<2^g.ids.length:=Sh.ybdy (yqb c) (Sh.ybaa p g _);have:=h.step _ _ s (h.conf k) hk f (yqb c) (h.permD s b j);rw[<-h.yboj]at this;have:=d _ this;show M (popP s+x+a.moves);rw[show popP s+x+a.moves=x+(a.moves+popP s)by omega]
 exact this
def BR(p:ProgT)(g:Gr)(J:Conf->Cnt->Prop)(R k s x:Nat):Prop:=(∀a,J (cfP p g k) a->a.pend=s->a.rounds+x<=R)/\x<=1+R
theorem rdB(h:WLaw p g perm D L J R M):Sh.RdB (spcP perm p g) (fun k=>L (cfP p g k)) g.ids.length (BR p g J R):=by
 have q:∀k i,i<((spcP perm p g).arcs k).length->∀a,J (cfP p g k) a->J (cfP p g (((spcP perm p g).arcs k).getD i (0,0)).2) (addP a (((spcP perm p g).arcs k).getD i (0,0)).1 ((spcP perm p g).en (((spcP perm p g).arcs k).getD i (0,0)).2)):=fun k i d a hk=>by
  obtain⟨s,e,-,u,r,o,t⟩:=h.yyz d;rw[e];have n:s<2^g.ids.length:=Sh.ybdy (yqb o) (Sh.ybaa p g _);have:=h.step _ _ s (h.conf k) hk r (yqb o) (h.permD s n t);rw[<-h.yboj]at this;exact this
 refine⟨fun k _ l s _=>⟨fun a hk _=>h.rounds _ _ (h.conf k) hk l,by omega⟩,fun k _ l s _ i d m f x b=>⟨fun a hk j=>?_,?_⟩,fun k _ l s _ i d m f x b=>⟨fun a hk j=>?_,b.2⟩,fun k s x b=>?_⟩
 .have c:=q k i d a hk;unfold ypt at f;unfold addP at c;simp only[j,f,if_true]at c;have:=b.1 _ c rfl;have:a.rounds+1+x<=R:=this;omega
 .have:=b.1 _ (h.start _ (h.conf _)) rfl;have:0+x<=R:=this;omega
 .have c:=q k i d a hk;unfold ypt at f b;unfold addP at c;simp only[j,if_neg f]at c;have:=b.1 _ c rfl;exact this
 .have:=b.2;have:=h.r1000;omega
theorem ycty(h:WLaw p g perm D L J R M){k x:Nat}(a:BM p g J M k x):M x:=a _ (h.start _ (h.conf k))
theorem ycnh(h:WLaw p g perm D L J R M){k x:Nat}(a:x=0\/(L (cfP p g k)=false/\BR p g J R k ((spcP perm p g).en k) x)):x<=R:=by
 rcases a with rfl|⟨-,a⟩
 .exact zH _
 .have:=a.1 _ (h.start _ (h.conf k)) rfl;have:0+x<=R:=this;omega
end WLaw
end
section
theorem ybtj{r:Nat}:∀T:List (List (Int×Int)),(∀x∈T,ybs x<=r)->ybn T<=r^T.length
 |[],_=>zV _
 | x::T,h=>by
   show ybs x*ybn T<=r^(T.length+1);rw[Nat.pow_succ,Nat.mul_comm (r^T.length)];exact zAL (h x zAE) (ybtj T fun y a=>h y (List.mem_cons_of_mem _ a))
theorem ywt{p:ProgT}{g:Gr}{x:List (Int×Int)}(h:x∈tabP p g):∃v,v<g.ids.length/\x=p.vars.map (ybk g v):=by
 unfold tabP tabT at h;obtain⟨v,a,rfl⟩:=List.mem_map.1 h;exact⟨v,List.mem_range.1 a,rfl⟩
theorem ycbl {p:ProgT}{g:Gr}{m r:Nat}(h:g.ids.length<=m) (q:m<=4) (a:0<p.vars.length/\p.vars.length<=6)
 (f:∀v,v<g.ids.length->∀x∈p.vars,-1000000<=(ybk g v x).1/\(ybk g v x).1<=(ybk g v x).2/\(ybk g v x).2<=1000000)
 (n:∀v,v<g.ids.length->ybs (p.vars.map (ybk g v))<=r) (i:1<=r) (o:r^m<=32768) (j:r^m*2^m<=262144):TabOk (tabP p g)/\ybn (tabP p g)*2^g.ids.length<=262144:=by
 have k:(tabP p g).length=g.ids.length:=yhz _ _ _
 have l:ybn (tabP p g)<=r^m:=by
  refine zU (ybtj (r:=r) _ fun x d=>?_) ?_
  .obtain⟨v,a,rfl⟩:=ywt d;exact n v a
  .rw[k];exact zG i h
 refine⟨⟨fun x d b c=>?_,fun x d b c=>?_,by omega,fun x d=>?_,by omega⟩,zU (zAL l (zG (by omega) h)) j⟩
 .obtain⟨v,a,rfl⟩:=ywt d;obtain⟨y,e,rfl⟩:=List.mem_map.1 c;exact(f v a y e).2.1
 .obtain⟨v,a,rfl⟩:=ywt d;obtain⟨y,e,rfl⟩:=List.mem_map.1 c;exact⟨(f v a y e).1,(f v a y e).2.2⟩
 .obtain⟨v,a,rfl⟩:=ywt d;rw[zQ];omega
end
section
section
variable {g:Gr}
theorem ycor{u v:Nat}(h:adj g v u):(netG g v).testBit u=true:=by
 obtain⟨c,a,l,b,e⟩:=h;refine(ybrh _ _).2 ⟨l,?_,by rw[e];rfl⟩
 rw[zN,a];exact b
theorem ycrr(a:ybi g)(v:Nat):(netG g v).testBit v=false:=by
 cases q:(netG g v).testBit v with
 |false=>rfl
 | true =>
   obtain⟨f,b,l,c,e⟩:=ybsp a q;obtain⟨d,rfl⟩:=List.getElem?_eq_some_iff.1 b;have:=((a.2.2.2.2.2.1 ⟨v,d⟩).1 l c).2.2.1;exact absurd e this
theorem yctv{s:Nat}(c:s<2^32)(h:Sh.indB (g.ports.map netP) s=true):ybwn g s:=fun u v b d=>by
 have a:=(Sh.ybdw c).1 h u d;rw[ybnb]at a;cases q:s.testBit v with
 |false=>rfl
 | true =>
   have:(netG g u&&&s).testBit v=true:=by rw[zX,ycor b,q];rfl
   rw[a]at this;simp at this
theorem ydrf:∀e,e<16->e≠0->∃i,i<4/\(4294967296-e)&&&e=2^i:=by decide +kernel
theorem ydra(h:ybi g)(e:Nat)(f:e<16)(d:e≠0):Sh.indB (g.ports.map netP) ((4294967296-e)&&&e)=true:=by
 obtain⟨i,k,c⟩:=ydrf e f d;rw[c];have a:2^i<2^32:=Nat.pow_lt_pow_right (by omega) (by omega)
 refine(Sh.ybdw a).2 fun v b=>?_;rw[zY,decide_eq_true_iff]at b;subst b;rw[ybnb,yfl];intro j;rw[zX,zY]
 by_cases q:i=j
 .rw[<-q,ycrr h];rfl
 .rw[decide_eq_false q,Bool.and_false]
end
namespace Sh
open Ev Go.RowKit
theorem ycea{g:Gr}(a:ybi g)(f:g.ids.length<=4):∀e s,e<2^g.ids.length->s≠0->s<16->s&&&e=s->Returns zS 171 [usV (g.ports.map netP),.i .i64 2,.i .u32 (e:Nat),.i .u32 (s:Nat)] (.b (indB (g.ports.map netP) s)):=fun e s j c m h=>by
 have d:2^g.ids.length<=2^4:=zG (by omega) f
 have k:=a.2.2.1;refine ybfc (by omega) c (by omega) (ybrv h) (fun v l=>?_) fun v=>zAF (by rw[ybnb];exact ydmj a v) (by omega:2^24<2^32)
 have:=yqb h v l;rw[zQ];refine zJ fun q=>?_;rw[zAC (zL j (zG (by omega) (by omega)))]at this
 cases this
end Sh
end
section
theorem ycmf{g:Gr}(a:ybi g){v:Nat}(h:v<g.ids.length){l:Int×Int}(d:l∈g.ports.getD v []):l.1.toNat<g.ids.length/\1<=l.2/\l.2<=15:=by
 have e:g.ids.length=g.ports.length:=a.2.2.1;obtain⟨_,f,_,b,c⟩:=yef a (by omega) d
 exact⟨by omega,b,c⟩
end
section
section
variable {nm nh nr:ByteArray}{g:Gr}
theorem ycpc (p:ybi g) {c b:Conf}{v:Nat}(r:v<g.ids.length) (y:∀u,u<g.ids.length->0<=(c.getD u []).getD 0 0)
 (f:∀u,u<g.ids.length->((c.getD u []).getD 0 0<cnV g c v->(b.getD u []).getD 0 0=(c.getD u []).getD 0 0)/\(cnV g c v<=(c.getD u []).getD 0 0->cnV g c v<=(b.getD u []).getD 0 0)):cnV g b v=cnV g c v:=by
 by_cases e:((g.ports.getD v []).length:Int)<2
 .unfold cnV;rw[if_pos e,if_pos e]
 .have t:=(yjp (-1073741824) ((g.ports.getD v []).map (endP c 0))).2.2;have x:=(yjp (-1073741824) ((g.ports.getD v []).map (endP b 0))).2.2
  have h:∀m:Int,-1073741824<m->(m<=cnS g c v↔2<=(g.ports.getD v []).countP fun l=>decide (m<=endP c 0 l)):=fun m k=>by
   have:=(t m k).2;rw[zAK]at this;exact this
  have n:∀m:Int,-1073741824<m->(m<=cnS g b v↔2<=(g.ports.getD v []).countP fun l=>decide (m<=endP b 0 l)):=fun m k=>by
   have:=(x m k).2;rw[zAK]at this;exact this
  have a:∀l∈g.ports.getD v [],(endP c 0 l<cnV g c v->endP b 0 l=endP c 0 l)/\(cnV g c v<=endP c 0 l->cnV g c v<=endP b 0 l):=fun l d=>f _ (ycmf p r d).1;have j:∀l∈g.ports.getD v [],0<=endP c 0 l:=fun l d=>y _ (ycmf p r d).1
  have C:0<=cnS g c v:=(h 0 (by omega)).2 (by
   rw[List.countP_eq_length.2 fun l d=>by simpa using j l d]
   omega)
  by_cases o:cnS g c v<(g.ids.length:Int)
  .have i:cnV g c v=cnS g c v+1:=by unfold cnV;rw[if_neg e,if_pos o]
   rw[i]at a ⊢
   have s:cnS g c v<=cnS g b v:=(n _ (by omega)).2 (zU ((h _ (by omega)).1 (Int.le_refl _)) (zW fun l d q=>by
    have:=a l d;simp only[decide_eq_true_eq]at q ⊢;rcases zAN (endP c 0 l) (cnS g c v+1)with w|w
    .rw[this.1 w];exact q
    .have:=this.2 w;omega))
   have B:¬cnS g c v+1<=cnS g b v:=fun q=>by
    have z:=(n _ (by omega)).1 q
    have A:2<=(g.ports.getD v []).countP fun l=>decide (cnS g c v+1<=endP c 0 l):=zU z (zW fun l d q=>by
     have:=a l d;simp only[decide_eq_true_eq]at q ⊢;rcases zAN (endP c 0 l) (cnS g c v+1)with w|w
     .rw[this.1 w]at q;exact q
     .exact w)
    have:=(h _ (by omega)).2 A
    omega
   unfold cnV;rw[if_neg e,if_pos (by omega)]
   omega
  .have i:cnV g c v=(g.ids.length:Int):=by unfold cnV;rw[if_neg e,if_neg o]
   rw[i]at a ⊢
   have s:(g.ids.length:Int)<=cnS g b v:=(n (g.ids.length:Int) (by omega)).2 (zU ((h (g.ids.length:Int) (by omega)).1 (by omega)) (zW fun l d q=>by
    have:=a l d;simp only[decide_eq_true_eq]at q ⊢;exact this.2 q))
   unfold cnV;rw[if_neg e,if_neg (by omega)]
end
end
section
section
variable {nm nh nl nf nd nt ni:ByteArray}{g:Gr}
theorem yccx(j:ybi g){c:Conf}{v a b:Nat}(w:v<g.ids.length)(i:hAt c v=cnV g c v)(q:gTie g c v)(k:adj g v a)(l:adj g v b)(r:hAt c a=hAt c v)(s:hAt c b=hAt c v):a=b:=by
 refine zJ fun d=>?_;have h:v<g.ports.length:=by have:=j.2.2.1;omega
 obtain⟨t1,t2,t3⟩:=q;have n:=ybsz j h (f:=fun u=>(c.getD u []).getD 0 0) (m:=hAt c v)
 by_cases o:-1073741824<hAt c v
 .have e:=((yjp (-1073741824) ((g.ports.getD v []).map (endP c 0))).2.2 (hAt c v) o).2;have t:hAt c v<=cnS g c v:=e.2 (n.2 ⟨a,b,k,l,d,by show hAt c v<=hAt c a;omega,by show hAt c v<=hAt c b;omega⟩)
  have p:2<=(g.ports.getD v []).length:=(ync j h).2 ⟨a,b,k,l,d⟩;unfold cnV at i;rw[if_neg (by omega)]at i
  split at i<;>omega
 .have p:2<=(g.ports.getD v []).length:=(ync j h).2 ⟨a,b,k,l,d⟩;have:=ycyg g c v;unfold cnV at i;rw[if_neg (by omega)]at i
  split at i<;>omega
theorem ybwm(B:ybi g){c:Nat->Conf}{s:Nat->Nat}{m:Nat}(j:Loop (yud (yby nm nh nl nf nd nt ni) g) (fun c=>yfe (yby nm nh nl nf nd nt ni) g c=true) c s m)(hI:∀i,ybwn g (s i)):False:=by
 have E:∀t,ElC g (c t):=fun t=>ymx (j.val t)
 have p:∀t v,v<g.ids.length->(s t).testBit v=true->hAt (c (t+1)) v=cnV g (c t) v/\((hAt (c t) v≠cnV g (c t) v/\lAt (c (t+1)) v=lAt (c t) v)\/(hAt (c t) v=cnV g (c t) v/\((ypz g (c t) v/\lAt (c (t+1)) v=0)\/(ypp g (c t) v/\lAt (c (t+1)) v=1)\/(gTie g (c t) v/\lAt (c (t+1)) v=1-lAt (c t) v)))):=fun t v b d=>by
  rw[j.nx t];exact ybgg B (E t) b d (j.sub t)
 have A:∀t v,v<g.ids.length->(s t).testBit v=false->(c (t+1)).getD v []=(c t).getD v []:=fun t v b d=>by
  rw[j.nx t];exact yys (E t) b d
 have still:=ycrd (n:=g.ids.length) (fun t v=>hAt (c t) v) (fun t v=>cnV g (c t) v) j.pos (fun i v=>by rw[j.per]) (fun t v b=>((E t).row v b).2.1.1) (fun t v b=>by
  cases d:(s t).testBit v with
  |true=>exact .inl (p t v b d).1
  |false=>exact .inr (by unfold hAt;rw[A t v b d])) fun t t' v b F=>ycpc B b (fun u e=>((E t).row u e).2.1.1) F
 have o:∀v,v<g.ids.length->∀t,hAt (c t) v=hAt (c 0) v:=fun v b t=>by
  induction t with
  |zero=>rfl
  |succ t x=>rw[<-x];exact still v b t
 have J:∀{v u},v<g.ids.length->adj g v u->u<g.ids.length:=fun {v u} b h=>by have:=(B.adj_lt h).2;have:=B.2.2.1;omega
 have I:∀t v,v<g.ids.length->(s t).testBit v=false->lAt (c (t+1)) v=lAt (c t) v:=fun t v b d=>by unfold lAt;rw[A t v b d]
 have mv:∀t v,v<g.ids.length->(s t).testBit v=true->hAt (c t) v=cnV g (c t) v/\((ypz g (c t) v/\lAt (c (t+1)) v=0)\/(ypp g (c t) v/\lAt (c (t+1)) v=1)\/(gTie g (c t) v/\lAt (c (t+1)) v=1-lAt (c t) v)):=fun t v b d=>by
  obtain⟨L,M⟩:=p t v b d;rcases M with⟨r,_⟩|⟨r,Y⟩
  .exact absurd ((still v b t).symm.trans L) r
  .exact⟨r,Y⟩
 have y:∀t v,v<g.ids.length->(s t).testBit v=true->¬ypz g (c t) v:=fun t v b d P=>by
  obtain⟨d1,u,e,d2⟩:=P;have K:∀i,hAt (c i) v<hAt (c i) u:=fun i=>by rw[o v b i,o u (J b e) i,<-o v b t,<-o u (J b e) t];exact d2
  have low:∀k,lAt (c (t+1+k)) v=0:=fun k=>by
   induction k with
   | zero =>
     obtain⟨_,a|a|a⟩:=mv t v b d
     .exact a.2
     .have:=a.1.2 u e;omega
     .have:=a.1.2.1 u e;omega
   | succ k x =>
     show lAt (c (t+1+k+1)) v=0;cases f:(s (t+1+k)).testBit v with
     |false=>rw[I _ v b f];exact x
     | true =>
       have:=K (t+1+k);obtain⟨_,a|a|a⟩:=mv _ v b f
       .exact a.2
       .have:=a.1.2 u e;omega
       .have:=a.1.2.1 u e;omega
  have X:=j.pos;have:=low (m-1);rw[show t+1+(m-1)=t+m by omega,j.per]at this
  omega
 have z:∀t v,v<g.ids.length->(s t).testBit v=true->¬ypp g (c t) v:=fun t v b d P=>by
  obtain⟨d1,d2⟩:=P;have K:∀i u,adj g v u->hAt (c i) u<hAt (c i) v:=fun i u e=>by rw[o v b i,o u (J b e) i,<-o v b t,<-o u (J b e) t];exact d2 u e
  have one:∀i,(s i).testBit v=true->lAt (c (i+1)) v=1:=fun i d=>by
   obtain⟨_,a|a|a⟩:=mv i v b d
   .obtain⟨_,u,e,q⟩:=a.1;have:=K i u e;omega
   .exact a.2
   .obtain⟨_,_,u,e,q,_⟩:=a.1;have:=K i u e;omega
  have G:∀k,lAt (c (t+1+k)) v=1:=fun k=>by
   induction k with
   |zero=>exact one t d
   | succ k x =>
     show lAt (c (t+1+k+1)) v=1;cases f:(s (t+1+k)).testBit v with
     |false=>rw[I _ v b f];exact x
     |true=>exact one _ f
  have X:=j.pos;have:=G (m-1);rw[show t+1+(m-1)=t+m by omega,j.per]at this
  omega
 have C:∀t v,v<g.ids.length->(s t).testBit v=true->hAt (c t) v=cnV g (c t) v/\gTie g (c t) v/\lAt (c (t+1)) v=1-lAt (c t) v:=fun t v b d=>by
  obtain⟨V,a|a|a⟩:=mv t v b d
  .exact absurd a.1 (y t v b d)
  .exact absurd a.1 (z t v b d)
  .exact⟨V,a⟩
 obtain⟨v,d⟩:∃v,(s 0).testBit v=true:=zJ fun q=>j.ne 0 ((yfl _).2 fun i=>by
  cases d:(s 0).testBit i with
  |false=>rfl
  |true=>exact absurd ⟨i,d⟩ q)
 have b:v<g.ids.length:=by
  rcases Nat.lt_or_ge v g.ids.length with q|q
  .exact q
  .have Q:=j.sub 0 v d;have:(ybq (yby nm nh nl nf nd nt ni) g (c 0)).testBit v=true:=Q;unfold ybq at this;rw[ymp]at this;simp at this;omega
 obtain⟨V,L,M⟩:=C 0 v b d;obtain⟨u,e,W,Z⟩:=L.2.2;have l:=J b e;have H:adj g u v:=B.adj_symm e
 have D:∀k,lAt (c (1+k)) u≠lAt (c (1+k)) v:=fun k=>by
  induction k with
  | zero =>
    have h1:lAt (c 1) v=1-lAt (c 0) v:=M;have h2:lAt (c 1) u=lAt (c 0) u:=I 0 u l (hI 0 v u e d);show lAt (c 1) u≠lAt (c 1) v;rcases((E 0).row v b).2.2 with q|q<;>omega
  | succ k x =>
    show lAt (c (1+k+1)) u≠lAt (c (1+k+1)) v
    have S:(s (1+k)).testBit v=false:=by
     cases f:(s (1+k)).testBit v with
     |false=>rfl
     | true =>
       obtain⟨N,r,_⟩:=C _ v b f;obtain⟨w,T,O,U⟩:=r.2.2;have:=yccx B b N r T e O (by rw[o u l,o v b];exact W)
       subst this;exact absurd U x
    have R:(s (1+k)).testBit u=false:=by
     cases f:(s (1+k)).testBit u with
     |false=>rfl
     | true =>
       obtain⟨N,r,_⟩:=C _ u l f;obtain⟨w,T,O,U⟩:=r.2.2;have:=yccx B l N r T H O (by rw[o u l,o v b];exact W.symm)
       subst this;exact absurd U.symm x
    rw[I _ u l R,I _ v b S];exact x
 have X:=j.pos;have:=D (m-1);rw[show 1+(m-1)=0+m by omega,j.per]at this
 exact this Z
end
end
section
section
variable {nm nh nl nf nd nt ni:ByteArray}{g:Gr}
theorem ydtp(h:Tr g)(hit:yeb g=true)(C:g.ports.length<=3):WLaw (yby nm nh nl nf nd nt ni) g (Sh.indB (g.ports.map netP)) (ybwn g) (ygy g)
 (RInvC (yud (yby nm nh nl nf nd nt ni) g) (fun c=>yfe (yby nm nh nl nf nd nt ni) g c=true) (elR g (elN g))) (elN g+1) (fun _=>True):=by
 have b:=h.good;have B:=b.2.2.1;have z:0<=ymj g:=yio (g:=g) g.ports.length;have A:ymj g<=24:=Sh.ybop b g.ports.length (zV _);have i:∀v,ybk g v ⟨nh,1,0,0,1,0⟩=(0,0+1*(g.ids.length:Int)+0*maxI g.ids):=fun v=>if_pos rfl;have f:∀v,ybk g v ⟨nl,2,0,0,0,0⟩=(0,1):=fun v=>rfl
 have u:=ycbl (p:=yby nm nh nl nf nd nt ni) (g:=g) (m:=3) (r:=8) (by omega) (by omega) ⟨Nat.succ_pos _,by show 2<=6;omega⟩ (fun v q x t=>by
  rcases List.mem_cons.1 t with e|t
  .rw[e,i];show -1000000<=(0:Int)/\(0:Int)<=0+1*(g.ids.length:Int)+0*maxI g.ids/\0+1*(g.ids.length:Int)+0*maxI g.ids<=1000000;omega
  .rw[List.mem_singleton.1 t,f];show -1000000<=(0:Int)/\(0:Int)<=1/\(1:Int)<=1000000;omega) (fun v q=>by
  show szP (ybk g v ⟨nh,1,0,0,1,0⟩)*(szP (ybk g v ⟨nl,2,0,0,0,0⟩)*1)<=8;rw[i,f];unfold szP;show(0+1*(g.ids.length:Int)+0*maxI g.ids-0+1).toNat*(2*1)<=8;omega) (by omega) (by decide) (by decide)
 have j:=yejf (nm:=nm) (nh:=nh) (nl:=nl) (nf:=nf) (nd:=nd) (nt:=nt) (ni:=ni) h (ydhx h)
 exact {
  tab:=u.1
  n4:=by omega
  big:=u.2
  fit:=fun c a s=>Sh.ykt b yehi (ybne b) a s
  permD:=fun s o h=>yctv (zL o (zG (by omega) (by omega))) h
  low:=ydra b
  start:=fun c a=>j.start a fun v q=>ybsi (ymx a) q
  step:=fun c k s a d w o l=>j.step c k s d w o l
  rests:=fun c a=>ypg h hit a
  rounds:=fun c k a d n=>by
   have:=ycoq h (ydhx h) (k:={ k with begun:=k.rounds+1 }) ⟨d.valid,d.all,d.done,zV _⟩ fun y=>by
    have:=(ypg (nm:=nm) (nh:=nh) (nl:=nl) (nf:=nf) (nd:=nd) (nt:=nt) (ni:=ni) h hit a).1 ((ybsa h a).2 y);rw[n]at this;cases this
   exact this
  r1000:=by unfold elN;omega
  moves:=fun _ _ _ _=>trivial
  noloop:=fun c s m n l=>ybwm b n l }
end
end
section
namespace Sh
open Go Ev
def c9_0:LO:=[bx' 24 0 1 0,mb false 2 0]
def c9_1:LO:=[la' 6 1 22 0,o3 (.call (.func 10) [(.tmp 22),(ci' 3)]) 23 1,o3 (.alloc 27 1 [.a (.slice none 0 0),.a (.slice none 0 0)]) 3 0,sto 2 3 23 7]
def c9_2:LO:=[cl' 43 [] 24 0,cl' 11 [24] 25 1,o3 (.alloc 32 1 [.a (.string (ByteArray.mk #[])),.a (.slice none 0 0),.a (.slice none 0 0)]) 4 0,sto 3 4 25 7]
def c9_3:LO:=[la' 2 3 26 0,cl' 44 [26] 27 1,o3 (.alloc 36 1 [.i .i64 0,.b false,.b false,.i .i64 0,.i .i64 0]) 5 0,sto 5 5 27 7]
def c9_4:LO:=[la' 3 4 29 0,la' 2 3 30 0,fa' 0 1 5 31 0,ld' 1 31 32 4,cl' 14 [29,30,32] 33 15,mv' 33 28 31,xt' 28 0 34 63,xt' 28 1 35 63,o3 (.alloc 41 1 [.a (.slice none 0 0),.a (.slice none 0 0)]) 6 0,sto 2 6 34 383,mv' 35 7 1023]
def c9_5:LO:=[mv' 7 36 0,bc .neq 36 0 37 1,mv' 37 38 3,gf (.faddr 1 1 (.tmp 6)) 39 38 7,gf (.load false 1 (.tmp 39)) 40 38 15,gf (.len (.tmp 40)) 41 38 31,gf (.bin .eql (.tmp 41) (ci' 0)) 42 38 63,pk' 38 42 43 127]
def c9_6:LO:=[mb false 2 0]
def c9_7:LO:=[nl' 8 0]
def c9_8:LO:=[mc 0 9 0]
def c9_9:LO:=[mv' 9 44 0,fa' 1 1 6 45 0,ld' 1 45 46 2,ln' 46 47 6,bn' .lss 44 47 48 15]
def ydwo:LO:=[la' 3 4 52 0,la' 2 3 53 0,mv' 9 54 0,cl' 15 [52,53,54] 55 7,mv' 55 51 15,xt' 51 0 56 31,xt' 51 1 57 31,mv' 56 10 63,mv' 57 11 255]
def yeei:LO:=[mv' 11 58 0,bc .neq 58 0 59 1]
def yekj:LO:=[mb false 2 0]
def yefi:LO:=[mv' 8 60 0,la' 2 3 61 0,mv' 10 62 0,cl' 45 [61,62] 63 6,o3 (.bslice 4 1 1 [.b false] [(0,1,(.tmp 63))]) 64 14,o3 (.app 4 1 1 (.tmp 60) (.tmp 64)) 65 31,mv' 65 8 63]
def ydvv:LO:=[mv' 9 49 0,bc .add 49 1 50 1,mv' 50 9 3]
def ydyx:LO:=[la' 2 6 67 0,mv' 8 68 0,cl' 17 [67,68] 69 3,mv' 69 66 7,xt' 66 0 70 15,xt' 66 1 71 15,mv' 70 12 31,mv' 71 13 127]
def yehw:LO:=[la' 2 6 73 0,mv' 8 74 0,cl' 18 [73,74] 75 3,mv' 75 72 7,xt' 72 0 76 15,xt' 72 1 77 15,mv' 76 14 31,mv' 77 15 127]
def yeiq:LO:=[mv' 13 78 0,bc .neq 78 0 79 1,mv' 79 80 3,gf (.mv (.tmp 15)) 81 80 7,gf (.bin .neq (.tmp 81) (ci' 0)) 82 80 15,pk' 80 82 83 31,mv' 83 84 63,gf (.mv (.tmp 14)) 85 84 127,gf (.un .not (.tmp 85)) 86 84 255,pk' 84 86 87 511,mv' 87 88 1023,gf (.mv (.tmp 12)) 89 88 2047,gf (.len (.tmp 89)) 90 88 4095,gf (.mv (.tmp 8)) 91 88 2047,gf (.len (.tmp 91)) 92 88 10239,gf (.bin .neq (.tmp 90) (.tmp 92)) 93 88 32767,pk' 88 93 94 65535]
def yelz:LO:=[mb false 2 0]
def yegv:LO:=[mc 0 16 0]
def ydsk:LO:=[mv' 16 95 0,mv' 12 96 0,ln' 96 97 2,bn' .lss 95 97 98 7]
def ydzi:LO:=[mv' 12 101 0,mv' 16 102 0,ix' 1 101 102 103 3,ld' 1 103 104 7]
def yekd:LO:=[mb false 2 0]
def yeax:LO:=[mv' 16 99 0,bc .add 99 1 100 1,mv' 100 16 3]
def ydzc:LO:=[la' 2 6 106 0,mv' 8 107 0,cl' 19 [106,107] 108 3,mv' 108 105 7,xt' 105 0 109 15,xt' 105 1 110 15,mv' 109 17 31,mv' 110 18 127]
def yece:LO:=[la' 2 6 112 0,mv' 8 113 0,cl' 20 [112,113] 114 3,mv' 114 111 7,xt' 111 0 115 15,xt' 111 1 116 15,mv' 115 19 31,mv' 116 20 127]
def yebj:LO:=[mv' 18 117 0,bc .neq 117 0 118 1,mv' 118 119 3,gf (.mv (.tmp 20)) 120 119 7,gf (.bin .neq (.tmp 120) (ci' 0)) 121 119 15,pk' 119 121 122 31,mv' 122 123 63,gf (.mv (.tmp 17)) 124 123 127,gf (.len (.tmp 124)) 125 123 255,gf (.mv (.tmp 8)) 126 123 127,gf (.len (.tmp 126)) 127 123 639,gf (.bin .neq (.tmp 125) (.tmp 127)) 128 123 2047,pk' 123 128 129 4095,mv' 129 130 8191,gf (.mv (.tmp 19)) 131 130 16383,gf (.len (.tmp 131)) 132 130 32767,gf (.mv (.tmp 8)) 133 130 16383,gf (.len (.tmp 133)) 134 130 81919,gf (.bin .neq (.tmp 132) (.tmp 134)) 135 130 262143,pk' 130 135 136 524287]
def yemj:LO:=[mb false 2 0]
def ydwm:LO:=[mc 0 21 0]
def ydue:LO:=[mv' 21 137 0,mv' 17 138 0,ln' 138 139 2,bn' .lss 137 139 140 7]
def yecf:LO:=[mv' 17 143 0,mv' 21 144 0,ix' 1 143 144 145 3,ld' 1 145 146 7,fa' 3 1 5 147 0,ld' 1 147 148 16,bn' .gtr 146 148 149 63,mv' 149 150 127,gf (.faddr 4 1 (.tmp 5)) 151 150 255,gf (.load false 1 (.tmp 151)) 152 150 511,gf (.bin .geq (.tmp 152) (ci' 0)) 153 150 1023,gf (.mv (.tmp 153)) 154 150 2047,gt (.mv (.tmp 19)) 155 154 4095,gt (.mv (.tmp 21)) 156 154 4095,gt (.idx 1 (.tmp 155) (.tmp 156)) 157 154 16383,gt (.load false 1 (.tmp 157)) 158 154 32767,gt (.faddr 4 1 (.tmp 5)) 159 154 4095,gt (.load false 1 (.tmp 159)) 160 154 69631,gt (.bin .gtr (.tmp 158) (.tmp 160)) 161 154 262143,gf (.pick (.tmp 154) (.tmp 161) (.const (.bool false))) 162 150 524287,pk' 150 162 163 1048575]
def yejy:LO:=[mb false 2 0]
def yekm:LO:=[mv' 21 141 0,bc .add 141 1 142 1,mv' 142 21 3]
def ydwt:LO:=[cl' 46 [] 164 0,mv' 164 2 1]
def c9:SC:=(sr c9_0 <| sr c9_1 <| sr c9_2 <| sr c9_3 <| sr c9_4 <| .seq (sr c9_5 <| cn 43 (sr c9_6 <| .ret) .skip) (sr c9_7 <| .seq (sr c9_8 <| .block 0 (.loop (.seq (sr c9_9 <| cn 48 .skip (.exit 0)) (.seq (.block 1 (sr ydwo <| .seq (sr yeei <| cn 59 (sr yekj <| .ret) .skip) (.reg false yefi))) (.reg false ydvv))))) (sr ydyx <| sr yehw <| .seq (sr yeiq <| cn 94 (sr yelz <| .ret) .skip) (.seq (sr yegv <| .block 2 (.loop (.seq (sr ydsk <| cn 98 .skip (.exit 2)) (.seq (.block 3 (sr ydzi <| cn 104 (sr yekd <| .ret) .skip)) (.reg false yeax))))) (sr ydzc <| sr yece <| .seq (sr yebj <| cn 136 (sr yemj <| .ret) .skip) (.seq (sr ydwm <| .block 4 (.loop (.seq (sr ydue <| cn 140 .skip (.exit 4)) (.seq (.block 5 (.seq (.reg true yecf) (cn 163 (sr yejy <| .ret) .skip))) (.reg false yekm))))) (sr ydwt <| .ret)))))))
theorem yema:Fn 9 c9 [.t 2]:=fn_0 Tryz.func9
end Sh
end
section
namespace Sh
open Ev Go.RowKit
set_option maxHeartbeats 16000000 in
theorem ybjy{x:NetR}(hx:x.ok):Returns zS 9 [.ag (netC x)] (.b true):=by
 refine Returns.of (yema _ _ ?_);have hC:=ycpe hx (most:=3) (by omega)
 simp only[netC]at hC;simp only[c9,c9_0,c9_1,netC,clash,go_sem,zA,zB,zC];refine hC.found (V:=grV) (fun r g h=>h.2.2.2) fun r g h=>?_;obtain⟨Z,hit,a4,-⟩:=h;have B:=Z.good;have hI:=ydqk B;have G:Checked (Lies NqB Nqv) (Lies NqC Nqr) NqP g:=⟨B,yeaq,ybne B,ycom⟩;have H:=ybnt hI hit;have c:WLaw NqP g (indB (g.ports.map netP)) (ybwn g) (ygy g) _ (elN g+1) (fun _=>True):=ydtp Z hit a4;have a6:0<=ymj g:=yio (g:=g) g.ports.length
 have C:=ycea B c.n4;have a5:((elN g+1:Nat):Int)=ymj g/2+2:=by unfold elN;omega
 have L:g.ids.length<=24:=by have:=B.2.1;have:=B.2.2.1;omega
 have a0:=ycjd;have X:=ybuo;have T:=ycbd G c.tab (kind:=2) (.inl rfl) c.n4 (perm:=(indB (g.ports.map netP))) C c.tot;have Q:=fun k (hk:k<ybn (tabP NqP g))=>ybxv G c.tab (k0:=k) hk;have z:=fun k=>ybul hI (yctz (ybue B yeaq (c.conf k))) (fun _=>Z);have o:=ycoi c.ok c.free;have n:=ybyq c.ok (lg:=fun k=>ygy g (cfP NqP g k)) fun k _ hl=>c.rest k hl;have s:=ybzt c.ok c.free L (fun k _=>ybaa _ _ _) c.big c.rdB
 have p:=yctx c.ok c.free c.mvB;have K:=fun k x=>c.ycnh (k:=k) (x:=x);have I:=fun k x=>c.ycty (k:=k) (x:=x);have w:0<ybn (tabP NqP g):=c.ok.pos;have a3:ybn (tabP NqP g)<=32768:=c.ok.le;have hN:(spcP (indB (g.ports.map netP)) NqP g).N=ybn (tabP NqP g):=rfl;have a2:∀k,(unT (tabP NqP g) k).1=cfP NqP g k:=fun _=>rfl;obtain⟨lg,M⟩:∃lg:Nat->Bool,(fun k=>ygy g (cfP NqP g k))=lg:=⟨_,rfl⟩;have O:∀k,ygy g (cfP NqP g k)=lg k:=fun k=>by rw[<-M]
 simp only[a2]at Q;simp only[O]at z;rw[M]at o n s p;rw[hN]at o n s p;obtain⟨N,J⟩:∃N,ybn (tabP NqP g)=N:=⟨_,rfl⟩;rw[J]at Q o n s p w a3;obtain⟨E,U⟩:∃E:Nat->SV,(fun k=>SV.i .u32 ((spcP (indB (g.ports.map netP)) NqP g).en k:Nat))=E:=⟨_,rfl⟩;obtain⟨A,S⟩:∃A:Nat->SV,(fun k=>ybm ((spcP (indB (g.ports.map netP)) NqP g).arcs k))=A:=⟨_,rfl⟩;have Y:spcC (spcP (indB (g.ports.map netP)) NqP g)=[.sl 1 N fun k=>[E k],.sl 1 N fun k=>[A k]]:=by rw[<-J,<-U,<-S];rfl
 rw[Y]at T o n s p;simp only[grV,yfz,ybc]at T Q z o n s p H;simp only[ybj,c9_2,grV,clash,go_sem,zA,zB,zC];refine a0.use ?_;simp only[go_sem];refine X.use ?_;simp only[ybj,c9_3,yfz,clash,go_sem,zA,zB,zC];refine H.use ?_;simp only[ybj,c9_4,ycwg,clash,go_sem,zA,zB,zF,zC];refine T.use ?_;simp only[go_sem,zA,zB]
 repeat refine ybd ?_
 have d0:((N:Int)==0)=false:=by rw[beq_eq_false_iff_ne];omega
 simp only[c9_5,c9_7,c9_8,d0,zK,clash,go_sem,zA,zB]
 let d:Own:=[(6,.one (some ⟨41,true,2,1,fun _=>[.sl 1 N fun k=>[E k],.sl 1 N fun k=>[A k]]⟩)),(5,.one (some ⟨36,true,5,1,fun _=>[.i .i64 2,.b false,.b true,.i .i64 (ymj g/2+2),.i .i64 (-1)]⟩)),
  (4,.one (some ⟨32,true,3,1,fun _=>[.a (.string NqP.raw.name),.ex (Lies NqB Nqv) (yfq NqP.raw.vars),.ex (Lies NqC Nqr) (ydo NqP.raw.rules)]⟩)),(3,.one (some ⟨27,true,2,1,fun _=>[ybb g.ids,yg g.ports]⟩))]
 let e:List (Nat×SV):=[(6,.pt (6,0) 0 0),(5,.pt (5,0) 0 0),(4,.pt (4,0) 0 0),(3,.pt (3,0) 0 0)]
 obtain⟨R,t,y⟩:∃R:Nat->SS,(∀k,k<N->R k=⟨(9,.i .i64 k)::(8,.os (70,0) 0 k true)::e,(70,.one (some ⟨4,false,1,k,fun i=>[.b (lg i)]⟩))::d⟩)/\R N=⟨(9,.i .i64 N)::(8,.sl 1 N fun i=>[.b (lg i)])::e,d⟩ :=
  ⟨fun k=>if k<N then⟨(9,.i .i64 k)::(8,.os (70,0) 0 k true)::e,(70,.one (some ⟨4,false,1,k,fun i=>[.b (lg i)]⟩))::d⟩else⟨(9,.i .i64 N)::(8,.sl 1 N fun i=>[.b (lg i)])::e,d⟩,fun k hk=>if_pos hk,if_neg (Nat.lt_irrefl _)⟩
 refine ybe (σ:=Nat) R (fun k=>k<=N) (fun k=>N-k) 0 (zH _) ?_ ?_
 .rw[t 0 w];refine yca [] [70] [] ?_;simp only[e,d,wk,go_sem,zA,zC,zD];exact⟨(70,0),rfl,rfl,rfl⟩
 .intro k hk
  by_cases u:k<N
  .have d1:=dec_lt u;have a1:=Q k u;have W:=z k;rw[t k u];simp only[c9_9,ydwo,e,d,d1,clash,go_sem,zA,zB];refine a1.use ?_;simp only[ybj,yeei,yefi,splice,clash,zK,go_sem,zA,zB,zC];refine W.use ?_;simp only[ydvv,clash,go_sem,zA,zB,zF]
   repeat refine ybd ?_
   refine yu (k+1) u (by omega) ?_
   have D:∀i,i<k+1->(if i<k then[SV.b (lg i)]else zAO 1 (zAP ((i-k)*1) [SV.b (lg k)]))=[SV.b (lg i)]:=fun i F=>by
    by_cases q:i<k
    .rw[if_pos q]
    .obtain rfl:i=k:=by omega
     rw[if_neg q,Nat.sub_self];rfl
   by_cases P:k+1<N
   .rw[t (k+1) P];refine yca [(70,fun i=>(65,i))] [] [] ?_;simp only[e,d,wk,go_sem,zA,zC];exact⟨by omega,fun i F=>ycbi (D i F)⟩
   .obtain rfl:k+1=N:=by omega
    rw[y];refine yca [] [] [(65,0)] ?_;simp only[e,d,wk,go_sem,zA,zF,zC];exact⟨fun i F=>by rw[D i F];rfl,by omega,yej fun i F=>by rw[D i F];exact⟨⟨Sim.refl _,trivial⟩,rfl⟩⟩
  .obtain rfl:k=N:=by omega
   rw[y];simp only[c9_9,ydyx,e,d,zI,clash,go_sem,zA,zB];refine o.use ?_;simp only[ybj,yehw,clash,go_sem,zA,zB];refine n.use ?_;simp only[yeiq,yegv,clash,bne_self_eq_false,go_sem,zA,zB];refine ybe (σ:=Nat) (fun j=>⟨(16,.i .i64 j)::(12,.sl 1 k fun _=>[.b false])::(8,.sl 1 k fun i=>[.b (lg i)])::e,d⟩) (fun j=>j<=k) (fun j=>k-j) 0 (zH _) ?_ ?_
   .refine yj ?_;simp only[e,d,wk,go_sem,zA,zC]
   .intro j hj
    by_cases v:j<k
    .have d2:=dec_lt v;simp only[ydsk,yeax,ydzi,e,d,d2,clash,go_sem,zA,zB]
     repeat refine ybd ?_
     refine yu (j+1) v (by omega) ?_
     refine yj ?_;simp only[wk,go_sem,zA,zC];omega
    .obtain rfl:j=k:=by omega
     simp only[ydsk,ydzc,e,d,zI,clash,go_sem,zA,zB];refine s.found (V:=fun f=>.tp [.sl 1 j fun q=>[.i .i64 (f q:Nat)],.i .i64 0]) (fun r f h=>h.1) fun r f h=>?_;obtain⟨-,hf⟩:=h;simp only[ybj,yece,clash,go_sem,zA,zB];refine p.found (V:=fun f=>.tp [.sl 1 j fun q=>[.i .i64 (f q:Nat)],.i .i64 0]) (fun r f h=>h.1) fun r m h=>?_;obtain⟨-,hm,a7⟩:=h;simp only[yebj,ydwm,clash,bne_self_eq_false,go_sem,zA,zB]
     refine ybe (σ:=Nat) (fun q=>⟨(21,.i .i64 q)::(19,.sl 1 j fun q=>[.i .i64 (m q:Nat)])::(17,.sl 1 j fun q=>[.i .i64 (f q:Nat)])::e,d⟩) (fun q=>q<=j) (fun q=>j-q) 0 (zH _) ?_ ?_
     .refine yj ?_;simp only[e,d,wk,go_sem,zA,zC]
     .intro q hq
      by_cases l:q<j
      .have d3:=dec_lt l;have r1:=K q (f q) (hf q l);have m1:=I q (m q) (hm q l);have r2:decide (((f q:Nat):Int)>(ymj g/2+2))=false:=decide_eq_false (by omega)
       simp only[ydue,yecf,e,d,d3,r2,ge_iff_le,Int.reduceLE,Int.reduceNeg,clash,go_sem,zA,zB,zF]
       repeat refine ybd ?_
       simp only[clash,go_sem,zA,zB]
       repeat refine ybd ?_
       refine yu (q+1) l (by omega) ?_
       refine yj ?_;simp only[wk,go_sem,zA,zC];omega
      .obtain rfl:q=j:=by omega
       have hK:=ybma;simp only[ydue,ydwt,e,d,zI,clash,go_sem,zA,zB];refine hK.use ?_;simp only[ybj,clash,go_sem,zB];exact Sim.refl _
end Sh
end
end Go.Proofs.YthclbjjgfcgbgaaGreatDoor
