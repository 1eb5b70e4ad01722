/- Joined. -/
import Derived.Test.YtiejahgklcjhkaaGreatDoorPkS14
set_option linter.unusedSimpArgs false
set_option linter.unusedVariables false
set_option maxRecDepth 8000
open Nat renaming reduceEqDiff→zA,reduceAdd→zB,reduceLeDiff→zC,reduceBEq→zF,reduceLT→zG,zero_le→zK,le_refl→zN,zero_mul→zO,sub_self→zQ,and_two_pow_sub_one_of_lt_two_pow→zW,lt_of_lt_of_le→zAB,not_lt_zero→zAM,pow_le_pow_right→zAP,le_succ→zBC,mul_add→zBD,mod_lt→zBE
open List renaming mem_cons_of_mem→zD,range→zH,mem_cons_self→zI,length_append→zJ,getD→zS,getElem?_eq_getElem→zT,length_map→zU,map_cons→zV,take_succ_eq_append_getElem→zY,filter_cons→zZ,sum_cons→zAC,getElem?_map→zAD,getElem?_append_left→zAF,take_length→zAH,getElem?_take_of_lt→zAI,getElem_mem→zAJ,not_mem_nil→zAK,length_cons→zAL,getElem?_eq_none→zAN,length_singleton→zAO,getD_cons_zero→zAR,foldl_append→zAS,countP_cons→zAV,getElem_map→zAW,map_append→zAX,range_succ→zAY,countP_nil→zAZ
open Int renaming natCast_zero→zL,emod_lt_of_pos→zX,emod_nonneg→zAA,toNat_natCast→zAE,reduceBNe→zAQ,le_refl→zAT,ofNat_tmod→zBA,reduceBEq→zBB
open Go.Proofs.Tryz renaming prog→zM
open BitVec renaming ofInt→zAG
open Bool renaming and_eq_true→zAU
open Go
namespace Go.Proofs.YtiejahgklcjhkaaGreatDoor
section
namespace Sh
open Ev Go.RowKit
def seeC:SV:=.fn 131 [] [.pt (201,0) 0 0,.pt (203,0) 0 0]
def seeX(cs:List Conf)(ks:List Cnt):Own:=[(201,.one (some ⟨29,true,1,1,fun _=>[.os (202,0) 0 cs.length true]⟩)),(202,.one (some ⟨34,false,1,cs.length,fun i=>[ybk (cs.getD i [])]⟩)),
 (203,.one (some ⟨30,true,1,1,fun _=>[.os (204,0) 0 ks.length true]⟩)),(204,.one (some ⟨48,false,5,ks.length,fun i=>cntV (ks.getD i default)⟩))]
def yns:Own:=[(201,.one (some ⟨29,true,1,1,fun _=>[.a (.slice none 0 0)]⟩)),(203,.one (some ⟨30,true,1,1,fun _=>[.a (.slice none 0 0)]⟩))]
def TT:(Nat->Option ABlk)->Value->Prop:=fun _ _=>True
def yfr(p:ProgT)(g:Gr):SV:=.ex TT (.rf (yel p.raw g))
def yee(p:ProgT)(g:Gr)(net:List Nat)(kind:Int):List SV:=[yfr p g,usV net,.i .i64 kind,.i .u32 (2^g.ids.length-1:Nat),seeC]
def ybqm(p:ProgT)(g:Gr)(net:List Nat)(kind:Int)(ws:List Nat):Own:=[(205,.one (some ⟨126,true,5,1,fun _=>yee p g net kind⟩)),(206,.one (some ⟨38,true,1,1,fun _=>[usV ws]⟩))]
theorem gmr{α:Type}(f:Nat->α)(n k:Nat)(d:α)(h:k<n):((zH n).map f).getD k d=f k:=by simp[zS,h]
def mapR{α:Type}(n:Nat)(f:Nat->α):List α:=(zH n).map f
theorem gmR{α:Type}(f:Nat->α)(n k:Nat)(d:α)(h:k<n):(mapR n f).getD k d=f k:=gmr f n k d h
theorem ybad{α:Type}(n:Nat)(f:Nat->α):(mapR n f).length=n:=by simp[mapR]
theorem ybiy{α β:Type}(n:Nat)(f:Nat->α)(h:α->β):(mapR n f).map h=mapR n fun k=>h (f k):=by simp[mapR,Function.comp_def]
theorem ycaf{α:Type}(f:Nat->α)(n:Nat)(x d:α)(hx:f n=x)(k:Nat)(h:k<n+1):(((zH n).map f)++[x]).getD k d=f k:=by
 rw[<-hx,show[f n]=[n].map f from rfl,<-zAX,<-zAY]
 exact gmr f (n+1) k d h
section
variable {Q1 Q2:(Nat->Option ABlk)->Value->Prop}{p:ProgT}{g:Gr}
theorem ybnp(h:Checked Q1 Q2 p g){kind:Int}{net:List Nat}(hnl:g.ids.length<=net.length){res:Nat->Nat->Nat}(hd:DaemonOk kind net res){c:Conf}(hc:yga p g c=true){ws:List Nat}(hw:∀k,ws.getD k 0<2^32)(hwl:ws.length<=4000) :
 Cm zM 168 [(201,0),(203,0)] (yns++ybqm p g net kind ws) [.ag (yee p g net kind),ybk c,.i .i64 ws.length,.fn 169 [] [.pt (205,0) 0 0,.pt (206,0) 0 0]]
  fun r o=>(∃l1 l2 c' k',r = .tp [.ag (usV l1::usV l2::ybk c'::cntV k'),.i .i64 0])/\o=seeX ((yca p g).runs res ws c |>.map (·.1)) ((yca p g).runs res ws c |>.map (·.2)):=by
 refine ycdl [(201,0),(203,0)] [131] _ _ _ ?_;obtain⟨O2,hO2⟩:∃O,seeX ((yca p g).runs res ws c |>.map (·.1)) ((yca p g).runs res ws c |>.map (·.2))=O:=⟨_,rfl⟩;rw[hO2];obtain⟨hr1,hr2⟩:=yph h.hg h.hp hc;have hcin:=yjc h.hg h.hp hc;have hC:=yzl c hr1 hr2;have hE:=yqm p h.hg h.hp hcin;have hX:SimL [yfr p g,ybk c] [.rf (yel p.raw g),ybk c]:=⟨ysu _ _,Sim.refl _,trivial⟩;have hen:=ycbn p g c;have hid:=h.hg.2.2.1
 have h24:=h.hg.2.1;have h2n:2^g.ids.length<=2^24:=zAP (by omega) (by omega)
 simp only[c168,yctd,yclu,ycql,yns,ybqm,yee,seeC,usV,yfr,go_sem,zA,zB,zG,zF,↓reduceIte,reduceCtorEq];refine hC.use ?_;simp only[ybf,yclq,clash,go_sem,zA,zB,zC,zF,↓reduceIte,reduceCtorEq];refine hE.useS ?_ ?_
 ·exact hX
 have ha:IntKind.wrap .u32 (((zAG (IntKind.bits .u32) (ybp p g c:Int))&&&zAG (IntKind.bits .u32) ((2^g.ids.length-1:Nat):Int)).toNat:Int)=(ybp p g c:Int):=by
  have e:=u32_and (a:=ybp p g c) (b:=2^g.ids.length-1) (by omega) (by omega)
  rw[zW hen]at e;exact e
 simp only[IntKind.bits]at ha;simp only[ybf,yclo,clash,ha,go_sem,zA,zB,zG,zF,↓reduceIte];have hB:=ybxb (e:=ybp p g c) (by omega)
 obtain⟨K0,hK0⟩:∃K,ydw (ybp p g c)=K:=⟨_,rfl⟩;rw[hK0]at hB;refine hB.use ?_;simp only[ychg,cntV,go_sem,zA,zB,↓reduceIte,reduceCtorEq];have hS:=ybvm hr1 hr2 (ybp p g c) K0;simp only[cntV]at hS;refine ydd hS [(1,201),(3,203)] 200 [1,2,3,4,8,9,10,11,12] [4,8,10,12,205,206] ?_ ?_
 ·simp only[ydbi,to1,okN,ybx,yed,ydf,ycu,allQ,live,yc,go_sem,zA,zB,zF,↓reduceIte,reduceCtorEq]
 ·rintro r o' ⟨rfl,rfl⟩;simp only[seeO,yjp,yip,nuF,nu,difN,ydf,ycu,Fam.ren,OB.ren,dim,yuc,yic,go_sem,zA,zB,zF,↓reduceIte,reduceCtorEq];simp only[ycni,ycio,splice,go_sem,zA,zB,zC,zG,Nat.reduceMul,↓reduceIte,reduceCtorEq]
  let st:Nat->Conf×Cnt:=stAt (yca p g) res ws c K0
  let en:Nat->Nat:=fun i=>ybp p g (st i).1
  let ch:Nat->Nat:=fun i=>res (en i) (ws.getD i 0)
  refine ybj (σ:=Nat) (fun i=>⟨[(40,.i .i64 i),(39,.i .i64 ws.length),(1,ybk (st i).1),(3,.fn 169 [] [.pt (205,0) 0 0,.pt (206,0) 0 0]),(4,.pt (4,0) 0 0),(8,.pt (8,0) 0 0),(9,.i .i64 0),(10,.pt (10,0) 0 0),(11,.i .u32 (en i)),(12,.pt (12,0) 0 0)],
   [(4,.one (some ⟨126,true,5,1,fun _=>yee p g net kind⟩)),
    (8,.one (some ⟨130,true,8,1,fun _=>[.a (.slice none 0 0),.a (.slice none 0 0),.a (.slice none 0 0),.i .i64 0,.i .i64 0,.i .i64 0,.i .i64 0,.i .u32 0]⟩)),
    (10,.one (some ⟨130,true,8,1,fun _=>[.os (301,0) 0 i true,.os (302,0) 0 (i+1) true,.a (.slice none 0 0),.i .i64 0,.i .i64 0,.i .i64 0,.i .i64 0,.i .u32 0]⟩)),
    (301,.one (some ⟨40,false,1,i,fun j=>[.i .u32 (ch j)]⟩)),(302,.one (some ⟨40,false,1,i+1,fun j=>[.i .u32 (en j)]⟩)),
    (12,.one (some ⟨48,true,5,1,fun _=>cntV (st i).2⟩)),
    (201,.one (some ⟨29,true,1,1,fun _=>[.os (202,0) 0 (i+1) true]⟩)),(202,.one (some ⟨34,false,1,i+1,fun j=>[ybk (st j).1]⟩)),
    (203,.one (some ⟨30,true,1,1,fun _=>[.os (204,0) 0 (i+1) true]⟩)),(204,.one (some ⟨48,false,5,i+1,fun j=>cntV (st j).2⟩)),
    (205,.one (some ⟨126,true,5,1,fun _=>yee p g net kind⟩)),(206,.one (some ⟨38,true,1,1,fun _=>[usV ws]⟩))]⟩)
   (fun i=>i<=ws.length/\(∀j,j<i->en j≠0)/\yga p g (st i).1=true/\(st i).2.ok/\(st i).2.steps=i) (fun i=>ws.length-i) 0 ⟨zK _,fun j hj=>absurd hj (zAM j),hc,by show K0.ok;rw[<-hK0];exact ybuw (by omega),by show K0.steps=0;rw[<-hK0];rfl⟩ ?_ ?_
  ·refine ycx [(302,fun i=>(37,i))] [301] [] ?_;have st0:st 0=(c,K0):=rfl;have en0:en 0=ybp p g c:=rfl;simp only[yee,yfr,seeC,usV,cntV,st0,en0,allQ,live,yc,yba,zL,go_sem,zA,zC,zF,↓reduceIte,reduceCtorEq];refine⟨fun i _=>⟨(301,0),rfl,?_⟩,?_⟩
   ·simp only[go_sem,go_sem,zA,↓reduceIte]
   refine⟨fun i hi=>?_,fun i hi=>?_,fun i hi=>?_⟩
   ·obtain rfl:i=0:=by omega
    simp only[zO];simp only[en0,live,yc,go_sem,reduceCtorEq]
   ·obtain rfl:i=0:=by omega
    simp only[st0,zAR,yc,go_sem]
   ·obtain rfl:i=0:=by omega
    simp only[st0,zAR,go_sem]
  ·rintro i ⟨hi,hj,hci,hko,hks⟩;obtain⟨cr1,cr2⟩:=yph h.hg h.hp hci;have cin:=yjc h.hg h.hp hci;have eni:=ycbn p g (st i).1
   have fin:(i=ws.length\/en i=0)->(yca p g).runs res ws c=mapR (i+1) st:=fun hq=>by
    have e:=ybow (yca p g) res ws c i;rw[show(yca p g).en c=ybp p g c from rfl,hK0]at e
    exact e hj hi hq
   simp only[ycoa,ycwb,ycah,yee,yfr,seeC,usV,cntV,go_sem,zA,zB,zC,zF,↓reduceIte,reduceCtorEq];refine⟨fun hlt=>.inl ?_,fun hlt=>?_⟩
   ·have hi':i<ws.length:=by omega
    by_cases h0:en i=0
    ·obtain⟨x,hF⟩:=ybir hd (.fn 131 [] [.rf [.sl 1 (i+1) fun j=>[ybk (st j).1]],.rf [.sl 5 (i+1) fun j=>cntV (st j).2]]) (.i .u32 (2^g.ids.length-1:Nat)) (yfr p g) hw hi';simp only[yfr,usV,cntV]at hF;simp only[h0,zL];refine hF.use ?_;simp only[ybf,ybfu,ybgx,ybgv,go_sem,zA,zB,zC,↓reduceIte,reduceCtorEq];refine⟨by decide,?_⟩
     simp only[ygi,go_sem];refine⟨.tp [.ag (usV (mapR i ch)::usV (mapR (i+1) en)::ybk (st i).1::cntV (st i).2),.i .i64 0],O2,?_,?_,⟨_,_,_,_,rfl⟩,rfl⟩
     ·subst hO2;rw[fin (.inr h0)];refine ycx [] [] [(301,0),(302,0)] ?_;simp only[seeX,usV,cntV,ybiy,ybad,allQ,live,yc,yba,go_sem,zA,↓reduceIte,reduceCtorEq];refine⟨ycub ⟨ytx ⟨ylf fun q hq=>by rw[gmR _ _ _ _ hq],ylf fun q hq=>by rw[gmR _ _ _ _ hq],Sim.refl _,Sim.refl _,Sim.refl _,Sim.refl _,Sim.refl _,Sim.refl _,trivial⟩,Sim.refl _,trivial⟩,fun q hq=>?_,fun q hq=>?_⟩
      ·rw[gmR _ _ _ _ hq];exact Sim.refl _
      ·rw[gmR _ _ _ _ hq];exact⟨rfl,rfl,rfl,rfl,rfl⟩
     ·subst hO2;simp only[seeX,usV,cntV,ybx,yed,allQ,live,go_sem,zA,↓reduceIte]
    ·have hen24:en i<2^24:=by show ybp p g (st i).1<_;omega
     have henn:en i<2^net.length:=zAB eni (zAP (by omega) hnl)
     have hF:=ybfw hd (.fn 131 [] [.rf [.sl 1 (i+1) fun j=>[ybk (st j).1]],.rf [.sl 5 (i+1) fun j=>cntV (st j).2]]) (.i .u32 (2^g.ids.length-1:Nat)) (yfr p g) hw hen24 henn h0 hi';obtain⟨hch0,hchs⟩:=hd.sub (en i) (ws.getD i 0) h0 hen24;have hP:=hd.permits (en i) (ws.getD i 0) hen24 henn h0 (hw i);have hch24:ch i<2^24:=ybgy hchs hen24;have hSt:=ycgh p h.hg h.hp cin (s:=ch i) (by omega) hchs
     obtain⟨d,hdd⟩:∃d,yex p g (st i).1 (ch i)=d:=⟨_,rfl⟩;rw[hdd]at hSt;have hcd:yga p g d=true:=by rw[<-hdd];exact ykm h.hg h.hp h.hf hci (ch i)
     simp only[yfr,usV,cntV]at hF hP;refine hF.use ?_;simp only[ybf,ybfu,ybsn,go_sem,zA,zB,zC,zF,↓reduceIte,reduceCtorEq];refine hP.use ?_;simp only[ybf,ybts,go_sem,zA,zB,zC,zF,↓reduceIte,reduceCtorEq];refine hSt.useS ?_ ?_
     ·exact⟨ysu _ _,Sim.refl _,Sim.refl _,trivial⟩
     obtain⟨dr1,dr2⟩:=yph h.hg h.hp hcd;have dcin:=yjc h.hg h.hp hcd;have hE2:=yqm p h.hg h.hp dcin;have hen2:=ycbn p g d;obtain⟨e2,he2⟩:∃e,ybp p g d=e:=⟨_,rfl⟩;rw[he2]at hE2 hen2
     have ha2:IntKind.wrap .u32 (((zAG (IntKind.bits .u32) (e2:Int))&&&zAG (IntKind.bits .u32) ((2^g.ids.length-1:Nat):Int)).toNat:Int)=(e2:Int):=by
      have e:=u32_and (a:=e2) (b:=2^g.ids.length-1) (by omega) (by omega)
      rw[zW hen2]at e;exact e
     simp only[IntKind.bits]at ha2;simp only[ybf,ybxs,clash,go_sem,zA,zB,zC,zF,↓reduceIte,reduceCtorEq];refine hE2.useS ?_ ?_
     ·exact⟨ysu _ _,Sim.refl _,trivial⟩
     have hA:=ydaf hko (by omega) hch0 hch24 (e:=e2) (by omega)
     obtain⟨K2,hK2⟩:∃K,addP (st i).2 (ch i) e2=K:=⟨_,rfl⟩;rw[hK2]at hA;simp only[cntV]at hA;simp only[ybf,ybsh,clash,ha2,go_sem,zA,zB,zF,↓reduceIte,reduceCtorEq];refine hA.use ?_;simp only[ybzx,go_sem,zA,zB,↓reduceIte,reduceCtorEq]
     let cs:List Conf:=(zH (i+1)).map fun j=>(st j).1
     let ks:List Cnt:=(zH (i+1)).map fun j=>(st j).2
     have lc:cs.length=i+1:=by simp[cs]
     have lk:ks.length=i+1:=by simp[ks]
     have hS2:=ycfa cs ks (by omega) (by omega) dr1 dr2 e2 K2
     simp only[cntV]at hS2;refine ydd hS2 [(1,201),(2,202),(3,203),(4,204)] 400 [40,39,1,3,4,8,9,10,11,12,14] [4,8,10,301,302,12,205,206] ?_ ?_
     ·simp only[seeO,lc,lk,cntV,to1,okN,ybx,yed,ydf,ycu,allQ,live,yc,yba,go_sem,zA,zB,zF,↓reduceIte,reduceCtorEq];refine⟨fun q hq=>?_,fun q hq=>?_⟩
      ·simp only[cs,gmr _ _ _ _ hq];exact Sim.refl _
      ·simp only[ks,gmr _ _ _ _ hq];exact⟨trivial,trivial,trivial,trivial,trivial⟩
     ·rintro r o' ⟨rfl,rfl⟩;simp only[seeO,cntV,zJ,lc,lk,yjp,yip,nuF,nu,difN,ydf,ycu,Fam.ren,OB.ren,dim,ygj,yuc,yic,go_sem,zA,zF,↓reduceIte];simp only[ycao,ybuy,ybqq,splice,go_sem,zA,zB,zC,zG,↓reduceIte,reduceCtorEq]
      have hst:st (i+1)=(d,K2):=by
       show stAt (yca p g) res ws c K0 (i+1)=_;rw[ybbo];show(yex p g (st i).1 (ch i),addP (st i).2 (ch i) (ybp p g (yex p g (st i).1 (ch i))))=_;rw[hdd,he2,hK2]
      have hen':en (i+1)=e2:=by
       show ybp p g (st (i+1)).1=_;rw[hst];exact he2
      refine⟨⟨by omega,by omega⟩,⟨by omega,by omega⟩,ikw (by omega) (by omega),?_⟩
      refine yj (i+1) ⟨by omega,fun j hj'=>?_,by rw[hst];exact hcd,by rw[hst,<-hK2];exact ydde hko hch24 hch0 (by omega),by rw[hst,<-hK2];show(st i).2.steps+1=i+1;omega⟩ (by omega) ?_
      ·by_cases q:j=i
       ·rw[q];exact h0
       ·exact hj j (by omega)
      refine ycx [(301,fun i=>(90,i)),(302,fun i=>(96,i))] [] [] ?_;simp only[hst,hen',allQ,live,yc,yba,go_sem,zA,zC,↓reduceIte,reduceCtorEq];have hcs:∀k,k<i+1+1->(cs++[d]).getD k []=(st k).1:=ycaf (fun j=>(st j).1) (i+1) d [] (by rw[hst])
      have hksx:∀k,k<i+1+1->(ks++[K2]).getD k default=(st k).2:=ycaf (fun j=>(st j).2) (i+1) K2 default (by rw[hst])
      refine⟨by omega,fun q hq=>?_,fun q hq=>?_,fun q hq=>?_,fun q hq=>?_⟩
      ·by_cases q1:q<i
       ·simp only[if_pos q1];simp only[go_sem,live,yc,go_sem,reduceCtorEq]
       ·obtain rfl:q=i:=by omega
        simp only[if_neg q1,zQ,zO];simp only[ch,live,yc,go_sem,reduceCtorEq]
      ·by_cases q1:q<i+1
       ·simp only[if_pos q1];simp only[go_sem,live,yc,go_sem,reduceCtorEq]
       ·obtain rfl:q=i+1:=by omega
        simp only[if_neg q1,zQ,zO];simp only[hen',live,yc,go_sem,reduceCtorEq]
      ·rw[hcs q hq];exact Sim.refl _
      ·rw[hksx q hq];exact⟨rfl,rfl,rfl,rfl,rfl⟩
   ·obtain rfl:i=ws.length:=by omega
    simp only[ybgx,ybgv,go_sem,zA,zB,zC,↓reduceIte,reduceCtorEq];refine⟨by decide,?_⟩
    simp only[ygi,go_sem];refine⟨.tp [.ag (usV (mapR ws.length ch)::usV (mapR (ws.length+1) en)::ybk (st ws.length).1::cntV (st ws.length).2),.i .i64 0],O2,?_,?_,⟨_,_,_,_,rfl⟩,rfl⟩
    ·subst hO2;rw[fin (.inl rfl)];refine ycx [] [] [(301,0),(302,0)] ?_;simp only[seeX,usV,cntV,ybiy,ybad,allQ,live,yc,yba,go_sem,zA,↓reduceIte,reduceCtorEq];refine⟨ycub ⟨ytx ⟨ylf fun q hq=>by rw[gmR _ _ _ _ hq],ylf fun q hq=>by rw[gmR _ _ _ _ hq],Sim.refl _,Sim.refl _,Sim.refl _,Sim.refl _,Sim.refl _,Sim.refl _,trivial⟩,Sim.refl _,trivial⟩,fun q hq=>?_,fun q hq=>?_⟩
     ·rw[gmR _ _ _ _ hq];exact Sim.refl _
     ·rw[gmR _ _ _ _ hq];exact⟨rfl,rfl,rfl,rfl,rfl⟩
    ·subst hO2;simp only[seeX,usV,cntV,ybx,yed,allQ,live,go_sem,zA,↓reduceIte]
end
end Sh
end
section
namespace Sh
open Ev Go.RowKit
theorem Returns.exT{P:Program}{g:FuncId}{args:List SV}{r:SV}(h:Returns P g args r):Returns P g args (.ex TT r):=fun G m us h1 h2 h3=>by
 obtain⟨v,m',x,a,b,c,d,e⟩:=h G m us h1 h2 h3;exact⟨v,m',.ex TT r,a,b,c,rfl,.ex trivial (fun _ _ _ _ _=>trivial) (d▸e)⟩
section
variable {Q1 Q2:(Nat->Option ABlk)->Value->Prop}{p:ProgT}{g:Gr}
theorem ybvc(h:Checked Q1 Q2 p g){kind:Int}(hk:1<=kind/\kind<=4){c:Conf}(hc:yga p g c=true){len:Nat}(hl:len<=4096):Returns zM 129 [.ag (ygz Q1 Q2 p.raw),grV g,.i .i64 kind,ybk c,.i .i64 len] (.i .i64 0):=by
 refine Returns.of (ydcc _ _ ?_);have hC:=ybuk h c;rw[if_pos hc]at hC;have hD:=ybmm kind;rw[decide_eq_true hk.1,decide_eq_true hk.2]at hD;have f1:decide ((len:Int)>4096)=false:=by simp;omega
 simp only[ygz,grV]at hC;simp only[c129,ycvm,ycmy,ygz,grV,go_sem,zA,zB,zG,↓reduceIte,reduceCtorEq];refine hC.use ?_;simp only[ybf,ycpy,ycof,zAQ,go_sem,zA,zB,↓reduceIte,reduceCtorEq];refine hD.use ?_;simp only[ycwk,yciy,f1,yba,Bool.and_self,go_sem,zA,zB,↓reduceIte,reduceCtorEq]
theorem ybmo(h:Checked Q1 Q2 p g):Returns zM 93 [.ag (ynu p.raw),grV g] (yfr p g):=by
 have hp':=h.hp;unfold ProgT.ok at hp';simp only[zAU,decide_eq_true_eq]at hp';exact(ybdy p.raw h.hg hp'.1.1.2 hp'.1.1.1.2).exT
theorem ybbf(h:Checked Q1 Q2 p g)(kind:Int):Cm zM 130 [(201,0),(203,0)] yns [.ag (ygz Q1 Q2 p.raw),grV g,.i .i64 kind,seeC] fun r o=>r = .ag (yee p g (g.ports.map netP) kind)/\o=yns:=by
 refine ycej [(201,0),(203,0)] [] _ _ _ ?_;have hM:=ybmo h;have hN:=ybmu h.hg;have hA:=ydcs h.hg;simp only[grV]at hM hN hA;simp only[c130,ycjb,ychv,ygz,grV,seeC,yns,clash,go_sem,zA,zB,zG,↓reduceIte,reduceCtorEq];refine hM.useS ?_ ?_
 ·exact⟨ytx ⟨Sim.refl _,ysu _ _,ysu _ _,trivial⟩,Sim.refl _,trivial⟩
 simp only[usV,yfr]at hN ⊢;simp only[ybf,clash,go_sem,zA,zB,zC,↓reduceIte,reduceCtorEq];refine hN.use ?_;simp only[go_sem,zB,zC,↓reduceIte];refine⟨by decide,hA.use ?_⟩
 simp only[ygi,go_sem,zA,zB,↓reduceIte];refine⟨by decide,by decide,.ag (yee p g (g.ports.map netP) kind),yns,?_,?_,rfl,rfl⟩
 ·refine ycx [] [] [] ?_;simp only[yee,yfr,usV,seeC,yns,allQ,live,yc,go_sem,zA,↓reduceIte,reduceCtorEq]
 ·simp only[yee,yfr,usV,seeC,yns,ybx,yed,allQ,live,go_sem,zA,↓reduceIte]
theorem ybzd(h:Checked Q1 Q2 p g){kind:Int}{net:List Nat}(hnl:g.ids.length<=net.length){res:Nat->Nat->Nat}(hd:DaemonOk kind net res){c:Conf}(hc:yga p g c=true){ws:List Nat}(hw:∀k,ws.getD k 0<2^32)(hwl:ws.length<=4000) :
 Cm zM 133 [(201,0),(203,0)] yns [.ag (yee p g net kind),ybk c,usV ws]
  fun r o=>(∃l1 l2 c' k',r = .tp [.ag (usV l1::usV l2::ybk c'::cntV k'),.i .i64 0])/\o=seeX ((yca p g).runs res ws c |>.map (·.1)) ((yca p g).runs res ws c |>.map (·.2)):=by
 refine ycez [(201,0),(203,0)] [168] _ _ _ ?_;have hX:=ybnp h hnl hd hc hw hwl
 generalize ((yca p g).runs res ws c).map (·.1)=CS at hX ⊢
 generalize ((yca p g).runs res ws c).map (·.2)=KS at hX ⊢
 simp only[c133,ycwo,ychu,yns,yee,yfr,usV,seeC,go_sem,zA,zB,zG,↓reduceIte,reduceCtorEq];refine ydd hX [(201,201),(203,203),(205,3),(206,5)] 0 [6,7] [6] ?_ ?_
 ·simp only[yns,ybqm,yee,yfr,usV,seeC,List.cons_append,List.nil_append,to1,okN,ybx,yed,ydf,ycu,allQ,live,yc,go_sem,zA,zB,zC,zF,↓reduceIte,reduceCtorEq]
 ·rintro r o' ⟨⟨l1,l2,c',k',rfl⟩,rfl⟩;simp only[seeX,usV,cntV,yjp,yip,nuF,nu,difN,ydf,ycu,Fam.ren,OB.ren,dim,ygj,ybam,ynx,yuc,yic,go_sem,zA,zB,zF,↓reduceIte,reduceCtorEq];simp only[ygi,go_sem];refine⟨.tp [.ag (usV l1::usV l2::ybk c'::cntV k'),.i .i64 0],seeX CS KS,?_,?_,⟨l1,l2,c',k',rfl⟩,rfl⟩
  ·refine ycx [] [] [] ?_;simp only[seeX,usV,cntV,allQ,live,yc,go_sem,zA,↓reduceIte,reduceCtorEq]
  ·simp only[seeX,usV,cntV,ybx,yed,allQ,live,go_sem,zA,↓reduceIte]
def yek(l:List Conf):SV:=.sl 1 l.length (fun i=>[ybk (l.getD i [])])
def yhr(l:List Cnt):SV:=.sl 5 l.length (fun i=>cntV (l.getD i default))
theorem ybql(h:Checked Q1 Q2 p g){kind:Int}(hk:1<=kind/\kind<=4){res:Nat->Nat->Nat}(hd:DaemonOk kind (g.ports.map netP) res){c:Conf}(hc:yga p g c=true){ws:List Nat}(hw:∀k,ws.getD k 0<2^32)(hwl:ws.length<=4000) :
 Returns zM 78 [.ag (ygz Q1 Q2 p.raw),grV g,.i .i64 kind,ybk c,usV ws] (.tp [yek (((yca p g).runs res ws c).map (·.1)),yhr (((yca p g).runs res ws c).map (·.2)),.i .i64 0]):=by
 refine Returns.of (ydcp [130,133] _ _ ?_);have hC:=ybvc h hk hc (len:=ws.length) (by omega)
 have hN:=ybbf h kind;have hX:=ybzd h (by have:=h.hg.2.2.1;rw[zU];omega) hd hc hw hwl
 generalize ((yca p g).runs res ws c).map (·.1)=CS at hX ⊢
 generalize ((yca p g).runs res ws c).map (·.2)=KS at hX ⊢
 simp only[ygz,grV]at hC;simp only[c78,ydgn,ydmp,ygz,grV,usV,go_sem,zA,zB,zG,zF,↓reduceIte,reduceCtorEq];refine hC.use ?_;simp only[ybf,ydng,ydim,ydlk,ydfp,zAQ,go_sem,zA,zB,zG,↓reduceIte,reduceCtorEq];refine ydd hN [(201,14),(203,15)] 0 [3,4,14,15] [] ?_ ?_
 ·simp only[yns,seeC,ygz,grV,to1,okN,ybx,yed,ydf,ycu,allQ,live,yc,go_sem,zA,zB,↓reduceIte,reduceCtorEq]
 rintro r o' ⟨rfl,rfl⟩;simp only[yns,yee,yfr,usV,seeC,yjp,yip,nuF,nu,difN,ydf,ycu,Fam.ren,OB.ren,dim,ygj,yczn,ybam,yclj,ynx,ybkd,ybjf,go_sem,zA,zB,zG,zF,↓reduceIte,reduceCtorEq];simp only[ydli,go_sem,zA,zB,zF,↓reduceIte,reduceCtorEq];simp only[yee,yfr,usV,seeC]at hX;refine ydd hX [(201,14),(203,15)] 0 [14,15] [] ?_ ?_
 ·simp only[yns,to1,okN,ybx,yed,ydf,ycu,allQ,live,yc,go_sem,zA,zB,↓reduceIte,reduceCtorEq]
 rintro r o' ⟨⟨l1,l2,c',k',rfl⟩,rfl⟩;simp only[seeX,cntV,yjp,yip,nuF,nu,difN,ydf,ycu,Fam.ren,OB.ren,dim,ygj,ybam,ynx,yuc,yic,go_sem,zA,zB,zG,zF,↓reduceIte,reduceCtorEq];simp only[ydnf,ycwa,clash,zAQ,yek,yhr,go_sem,zA,zB,↓reduceIte,reduceCtorEq];exact Sim.refl _
end
end Sh
end
section
def yci(v m:Int):Int:=if m<1 then 0 else v%m
def atP(l:List Int)(i:Nat):Int:=l.getD i 0
theorem ydo{v m:Int}(h:1<=m):0<=yci v m/\yci v m<m:=by
 unfold yci;rw[if_neg (by omega)]
 exact⟨zAA _ (by omega),zX _ (by omega)⟩
namespace Sh
open Ev Go.RowKit
theorem ybjw{v m:Int}(h:1<=m):(if v.tmod m<0 then v.tmod m+m else v.tmod m)=v%m:=by
 have h1:=Int.emod_add_mul_ediv v m;have h2:=zAA v (show m≠0 by omega)
 have h3:=zX v (show 0<m by omega)
 have h4:=Int.tmod_eq_emod (a:=v) (b:=m);have h5:(m.natAbs:Int)=m:=by omega
 rw[h4]
 by_cases q:0<=v\/m ∣ v
 ·simp only[if_pos q,zL,Int.sub_zero];rw[if_neg (by omega)]
 ·simp only[if_neg q,h5];rw[if_pos (by omega)]
  omega
theorem ydn(v m:Int)(hm:m<=4611686018427387904)(hv:inK .i64 v):Returns zM 39 [.i .i64 v,.i .i64 m] (.i .i64 (yci v m)):=by
 refine Returns.of (ydgy _ _ ?_);simp only[c39,ydgx,ydmx,ydgg,ydge,ydlw,ydhz,ydji,yba,go_sem,zA,zB,↓reduceIte,reduceCtorEq];unfold yci;refine⟨fun h=>by rw[if_pos h],fun h=>⟨by omega,fun h2=>?_,fun h2=>?_⟩⟩
 ·have h3:=ybjw (v:=v) (show 1<=m by omega)
  rw[if_pos h2]at h3;rw[if_neg h,h3];have h4:=zAA v (show m≠0 by omega)
  have h5:=zX v (show 0<m by omega)
  exact⟨ikw (by omega) (by omega),rfl⟩
 ·have h3:=ybjw (v:=v) (show 1<=m by omega)
  rw[if_neg h2]at h3;rw[if_neg h,h3]
theorem at_ret(l:List Int)(i:Nat):Returns zM 77 [yu l,.i .i64 i] (.i .i64 (atP l i)):=by
 refine Returns.of (ydgf _ _ ?_);simp only[c77,ydir,ydiu,ydmg,ydnx,yu,yba,go_sem,zA,zB,↓reduceIte,reduceCtorEq];exact⟨fun h=>⟨by omega,rfl⟩,fun h=>by unfold atP;rw[zS,zAN (by omega)];rfl⟩
theorem wrap32(z:Int):0<=IntKind.wrap .u32 z/\IntKind.wrap .u32 z<2^32:=by
 unfold IntKind.wrap;simp only[IntKind.signed,IntKind.bits];exact⟨zAA _ (by decide),zX _ (by decide)⟩
theorem ymv{α:Type}(l:List α)(x d:α)(i:Nat):(l++[x]).getD i d=if i<l.length then l.getD i d else if i=l.length then x else d:=by
 by_cases h:i<l.length
 ·simp[zS,zAF h,h]
 ·by_cases e:i=l.length
  ·subst e;simp[zS]
  ·rw[if_neg h,if_neg e,zS,zAN (by simp;omega)]
   rfl
theorem ywt(l:List Nat)(hb:∀k,l.getD k 0<2^32)(n:Nat)(hn:n<=1000):Ct zM 26 [usV l,.i .i64 n] fun r=>∃ws:List Nat,ws.length=n/\(∀k,ws.getD k 0<2^32)/\Sim r (usV ws):=by
 refine ydih _ _ ?_;simp only[c26,ydkg,ydhe,ydfv,usV,go_sem,↓reduceIte];refine ybj (σ:=List Nat) (fun ws=>⟨[(6,.i .i64 ws.length),(1,.i .i64 n),(0,usV l),(5,.os (100,0) 0 ws.length true)],[(100,.one (some ⟨40,false,1,ws.length,fun k=>[.i .u32 (ws.getD k 0:Nat)]⟩))]⟩) (fun ws=>ws.length<=n/\∀k,ws.getD k 0<2^32) (fun ws=>n-ws.length) [] ⟨zK _,fun k=>by simp⟩ ?_ ?_
 ·refine yh [] [100] [] ?_;simp only[usV,allQ,live,yc,zL,go_sem,zA,↓reduceIte,reduceCtorEq];exact⟨(100,0),rfl,rfl,rfl⟩
 ·rintro ws ⟨h1,h2⟩;simp only[ydob,ydgw,usV,go_sem,zA,zB,↓reduceIte,reduceCtorEq];refine⟨fun hlt=>⟨fun h0=>?_,fun h0=>?_⟩,fun hlt=>?_⟩
  ·simp only[yczo,ydjm,splice,go_sem,zA,zB,zC,zG,↓reduceIte,reduceCtorEq];refine⟨⟨by omega,by omega⟩,ikw (by omega) (by omega),?_⟩
   refine yj (ws++[4294967295]) ⟨by simp;omega,fun k=>?_⟩ (by simp;omega) ?_
   ·rw[ymv];split
    ·exact h2 k
    ·split<;>decide
   refine yh [(100,fun i=>(19,i))] [] [] ?_;simp only[zJ,allQ,live,yc,yba,go_sem,zA,↓reduceIte,reduceCtorEq];refine⟨by omega,fun i hi=>?_⟩
   rw[ymv]
   by_cases q:i<ws.length
   ·simp only[if_pos q];simp only[live,yc,go_sem,reduceCtorEq]
   ·obtain rfl:i=ws.length:=by omega
    simp only[if_neg q,zQ,zO];simp only[live,yba,go_sem,↓reduceIte,reduceCtorEq];rfl
  ·simp only[ydjr,ydgt,clash,go_sem,zA,zB,↓reduceIte,reduceCtorEq];have hl0:0<l.length:=by omega
   have t1:(ws.length:Int).tmod (l.length:Int)=((ws.length%l.length:Nat):Int):=(zBA _ _).symm;have t2:(ws.length:Int).tdiv (l.length:Int)=((ws.length/l.length:Nat):Int):=(Int.ofNat_tdiv _ _).symm;have t3:((ws.length/l.length:Nat):Int).tmod 24=((ws.length/l.length%24:Nat):Int):=(zBA _ 24).symm;have hlt1:=zBE ws.length hl0;have hle1:=Nat.div_le_self ws.length l.length;obtain⟨D,hD⟩:∃D,ws.length/l.length=D:=⟨_,rfl⟩
   rw[hD]at t2 t3 hle1;obtain⟨K,hK⟩:∃K,D%24=K:=⟨_,rfl⟩;have hK24:K<24:=by rw[<-hK];exact zBE _ (by decide)
   have t4:IntKind.wrap .u64 (K:Int)=K:=by unfold IntKind.wrap;simp[IntKind.bits,IntKind.signed];omega
   simp only[t1,t2,t3,hK,t4]
   generalize IntKind.wrap .u32 _=A
   refine⟨by omega,⟨by omega,by omega⟩,⟨by omega,ikw (by omega) (by omega)⟩,by decide,?_⟩
   simp only[yczo,ydla,splice,go_sem,zA,zB,zC,zG,↓reduceIte,reduceCtorEq]
   generalize hZ:IntKind.wrap .u32 ((BitVec.toNat _:Nat):Int)=Z
   have hz:0<=Z/\Z<2^32:=by rw[<-hZ];exact wrap32 _
   obtain⟨z,rfl⟩:∃z:Nat,Z=z:=⟨Z.toNat,by omega⟩
   refine⟨⟨by omega,by show _<((32:Nat):Int);omega⟩,⟨by simp[IntKind.min,IntKind.signed];omega,by simp[IntKind.max,IntKind.bits,IntKind.signed];omega⟩,⟨by omega,by show _<((32:Nat):Int);omega⟩,⟨by omega,by omega⟩,ikw (by omega) (by omega),?_⟩
   refine yj (ws++[z]) ⟨by simp;omega,fun k=>?_⟩ (by simp;omega) ?_
   ·rw[ymv];split
    ·exact h2 k
    ·split<;>omega
   refine yh [(100,fun i=>(46,i))] [] [] ?_;simp only[zJ,allQ,live,yc,yba,go_sem,zA,↓reduceIte,reduceCtorEq];refine⟨by omega,fun i hi=>?_⟩
   rw[ymv]
   by_cases q:i<ws.length
   ·simp only[if_pos q];simp only[live,yc,go_sem,reduceCtorEq]
   ·obtain rfl:i=ws.length:=by omega
    simp only[if_neg q,zQ,zO];simp only[live,yc,go_sem,↓reduceIte,reduceCtorEq]
  ·simp only[ycvy,go_sem,zA,zB,↓reduceIte,reduceCtorEq];exact⟨ws,by omega,h2,Sim.refl _⟩
end Sh
end
section
namespace Sh
open Ev Go.RowKit
def yvk(l:List Int)(k:Nat):Int:=(l.take k).foldl max 0
theorem ycds{l:List Int}(h:∀x∈l,0<=x/\x<=255):∀k,0<=yvk l k/\yvk l k<=255:=by
 intro k;unfold yvk
 have:∀(l:List Int) (a:Int),(∀x∈l,0<=x/\x<=255)->0<=a/\a<=255->0<=l.foldl max a/\l.foldl max a<=255:=by
  intro l
  induction l with
  |nil=>intro a _ h;exact h
  |cons x l ih=>intro a hl ha;exact ih _ (fun y hy=>hl y (zD _ hy)) (by have:=hl x zI;omega)
 exact this _ 0 (fun x hx=>h x (List.mem_of_mem_take hx)) (by omega)
theorem ybme{l:List Int}{k:Nat}(hk:k<l.length):yvk l (k+1)=max (yvk l k) (l.getD k 0):=by
 unfold yvk;rw[zY hk,zAS,getD_at hk];rfl
theorem ybxt{l:List Int}(h:∀x∈l,0<=x/\x<=255)(hl:0<l.length):yvk l l.length=maxI l:=by
 unfold yvk;rw[zAH];exact(ybkn hl fun x hx=>(h x hx).1).symm
theorem yok{vars:List VarR}{b:VarR->Int×Int}{L:List Int}(h:yer ((vars.take L.length).map b) L)(hl:L.length<vars.length){y:Int}(hy:(b (vars.getD L.length default)).1<=y/\y<=(b (vars.getD L.length default)).2):yer ((vars.take (L++[y]).length).map b) (L++[y]):=by
 refine⟨by simp;omega,fun i c x hb hx=>?_⟩
 rw[zJ,zAO,zAD]at hb;have hi:i<L.length+1:=by have:=(List.getElem?_eq_some_iff.1 hx).1;simpa using this
 rw[zAI hi]at hb
 by_cases q:i<L.length
 ·rw[zAF q]at hx;refine h.2 i c x ?_ hx;rw[zAD,zAI q];exact hb
 ·obtain rfl:i=L.length:=by omega
  rw[List.getElem?_append_right (zN _),zQ]at hx;cases hx
  rw[zT hl]at hb;cases hb
  rw[getD_at hl]at hy;exact hy
section
variable {p:ProgT}{g:Gr}
def cfgV(p:ProgT)(g:Gr)(raw:List Int)(v i:Nat):Int:=(ybh g v (p.vars.getD i default)).1+yci (atP raw (v*p.vars.length+i)) ((ybh g v (p.vars.getD i default)).2-(ybh g v (p.vars.getD i default)).1+1)
def ybtd(p:ProgT)(g:Gr)(raw:List Int)(v:Nat):List Int:=(zH p.vars.length).map (cfgV p g raw v)
theorem ysl{α:Type}{f:Nat->α}{L:List α}{y:α}(h:L=(zH L.length).map f)(hy:y=f L.length):L++[y]=(zH (L++[y]).length).map f:=by
 rw[zJ,zAO,zAY,zAX,<-h,hy];rfl
theorem ybhp(hg:yw g)(hp:p.ok=true)(hf:yve p g=true){raw:List Int}(hr:∀k,inK .i64 (raw.getD k 0)) :
 Ct zM 24 [grV g,ydl p.vars,yu raw] fun r=>∃c,(yga p g c=true/\c=(zH g.ports.length).map (ybtd p g raw))/\Sim r (ybk c):=by
 refine ydia _ _ ?_;have hid:=hg.2.2.1;have h24:=hg.2.1;have h1:=hg.1;have hids:=hg.2.2.2.1;simp only[c24,ydlh,ydmu,ydjf,grV,ybb,go_sem,zA,zB,zG,↓reduceIte,reduceCtorEq];obtain⟨n,hn⟩:∃n,g.ports.length=n:=⟨_,rfl⟩;refine ybj (σ:=Nat) (fun k=>⟨[(9,.i .i64 k),(8,.i .i64 (yvk g.ids k)),(7,.i .i64 n),(3,.pt (3,0) 0 0),(1,ydl p.vars),(2,yu raw)],[(3,.one (some ⟨27,true,2,1,fun _=>[yu g.ids,ybb g.ports]⟩))]⟩) (fun k=>k<=n) (fun k=>n-k) 0 (zK _) ?_ ?_
 ·refine yh [] [] [] ?_;simp only[ybb,hn,allQ,live,yc,yba,zL,go_sem,zA,↓reduceIte,reduceCtorEq];rfl
 ·intro k hk;have htop:=ycds hids k;simp only[ydnr,ydlm,ydkz,ydmf,ydfn,yu,go_sem,zA,zB,zC,↓reduceIte,reduceCtorEq];refine⟨fun hlt=>?_,fun hlt=>?_⟩
  ·have hs:=ybme (l:=g.ids) (k:=k) (by omega)
   refine⟨by omega,ikw (by omega) (by omega),?_⟩
   refine yj (k+1) (by omega) (by omega) ?_
   refine yh [] [] [] ?_;simp only[allQ,live,yc,yba,go_sem,zA,↓reduceIte,reduceCtorEq];exact⟨by omega,hs.symm⟩
  ·obtain rfl:k=n:=by omega
   have htm:yvk g.ids k=maxI g.ids:=by rw[<-hn,<-hid];exact ybxt hids (by omega)
   rw[htm]at htop ⊢;obtain⟨top,htp⟩:∃t,maxI g.ids=t:=⟨_,rfl⟩;rw[htp]at htop ⊢;obtain⟨nv,hnv⟩:∃k,p.vars.length=k:=⟨_,rfl⟩;have hp':=hp;unfold ProgT.ok at hp';simp only[zAU,decide_eq_true_eq]at hp'
   refine ybj (σ:=Conf) (fun C=>⟨[(11,.i .i64 C.length),(10,.os (300,0) 0 C.length true),(8,.i .i64 top),(7,.i .i64 k),(3,.pt (3,0) 0 0),(1,ydl p.vars),(2,yu raw)],
    [(3,.one (some ⟨27,true,2,1,fun _=>[yu g.ids,ybb g.ports]⟩)),(300,.one (some ⟨22,false,1,C.length,fun j=>[yu (C.getD j [])]⟩))]⟩)
    (fun C=>(C.length<=k/\∀v,v<C.length->yer (p.vars.map (ybh g v)) (C.getD v []))/\C=(zH C.length).map (ybtd p g raw)) (fun C=>k-C.length) [] ⟨⟨zK _,fun v hv=>absurd hv (zAM v)⟩,rfl⟩ ?_ ?_
   ·refine yh [] [300] [] ?_;simp only[yu,ybb,allQ,live,yc,zL,go_sem,zA,zF,↓reduceIte,reduceCtorEq];exact⟨(300,0),rfl,rfl,rfl⟩
   ·rintro C ⟨⟨hC1,hC2⟩,hC3⟩;simp only[ydfm,ycwq,ycrg,yu,go_sem,zA,zB,↓reduceIte,reduceCtorEq];refine⟨fun hlt=>?_,fun hlt=>?_⟩
    ·refine ybj (σ:=List Int) (fun L=>⟨[(13,.i .i64 L.length),(12,.os (301,0) 0 L.length true),(11,.i .i64 C.length),(10,.os (300,0) 0 C.length true),(8,.i .i64 top),(7,.i .i64 k),(3,.pt (3,0) 0 0),(1,ydl p.vars),(2,yu raw)],
      [(301,.one (some ⟨3,false,1,L.length,fun j=>[.i .i64 (L.getD j 0)]⟩)),(3,.one (some ⟨27,true,2,1,fun _=>[yu g.ids,ybb g.ports]⟩)),(300,.one (some ⟨22,false,1,C.length,fun j=>[yu (C.getD j [])]⟩))]⟩)
      (fun L=>(L.length<=nv/\yer ((p.vars.take L.length).map (ybh g C.length)) L)/\L=(zH L.length).map (cfgV p g raw C.length)) (fun L=>nv-L.length) [] ⟨⟨zK _,rfl,fun i b x hb=>by simp at hb⟩,rfl⟩ ?_ ?_
     ·refine yh [] [301] [] ?_;simp only[yu,ybb,allQ,live,yc,zL,go_sem,zA,zF,↓reduceIte,reduceCtorEq];exact⟨(301,0),rfl,rfl,rfl⟩
     ·rintro L ⟨⟨hL1,hL2⟩,hL3⟩;obtain⟨x,hx⟩:∃x,p.vars.getD L.length default=x:=⟨_,rfl⟩;simp only[ycnm,ycou,ychh,yu,ydl,hnv,hx,varC,clash,go_sem,zA,zB,zC,↓reduceIte,reduceCtorEq];refine⟨fun hlt2=>?_,fun hlt2=>?_⟩
      ·have hLn:L.length<p.vars.length:=by omega
       have hxm:x∈p.vars:=by rw[<-hx,getD_at hLn];exact zAJ _
       have hxo:=List.all_eq_true.1 hp'.1.1.2 x hxm;have hvo:=ybij hxo;obtain⟨hb1,hb2⟩:=ynk hg hxo;rw[hid,hn]at hb1;rw[htp]at hb2;have hbn:=ybje hg hp hf hxm C.length;have hidx:(C.length:Int)*(nv:Int)+(L.length:Int)=((C.length*nv+L.length:Nat):Int):=by push_cast;rfl
       have hdeg:=hg.deg_lt (v:=C.length);have hmi:(C.length:Int)*(nv:Int)=((C.length*nv:Nat):Int):=by push_cast;rfl
       have hmul:C.length*nv<=24*6:=Nat.mul_le_mul (by omega) (by omega)
       have hAt:=at_ret raw (C.length*nv+L.length);have hav:inK .i64 (atP raw (C.length*nv+L.length)):=hr _;simp only[yu]at hAt;refine⟨by omega,by omega,by omega,ikw (by omega) (by omega),ikw (by omega) (by omega),by omega,ikw (by omega) (by omega),ikw (by omega) (by omega),by omega,?_⟩
       rcases hvo.1 with hkk|hkk|hkk
       ·have hbt:ybh g C.length x=(x.lo,x.hi+x.perNode*(k:Int)+x.perID*top):=by
         unfold ybh;rw[if_pos hkk,hid,hn,htp]
        rw[hbt]at hbn;simp only[]at hbn;simp only[hkk];simp only[yblu,ybjd,ybjs,ybkj,yblm,clash,zBB,hidx,go_sem,zA,zB,↓reduceIte,reduceCtorEq];refine⟨by rw[hmi];exact ikw (by omega) (by omega),ikw (by omega) (by omega),hAt.use ?_⟩
        simp only[ybf,go_sem,zA,zB,zG,↓reduceIte,reduceCtorEq];have hW:=ydn (atP raw (C.length*nv+L.length)) (x.hi+x.perNode*(k:Int)+x.perID*top-(x.lo)+1) (by omega) hav
        obtain⟨w1,w2⟩:=ydo (v:=atP raw (C.length*nv+L.length)) (m:=x.hi+x.perNode*(k:Int)+x.perID*top-(x.lo)+1) (by omega)
        generalize hWe:yci (atP raw (C.length*nv+L.length)) (x.hi+x.perNode*(k:Int)+x.perID*top-(x.lo)+1)=W at hW w1 w2
        refine⟨ikw (by omega) (by omega),ikw (by omega) (by omega),hW.use ?_⟩
        simp only[yblz,go_sem,zA,zB,zC,↓reduceIte,reduceCtorEq];refine⟨ikw (by omega) (by omega),⟨by omega,by omega⟩,ikw (by omega) (by omega),?_⟩
        refine yj (L++[x.lo+W]) ⟨⟨by simp;omega,yok hL2 hLn (by rw[hx,hbt];exact⟨by simp only[];omega,by simp only[];omega⟩)⟩,ysl hL3 (by unfold cfgV;rw[hx,hbt,hnv];simp only[];rw[hWe])⟩ (by simp;omega) ?_
        refine yh [(301,fun i=>(101,i))] [] [] ?_;simp only[ybb,ybc,hn,zJ,allQ,live,yc,yba,go_sem,zA,↓reduceIte,reduceCtorEq];refine⟨by omega,fun i hi=>?_⟩
        rw[ymv]
        by_cases q:i<L.length
        ·simp only[if_pos q];simp only[live,yc,go_sem,reduceCtorEq]
        ·obtain rfl:i=L.length:=by omega
         simp only[if_neg q,zQ,zO];simp only[live,yc,go_sem,↓reduceIte,reduceCtorEq]
       ·have hbt:ybh g C.length x=(0,1):=by
         unfold ybh;rw[if_neg (by omega),if_pos hkk]
        rw[hbt]at hbn;simp only[]at hbn;simp only[hkk];simp only[yblu,ybjd,ybjs,ybkj,yblm,clash,hidx,go_sem,zA,zB,↓reduceIte,reduceCtorEq];refine⟨by rw[hmi];exact ikw (by omega) (by omega),ikw (by omega) (by omega),hAt.use ?_⟩
        simp only[ybf,go_sem,zA,zB,zG,↓reduceIte,reduceCtorEq];have hW:=ydn (atP raw (C.length*nv+L.length)) (1-(0)+1) (by omega) hav
        obtain⟨w1,w2⟩:=ydo (v:=atP raw (C.length*nv+L.length)) (m:=1-(0)+1) (by omega)
        generalize hWe:yci (atP raw (C.length*nv+L.length)) (1-(0)+1)=W at hW w1 w2
        refine⟨ikw (by omega) (by omega),ikw (by omega) (by omega),hW.use ?_⟩
        simp only[yblz,go_sem,zA,zB,zC,↓reduceIte,reduceCtorEq];refine⟨ikw (by omega) (by omega),⟨by omega,by omega⟩,ikw (by omega) (by omega),?_⟩
        refine yj (L++[0+W]) ⟨⟨by simp;omega,yok hL2 hLn (by rw[hx,hbt];exact⟨by simp only[];omega,by simp only[];omega⟩)⟩,ysl hL3 (by unfold cfgV;rw[hx,hbt,hnv];simp only[];rw[hWe])⟩ (by simp;omega) ?_
        refine yh [(301,fun i=>(101,i))] [] [] ?_;simp only[ybb,ybc,hn,zJ,allQ,live,yc,yba,go_sem,zA,↓reduceIte,reduceCtorEq];refine⟨by omega,fun i hi=>?_⟩
        rw[ymv]
        by_cases q:i<L.length
        ·simp only[if_pos q];simp only[live,yc,go_sem,reduceCtorEq]
        ·obtain rfl:i=L.length:=by omega
         simp only[if_neg q,zQ,zO];simp only[live,yc,go_sem,↓reduceIte,reduceCtorEq]
       ·have hbt:ybh g C.length x=(-1,((g.ports.getD C.length []).length:Int)-1):=by
         unfold ybh;rw[if_neg (by omega),if_neg (by omega),if_pos hkk]
        rw[hbt]at hbn;simp only[]at hbn;simp only[hkk];simp only[yblu,ybjd,ybjs,ybkj,yblm,clash,zBB,hidx,ybb,ybc,hn,go_sem,zA,zB,↓reduceIte,reduceCtorEq];refine⟨by omega,ikw (by omega) (by omega),by rw[hmi];exact ikw (by omega) (by omega),ikw (by omega) (by omega),hAt.use ?_⟩
        simp only[ybf,go_sem,zA,zB,zG,↓reduceIte,reduceCtorEq];have hW:=ydn (atP raw (C.length*nv+L.length)) (((g.ports.getD C.length []).length:Int)-1-(-1)+1) (by omega) hav
        obtain⟨w1,w2⟩:=ydo (v:=atP raw (C.length*nv+L.length)) (m:=((g.ports.getD C.length []).length:Int)-1-(-1)+1) (by omega)
        generalize hWe:yci (atP raw (C.length*nv+L.length)) (((g.ports.getD C.length []).length:Int)-1-(-1)+1)=W at hW w1 w2
        refine⟨ikw (by omega) (by omega),ikw (by omega) (by omega),hW.use ?_⟩
        simp only[yblz,go_sem,zA,zB,zC,↓reduceIte,reduceCtorEq];refine⟨ikw (by omega) (by omega),⟨by omega,by omega⟩,ikw (by omega) (by omega),?_⟩
        refine yj (L++[-1+W]) ⟨⟨by simp;omega,yok hL2 hLn (by rw[hx,hbt];exact⟨by simp only[];omega,by simp only[];omega⟩)⟩,ysl hL3 (by unfold cfgV;rw[hx,hbt,hnv];simp only[];rw[hWe])⟩ (by simp;omega) ?_
        refine yh [(301,fun i=>(101,i))] [] [] ?_;simp only[zJ,allQ,live,yc,yba,go_sem,zA,↓reduceIte,reduceCtorEq];refine⟨by omega,fun i hi=>?_⟩
        rw[ymv]
        by_cases q:i<L.length
        ·simp only[if_pos q];simp only[live,yc,go_sem,reduceCtorEq]
        ·obtain rfl:i=L.length:=by omega
         simp only[if_neg q,zQ,zO];simp only[live,yc,go_sem,↓reduceIte,reduceCtorEq]
      ·have hLe:L.length=nv:=by omega
       rw[hLe,<-hnv,zAH]at hL2;simp only[ydoi,ycwx,splice,go_sem,zA,zB,zC,zG,↓reduceIte,reduceCtorEq];refine⟨⟨by omega,by omega⟩,ikw (by omega) (by omega),?_⟩
       refine yj (C++[L]) ⟨⟨by simp;omega,fun v hv=>?_⟩,ysl hC3 (by unfold ybtd;rw[hnv,<-hLe];exact hL3)⟩ (by simp;omega) ?_
       ·rw[ymv];split
        ·exact hC2 v (by assumption)
        ·have:v=C.length:=by simp at hv;omega
         subst this;rw[if_pos rfl];exact hL2
       refine yh [(300,fun i=>(105,i))] [] [(301,0)] ?_;simp only[ybb,ybc,hn,zJ,allQ,live,yc,yba,go_sem,zA,zC,↓reduceIte,reduceCtorEq];refine⟨by omega,fun i hi=>?_⟩
       have e:=ymv C L [] i;rw[e]
       by_cases q:i<C.length
       ·simp only[if_pos q];simp only[go_sem,live,yc,go_sem,reduceCtorEq]
       ·obtain rfl:i=C.length:=by omega
        simp only[if_neg q,zQ,zO,if_true];simp only[go_sem,live,yc,go_sem,zA,↓reduceIte,reduceCtorEq]
    ·simp only[ycuv,go_sem,zA,zB,↓reduceIte,reduceCtorEq];refine⟨C,⟨(yfc _ _ _).2 ⟨by omega,fun v st hst=>?_⟩,?_⟩,Sim.refl _⟩
     rotate_left
     ·have e:=hC3;rw[show C.length=g.ports.length by omega]at e
      exact e
     have hv:=(List.getElem?_eq_some_iff.1 hst).1;have:=hC2 v hv
     rwa [zS,hst]at this
theorem yvt(hg:yw g)(hp:p.ok=true)(hf:yve p g=true){raw:List Int}(hr:∀k,inK .i64 (raw.getD k 0)) :
 Ct zM 24 [grV g,ydl p.vars,yu raw] fun r=>∃c,yga p g c=true/\Sim r (ybk c) :=
 (ybhp hg hp hf hr).mono fun _ ⟨c,h1,h2⟩=>⟨c,h1.1,h2⟩
end
end Sh
end
section
namespace Sh
open Ev Go.RowKit
def blV(l:List Bool):SV:=.sl 1 l.length (fun k=>[.b (l.getD k false)])
def ycbs(l:List Bool)(k:Nat):Bool:=(l.take k).any id
structure HeldOk(legit:List Bool)(ks:List Cnt)(rounds moves:Int)(ended:Bool):Prop where
 len:legit.length=ks.length
 pos:0<legit.length
 stays:∀i,i<legit.length->ycbs legit i=true->legit.getD i false=true
 rounds:∀i,i<legit.length->ycbs legit (i+1)=false->((ks.getD i default).begun:Int)<=rounds
 moves:∀i,i<legit.length->ycbs legit (i+1)=false->0<=moves->((ks.getD i default).moves:Int)<=moves
 ends:ycbs legit legit.length=true\/ended=false
theorem ybvl{Q1 Q2:(Nat->Option ABlk)->Value->Prop}{p:ProgT}{g:Gr}{t:ByteArray}(hpr:Returns zM 37 [.a (.string t)] (.ag (ygz Q1 Q2 p.raw)))(h:Checked Q1 Q2 p g){kind:Int}(hk:1<=kind/\kind<=4){res:Nat->Nat->Nat}(hd:DaemonOk kind (g.ports.map netP) res){c:Conf}(hc:yga p g c=true){ws:List Nat}(hw:∀k,ws.getD k 0<2^32)(hwl:ws.length<=4000) :
 Returns zM 22 [.a (.string t),grV g,.i .i64 kind,ybk c,usV ws] (.tp [yek (((yca p g).runs res ws c).map (·.1)),yhr (((yca p g).runs res ws c).map (·.2)),.b true]):=by
 refine Returns.of (ydoa _ _ ?_);have hX:=ybql h hk hd hc hw hwl;obtain⟨R,hR⟩:∃R,(yca p g).runs res ws c=R:=⟨_,rfl⟩;rw[hR]at hX ⊢;have hRl:0<R.length:=by rw[<-hR];simp[Sys.runs]
 obtain⟨m,hm⟩:∃m,R.length=m:=⟨_,rfl⟩;rw[hm]at hRl;have f1:((m:Int)==(m:Int))=true:=by simp
 have f2:decide ((m:Int)>0)=true:=by simp;omega
 simp only[ygz]at hpr hX;simp only[grV,usV,yek,yhr,zU,hm]at hX;simp only[c22,ydjx,ydle,grV,usV,clash,go_sem,zB,zG,↓reduceIte,reduceCtorEq];refine hpr.use ?_;simp only[ybf,clash,go_sem,zA,zB,↓reduceIte,reduceCtorEq];refine hX.use ?_;simp(maxSteps:=5000000) only [ydgv,clash,f1,f2,go_sem,zA,zB,↓reduceIte,reduceCtorEq];refine⟨by decide,?_⟩
 unfold yek yhr;rw[zU,zU,hm];exact Sim.refl _
end Sh
end
section
namespace Sh
section
variable {nm nd np nt nl:ByteArray}{g:Gr}
end
end Sh
end
section
def ytw(g:Gr)(s:Nat):Prop:=∀u v,adj g u v->s.testBit u=true->s.testBit v=false
def ResD(D:Nat->Prop)(res:Nat->Nat->Nat):Prop:=∀e w,e≠0->res e w≠0/\subB (res e w) e/\D (res e w)
theorem Sys.run_allD{S:Sys}{D:Nat->Prop}{res:Nat->Nat->Nat}(hr:ResD D res){J:Conf->Cnt->Prop}(hstep:∀c k s,J c k->s≠0->subB s (S.en c)->D s->J (S.mv c s) (addP k s (S.en (S.mv c s)))) :
 ∀(ws:List Nat) (c:Conf) (k:Cnt),J c k->∀p∈S.run res ws c k,J p.1 p.2
 |[],c,k,_,p,hp=>by cases hp
 | w :: ws,c,k,hJ,p,hp=>by
   unfold Sys.run at hp;split at hp
   ·cases hp
   ·rename_i h0
    obtain⟨r1,r2,r3⟩:=hr _ w h0;have hJ':=hstep c k _ hJ r1 r2 r3;rcases List.mem_cons.1 hp with e|e
    ·rw[e];exact hJ'
    ·exact Sys.run_allD hr hstep ws _ _ hJ' p e
theorem Sys.runs_allD{S:Sys}{D:Nat->Prop}{res:Nat->Nat->Nat}(hr:ResD D res){J:Conf->Cnt->Prop}(hstep:∀c k s,J c k->s≠0->subB s (S.en c)->D s->J (S.mv c s) (addP k s (S.en (S.mv c s)))){ws:List Nat}{c:Conf}(h:J c (ydw (S.en c))):∀p∈S.runs res ws c,J p.1 p.2:=fun p hp=>by
 rcases List.mem_cons.1 hp with e|e
 ·rw[e];exact h
 ·exact Sys.run_allD hr hstep ws _ _ h p e
theorem ResD.ok{D:Nat->Prop}{res:Nat->Nat->Nat}(h:ResD D res):ycbb res:=fun e w h0=>⟨(h e w h0).1,(h e w h0).2.1⟩
structure ByRoundsC(S:Sys)(V:Conf->Prop)(D:Nat->Prop)(P:Nat->Nat->Conf->Prop):Prop where
 valid:∀c s,V c->s≠0->subB s (S.en c)->D s->V (S.mv c s)
 stay:∀c s v r r',r<=r'->r'<=r+1->V c->v<S.n->s.testBit v=false->subB s (S.en c)->D s->(∀u,u<S.n->P r u c)->P r' v c->P r' v (S.mv c s)
 move:∀c s v r,V c->v<S.n->s.testBit v=true->subB s (S.en c)->D s->(∀u,u<S.n->P r u c)->P (r+1) v (S.mv c s)
 rest:∀c v r,V c->v<S.n->(S.en c).testBit v=false->(∀u,u<S.n->P r u c)->P (r+1) v c
 less:∀r v c,P (r+1) v c->P r v c
structure RInvC(S:Sys)(V:Conf->Prop)(P:Nat->Nat->Conf->Prop)(c:Conf)(k:Cnt):Prop where
 valid:V c
 all:∀v,v<S.n->P k.rounds v c
 done:∀v,v<S.n->k.pend.testBit v=false->P (k.rounds+1) v c
 begun:k.begun<=k.rounds+1
section
variable {S:Sys}{V:Conf->Prop}{D:Nat->Prop}{P:Nat->Nat->Conf->Prop}
theorem ByRoundsC.start(h:ByRoundsC S V D P){c:Conf}(hv:V c)(h0:∀v,v<S.n->P 0 v c):RInvC S V P c (ydw (S.en c)) :=
 ⟨hv,h0,fun v hn hb=>h.rest c v 0 hv hn hb h0,by simp[ydw]⟩
theorem ByRoundsC.step(h:ByRoundsC S V D P)(c:Conf)(k:Cnt)(s:Nat)(hi:RInvC S V P c k)(h0:s≠0)(hs:subB s (S.en c))(hD:D s):RInvC S V P (S.mv c s) (addP k s (S.en (S.mv c s))):=by
 obtain⟨i1,i2,i3,i4⟩:=hi;have hv:=h.valid c s i1 h0 hs hD
 have hall:∀v,v<S.n->P k.rounds v (S.mv c s):=fun v hn=>by
  cases hb:s.testBit v with
  |true=>exact h.less _ _ _ (h.move c s v _ i1 hn hb hs hD i2)
  |false=>exact h.stay c s v _ _ (zN _) (zBC _) i1 hn hb hs hD i2 (i2 v hn)
 have hnext:∀v,v<S.n->(difB k.pend s&&&S.en (S.mv c s)).testBit v=false->P (k.rounds+1) v (S.mv c s):=fun v hn hb=>by
  rw[Nat.testBit_and,yhj]at hb;cases hb1:s.testBit v with
  |true=>exact h.move c s v _ i1 hn hb1 hs hD i2
  | false =>
    cases hb2:k.pend.testBit v with
    |false=>exact h.stay c s v _ _ (zBC _) (zN _) i1 hn hb1 hs hD i2 (i3 v hn hb2)
    | true =>
      rw[hb1,hb2]at hb;exact h.rest _ v _ hv hn (by simpa using hb) hall
 unfold addP;simp only
 by_cases hp:difB k.pend s&&&S.en (S.mv c s)=0
 ·simp only[if_pos hp];have hall':∀v,v<S.n->P (k.rounds+1) v (S.mv c s):=fun v hn=>hnext v hn (by rw[hp];simp)
  exact⟨hv,hall',fun v hn hb=>h.rest _ v _ hv hn hb hall',by show k.rounds+1<=_;simp⟩
 ·simp only[if_neg hp];exact⟨hv,hall,hnext,zN _⟩
theorem ByRoundsC.runs(h:ByRoundsC S V D P){res:Nat->Nat->Nat}(hr:ResD D res){ws:List Nat}{c:Conf}(hv:V c)(h0:∀v,v<S.n->P 0 v c):∀p∈S.runs res ws c,RInvC S V P p.1 p.2 :=
 Sys.runs_allD hr (fun c k s=>h.step c k s) (h.start hv h0)
end
end
section
abbrev Ptr:=Nat->Option Nat
def Mt(p:Ptr)(x:Nat):Prop:=∃y,p x=some y/\p y=some x
inductive Mv (g:Gr) (p:Ptr) (v:Nat):Option Nat->Prop
 |accept (u:Nat):p v=none->adj g v u->p u=some v->Mv g p v (some u)
 |propose (u:Nat):p v=none->adj g v u->p u=none->(∀x,adj g v x->p x≠some v)->Mv g p v (some u)
 |withdraw (u w:Nat):p v=some u->p u=some w->w≠v->Mv g p v none
def yim(p:Ptr)(v:Nat)(t:Option Nat):Ptr:=fun x=>if x=v then t else p x
structure PtI(g:Gr)(p:Ptr)(I:Nat->Prop):Prop where
 nb:∀v u,p v=some u->adj g v u
 fresh:∀v u,p v=some u->¬I v->p u=none\/p u=some v\/Mt p u
open Classical in
noncomputable def lv(A B C:Prop):Nat:=if A then 0 else if B then 1 else if C then 0 else 2
noncomputable def lft(p:Ptr)(I:Nat->Prop)(u v:Nat):Nat:=lv (p u=some v/\p v=some u) ((p u=some v/\¬I u)\/(p v=some u/\¬I v)) (Mt p u\/Mt p v)
theorem yru(p:Ptr)(I:Nat->Prop)(u v:Nat):lft p I u v=lft p I v u:=by
 unfold lft;rw[show(p u=some v/\p v=some u)=(p v=some u/\p u=some v)from propext and_comm,show((p u=some v/\¬I u)\/(p v=some u/\¬I v))=((p v=some u/\¬I v)\/(p u=some v/\¬I u))from propext or_comm,show(Mt p u\/Mt p v)=(Mt p v\/Mt p u)from propext or_comm]
theorem ydgh(p:Ptr)(I:Nat->Prop)(u v:Nat):lft p I u v<=2:=by
 unfold lft lv;split
 ·omega
 ·split
  ·omega
  ·split<;>omega
section
variable {g:Gr}{p:Ptr}{I:Nat->Prop}{v:Nat}{t:Option Nat}
def mvI(I:Nat->Prop)(v:Nat):Nat->Prop:=fun x=>I x/\x≠v
theorem set_self:yim p v t v=t:=if_pos rfl
theorem ydk{x:Nat}(h:x≠v):yim p v t x=p x:=if_neg h
theorem yun(hm:Mv g p v t){x:Nat}(h:Mt p x):Mt (yim p v t) x:=by
 obtain⟨y,h1,h2⟩:=h
 have free:∀a b,p a=some b->p b=some a->a≠v:=fun a b ha hb e=>by
  subst e;cases hm with
  |accept u q=>rw[q]at ha;cases ha
  |propose u q=>rw[q]at ha;cases ha
  | withdraw u w q1 q2 q3 =>
    rw[ha]at q1;cases q1
    rw[hb]at q2;cases q2
    exact q3 rfl
 exact⟨y,by rw[ydk (free x y h1 h2)];exact h1,by rw[ydk (free y x h2 h1)];exact h2⟩
theorem ydmq(hi:PtI g p I)(hm:Mv g p v t)(hs:∀u w,adj g u w->adj g w u)(hr:∀u,¬adj g u u):PtI g (yim p v t) (mvI I v):=by
 refine⟨fun x y h=>?_,fun x y h hx=>?_⟩
 ·by_cases e:x=v
  ·subst e;rw[set_self]at h;cases hm with
   |accept u _ ha=>cases h;exact ha
   |propose u _ ha=>cases h;exact ha
   |withdraw=>cases h
  ·rw[ydk e]at h;exact hi.nb x y h
 ·by_cases e:x=v
  ·subst e;rw[set_self]at h;cases hm with
   | accept u q1 q2 q3 =>
     cases h
     have hne:y≠x:=fun e=>by subst e;rw[q1]at q3;cases q3
     right;left
     rw[ydk hne];exact q3
   | propose u q1 q2 q3 q4 =>
     cases h
     by_cases e:y=x
     ·subst e;exact absurd q2 (hr _)
     ·left;rw[ydk e];exact q3
   |withdraw=>cases h
  ·rw[ydk e]at h;have hxI:¬I x:=fun q=>hx ⟨q,e⟩;rcases hi.fresh x y h hxI with q|q|q
   ·by_cases e2:y=v
    ·subst e2;cases hm with
     | accept u q1 q2 q3 =>
       by_cases e3:u=x
       ·subst e3;right;left;exact set_self
       ·right;right
        have hne:u≠y:=fun e4=>by subst e4;rw[q1]at q3;cases q3
        exact⟨u,set_self,by rw[ydk hne];exact q3⟩
     |propose u q1 q2 q3 q4=>exact absurd h (q4 x (hs _ _ (hi.nb x y h)))
     |withdraw u w q1=>rw[q]at q1;cases q1
    ·left;rw[ydk e2];exact q
   ·by_cases e2:y=v
    ·subst e2;cases hm with
     |accept u q1=>rw[q]at q1;cases q1
     |propose u q1=>rw[q]at q1;cases q1
     | withdraw u w q1 q2 q3 =>
       rw[q]at q1;cases q1
       rw[h]at q2;cases q2
       exact absurd rfl q3
    ·right;left;rw[ydk e2];exact q
   ·exact .inr (.inr (yun hm q))
end
end
section
theorem yceo{A B C A' B' C':Prop}(h0:A->A')(h1:¬A->B->A'\/B'\/C')(h2:¬A->¬B->C->A'\/(¬B'/\C')):lv A' B' C'<=lv A B C:=by
 unfold lv
 by_cases a:A
 ·rw[if_pos (h0 a)];exact zK _
 ·rw[if_neg a]
  by_cases a':A'
  ·rw[if_pos a'];exact zK _
  ·rw[if_neg a']
   by_cases b:B
   ·rw[if_pos b]
    by_cases b':B'
    ·rw[if_pos b'];omega
    ·rw[if_neg b'];rcases h1 a b with q|q|q
     ·exact absurd q a'
     ·exact absurd q b'
     ·rw[if_pos q];omega
   ·rw[if_neg b]
    by_cases c:C
    ·rcases h2 a b c with q|⟨q1,q2⟩
     ·exact absurd q a'
     ·rw[if_neg q1,if_pos q2];exact zK _
    ·rw[if_neg c];split
     ·omega
     ·split<;>omega
section
variable {g:Gr}{p:Ptr}{I:Nat->Prop}{v:Nat}{t:Option Nat}
theorem yli(p:Ptr)(I:Nat->Prop)(u v:Nat):lft p I u v=lv (p u=some v/\p v=some u) ((p u=some v/\¬I u)\/(p v=some u/\¬I v)) (Mt p u\/Mt p v):=rfl
theorem ybke(hi:PtI g p I)(hm:Mv g p v t)(hr:∀u,¬adj g u u)(hs:∀u w,adj g u w->adj g w u){y:Nat}(hy:adj g v y):lft (yim p v t) (mvI I v) v y<=lft p I v y:=by
 have hne:y≠v:=fun e=>by subst e;exact hr _ hy
 have hIv:¬mvI I v v:=fun q=>q.2 rfl;have hIy:mvI I v y↔I y:=⟨fun q=>q.1,fun q=>⟨q,hne⟩⟩;have keep:Mt p y->Mt (yim p v t) y:=yun hm;rw[yli,yli,set_self,ydk hne];cases hm with
 | accept u q1 q2 q3 =>
   refine yceo (fun⟨a,_⟩=>by rw[q1]at a;cases a) (fun _ b=>?_) (fun _ nb c=>?_)
   ·rcases b with⟨b,_⟩|⟨b1,b2⟩
    ·rw[q1]at b;cases b
    ·exact .inr (.inl (.inr ⟨b1,fun q=>b2 (hIy.1 q)⟩))
   ·by_cases e:u=y
    ·subst e;exact .inl ⟨rfl,q3⟩
    ·refine .inr ⟨?_,.inl ?_⟩
     ·rintro(⟨b,_⟩|⟨b1,b2⟩)
      ·cases b;exact e rfl
      ·exact nb (.inr ⟨b1,fun q=>b2 (hIy.2 q)⟩)
     ·have hnu:u≠v:=fun e=>by subst e;exact hr _ q2
      exact⟨u,set_self,by rw[ydk hnu];exact q3⟩
 | propose u q1 q2 q3 q4 =>
   refine yceo (fun⟨a,_⟩=>by rw[q1]at a;cases a) (fun _ b=>?_) (fun _ nb c=>?_)
   ·rcases b with⟨b,_⟩|⟨b1,_⟩
    ·rw[q1]at b;cases b
    ·exact absurd b1 (q4 y hy)
   ·right
    have my:Mt p y:=by
     rcases c with⟨z,c,_⟩|c
     ·rw[q1]at c;cases c
     ·exact c
    refine⟨?_,.inr (keep my)⟩;rintro(⟨b,_⟩|⟨b1,_⟩)
    ·cases b
     obtain⟨z,c1,_⟩:=my;rw[q3]at c1;cases c1
    ·exact q4 y hy b1
 | withdraw u w q1 q2 q3 =>
   refine yceo (fun⟨a,a2⟩=>?_) (fun _ b=>?_) (fun _ nb c=>?_)
   ·rw[q1]at a;cases a;rw[q2]at a2;cases a2;exact absurd rfl q3
   ·rcases b with⟨b1,b2⟩|⟨b1,b2⟩
    ·rw[q1]at b1;cases b1
     rcases hi.fresh v y q1 b2 with q|q|q
     ·rw[q2]at q;cases q
     ·rw[q2]at q;cases q;exact absurd rfl q3
     ·exact .inr (.inr (.inr (keep q)))
    ·exact .inr (.inl (.inr ⟨b1,fun q=>b2 (hIy.1 q)⟩))
   ·right
    have my:Mt p y:=by
     rcases c with⟨z,c1,c2⟩|c
     ·rw[q1]at c1;cases c1;rw[q2]at c2;cases c2;exact absurd rfl q3
     ·exact c
    refine⟨?_,.inr (keep my)⟩;rintro(⟨b,_⟩|⟨b1,b2⟩)
    ·cases b
    ·exact nb (.inr ⟨b1,fun q=>b2 (hIy.2 q)⟩)
theorem ybja(hi:PtI g p I)(hm:Mv g p v t)(hr:∀u,¬adj g u u)(hs:∀u w,adj g u w->adj g w u){x y:Nat}(hxy:adj g x y):lft (yim p v t) (mvI I v) x y<=lft p I x y:=by
 by_cases ex:x=v
 ·subst ex;exact ybke hi hm hr hs hxy
 ·by_cases ey:y=v
  ·subst ey;rw[yru,yru p I x y];exact ybke hi hm hr hs (hs _ _ hxy)
  ·rw[yli,yli,ydk ex,ydk ey];have ix:mvI I v x↔I x:=⟨fun q=>q.1,fun q=>⟨q,ex⟩⟩;have iy:mvI I v y↔I y:=⟨fun q=>q.1,fun q=>⟨q,ey⟩⟩;rw[ix,iy];exact yceo (fun a=>a) (fun _ b=>.inr (.inl b)) (fun _ nb c=>.inr ⟨nb,c.imp (yun hm) (yun hm)⟩)
theorem ycbl(hi:PtI g p I)(hm:Mv g p v t)(hr:∀u,¬adj g u u)(hs:∀u w,adj g u w->adj g w u) :
 (∃u,adj g v u/\lft (yim p v t) (mvI I v) v u+1<=lft p I v u)\/(I v/\p v≠none):=by
 have hIv:¬mvI I v v:=fun q=>q.2 rfl;cases hm with
 | accept u q1 q2 q3 =>
   left
   have hnu:u≠v:=fun e=>by subst e;exact hr _ q2
   refine⟨u,q2,?_⟩;rw[yli,yli,set_self,ydk hnu];unfold lv;rw[if_pos ⟨rfl,q3⟩,if_neg (fun⟨a,_⟩=>by rw[q1]at a;cases a)]
   split
   ·omega
   ·rw[if_neg]
    ·omega
    ·rintro(⟨z,c,_⟩|⟨z,c1,c2⟩)
     ·rw[q1]at c;cases c
     ·rw[q3]at c1;cases c1;rw[q1]at c2;cases c2
 | propose u q1 q2 q3 q4 =>
   left
   have hnu:u≠v:=fun e=>by subst e;exact hr _ q2
   refine⟨u,q2,?_⟩;rw[yli,yli,set_self,ydk hnu];unfold lv;rw[if_neg (fun⟨_,a⟩=>by rw[q3]at a;cases a),if_pos (.inl ⟨rfl,hIv⟩),if_neg (fun⟨a,_⟩=>by rw[q1]at a;cases a),if_neg,if_neg]
   ·omega
   ·rintro(⟨z,c,_⟩|⟨z,c,_⟩)
    ·rw[q1]at c;cases c
    ·rw[q3]at c;cases c
   ·rintro(⟨b,_⟩|⟨b,_⟩)
    ·rw[q1]at b;cases b
    ·rw[q3]at b;cases b
 | withdraw u w q1 q2 q3 =>
   by_cases hI:I v
   ·right;exact⟨hI,by rw[q1];simp⟩
   ·left
    have huv:=hi.nb v u q1;have hnu:u≠v:=fun e=>by subst e;exact hr _ huv
    refine⟨u,huv,?_⟩
    have mu:Mt p u:=by
     rcases hi.fresh v u q1 hI with q|q|q
     ·rw[q2]at q;cases q
     ·rw[q2]at q;cases q;exact absurd rfl q3
     ·exact q
    have hm:Mv g p v none:=.withdraw u w q1 q2 q3;rw[yli,yli,set_self,ydk hnu];unfold lv;rw[if_neg (fun⟨a,_⟩=>by cases a),if_neg,if_pos (.inr (yun hm mu)),if_neg (fun⟨_,a⟩=>by rw[q2]at a;cases a;exact q3 rfl),if_pos (.inl ⟨q1,hI⟩)]
    ·omega
    ·rintro(⟨b,_⟩|⟨b,_⟩)
     ·cases b
     ·rw[q2]at b;cases b;exact q3 rfl
end
theorem ybdm{α:Type}(f h:α->Nat):∀(l:List α),(∀x∈l,f x<=h x)->(l.map f).sum<=(l.map h).sum
 |[],_=>zN _
 | x::l,hl=>by
   have h1:=hl x zI;have h2:=ybdm f h l fun y hy=>hl y (zD _ hy);simp only[zV,zAC];omega
theorem sum_lt{α:Type}(f h:α->Nat):∀(l:List α),(∀x∈l,f x<=h x)->(∃x∈l,f x+1<=h x)->(l.map f).sum+1<=(l.map h).sum
 |[],_,⟨x,hx,_⟩=>absurd hx zAK
 | x :: l,hl,⟨y,hy,e⟩=>by
   have h1:=hl x zI;simp only[zV,zAC];rcases List.mem_cons.1 hy with rfl|hy
   ·have h2:=ybdm f h l fun y hy=>hl y (zD _ hy);omega
   ·have h2:=sum_lt f h l (fun y hy=>hl y (zD _ hy)) ⟨y,hy,e⟩;omega
theorem ycxy(f h:Nat->Nat)(l:List Nat)(hl:∀x∈l,f x<=h x){a b:Nat}(ha:a∈l)(hb:b∈l)(hab:a≠b)(e1:f a+1<=h a)(e2:f b+1<=h b):(l.map f).sum+2<=(l.map h).sum:=by
 have s1:=sum_lt f (fun x=>if x=a then h a-1 else h x) l (fun x hx=>by
  show f x<=if x=a then h a-1 else h x
  by_cases e:x=a
  ·rw[if_pos e,e];omega
  ·rw[if_neg e];exact hl x hx) ⟨b,hb,by
  show f b+1<=if b=a then h a-1 else h b
  rw[if_neg (fun e=>hab e.symm)];exact e2⟩
 have s2:=sum_lt (fun x=>if x=a then h a-1 else h x) h l (fun x hx=>by
  show(if x=a then h a-1 else h x)<=h x
  by_cases e:x=a
  ·rw[if_pos e,e];omega
  ·rw[if_neg e];exact zN _) ⟨a,ha,by
  show(if a=a then h a-1 else h a)+1<=h a
  rw[if_pos rfl];omega⟩
 omega
open Classical in
noncomputable def oldN(g:Gr)(p:Ptr)(I:Nat->Prop):Nat:=((zH g.ports.length).map fun x=>if I x/\p x≠none then 1 else 0).sum
open Classical in
noncomputable def lftN(g:Gr)(p:Ptr)(I:Nat->Prop):Nat:=((zH g.ports.length).map fun x=>((g.ports.getD x []).map fun l=>lft p I x l.1.toNat).sum).sum
open Classical in
theorem ycfk{g:Gr}(hg:yw g){p:Ptr}{I:Nat->Prop}{v:Nat}{t:Option Nat}(hv:v<g.ports.length)(hi:PtI g p I)(hm:Mv g p v t) :
 2*oldN g (yim p v t) (mvI I v)+lftN g (yim p v t) (mvI I v)+2<=2*oldN g p I+lftN g p I:=by
 have hs:∀u w,adj g u w->adj g w u:=fun u w h=>hg.adj_symm h
 have hr:∀u,¬adj g u u:=fun u h=>by
  obtain⟨hu,_⟩:=hg.adj_lt h;obtain⟨l,hl,e⟩:=yfk.1 h;have e3:g.ports[u]?=some (g.ports.getD u []):=by simp[zS,hu]
  exact(hg.link e3 hl).2.2.1 e
 have old:∀x∈zH g.ports.length,(fun x=>if mvI I v x/\yim p v t x≠none then 1 else 0) x<=(fun x=>if I x/\p x≠none then 1 else 0) x:=fun x _=>by
  show(if mvI I v x/\yim p v t x≠none then 1 else 0)<=if I x/\p x≠none then 1 else 0
  by_cases e:x=v
  ·rw[if_neg (fun q=>q.1.2 e)];exact zK _
  ·rw[ydk e]
   by_cases q:I x/\p x≠none
   ·rw[if_pos q];split<;>omega
   ·rw[if_neg q,if_neg (fun r=>q ⟨r.1.1,r.2⟩)];exact zN _
 have row:∀x∈zH g.ports.length,(fun x=>((g.ports.getD x []).map fun l=>lft (yim p v t) (mvI I v) x l.1.toNat).sum) x<=(fun x=>((g.ports.getD x []).map fun l=>lft p I x l.1.toNat).sum) x:=fun x hx =>
  ybdm _ _ _ fun l hl=>ybja hi hm hr hs (ycg hg (List.mem_range.1 hx) hl).2.2.1
 have o:=ybdm _ _ _ old;have r:=ybdm _ _ _ row;unfold oldN lftN;rcases ycbl hi hm hr hs with⟨u,hu,e⟩|⟨h1,h2⟩
 ·have hul:=(hg.adj_lt hu).2;have hne:v≠u:=fun q=>by subst q;exact hr _ hu
  have strict:∀a b,adj g a b->lft (yim p v t) (mvI I v) a b+1<=lft p I a b->(fun x=>((g.ports.getD x []).map fun l=>lft (yim p v t) (mvI I v) x l.1.toNat).sum) a+1<=(fun x=>((g.ports.getD x []).map fun l=>lft p I x l.1.toNat).sum) a:=fun a b hab he=>by
   obtain⟨l,hl,el⟩:=yll hab;exact sum_lt _ _ _ (fun l' hl'=>ybja hi hm hr hs (ycg hg (hg.adj_lt hab).1 hl').2.2.1) ⟨l,hl,by rw[el];exact he⟩
  have:=ycxy _ _ _ row (List.mem_range.2 hv) (List.mem_range.2 hul) hne (strict v u hu e) (strict u v (hs _ _ hu) (by rw[yru,yru p I u v];exact e))
  omega
 ·have:=sum_lt _ _ _ old ⟨v,List.mem_range.2 hv,by
   show(if mvI I v v/\yim p v t v≠none then 1 else 0)+1<=if I v/\p v≠none then 1 else 0
   rw[if_neg (fun q=>q.1.2 rfl),if_pos ⟨h1,h2⟩];exact zN _⟩
  omega
end
section
section
variable {g:Gr}{p:Ptr}{I:Nat->Prop}{v w:Nat}{t t':Option Nat}
theorem ycaz(hi:PtI g p I)(hw:Mv g p w t')(hne:w≠v)(hna:¬adj g w v):Mv g (yim p v t) w t':=by
 have nb:∀u,adj g w u->u≠v:=fun u hu e=>hna (by rw[<-e];exact hu)
 cases hw with
 |accept u q1 q2 q3=>exact .accept u (by rw[ydk hne];exact q1) q2 (by rw[ydk (nb u q2)];exact q3)
 |propose u q1 q2 q3 q4=>exact .propose u (by rw[ydk hne];exact q1) q2 (by rw[ydk (nb u q2)];exact q3) fun x hx=>by rw[ydk (nb x hx)];exact q4 x hx
 |withdraw u x q1 q2 q3=>exact .withdraw u x (by rw[ydk hne];exact q1) (by rw[ydk (nb u (hi.nb w u q1))];exact q2) q3
noncomputable def potN(g:Gr)(p:Ptr)(I:Nat->Prop):Nat:=2*oldN g p I+lftN g p I
theorem ybah(hg:yw g)(t:Nat->Option Nat):∀(vs:List Nat) (p:Ptr) (I:Nat->Prop),PtI g p I->vs.Nodup->(∀v∈vs,v<g.ports.length)->(∀v∈vs,∀w∈vs,¬adj g v w)->(∀v∈vs,Mv g p v (t v)) ->
 ∃I',PtI g (fun x=>if x∈vs then t x else p x) I'/\potN g (fun x=>if x∈vs then t x else p x) I'+2*vs.length<=potN g p I
 |[],p,I,hi,_,_,_,_=>⟨I,by simpa using hi,by simp⟩
 | v :: vs,p,I,hi,hn,hl,ha,hm=>by
   have hn:=List.nodup_cons.1 hn;have hs:∀u w,adj g u w->adj g w u:=fun u w h=>hg.adj_symm h
   have hr:∀u,¬adj g u u:=fun u h=>by
    obtain⟨hu,_⟩:=hg.adj_lt h;obtain⟨l,hl,e⟩:=yfk.1 h;have e3:g.ports[u]?=some (g.ports.getD u []):=by simp[zS,hu]
    exact(hg.link e3 hl).2.2.1 e
   have m1:=hm v zI;have step:=ycfk hg (hl v zI) hi m1;have inv:=ydmq hi m1 hs hr
   obtain⟨I',h1,h2⟩:=ybah hg t vs (yim p v (t v)) (mvI I v) inv hn.2 (fun w hw=>hl w (zD _ hw)) (fun w hw x hx=>ha w (zD _ hw) x (zD _ hx)) (fun w hw =>
    ycaz hi (hm w (zD _ hw)) (fun e=>hn.1 (e▸hw)) (ha w (zD _ hw) v zI))
   have e:(fun x=>if x∈v::vs then t x else p x)=fun x=>if x∈vs then t x else yim p v (t v) x:=by
    funext x
    by_cases q:x∈vs
    ·rw[if_pos (zD _ q),if_pos q]
    ·rw[if_neg q]
     by_cases q2:x=v
     ·subst q2;rw[if_pos zI,set_self]
     ·rw[if_neg (fun h=>by rcases List.mem_cons.1 h with h|h<;>contradiction),ydk q2]
   rw[e];refine⟨I',h1,?_⟩;unfold potN at *;simp only[zAL];omega
theorem yjo{α:Type}(f:α->Nat)(k:Nat):∀(l:List α),(∀x∈l,f x<=k)->(l.map f).sum<=k*l.length
 |[],_=>zK _
 | x::l,h=>by
   have h1:=h x zI;have h2:=yjo f k l fun y hy=>h y (zD _ hy);simp only[zV,zAC,zAL,zBD,Nat.mul_one];omega
theorem yqo{α:Type}(f h:α->Nat)(k:Nat):∀(l:List α),(∀x∈l,f x<=k*h x)->(l.map f).sum<=k*(l.map h).sum
 |[],_=>zK _
 | x::l,hl=>by
   have h1:=hl x zI;have h2:=yqo f h k l fun y hy=>hl y (zD _ hy);simp only[zV,zAC,zBD];omega
open Classical in
theorem ybyd(g:Gr)(p:Ptr)(I:Nat->Prop):potN g p I<=2*g.ports.length+2*ylz g:=by
 have h1:oldN g p I<=1*(zH g.ports.length).length:=yjo _ 1 _ fun x _=>by
  show(if I x/\p x≠none then 1 else 0)<=1
  split<;>omega
 have h2:lftN g p I<=2*((zH g.ports.length).map fun x=>(g.ports.getD x []).length).sum:=yqo _ _ 2 _ fun x _ =>
  yjo _ 2 _ fun l _=>ydgh p I x l.1.toNat
 have e:(zH g.ports.length).map (fun x=>(g.ports.getD x []).length)=g.ports.map List.length:=by
  refine List.ext_getElem (by simp) fun i a b=>?_
  have hi:i<g.ports.length:=by simpa using b
  simp[zS,hi]
 rw[e]at h2;rw[List.length_range]at h1;unfold potN ylz;omega
end
end
section
structure TreeM(g:Gr):Prop where
 up:∀a v u,a<g.ports.length->adj g v u->(yeq g a).getD u 0=(yeq g a).getD v 0-1\/(yeq g a).getD u 0=(yeq g a).getD v 0+1
 one:∀a v u w,a<g.ports.length->adj g v u->adj g v w->(yeq g a).getD u 0=(yeq g a).getD v 0-1->(yeq g a).getD w 0=(yeq g a).getD v 0-1->u=w
end
section
def dP(g:Gr)(a v:Nat):Int:=(yeq g a).getD v 0
structure Tr(g:Gr):Prop where
 good:yw g
 conn:yrn g=true
 m:TreeM g
section
variable {g:Gr}{a b u v w x:Nat}
theorem Tr.self(h:Tr g)(ha:a<g.ports.length):dP g a a=0:=ybvt h.good h.conn ha
theorem Tr.nonneg(h:Tr g)(ha:a<g.ports.length)(hv:v<g.ports.length):0<=dP g a v:=(ydbx h.good h.conn ha hv).1
theorem Tr.pos(h:Tr g)(ha:a<g.ports.length)(hv:v<g.ports.length)(hne:v≠a):1<=dP g a v:=ycer h.good h.conn ha hv hne
theorem Tr.up(h:Tr g)(ha:a<g.ports.length)(hu:adj g v u):dP g a u=dP g a v-1\/dP g a u=dP g a v+1:=h.m.up a v u ha hu
theorem Tr.one(h:Tr g)(ha:a<g.ports.length)(hu:adj g v u)(hx:adj g v x)(e1:dP g a u=dP g a v-1)(e2:dP g a x=dP g a v-1):u=x:=h.m.one a v u x ha hu hx e1 e2
theorem Tr.back(h:Tr g)(ha:a<g.ports.length)(hv:v<g.ports.length)(hne:v≠a):∃u,adj g v u/\dP g a u=dP g a v-1:=ybtt h.good h.conn ha hv hne
theorem Tr.adj1(h:Tr g)(hu:adj g v u):dP g v u=1:=by
 obtain⟨hv,hu'⟩:=h.good.adj_lt hu;have h1:=h.up hv hu;have h2:=h.self hv;have h3:=h.nonneg hv hu';omega
theorem Tr.ne(h:Tr g)(hu:adj g v u):v≠u:=fun e=>by
 subst e;have:=h.adj1 hu;have:=h.self (h.good.adj_lt hu).1;omega
def rchP(g:Gr)(v u:Nat):Int:=(zH g.ports.length).foldl (fun m w=>if dP g w u<dP g w v then max m (dP g w v)else m) 0
theorem yzz(f:Nat->Int)(p:Nat->Prop)[DecidablePred p]:∀(l:List Nat) (m:Int),m<=l.foldl (fun m w=>if p w then max m (f w)else m) m/\(∀w∈l,p w->f w<=l.foldl (fun m w=>if p w then max m (f w)else m) m)/\(l.foldl (fun m w=>if p w then max m (f w)else m) m=m\/∃w∈l,p w/\f w=l.foldl (fun m w=>if p w then max m (f w)else m) m)
 |[],m=>⟨zAT _,fun w hw=>absurd hw zAK,.inl rfl⟩
 | x :: l,m=>by
   obtain⟨h1,h2,h3⟩:=yzz f p l (if p x then max m (f x)else m)
   simp only[List.foldl_cons];refine⟨?_,fun w hw hp=>?_,?_⟩
   ·clear h2 h3
    have:m<=if p x then max m (f x)else m:=by split<;>omega
    omega
   ·rcases List.mem_cons.1 hw with rfl|hw
    ·rw[if_pos hp]at h1 ⊢;omega
    ·exact h2 w hw hp
   ·clear h2
    rcases h3 with h3|⟨w,hw,hp,e⟩
    ·by_cases hp:p x
     ·rw[if_pos hp]at h3 ⊢;rcases Int.le_total (f x) m with q|q
      ·left;rw[h3];omega
      ·right;exact⟨x,zI,hp,by rw[h3];omega⟩
     ·rw[if_neg hp]at h3 ⊢;exact .inl h3
    ·exact .inr ⟨w,zD _ hw,hp,e⟩
theorem ybbg(hw:w<g.ports.length)(h:dP g w u<dP g w v):dP g w v<=rchP g v u :=
 (yzz (fun w=>dP g w v) (fun w=>dP g w u<dP g w v) (zH g.ports.length) 0).2.1 w (List.mem_range.2 hw) h
theorem Tr.rch_pos(h:Tr g)(hu:adj g v u):1<=rchP g v u:=by
 obtain⟨hv,hu'⟩:=h.good.adj_lt hu;have h1:=h.adj1 (h.good.adj_symm hu);have h2:=h.self hu';have:=ybbg (g:=g) (w:=u) (u:=u) (v:=v) hu' (by omega)
 omega
theorem Tr.rch_ex(h:Tr g)(hu:adj g v u):∃w,w<g.ports.length/\dP g w u<dP g w v/\dP g w v=rchP g v u:=by
 rcases(yzz (fun w=>dP g w v) (fun w=>dP g w u<dP g w v) (zH g.ports.length) 0).2.2 with e|⟨w,hw,hp,e⟩
 ·have:=h.rch_pos hu;have e:rchP g v u=0:=e;omega
 ·exact⟨w,List.mem_range.1 hw,hp,e⟩
theorem Tr.into(h:Tr g)(hu:adj g v u)(hx:adj g u x)(hne:x≠v)(hw:w<g.ports.length)(hs:dP g w x<dP g w u):dP g w u<dP g w v/\dP g w v=dP g w u+1:=by
 have h1:=h.up hw hx;have h2:=h.up hw (h.good.adj_symm hu);rcases h2 with h2|h2
 ·exact absurd (h.one hw hx (h.good.adj_symm hu) (by omega) h2) hne
 ·omega
theorem Tr.rch_step(h:Tr g)(hu:adj g v u)(hx:adj g u x)(hne:x≠v):1+rchP g u x<=rchP g v u:=by
 obtain⟨w,hw,h1,h2⟩:=h.rch_ex hx;obtain⟨h3,h4⟩:=h.into hu hx hne hw h1;have:=ybbg hw h3;omega
theorem Tr.rch_from(h:Tr g)(hu:adj g v u)(h2:2<=rchP g v u):∃x,adj g u x/\x≠v/\rchP g v u=1+rchP g u x:=by
 obtain⟨hv,hu'⟩:=h.good.adj_lt hu;obtain⟨w,hw,h3,h4⟩:=h.rch_ex hu;have h5:=h.up hw (h.good.adj_symm hu)
 have hne:w≠u:=fun e=>by
  subst e;have:=h.self hw;omega
 obtain⟨x,hx,h6⟩:=h.back hw hu' (fun e=>hne e.symm);have hxv:x≠v:=fun e=>by subst e;omega
 refine⟨x,hx,hxv,?_⟩;have a:=h.rch_step hu hx hxv;have b:=ybbg (g:=g) (u:=x) (v:=u) hw (by omega)
 omega
def step2(p:Int×Int)(a:Int):Int×Int:=if a>p.1 then(a,p.1)else(p.1,max p.2 a)
def top2(b:Int)(l:List Int):Int×Int:=l.foldl step2 (b,b)
theorem ybyp(b:Int)(l:List Int)(a:Int):top2 b (l++[a])=step2 (top2 b l) a:=by unfold top2;rw[zAS];rfl
theorem ybdf(b:Int)(l:List Int):∀k,k<=l.length->b<=(top2 b (l.take k)).2/\(top2 b (l.take k)).2<=(top2 b (l.take k)).1/\∀m,b<m->(m<=(top2 b (l.take k)).1↔1<=(l.take k).countP fun x=>decide (m<=x))/\(m<=(top2 b (l.take k)).2↔2<=(l.take k).countP fun x=>decide (m<=x))
 | 0,_=>by
   refine⟨zAT _,zAT _,fun m hm=>?_⟩;have e:(top2 b (l.take 0))=(b,b):=rfl;rw[e];simp only[List.take_zero,zAZ];omega
 | k + 1,hk=>by
   obtain⟨h1,h2,h3⟩:=ybdf b l k (by omega)
   rw[zY (show k<l.length by omega),ybyp]
   generalize l[k]=a
   have hc:∀m,(l.take k++[a]).countP (fun x=>decide (m<=x))=(l.take k).countP (fun x=>decide (m<=x))+if m<=a then 1 else 0:=fun m=>by
    rw[List.countP_append,zAV,zAZ];simp
   generalize top2 b (l.take k)=P at *
   unfold step2;split
   ·refine⟨by simp only;omega,by simp only;omega,fun m hm=>?_⟩
    obtain⟨h4,h5⟩:=h3 m hm;rw[hc];simp only;constructor
    ·split<;>omega
    ·split<;>omega
   ·refine⟨by simp only;omega,by simp only;omega,fun m hm=>?_⟩
    obtain⟨h4,h5⟩:=h3 m hm;rw[hc];simp only;constructor
    ·split<;>omega
    ·split<;>omega
theorem ybjg(b:Int)(l:List Int):b<=(top2 b l).2/\(top2 b l).2<=(top2 b l).1/\∀m,b<m->(m<=(top2 b l).1↔1<=l.countP fun x=>decide (m<=x))/\(m<=(top2 b l).2↔2<=l.countP fun x=>decide (m<=x)):=by
 have h:=ybdf b l l.length (zN _)
 rwa [zAH]at h
theorem ybbb{p:Int×Int->Bool}:∀{ls:List (Int×Int)},(ls.map (·.1)).Nodup->(2<=ls.countP p↔∃a∈ls,∃b∈ls,a.1≠b.1/\p a=true/\p b=true)
 |[],_=>by simp
 | l :: ls,hn=>by
   have hn:=List.nodup_cons.1 hn;have ih:=ybbb (p:=p) hn.2
   have one:1<=ls.countP p↔∃a∈ls,p a=true:=by
    rw[Nat.one_le_iff_ne_zero,Nat.ne_zero_iff_zero_lt,List.countP_pos_iff]
   have hno:∀a∈ls,l.1≠a.1:=fun a ha e=>hn.1 (List.mem_map.2 ⟨a,ha,e.symm⟩);rw[zAV];constructor
   ·intro h
    by_cases hp:p l=true
    ·rw[if_pos hp]at h;obtain⟨a,ha,hpa⟩:=one.1 (by omega)
     exact⟨l,zI,a,zD _ ha,hno a ha,hp,hpa⟩
    ·rw[if_neg hp]at h;obtain⟨a,ha,b,hb,q⟩:=ih.1 (by omega)
     exact⟨a,zD _ ha,b,zD _ hb,q⟩
   ·rintro⟨a,ha,b,hb,hab,hpa,hpb⟩;rcases List.mem_cons.1 ha with ea|ha
    ·rcases List.mem_cons.1 hb with eb|hb
     ·exact absurd (by rw[ea,eb]) hab
     ·have:=one.2 ⟨b,hb,hpb⟩;rw[<-ea,if_pos hpa];omega
    ·rcases List.mem_cons.1 hb with eb|hb
     ·have:=one.2 ⟨a,ha,hpa⟩;rw[<-eb,if_pos hpb];omega
     ·have:=ih.2 ⟨a,ha,b,hb,hab,hpa,hpb⟩;omega
theorem ytz(hg:yw g)(hv:v<g.ports.length):((g.ports.getD v []).map (·.1)).Nodup:=by
 have h:=(hg.2.2.2.2.2.1 ⟨v,hv⟩).2;have e0:g.ports[v]=g.ports.getD v []:=by rw[Sh.getD_at hv]
 have h:((g.ports[v]).map (·.1)).Nodup:=h
 rwa [e0]at h
theorem ydmj(hg:yw g)(hv:v<g.ports.length){f:Nat->Int}{m:Int}:2<=((g.ports.getD v []).map fun l=>f l.1.toNat).countP (fun x=>decide (m<=x))↔∃a b,adj g v a/\adj g v b/\a≠b/\m<=f a/\m<=f b:=by
 rw[List.countP_map,ybbb (ytz hg hv)];constructor
 ·rintro⟨a,ha,b,hb,hne,hpa,hpb⟩;obtain⟨a1,_,a3,_⟩:=ycg hg hv ha;obtain⟨b1,_,b3,_⟩:=ycg hg hv hb;exact⟨_,_,a3,b3,by omega,of_decide_eq_true hpa,of_decide_eq_true hpb⟩
 ·rintro⟨a,b,ha,hb,hne,hpa,hpb⟩;obtain⟨la,hla,ea⟩:=yll ha;obtain⟨lb,hlb,eb⟩:=yll hb;exact⟨la,hla,lb,hlb,fun e=>hne (by rw[<-ea,<-eb,e]),decide_eq_true (by show m<=f la.1.toNat;rw[ea];exact hpa),decide_eq_true (by show m<=f lb.1.toNat;rw[eb];exact hpb)⟩
def htP(g:Gr)(v:Nat):Int:=(top2 0 ((g.ports.getD v []).map fun l=>rchP g v l.1.toNat)).2
theorem ybrn(g:Gr)(v:Nat):0<=htP g v:=(ybjg 0 _).1
theorem ybws(hg:yw g)(hv:v<g.ports.length){m:Int}(hm:1<=m):m<=htP g v↔∃a b,adj g v a/\adj g v b/\a≠b/\m<=rchP g v a/\m<=rchP g v b:=by
 rw[<-ydmj hg hv (f:=fun u=>rchP g v u)];exact((ybjg 0 _).2.2 m (by omega)).2
theorem Tr.thru(h:Tr g)(hw:w<g.ports.length):∀(k:Nat) (v u x:Nat),adj g v u->dP g w u=dP g w v+1->x<g.ports.length->dP g x u<dP g x v->(dP g x u).toNat<k->dP g w x=dP g w u+dP g x u
 |0,v,u,x,_,_,_,_,hk=>by omega
 | k + 1,v,u,x,hu,hwu,hx,hs,hk=>by
   obtain⟨hv,hu'⟩:=h.good.adj_lt hu
   by_cases e:x=u
   ·subst e;rw[h.self hx];omega
   ·obtain⟨y,hy,h1⟩:=h.back hx hu' (fun q=>e q.symm);have hyv:y≠v:=fun q=>by subst q;omega
    have h2:=h.up hw hy
    have hw1:dP g w y=dP g w u+1:=by
     rcases h2 with h2|h2
     ·exact absurd (h.one hw hy (h.good.adj_symm hu) h2 (by omega)) hyv
     ·exact h2
    have:=h.nonneg hx (h.good.adj_lt hy).2;have ih:=Tr.thru h hw k u y x hy hw1 hx (by omega) (by omega)
    omega
theorem Tr.apart(h:Tr g)(ha:adj g v a)(hb:adj g v b)(hne:a≠b)(hw:w<g.ports.length)(hx:x<g.ports.length)(h1:dP g w a<dP g w v)(h2:dP g x b<dP g x v):dP g w x=dP g w v+dP g x v:=by
 have a1:=h.up hw ha;have b1:=h.up hw hb;have b2:=h.up hx hb
 have hwb:dP g w b=dP g w v+1:=by
  rcases b1 with q|q
  ·exact absurd (h.one hw ha hb (by omega) q) hne
  ·exact q
 have:=h.thru hw _ v b x hb hwb hx h2 (Nat.lt_succ_self _);omega
end
end
section
def ymz:Ex:=.bin 35 (eQ 0) (.leaf 17 0)
def ymt:Ex:=.bin 35 (eQ 0) ybee
def ybcz:Ex:=.bin 41 (.bin 41 (.bin 35 (.leaf 11 0) (eVar 0)) (.bin 36 (eQ 0) ybee)) (.bin 36 (eQ 0) (.leaf 17 0))
def ybt(nm p a b w:ByteArray):ProgT:=⟨nm,[⟨p,3,0,0,0,0⟩],[⟨a,.bin 41 (.bin 35 (eVar 0) ybee) (.agg 21 ymz),[(0,.agg 23 ymz)]⟩,⟨b,.bin 41 (.bin 35 (eVar 0) ybee) (.agg 21 ymt),[(0,.agg 23 ymt)]⟩,⟨w,.agg 21 ybcz,[(0,ybee)]⟩]⟩
theorem yyj{α:Type}(f:α->Bool)(ls:List α):countP (ls.map fun l=>ybr (f l))=((ls.filter f).length:Int):=by
 unfold countP
 induction ls with
 |nil=>rfl
 | cons l ls ih =>
   cases h:f l with
   | false =>
     rw[zV,zZ,zZ,h];have e:((ybr false != 0)=true)=False:=by simp[ybr]
     simp only[e,if_false,Bool.false_eq_true];exact ih
   | true =>
     rw[zV,zZ,zZ,h];have e:((ybr true != 0)=true)=True:=by simp[ybr]
     simp only[e,if_true,zAL];omega
theorem yvs{α:Type}(f:α->Bool)(ls:List α):yhd 21 (ls.map fun l=>ybr (f l))=ybr (ls.any f):=by
 show ybr (decide (countP _>0))=_;rw[yyj];congr 1;rw[Bool.eq_iff_iff,decide_eq_true_iff,List.any_eq_true];constructor
 ·intro h;obtain⟨l,hl⟩:=List.exists_mem_of_length_pos (show 0<(ls.filter f).length by omega)
  exact⟨l,(List.mem_filter.1 hl).1,(List.mem_filter.1 hl).2⟩
 ·rintro⟨l,hl,hf⟩;have:=List.length_pos_of_mem (List.mem_filter.2 ⟨hl,hf⟩);omega
def pAt(c:Conf)(v:Nat):Int:=(c.getD v []).getD 0 0
def toP(g:Gr)(c:Conf):Ptr:=fun v=>if v<g.ports.length/\0<=pAt c v then some ((g.ports.getD v []).getD (pAt c v).toNat (0,0)).1.toNat else none
def yqw(g:Gr)(c:Conf)(v:Nat)(l:Int×Int):Bool:=endP c 0 l==yfh (g.ports.getD l.1.toNat []) v
def yqb(c:Conf)(l:Int×Int):Bool:=endP c 0 l == -1
structure MtC(g:Gr)(c:Conf):Prop where
 len:c.length=g.ids.length
 row:∀v,v<g.ids.length->(c.getD v []).length=1/\(-1<=pAt c v/\pAt c v<(g.ports.getD v []).length)
section
variable {nm np na nb nw:ByteArray}{g:Gr}{c:Conf}{u v s:Nat}
theorem yin(hc:yga (ybt nm np na nb nw) g c=true):MtC g c:=by
 have h:=(yfc _ _ _).1 hc;refine⟨h.1,fun v hv=>?_⟩;have hlt:v<c.length:=by rw[h.1];exact hv
 have e:c.getD v []=c[v]:=by simp[zS,hlt]
 have h2:=h.2 v _ (zT hlt);unfold pAt;rw[e];have hl:c[v].length=1:=h2.1;have a0:(ybh g v ⟨np,3,0,0,0,0⟩).1<=c[v][0]/\c[v][0]<=(ybh g v ⟨np,3,0,0,0,0⟩).2:=h2.2 0 _ _ rfl (zT (by omega))
 have e0:c[v].getD 0 0=c[v][0]:=by simp[zS,hl]
 rw[e0];rw[bT3]at a0;simp only at a0;exact⟨hl,by omega,by omega⟩
theorem ysa(hg:yw g)(h:MtC g c)(hv:v<g.ports.length){l:Int×Int}(hl:l∈g.ports.getD v []):yqw g c v l=true↔toP g c l.1.toNat=some v:=by
 obtain⟨h1,h2,_⟩:=ycg hg hv hl;have hpl:=hg.2.2.1;have hn:=ytz hg h2
 have hb:((v:Int),l.2)∈g.ports.getD l.1.toNat []:=by
  have:=hg.2.2.2.2.2.2 ⟨v,hv⟩ l (by show l∈g.ports[v];rw[<-Sh.getD_at hv (d:=[])];exact hl)
  exact this
 obtain⟨k,e1,e2⟩:=yms hn hb;obtain⟨hk,ek⟩:=List.getElem?_eq_some_iff.1 e2;have hrow:=(h.row l.1.toNat (by omega)).2
 unfold yqw toP;rw[beq_iff_eq,e1];have hp:endP c 0 l=pAt c l.1.toNat:=rfl;rw[hp];constructor
 ·intro q;rw[q,if_pos (by omega),zAE,Sh.getD_at hk,ek]
  simp
 ·intro q
  by_cases q0:0<=pAt c l.1.toNat
  ·rw[if_pos ⟨h2,q0⟩]at q;obtain⟨j,hj⟩:∃j:Nat,pAt c l.1.toNat=j:=Int.eq_ofNat_of_zero_le q0;rw[hj,zAE]at q;have hjl:j<(g.ports.getD l.1.toNat []).length:=by omega
   rw[Sh.getD_at hjl]at q;have q:=Option.some.inj q;obtain⟨m1,_⟩:=ycg hg h2 (zAJ hjl);have hj':j<((g.ports.getD l.1.toNat []).map (·.1)).length:=by rw[zU];exact hjl
   have hk':k<((g.ports.getD l.1.toNat []).map (·.1)).length:=by rw[zU];exact hk
   have:=(List.getElem_inj (h₀:=hj') (h₁:=hk') hn).1 (by rw[zAW,zAW,ek];simp only;omega)
   rw[hj,this]
  ·rw[if_neg (fun r=>q0 r.2)]at q;cases q
theorem yrp(hg:yw g)(h:MtC g c)(hv:v<g.ports.length){l:Int×Int}(hl:l∈g.ports.getD v []):yqb c l=true↔toP g c l.1.toNat=none:=by
 obtain⟨h1,h2,_⟩:=ycg hg hv hl;have hrow:=(h.row l.1.toNat (by have:=hg.2.2.1;omega)).2
 unfold yqb toP;have hp:endP c 0 l=pAt c l.1.toNat:=rfl;rw[beq_iff_eq,hp];constructor
 ·intro q;rw[if_neg (by omega)]
 ·intro q
  by_cases q0:0<=pAt c l.1.toNat
  ·rw[if_pos ⟨h2,q0⟩]at q;cases q
  ·omega
theorem ybue(hv:v<g.ports.length){q:Nat}(hq:q<(g.ports.getD v []).length):ydh g c v (.leaf 17 0) q=yfh (g.ports.getD (ybm g v q).1.toNat []) v:=by
 show(yie g v).getD (q:Int).toNat 0=_;unfold yie ybm;rw[zAE,List.getD_eq_getElem?_getD,zAD,zT hq,Sh.getD_at hq];rfl
theorem ybea(hv:v<g.ports.length){q:Nat}(hq:q<(g.ports.getD v []).length):ydh g c v ymz q=ybr (yqw g c v (ybm g v q)):=by
 show ybr (cmpP 35 (ydh g c v (eQ 0) q) (ydh g c v (.leaf 17 0) q))=_;rw[ybue hv hq];rfl
end
end
section
def kcEx:Ex:=.agg 21 (.bin 35 (eQ 0) (eVar 0))
def ybza(nm c r:ByteArray):ProgT:=⟨nm,[⟨c,1,0,0,1,0⟩],[⟨r,kcEx,[(0,.agg 27 (eQ 0))]⟩]⟩
def ycgb(c:Conf)(v:Nat):Int:=(c.getD v []).getD 0 0
def ydpd(g:Gr)(c:Conf)(v:Nat):Prop:=∃u,adj g v u/\ycgb c u=ycgb c v
structure KcC(g:Gr)(c:Conf):Prop where
 len:c.length=g.ids.length
 row:∀v,v<g.ids.length->(c.getD v []).length=1/\(0<=ycgb c v/\ycgb c v<=g.ids.length)
section
variable {nm nc nr:ByteArray}{g:Gr}{c:Conf}{u v s:Nat}
def kcR(g:Gr)(r v:Nat)(c:Conf):Prop:=1<=r->¬ydpd g c v
structure KcJ(nm nc nr:ByteArray)(g:Gr)(c:Conf)(k:Cnt):Prop where
 inv:RInvC (yca (ybza nm nc nr) g) (fun c=>yga (ybza nm nc nr) g c=true) (kcR g) c k
 moves:k.moves+popP (ybp (ybza nm nc nr) g c)<=g.ids.length
end
end
section
open Go.RowKit
end
section
open Go.RowKit
end
section
namespace Sh
open Ev Go.RowKit
theorem ybaf{n nv:Nat}{c:Conf}(h:ConfIn n nv c):yboz c:=fun s hs x hx=>by
 have:=(h.row s hs).2 x hx;unfold InB at this;exact ygs (by omega)
end Sh
end
section
def ylu(ls:List (Int×Int))(b:Int):Bool:=ls.any fun l=>decide (l.1=b)
namespace Sh
open Ev Go.RowKit
theorem yboj{ids:List Int}{ports:List (List (Int×Int))}{a b:Nat}(ha:a<ports.length)(hl:(ports.getD a []).length<=100000) :
 Returns zM 128 [.ag [yu ids,ybb ports],.i .i64 a,.i .i64 b] (.b (ylu (ports.getD a []) b)):=by
 refine Returns.of (ydbp _ _ ?_);obtain⟨n,hn⟩:∃n,ports.length=n:=⟨_,rfl⟩;obtain⟨L,hL⟩:∃L,ports.getD a []=L:=⟨_,rfl⟩;rw[hL]at hl ⊢;obtain⟨m,hm⟩:∃m,L.length=m:=⟨_,rfl⟩;simp only[c128,ycvv,ycwh,go_sem,zB,zG,↓reduceIte];refine ybj (σ:=Nat) (fun k=>⟨[(7,.i .i64 k),(3,.pt (3,0) 0 0),(1,.i .i64 a),(2,.i .i64 b)],[(3,.one (some ⟨27,true,2,1,fun _=>[yu ids,ybb ports]⟩))]⟩) (fun k=>k<=m/\∀j,j<k->(L.getD j (0,0)).1≠b) (fun k=>m-k) 0 ⟨zK _,fun j hj=>absurd hj (zAM j)⟩ ?_ ?_
 ·refine yh [] [] [] ?_;simp only[go_sem,allQ,live,yc,zL,go_sem,zA,↓reduceIte,reduceCtorEq]
 ·rintro k ⟨hk,hno⟩;simp only[ycpi,ycmo,ycpa,ycmu,ycno,ybb,ybc,hn,hL,hm,go_sem,zA,zB,zC,↓reduceIte,reduceCtorEq];refine⟨⟨by omega,by omega⟩,fun hlt=>⟨⟨by omega,by omega⟩,⟨by omega,by omega⟩,fun he=>?_,fun hne=>⟨ikw (by omega) (by omega),?_⟩⟩,fun hge=>?_⟩
  ·have hk':k<L.length:=by omega
   have:ylu L b=true:=List.any_eq_true.2 ⟨L[k],zAJ _,by rw[getD_at hk']at he;exact decide_eq_true he⟩
   rw[this];exact Sim.refl _
  ·refine yj (k+1) ⟨by omega,fun j hj=>?_⟩ (by omega) ?_
   ·by_cases q:j=k
    ·rw[q];exact hne
    ·exact hno j (by omega)
   refine yh [] [] [] ?_;simp only[allQ,live,yc,yba,go_sem,zA,↓reduceIte,reduceCtorEq];omega
  ·have:ylu L b=false:=List.any_eq_false.2 fun l hl he=>by
    obtain⟨j,hj,rfl⟩:=List.getElem_of_mem hl;have:=hno j (by omega)
    rw[getD_at hj]at this;exact this (of_decide_eq_true he)
   rw[this];exact Sim.refl _
end Sh
end
section
namespace Sh
open Go Ev
theorem Cm.ct{P:Program}{g:FuncId}{args:List SV}{Q:SV->Own->Prop}{R:SV->Prop}(h:Cm P g [] [] args Q)(hq:∀r o',Q r o'->vok o' 5 r/\R (view o' 5 r)):Ct P g args R:=by
 intro G m us hw hle hargs
 have hc0:Conc m.next G om0 ⟨[],[]⟩ ⟨0,.leaf⟩ (enterM m) :=
  ⟨hw,zN _,zN _,hle,fun β b h=>(by cases h),fun β _=>rfl,fun β γ k z k' z' h=>(by cases h),fun β k z h=>(by cases h),fun t v hv=>(by cases hv)⟩
 obtain⟨v,m1,r,o',F',ω',s0,t2,hrv,l1,l2,_,_,hQ⟩:=h m.next G om0 ⟨0,.leaf⟩ (enterM m) us hc0 hargs
 obtain⟨r3,r4⟩:=hq r o' hQ
 have hs0:ybs P (.call g us m) (.call v m1):=by
  obtain⟨n,b,l⟩:=m;exact ybs.relow s0
 have hm1:m.next<=m1.low:=t2.low
 have hold:∀{i x},m.b.get i=some x->i<m.next:=fun {i x} q=>hw i x q
 have hview:∀H:AM,Le F' H->(∀β k z,ω' β=some (some (k,z))->∀b,m1.b.get k=some b->H k=some b)->RV H om0 (view o' 5 r) v:=fun H h1 h2=>yio t2 h1 h2 hrv r3
 have hs1:ybs P (.call g us m) (.call v ⟨m1.next,ygv m.b m1.b,m1.low⟩):=by
  intro hwm;obtain⟨ext,hcall⟩:=hs0 hwm
  have hget:∀{i x},(ygv m.b m1.b).get i=some x->m.b.get i=some x\/m1.b.get i=some x:=fun {i x} q=>by
   rw[ycz]at q;split at q
   ·rename_i y hy;cases q;exact .inl hy
   ·exact .inr q
  refine⟨⟨ext.next,fun i b hq=>?_,fun i b h1 h2 hq=>?_,fun i b hq=>?_⟩,fun φ M w args' hR hs ha hf=>?_⟩
  ·rcases hget hq with q|q
   ·exact .inl ⟨b,q⟩
   ·exact ext.dom i b q
  ·rcases hget hq with q|q
   ·exact q
   ·exact ext.old i b h1 h2 q
  ·rcases hget hq with q|q
   ·exact zAB (hold q) ext.next
   ·exact ext.wf i b q
  ·refine(hcall φ M w args' hR hs ha hf).mono ?_;rintro e' w' ⟨v',rfl,φ',M',hgd,hv⟩;refine⟨v',rfl,φ',M',⟨hgd.le,hgd.out,hgd.rel,fun i b hq=>?_,hgd.frame,hgd.wg⟩,hv⟩;rcases hget hq with q|q
   ·have hi:=hold q;rw[hgd.frame i (fun z=>by omega) (.inr (zAB hi hm1))]
    exact hs i b q
   ·exact hgd.sub i b q
 have hnone:∀{i},m.next<=i->m.b.get i=none:=fun {i} q=>by
  cases hh:m.b.get i with
  |none=>rfl
  |some x=>have:=hold hh;omega
 refine⟨_,_,view o' 5 r,hs1,hm1,fun i b hq=>?_,r4,hview _ (fun i b hq=>?_) (fun β k z hk b hq=>?_)⟩
 ·show(ygv m.b m1.b).get i=some b;rw[ycz,hq]
 ·unfold frsh;rcases l2 i b hq with q|q
  ·rw[if_neg (by have:=hold (hle i b q);omega)];exact q
  ·rw[if_pos q];show(ygv m.b m1.b).get i=some b;rw[ycz,hnone q];exact t2.sub i b hq
 ·unfold frsh;have:=(t2.apart β k z hk).2.1;rw[if_pos this];show(ygv m.b m1.b).get k=some b;rw[ycz,hnone this];exact hq
theorem Cm.weak {P:Program}{g:FuncId}{o:Own}{args:List SV}{Q R:SV->Own->Prop}(h:Cm P g [] o args Q)
 (hq:∀r o',Q r o'->∃r2 o2,Weak [] ⟨[(0,r)],o'⟩ ⟨[(0,r2)],o2⟩/\(cln (live o2) 5 r2=true/\allQ (fun p=>ybx (live o2) p.2) o2)/\R r2 o2):Cm P g [] o args R:=by
 intro lo G ω f m us hc hargs;obtain⟨v,m1,r,o',F',ω',s0,t2,hrv,l1,l2,_,_,hQ⟩:=h lo G ω f m us hc hargs;obtain⟨r2,o2,hw,hcl,hR⟩:=hq r o' hQ
 have t3:Conc lo F' ω' ⟨[(0,r)],o'⟩ ⟨1,tOf [v]⟩ m1:=⟨t2.wf,t2.low,t2.nxt,t2.sub,t2.own,t2.dom,t2.inj,t2.apart,fun t x hx=>by
  unfold look at hx;split at hx
  ·rename_i e
   cases hx
   exact⟨v,by rw[ycs];simp[<-e],hrv⟩
  ·cases hx⟩
 obtain⟨ω2,F2,k1,k2,k3,_⟩:=hw lo F' ω' _ m1 t3;obtain⟨u,q1,q2⟩:=k3.fr 0 r2 rfl
 have e:u=v:=by
  rw[ycs]at q1
  simpa using q1.symm
 subst e
 exact⟨u,m1,r2,o2,F2,ω2,s0,⟨k3.wf,k3.low,k3.nxt,k3.sub,k3.own,k3.dom,k3.inj,k3.apart,fun t x hx=>(by cases hx)⟩,q2,fun x b hx=>k1 x b (l1 x b hx),fun x b hx=>by
  rcases k2 x b hx with z|z
  ·exact l2 x b z
  ·exact .inr z,fun β hβ=>absurd hβ zAK,⟨hcl.1,hcl.2,trivial⟩,hR⟩
end Sh
end
end Go.Proofs.YtiejahgklcjhkaaGreatDoor
