/- Lemmas, joined: SgV SgX SgY SgZ SiA ScBf GraphD BfsA BfsB BfsC RefC RefD SiB SiC Pg Ph SiD. -/
import Derived.Test.YtpngeppkgoaimaaGreatDoorPkPp14
import Derived.Test.YtpngeppkgoaimaaGreatDoorPkPp11
import Derived.Test.YtpngeppkgoaimaaGreatDoorPkPp12
import Derived.Test.YtpngeppkgoaimaaGreatDoorPkPp8
set_option linter.unusedSimpArgs false
set_option linter.unusedVariables false
namespace Go.Proofs.YtpngeppkgoaimaaGreatDoor
open Go
namespace Sh
open Ev Go.RowKit
set_option maxRecDepth 8000
def seeC:SV:=.fn 91 [] [.pt (201,0) 0 0,.pt (203,0) 0 0]
def seeX(cs:List Conf)(ks:List Cnt):Own:=[(201,.one (some ⟨30,true,1,1,fun _=>[.os (202,0) 0 cs.length true]⟩)),(202,.one (some ⟨35,false,1,cs.length,fun i=>[ybe (cs.getD i [])]⟩)),
 (203,.one (some ⟨31,true,1,1,fun _=>[.os (204,0) 0 ks.length true]⟩)),(204,.one (some ⟨46,false,5,ks.length,fun i=>cntV (ks.getD i default)⟩))]
def yki:Own:=[(201,.one (some ⟨30,true,1,1,fun _=>[.a (.slice none 0 0)]⟩)),(203,.one (some ⟨31,true,1,1,fun _=>[.a (.slice none 0 0)]⟩))]
def TT:(Nat->Option ABlk)->Value->Prop:=fun _ _=>True
def yem(p:ProgT)(g:Gr):SV:=.ex TT (.rf (ydo p.raw g))
def ydg(p:ProgT)(g:Gr)(net:List Nat)(kind:Int):List SV:=[yem p g,usV net,.i .i64 kind,.i .u32 (2 ^ g.ids.length - 1:Nat),seeC]
def ybkx(p:ProgT)(g:Gr)(net:List Nat)(kind:Int)(ws:List Nat):Own:=[(205,.one (some ⟨106,true,5,1,fun _=>ydg p g net kind⟩)),(206,.one (some ⟨25,true,1,1,fun _=>[usV ws]⟩))]
theorem gmr{α:Type}(f:Nat->α)(n k:Nat)(d:α)(h:k<n):((List.range n).map f).getD k d=f k:=by simp[List.getD,h]
def mapR{α:Type}(n:Nat)(f:Nat->α):List α:=(List.range n).map f
theorem gmR{α:Type}(f:Nat->α)(n k:Nat)(d:α)(h:k<n):(mapR n f).getD k d=f k:=gmr f n k d h
theorem ywh{α:Type}(n:Nat)(f:Nat->α):(mapR n f).length=n:=by simp[mapR]
theorem ybhb{α β:Type}(n:Nat)(f:Nat->α)(h:α->β):(mapR n f).map h=mapR n fun k=>h (f k):=by simp[mapR,Function.comp_def]
theorem ybuh{α:Type}(f:Nat->α)(n:Nat)(x d:α)(hx:f n=x)(k:Nat)(h:k<n+1):(((List.range n).map f) ++ [x]).getD k d=f k:=by
 rw[<- hx,show[f n] = [n].map f from rfl,<- List.map_append,<- List.range_succ]
 exact gmr f (n+1) k d h
section
variable {Q1 Q2:(Nat->Option ABlk)->Value->Prop} {p:ProgT} {g:Gr}
theorem ybic(h:Checked Q1 Q2 p g){kind:Int}{net:List Nat}{res:Nat->Nat->Nat}(hd:DaemonOk kind net res){c:Conf}(hc:ydk p g c=true){ws:List Nat}(hw:∀ k,ws.getD k 0<2 ^ 32)(hwl:ws.length<=4000) :
  Cm Tryz.prog 121 [(201,0),(203,0)] (yki ++ ybkx p g net kind ws) [.ag (ydg p g net kind),ybe c,.i .i64 ws.length,.fn 122 [] [.pt (205,0) 0 0,.pt (206,0) 0 0]]
   fun r o=>(∃ l1 l2 c' k',r = .tp [.ag (usV l1 :: usV l2 :: ybe c' :: cntV k'),.i .i64 0])/\o=seeX ((ybk p g).runs res ws c |>.map (·.1)) ((ybk p g).runs res ws c |>.map (·.2)):=by
 refine ybwp [(201,0),(203,0)] [91] _ _ _ ?_;obtain⟨O2,hO2⟩:∃ O,seeX ((ybk p g).runs res ws c |>.map (·.1)) ((ybk p g).runs res ws c |>.map (·.2))=O:=⟨_,rfl⟩;rw[hO2];obtain⟨hr1,hr2⟩:=ymm h.hg h.hp hc;have hcin:=yja h.hg h.hp hc;have hC:=yvm c hr1 hr2;have hE:=yil p h.hg h.hp hcin;have hX:SimL [yem p g,ybe c] [.rf (ydo p.raw g),ybe c]:=⟨ykx _ _,Sim.refl _,trivial⟩
 have hen:=ybvs p g c;have hid:=h.hg.2.2.1;have h24:=h.hg.2.1;have h2n:2 ^ g.ids.length<=2 ^ 24:=Nat.pow_le_pow_right (by omega) (by omega)
 simp only[c121,yccr,ycbs,ycdm,yki,ybkx,ydg,seeC,usV,yem,go_sem,Nat.reduceEqDiff,Nat.reduceAdd,Nat.reduceLT,Nat.reduceBEq,↓reduceIte,reduceCtorEq];refine hC.use ?_;simp only[thenO,ycbr,clash,go_sem,Nat.reduceEqDiff,Nat.reduceAdd,Nat.reduceLeDiff,Nat.reduceBEq,↓reduceIte,reduceCtorEq];refine hE.useS ?_ ?_
 ·exact hX
 have ha:IntKind.wrap .u32 (((BitVec.ofInt (IntKind.bits .u32) (ybm p g c:Int)) &&& BitVec.ofInt (IntKind.bits .u32) ((2 ^ g.ids.length - 1:Nat):Int)).toNat:Int)=(ybm p g c:Int):=by
  have e:=u32_and (a:=ybm p g c) (b:=2 ^ g.ids.length - 1) (by omega) (by omega)
  rw[Nat.and_two_pow_sub_one_of_lt_two_pow hen]at e;exact e
 simp only[IntKind.bits]at ha;simp only[thenO,ycmk,clash,ha,go_sem,Nat.reduceEqDiff,Nat.reduceAdd,Nat.reduceLT,Nat.reduceBEq,↓reduceIte];have hB:=ybpk (e:=ybm p g c) (by omega)
 obtain⟨K0,hK0⟩:∃ K,ycz (ybm p g c)=K:=⟨_,rfl⟩;rw[hK0]at hB;refine hB.use ?_;simp only[ycdu,cntV,go_sem,Nat.reduceEqDiff,Nat.reduceAdd,↓reduceIte,reduceCtorEq];have hS:=ybnn hr1 hr2 (ybm p g c) K0;simp only[cntV]at hS;refine callM_of hS [(1,201),(3,203)] 200 [1,2,3,4,8,9,10,11,12] [4,8,10,12,205,206] ?_ ?_
 ·simp only[ycsw,to1,okN,famCln,yeo,keepF,keepO,allQ,live,yc,go_sem,Nat.reduceEqDiff,Nat.reduceAdd,Nat.reduceBEq,↓reduceIte,reduceCtorEq]
 ·rintro r o' ⟨rfl,rfl⟩;simp only[seeO,thenM,ykf,nuF,nu,difN,keepF,keepO,Fam.ren,OB.ren,dim,yqz,yiq,go_sem,Nat.reduceEqDiff,Nat.reduceAdd,Nat.reduceBEq,↓reduceIte,reduceCtorEq];simp only[yckl,ycet,splice,go_sem,Nat.reduceEqDiff,Nat.reduceAdd,Nat.reduceLeDiff,Nat.reduceLT,Nat.reduceMul,↓reduceIte,reduceCtorEq]
  let st:Nat->Conf × Cnt:=stAt (ybk p g) res ws c K0
  let en:Nat->Nat:=fun i=>ybm p g (st i).1
  let ch:Nat->Nat:=fun i=>res (en i) (ws.getD i 0)
  refine ybc (σ:=Nat) (fun i=>⟨[(40,.i .i64 i),(39,.i .i64 ws.length),(1,ybe (st i).1),(3,.fn 122 [] [.pt (205,0) 0 0,.pt (206,0) 0 0]),(4,.pt (4,0) 0 0),(8,.pt (8,0) 0 0),(9,.i .i64 0),(10,.pt (10,0) 0 0),(11,.i .u32 (en i)),(12,.pt (12,0) 0 0)],
   [(4,.one (some ⟨106,true,5,1,fun _=>ydg p g net kind⟩)),
    (8,.one (some ⟨110,true,8,1,fun _=>[.a (.slice none 0 0),.a (.slice none 0 0),.a (.slice none 0 0),.i .i64 0,.i .i64 0,.i .i64 0,.i .i64 0,.i .u32 0]⟩)),
    (10,.one (some ⟨110,true,8,1,fun _=>[.os (301,0) 0 i true,.os (302,0) 0 (i+1) true,.a (.slice none 0 0),.i .i64 0,.i .i64 0,.i .i64 0,.i .i64 0,.i .u32 0]⟩)),
    (301,.one (some ⟨44,false,1,i,fun j=>[.i .u32 (ch j)]⟩)),(302,.one (some ⟨44,false,1,i+1,fun j=>[.i .u32 (en j)]⟩)),
    (12,.one (some ⟨46,true,5,1,fun _=>cntV (st i).2⟩)),
    (201,.one (some ⟨30,true,1,1,fun _=>[.os (202,0) 0 (i+1) true]⟩)),(202,.one (some ⟨35,false,1,i+1,fun j=>[ybe (st j).1]⟩)),
    (203,.one (some ⟨31,true,1,1,fun _=>[.os (204,0) 0 (i+1) true]⟩)),(204,.one (some ⟨46,false,5,i+1,fun j=>cntV (st j).2⟩)),
    (205,.one (some ⟨106,true,5,1,fun _=>ydg p g net kind⟩)),(206,.one (some ⟨25,true,1,1,fun _=>[usV ws]⟩))]⟩)
   (fun i=>i<=ws.length/\(∀ j,j<i->en j ≠ 0)/\ydk p g (st i).1=true/\(st i).2.ok/\(st i).2.steps=i) (fun i=>ws.length - i) 0 ⟨Nat.zero_le _,fun j hj=>absurd hj (Nat.not_lt_zero j),hc,by show K0.ok;rw[<- hK0];exact ybuo (by omega),by show K0.steps=0;rw[<- hK0];rfl⟩ ?_ ?_
  ·refine ycm [(302,fun i=>(37,i))] [301] [] ?_;have st0:st 0=(c,K0):=rfl;have en0:en 0=ybm p g c:=rfl;simp only[ydg,yem,seeC,usV,cntV,st0,en0,allQ,live,yc,yw,Int.natCast_zero,go_sem,Nat.reduceEqDiff,Nat.reduceLeDiff,Nat.reduceBEq,↓reduceIte,reduceCtorEq];refine⟨fun i _=>⟨(301,0),rfl,?_⟩,?_⟩
   ·simp only[go_sem,go_sem,Nat.reduceEqDiff,↓reduceIte]
   refine⟨fun i hi=>?_,fun i hi=>?_,fun i hi=>?_⟩
   ·obtain rfl:i=0:=by omega
    simp only[Nat.zero_mul];simp only[en0,live,yc,go_sem,reduceCtorEq]
   ·obtain rfl:i=0:=by omega
    simp only[st0,List.getD_cons_zero,yc,go_sem]
   ·obtain rfl:i=0:=by omega
    simp only[st0,List.getD_cons_zero,go_sem]
  ·rintro i ⟨hi,hj,hci,hko,hks⟩;obtain⟨cr1,cr2⟩:=ymm h.hg h.hp hci;have cin:=yja h.hg h.hp hci;have eni:=ybvs p g (st i).1
   have fin:(i=ws.length\/en i=0)->(ybk p g).runs res ws c=mapR (i+1) st:=fun hq=>by
    have e:=ybie (ybk p g) res ws c i;rw[show(ybk p g).en c=ybm p g c from rfl,hK0]at e
    exact e hj hi hq
   simp only[ycgz,yckx,ybnc,ydg,yem,seeC,usV,cntV,go_sem,Nat.reduceEqDiff,Nat.reduceAdd,Nat.reduceLeDiff,Nat.reduceBEq,↓reduceIte,reduceCtorEq];refine⟨fun hlt=>.inl ?_,fun hlt=>?_⟩
   ·have hi':i<ws.length:=by omega
    by_cases h0:en i=0
    ·obtain⟨x,hF⟩:=ybck hd (.fn 91 [] [.rf [.sl 1 (i+1) fun j=>[ybe (st j).1]],.rf [.sl 5 (i+1) fun j=>cntV (st j).2]]) (.i .u32 (2 ^ g.ids.length - 1:Nat)) (yem p g) hw hi';simp only[yem,usV,cntV]at hF;simp only[h0,Int.natCast_zero];refine hF.use ?_;simp only[thenO,ybbb,ybbi,ybdz,go_sem,Nat.reduceEqDiff,Nat.reduceAdd,Nat.reduceLeDiff,↓reduceIte,reduceCtorEq];refine⟨by decide,?_⟩
     simp only[yfj,go_sem];refine⟨.tp [.ag (usV (mapR i ch) :: usV (mapR (i+1) en) :: ybe (st i).1 :: cntV (st i).2),.i .i64 0],O2,?_,?_,⟨_,_,_,_,rfl⟩,rfl⟩
     ·subst hO2;rw[fin (.inr h0)];refine ycm [] [] [(301,0),(302,0)] ?_;simp only[seeX,usV,cntV,ybhb,ywh,allQ,live,yc,yw,go_sem,Nat.reduceEqDiff,↓reduceIte,reduceCtorEq];refine⟨ycdf ⟨yny ⟨sim_sl fun q hq=>by rw[gmR _ _ _ _ hq],sim_sl fun q hq=>by rw[gmR _ _ _ _ hq],Sim.refl _,Sim.refl _,Sim.refl _,Sim.refl _,Sim.refl _,Sim.refl _,trivial⟩,Sim.refl _,trivial⟩,fun q hq=>?_,fun q hq=>?_⟩
      ·rw[gmR _ _ _ _ hq];exact Sim.refl _
      ·rw[gmR _ _ _ _ hq];exact⟨rfl,rfl,rfl,rfl,rfl⟩
     ·subst hO2;simp only[seeX,usV,cntV,famCln,yeo,allQ,live,go_sem,Nat.reduceEqDiff,↓reduceIte]
    ·have hen24:en i<2 ^ 24:=by show ybm p g (st i).1<_;omega
     have hF:=ybei hd (.fn 91 [] [.rf [.sl 1 (i+1) fun j=>[ybe (st j).1]],.rf [.sl 5 (i+1) fun j=>cntV (st j).2]]) (.i .u32 (2 ^ g.ids.length - 1:Nat)) (yem p g) hw hen24 h0 hi';obtain⟨hch0,hchs⟩:=hd.sub (en i) (ws.getD i 0) h0 hen24;have hP:=hd.permits (en i) (ws.getD i 0) hen24 h0 (hw i);have hch24:ch i<2 ^ 24:=ybqj hchs hen24;have hSt:=ybxf p h.hg h.hp cin (s:=ch i) (by omega) hchs
     obtain⟨d,hdd⟩:∃ d,ykp p g (st i).1 (ch i)=d:=⟨_,rfl⟩;rw[hdd]at hSt;have hcd:ydk p g d=true:=by rw[<- hdd];exact ytx h.hg h.hp h.hf hci (ch i)
     simp only[yem,usV,cntV]at hF hP;refine hF.use ?_;simp only[thenO,ybbb,ybqq,go_sem,Nat.reduceEqDiff,Nat.reduceAdd,Nat.reduceLeDiff,Nat.reduceBEq,↓reduceIte,reduceCtorEq];refine hP.use ?_;simp only[thenO,ybnf,go_sem,Nat.reduceEqDiff,Nat.reduceAdd,Nat.reduceLeDiff,Nat.reduceBEq,↓reduceIte,reduceCtorEq];refine hSt.useS ?_ ?_
     ·exact⟨ykx _ _,Sim.refl _,Sim.refl _,trivial⟩
     obtain⟨dr1,dr2⟩:=ymm h.hg h.hp hcd;have dcin:=yja h.hg h.hp hcd;have hE2:=yil p h.hg h.hp dcin;have hen2:=ybvs p g d;obtain⟨e2,he2⟩:∃ e,ybm p g d=e:=⟨_,rfl⟩;rw[he2]at hE2 hen2
     have ha2:IntKind.wrap .u32 (((BitVec.ofInt (IntKind.bits .u32) (e2:Int)) &&& BitVec.ofInt (IntKind.bits .u32) ((2 ^ g.ids.length - 1:Nat):Int)).toNat:Int)=(e2:Int):=by
      have e:=u32_and (a:=e2) (b:=2 ^ g.ids.length - 1) (by omega) (by omega)
      rw[Nat.and_two_pow_sub_one_of_lt_two_pow hen2]at e;exact e
     simp only[IntKind.bits]at ha2;simp only[thenO,ybmy,clash,go_sem,Nat.reduceEqDiff,Nat.reduceAdd,Nat.reduceLeDiff,Nat.reduceBEq,↓reduceIte,reduceCtorEq];refine hE2.useS ?_ ?_
     ·exact⟨ykx _ _,Sim.refl _,trivial⟩
     have hA:=ycpl hko (by omega) hch0 hch24 (e:=e2) (by omega)
     obtain⟨K2,hK2⟩:∃ K,addP (st i).2 (ch i) e2=K:=⟨_,rfl⟩;rw[hK2]at hA;simp only[cntV]at hA;simp only[thenO,ybsk,clash,ha2,go_sem,Nat.reduceEqDiff,Nat.reduceAdd,Nat.reduceBEq,↓reduceIte,reduceCtorEq];refine hA.use ?_;simp only[yble,go_sem,Nat.reduceEqDiff,Nat.reduceAdd,↓reduceIte,reduceCtorEq]
     let cs:List Conf:=(List.range (i+1)).map fun j=>(st j).1
     let ks:List Cnt:=(List.range (i+1)).map fun j=>(st j).2
     have lc:cs.length=i+1:=by simp[cs]
     have lk:ks.length=i+1:=by simp[ks]
     have hS2:=ybyq cs ks (by omega) (by omega) dr1 dr2 e2 K2
     simp only[cntV]at hS2;refine callM_of hS2 [(1,201),(2,202),(3,203),(4,204)] 400 [40,39,1,3,4,8,9,10,11,12,14] [4,8,10,301,302,12,205,206] ?_ ?_
     ·simp only[seeO,lc,lk,cntV,to1,okN,famCln,yeo,keepF,keepO,allQ,live,yc,yw,go_sem,Nat.reduceEqDiff,Nat.reduceAdd,Nat.reduceBEq,↓reduceIte,reduceCtorEq];refine⟨fun q hq=>?_,fun q hq=>?_⟩
      ·simp only[cs,gmr _ _ _ _ hq];exact Sim.refl _
      ·simp only[ks,gmr _ _ _ _ hq];exact⟨trivial,trivial,trivial,trivial,trivial⟩
     ·rintro r o' ⟨rfl,rfl⟩;simp only[seeO,cntV,List.length_append,lc,lk,thenM,ykf,nuF,nu,difN,keepF,keepO,Fam.ren,OB.ren,dim,ygl,yqz,yiq,go_sem,Nat.reduceEqDiff,Nat.reduceBEq,↓reduceIte];simp only[ybtk,ybtc,ybtn,splice,go_sem,Nat.reduceEqDiff,Nat.reduceAdd,Nat.reduceLeDiff,Nat.reduceLT,↓reduceIte,reduceCtorEq]
      have hst:st (i+1)=(d,K2):=by
       show stAt (ybk p g) res ws c K0 (i+1)=_;rw[ybal];show(ykp p g (st i).1 (ch i),addP (st i).2 (ch i) (ybm p g (ykp p g (st i).1 (ch i))))=_;rw[hdd,he2,hK2]
      have hen':en (i+1)=e2:=by
       show ybm p g (st (i+1)).1=_;rw[hst];exact he2
      refine⟨⟨by omega,by omega⟩,⟨by omega,by omega⟩,ikw (by omega) (by omega),?_⟩
      refine yh (i+1) ⟨by omega,fun j hj'=>?_,by rw[hst];exact hcd,by rw[hst,<- hK2];exact ycta hko hch24 hch0 (by omega),by rw[hst,<- hK2];show(st i).2.steps+1=i+1;omega⟩ (by omega) ?_
      ·by_cases q:j=i
       ·rw[q];exact h0
       ·exact hj j (by omega)
      refine ycm [(301,fun i=>(90,i)),(302,fun i=>(96,i))] [] [] ?_;simp only[hst,hen',allQ,live,yc,yw,go_sem,Nat.reduceEqDiff,Nat.reduceLeDiff,↓reduceIte,reduceCtorEq];have hcs:∀ k,k<i+1+1->(cs ++ [d]).getD k []=(st k).1:=ybuh (fun j=>(st j).1) (i+1) d [] (by rw[hst])
      have hksx:∀ k,k<i+1+1->(ks ++ [K2]).getD k default=(st k).2:=ybuh (fun j=>(st j).2) (i+1) K2 default (by rw[hst])
      refine⟨by omega,fun q hq=>?_,fun q hq=>?_,fun q hq=>?_,fun q hq=>?_⟩
      ·by_cases q1:q<i
       ·simp only[if_pos q1];simp only[go_sem,live,yc,go_sem,reduceCtorEq]
       ·obtain rfl:q=i:=by omega
        simp only[if_neg q1,Nat.sub_self,Nat.zero_mul];simp only[ch,live,yc,go_sem,reduceCtorEq]
      ·by_cases q1:q<i+1
       ·simp only[if_pos q1];simp only[go_sem,live,yc,go_sem,reduceCtorEq]
       ·obtain rfl:q=i+1:=by omega
        simp only[if_neg q1,Nat.sub_self,Nat.zero_mul];simp only[hen',live,yc,go_sem,reduceCtorEq]
      ·rw[hcs q hq];exact Sim.refl _
      ·rw[hksx q hq];exact⟨rfl,rfl,rfl,rfl,rfl⟩
   ·obtain rfl:i=ws.length:=by omega
    simp only[ybbi,ybdz,go_sem,Nat.reduceEqDiff,Nat.reduceAdd,Nat.reduceLeDiff,↓reduceIte,reduceCtorEq];refine⟨by decide,?_⟩
    simp only[yfj,go_sem];refine⟨.tp [.ag (usV (mapR ws.length ch) :: usV (mapR (ws.length+1) en) :: ybe (st ws.length).1 :: cntV (st ws.length).2),.i .i64 0],O2,?_,?_,⟨_,_,_,_,rfl⟩,rfl⟩
    ·subst hO2;rw[fin (.inl rfl)];refine ycm [] [] [(301,0),(302,0)] ?_;simp only[seeX,usV,cntV,ybhb,ywh,allQ,live,yc,yw,go_sem,Nat.reduceEqDiff,↓reduceIte,reduceCtorEq];refine⟨ycdf ⟨yny ⟨sim_sl fun q hq=>by rw[gmR _ _ _ _ hq],sim_sl fun q hq=>by rw[gmR _ _ _ _ hq],Sim.refl _,Sim.refl _,Sim.refl _,Sim.refl _,Sim.refl _,Sim.refl _,trivial⟩,Sim.refl _,trivial⟩,fun q hq=>?_,fun q hq=>?_⟩
     ·rw[gmR _ _ _ _ hq];exact Sim.refl _
     ·rw[gmR _ _ _ _ hq];exact⟨rfl,rfl,rfl,rfl,rfl⟩
    ·subst hO2;simp only[seeX,usV,cntV,famCln,yeo,allQ,live,go_sem,Nat.reduceEqDiff,↓reduceIte]
end
end Sh
end Go.Proofs.YtpngeppkgoaimaaGreatDoor

namespace Go.Proofs.YtpngeppkgoaimaaGreatDoor
open Go
namespace Sh
open Ev Go.RowKit
set_option maxRecDepth 8000
theorem Returns.exT{P:Program}{g:FuncId}{args:List SV}{r:SV}(h:Returns P g args r):Returns P g args (.ex TT r):=fun G m us h1 h2 h3=>by
 obtain⟨v,m',x,a,b,c,d,e⟩:=h G m us h1 h2 h3;exact⟨v,m',.ex TT r,a,b,c,rfl,.ex trivial (fun _ _ _ _ _=>trivial) (d ▸ e)⟩
section
variable {Q1 Q2:(Nat->Option ABlk)->Value->Prop} {p:ProgT} {g:Gr}
theorem ybqp(h:Checked Q1 Q2 p g){kind:Int}(hk:1<=kind/\kind<=4){c:Conf}(hc:ydk p g c=true){len:Nat}(hl:len<=4096):Returns Tryz.prog 89 [.ag (ydb Q1 Q2 p.raw),grV g,.i .i64 kind,ybe c,.i .i64 len] (.i .i64 0):=by
 refine Returns.of (ydah _ _ ?_);have hC:=yyx h c;rw[if_pos hc]at hC;have hD:=ybkq kind;rw[decide_eq_true hk.1,decide_eq_true hk.2]at hD;have f1:decide ((len:Int) > 4096)=false:=by simp;omega
 simp only[ydb,grV]at hC;simp only[c89,ydep,ydeo,ydb,grV,go_sem,Nat.reduceEqDiff,Nat.reduceAdd,Nat.reduceLT,↓reduceIte,reduceCtorEq];refine hC.use ?_;simp only[thenO,ydez,ydcd,Int.reduceBNe,go_sem,Nat.reduceEqDiff,Nat.reduceAdd,↓reduceIte,reduceCtorEq];refine hD.use ?_;simp only[ydgu,ycxi,f1,yw,Bool.and_self,go_sem,Nat.reduceEqDiff,Nat.reduceAdd,↓reduceIte,reduceCtorEq]
theorem ybjr(h:Checked Q1 Q2 p g):Returns Tryz.prog 64 [.ag (ylk p.raw),grV g] (yem p g):=by
 have hp':=h.hp;unfold ProgT.ok at hp';simp only[Bool.and_eq_true,decide_eq_true_eq]at hp';exact(ynu p.raw h.hg hp'.1.1.2 hp'.1.1.1.2).exT
theorem yyd(h:Checked Q1 Q2 p g)(kind:Int):Cm Tryz.prog 90 [(201,0),(203,0)] yki [.ag (ydb Q1 Q2 p.raw),grV g,.i .i64 kind,seeC] fun r o=>r = .ag (ydg p g (g.ports.map netP) kind)/\o=yki:=by
 refine ycur [(201,0),(203,0)] [] _ _ _ ?_;have hM:=ybjr h;have hN:=ybjg h.hg;have hA:=ycsr h.hg;simp only[grV]at hM hN hA;simp only[c90,yczo,ydav,ydb,grV,seeC,yki,clash,go_sem,Nat.reduceEqDiff,Nat.reduceAdd,Nat.reduceLT,↓reduceIte,reduceCtorEq];refine hM.useS ?_ ?_
 ·exact⟨yny ⟨Sim.refl _,ykx _ _,ykx _ _,trivial⟩,Sim.refl _,trivial⟩
 simp only[usV,yem]at hN ⊢;simp only[thenO,clash,go_sem,Nat.reduceEqDiff,Nat.reduceAdd,Nat.reduceLeDiff,↓reduceIte,reduceCtorEq];refine hN.use ?_;simp only[go_sem,Nat.reduceAdd,Nat.reduceLeDiff,↓reduceIte];refine⟨by decide,hA.use ?_⟩
 simp only[yfj,go_sem,Nat.reduceEqDiff,Nat.reduceAdd,↓reduceIte];refine⟨by decide,by decide,.ag (ydg p g (g.ports.map netP) kind),yki,?_,?_,rfl,rfl⟩
 ·refine ycm [] [] [] ?_;simp only[ydg,yem,usV,seeC,yki,allQ,live,yc,go_sem,Nat.reduceEqDiff,↓reduceIte,reduceCtorEq]
 ·simp only[ydg,yem,usV,seeC,yki,famCln,yeo,allQ,live,go_sem,Nat.reduceEqDiff,↓reduceIte]
theorem ybmi(h:Checked Q1 Q2 p g){kind:Int}{net:List Nat}{res:Nat->Nat->Nat}(hd:DaemonOk kind net res){c:Conf}(hc:ydk p g c=true){ws:List Nat}(hw:∀ k,ws.getD k 0<2 ^ 32)(hwl:ws.length<=4000) :
  Cm Tryz.prog 93 [(201,0),(203,0)] yki [.ag (ydg p g net kind),ybe c,usV ws]
   fun r o=>(∃ l1 l2 c' k',r = .tp [.ag (usV l1 :: usV l2 :: ybe c' :: cntV k'),.i .i64 0])/\o=seeX ((ybk p g).runs res ws c |>.map (·.1)) ((ybk p g).runs res ws c |>.map (·.2)):=by
 refine ycpp [(201,0),(203,0)] [121] _ _ _ ?_;have hX:=ybic h hd hc hw hwl
 generalize ((ybk p g).runs res ws c).map (·.1)=CS at hX ⊢
 generalize ((ybk p g).runs res ws c).map (·.2)=KS at hX ⊢
 simp only[c93,ydbr,ydhb,yki,ydg,yem,usV,seeC,go_sem,Nat.reduceEqDiff,Nat.reduceAdd,Nat.reduceLT,↓reduceIte,reduceCtorEq];refine callM_of hX [(201,201),(203,203),(205,3),(206,5)] 0 [6,7] [6] ?_ ?_
 ·simp only[yki,ybkx,ydg,yem,usV,seeC,List.cons_append,List.nil_append,to1,okN,famCln,yeo,keepF,keepO,allQ,live,yc,go_sem,Nat.reduceEqDiff,Nat.reduceAdd,Nat.reduceLeDiff,Nat.reduceBEq,↓reduceIte,reduceCtorEq]
 ·rintro r o' ⟨⟨l1,l2,c',k',rfl⟩,rfl⟩;simp only[seeX,usV,cntV,thenM,ykf,nuF,nu,difN,keepF,keepO,Fam.ren,OB.ren,dim,ygl,yxi,yqi,yqz,yiq,go_sem,Nat.reduceEqDiff,Nat.reduceAdd,Nat.reduceBEq,↓reduceIte,reduceCtorEq];simp only[yfj,go_sem];refine⟨.tp [.ag (usV l1 :: usV l2 :: ybe c' :: cntV k'),.i .i64 0],seeX CS KS,?_,?_,⟨l1,l2,c',k',rfl⟩,rfl⟩
  ·refine ycm [] [] [] ?_;simp only[seeX,usV,cntV,allQ,live,yc,go_sem,Nat.reduceEqDiff,↓reduceIte,reduceCtorEq]
  ·simp only[seeX,usV,cntV,famCln,yeo,allQ,live,go_sem,Nat.reduceEqDiff,↓reduceIte]
def yda(l:List Conf):SV:=.sl 1 l.length (fun i=>[ybe (l.getD i [])])
def yfu(l:List Cnt):SV:=.sl 5 l.length (fun i=>cntV (l.getD i default))
theorem ybsh(h:Checked Q1 Q2 p g){kind:Int}(hk:1<=kind/\kind<=4){res:Nat->Nat->Nat}(hd:DaemonOk kind (g.ports.map netP) res){c:Conf}(hc:ydk p g c=true){ws:List Nat}(hw:∀ k,ws.getD k 0<2 ^ 32)(hwl:ws.length<=4000) :
  Returns Tryz.prog 49 [.ag (ydb Q1 Q2 p.raw),grV g,.i .i64 kind,ybe c,usV ws] (.tp [yda (((ybk p g).runs res ws c).map (·.1)),yfu (((ybk p g).runs res ws c).map (·.2)),.i .i64 0]):=by
 refine Returns.of (ycuu [90,93] _ _ ?_);have hC:=ybqp h hk hc (len:=ws.length) (by omega)
 have hN:=yyd h kind;have hX:=ybmi h hd hc hw hwl
 generalize ((ybk p g).runs res ws c).map (·.1)=CS at hX ⊢
 generalize ((ybk p g).runs res ws c).map (·.2)=KS at hX ⊢
 simp only[ydb,grV]at hC;simp only[c49,ydad,ydcf,ydb,grV,usV,go_sem,Nat.reduceEqDiff,Nat.reduceAdd,Nat.reduceLT,Nat.reduceBEq,↓reduceIte,reduceCtorEq];refine hC.use ?_;simp only[thenO,yczs,ydbf,ycyl,ydbo,Int.reduceBNe,go_sem,Nat.reduceEqDiff,Nat.reduceAdd,Nat.reduceLT,↓reduceIte,reduceCtorEq];refine callM_of hN [(201,14),(203,15)] 0 [3,4,14,15] [] ?_ ?_
 ·simp only[yki,seeC,ydb,grV,to1,okN,famCln,yeo,keepF,keepO,allQ,live,yc,go_sem,Nat.reduceEqDiff,Nat.reduceAdd,↓reduceIte,reduceCtorEq]
 rintro r o' ⟨rfl,rfl⟩;simp only[yki,ydg,yem,usV,seeC,thenM,ykf,nuF,nu,difN,keepF,keepO,Fam.ren,OB.ren,dim,ygl,ycsi,yxi,ycmy,yqi,ycfh,ycfi,go_sem,Nat.reduceEqDiff,Nat.reduceAdd,Nat.reduceLT,Nat.reduceBEq,↓reduceIte,reduceCtorEq];simp only[ydgs,go_sem,Nat.reduceEqDiff,Nat.reduceAdd,Nat.reduceBEq,↓reduceIte,reduceCtorEq];simp only[ydg,yem,usV,seeC]at hX;refine callM_of hX [(201,14),(203,15)] 0 [14,15] [] ?_ ?_
 ·simp only[yki,to1,okN,famCln,yeo,keepF,keepO,allQ,live,yc,go_sem,Nat.reduceEqDiff,Nat.reduceAdd,↓reduceIte,reduceCtorEq]
 rintro r o' ⟨⟨l1,l2,c',k',rfl⟩,rfl⟩;simp only[seeX,cntV,thenM,ykf,nuF,nu,difN,keepF,keepO,Fam.ren,OB.ren,dim,ygl,yxi,yqi,yqz,yiq,go_sem,Nat.reduceEqDiff,Nat.reduceAdd,Nat.reduceLT,Nat.reduceBEq,↓reduceIte,reduceCtorEq];simp only[ydbn,yciz,clash,Int.reduceBNe,yda,yfu,go_sem,Nat.reduceEqDiff,Nat.reduceAdd,↓reduceIte,reduceCtorEq];exact Sim.refl _
end
end Sh
end Go.Proofs.YtpngeppkgoaimaaGreatDoor

namespace Go.Proofs.YtpngeppkgoaimaaGreatDoor
open Go
def ycb(v m:Int):Int:=if m<1 then 0 else v % m
def atP(l:List Int)(i:Nat):Int:=l.getD i 0
theorem ycn{v m:Int}(h:1<=m):0<=ycb v m/\ycb v m<m:=by
 unfold ycb;rw[if_neg (by omega)]
 exact⟨Int.emod_nonneg _ (by omega),Int.emod_lt_of_pos _ (by omega)⟩
namespace Sh
open Ev Go.RowKit
set_option maxRecDepth 8000
theorem ybeu{v m:Int}(h:1<=m):(if v.tmod m<0 then v.tmod m+m else v.tmod m)=v % m:=by
 have h1:=Int.emod_add_mul_ediv v m;have h2:=Int.emod_nonneg v (show m ≠ 0 by omega)
 have h3:=Int.emod_lt_of_pos v (show 0<m by omega)
 have h4:=Int.tmod_eq_emod (a:=v) (b:=m);have h5:(m.natAbs:Int)=m:=by omega
 rw[h4]
 by_cases q:0<=v\/m ∣ v
 ·simp only[if_pos q,Int.natCast_zero,Int.sub_zero];rw[if_neg (by omega)]
 ·simp only[if_neg q,h5];rw[if_pos (by omega)]
  omega
theorem ycp(v m:Int)(hm:m<=4611686018427387904)(hv:inK .i64 v):Returns Tryz.prog 44 [.i .i64 v,.i .i64 m] (.i .i64 (ycb v m)):=by
 refine Returns.of (ycwn _ _ ?_);simp only[c44,ydbm,ydfw,ydgn,ycxe,ydac,ydbp,yczp,yw,go_sem,Nat.reduceEqDiff,Nat.reduceAdd,↓reduceIte,reduceCtorEq];unfold ycb;refine⟨fun h=>by rw[if_pos h],fun h=>⟨by omega,fun h2=>?_,fun h2=>?_⟩⟩
 ·have h3:=ybeu (v:=v) (show 1<=m by omega)
  rw[if_pos h2]at h3;rw[if_neg h,h3];have h4:=Int.emod_nonneg v (show m ≠ 0 by omega)
  have h5:=Int.emod_lt_of_pos v (show 0<m by omega)
  exact⟨ikw (by omega) (by omega),rfl⟩
 ·have h3:=ybeu (v:=v) (show 1<=m by omega)
  rw[if_neg h2]at h3;rw[if_neg h,h3]
theorem at_ret(l:List Int)(i:Nat):Returns Tryz.prog 50 [yj l,.i .i64 i] (.i .i64 (atP l i)):=by
 refine Returns.of (ycxn _ _ ?_);simp only[c50,ydfx,ydff,ycwm,ycyf,yj,yw,go_sem,Nat.reduceEqDiff,Nat.reduceAdd,↓reduceIte,reduceCtorEq];exact⟨fun h=>⟨by omega,rfl⟩,fun h=>by unfold atP;rw[List.getD,List.getElem?_eq_none (by omega)];rfl⟩
theorem wrap32(z:Int):0<=IntKind.wrap .u32 z/\IntKind.wrap .u32 z<2 ^ 32:=by
 unfold IntKind.wrap;simp only[IntKind.signed,IntKind.bits];exact⟨Int.emod_nonneg _ (by decide),Int.emod_lt_of_pos _ (by decide)⟩
theorem yri{α:Type}(l:List α)(x d:α)(i:Nat):(l ++ [x]).getD i d=if i<l.length then l.getD i d else if i=l.length then x else d:=by
 by_cases h:i<l.length
 ·simp[List.getD,List.getElem?_append_left h,h]
 ·by_cases e:i=l.length
  ·subst e;simp[List.getD]
  ·rw[if_neg h,if_neg e,List.getD,List.getElem?_eq_none (by simp;omega)]
   rfl
theorem yiw(l:List Nat)(hb:∀ k,l.getD k 0<2 ^ 32)(n:Nat)(hn:n<=1000):Ct Tryz.prog 20 [usV l,.i .i64 n] fun r=>∃ ws:List Nat,ws.length=n/\(∀ k,ws.getD k 0<2 ^ 32)/\Sim r (usV ws):=by
 refine yczy _ _ ?_;simp only[c20,yddh,ydbt,ydcp,usV,go_sem,↓reduceIte];refine ybc (σ:=List Nat) (fun ws=>⟨[(6,.i .i64 ws.length),(1,.i .i64 n),(0,usV l),(5,.os (100,0) 0 ws.length true)],[(100,.one (some ⟨44,false,1,ws.length,fun k=>[.i .u32 (ws.getD k 0:Nat)]⟩))]⟩) (fun ws=>ws.length<=n /\ ∀ k,ws.getD k 0<2 ^ 32) (fun ws=>n - ws.length) [] ⟨Nat.zero_le _,fun k=>by simp⟩ ?_ ?_
 ·refine yg [] [100] [] ?_;simp only[usV,allQ,live,yc,Int.natCast_zero,go_sem,Nat.reduceEqDiff,↓reduceIte,reduceCtorEq];exact⟨(100,0),rfl,rfl,rfl⟩
 ·rintro ws ⟨h1,h2⟩;simp only[ydgx,ycxg,usV,go_sem,Nat.reduceEqDiff,Nat.reduceAdd,↓reduceIte,reduceCtorEq];refine⟨fun hlt=>⟨fun h0=>?_,fun h0=>?_⟩,fun hlt=>?_⟩
  ·simp only[ycry,ydcq,splice,go_sem,Nat.reduceEqDiff,Nat.reduceAdd,Nat.reduceLeDiff,Nat.reduceLT,↓reduceIte,reduceCtorEq];refine⟨⟨by omega,by omega⟩,ikw (by omega) (by omega),?_⟩
   refine yh (ws ++ [4294967295]) ⟨by simp;omega,fun k=>?_⟩ (by simp;omega) ?_
   ·rw[yri];split
    ·exact h2 k
    ·split<;>decide
   refine yg [(100,fun i=>(19,i))] [] [] ?_;simp only[List.length_append,allQ,live,yc,yw,go_sem,Nat.reduceEqDiff,↓reduceIte,reduceCtorEq];refine⟨by omega,fun i hi=>?_⟩
   rw[yri]
   by_cases q:i<ws.length
   ·simp only[if_pos q];simp only[live,yc,go_sem,reduceCtorEq]
   ·obtain rfl:i=ws.length:=by omega
    simp only[if_neg q,Nat.sub_self,Nat.zero_mul];simp only[live,yw,go_sem,↓reduceIte,reduceCtorEq];rfl
  ·simp only[yddn,yczi,clash,go_sem,Nat.reduceEqDiff,Nat.reduceAdd,↓reduceIte,reduceCtorEq];have hl0:0<l.length:=by omega
   have t1:(ws.length:Int).tmod (l.length:Int)=((ws.length % l.length:Nat):Int):=(Int.ofNat_tmod _ _).symm;have t2:(ws.length:Int).tdiv (l.length:Int)=((ws.length / l.length:Nat):Int):=(Int.ofNat_tdiv _ _).symm;have t3:((ws.length / l.length:Nat):Int).tmod 24=((ws.length / l.length % 24:Nat):Int):=(Int.ofNat_tmod _ 24).symm;have hlt1:=Nat.mod_lt ws.length hl0;have hle1:=Nat.div_le_self ws.length l.length
   obtain⟨D,hD⟩:∃ D,ws.length / l.length=D:=⟨_,rfl⟩;rw[hD]at t2 t3 hle1;obtain⟨K,hK⟩:∃ K,D % 24=K:=⟨_,rfl⟩;have hK24:K<24:=by rw[<- hK];exact Nat.mod_lt _ (by decide)
   have t4:IntKind.wrap .u64 (K:Int)=K:=by unfold IntKind.wrap;simp[IntKind.bits,IntKind.signed];omega
   simp only[t1,t2,t3,hK,t4]
   generalize IntKind.wrap .u32 _=A
   refine⟨by omega,⟨by omega,by omega⟩,⟨by omega,ikw (by omega) (by omega)⟩,by decide,?_⟩
   simp only[ycry,yday,splice,go_sem,Nat.reduceEqDiff,Nat.reduceAdd,Nat.reduceLeDiff,Nat.reduceLT,↓reduceIte,reduceCtorEq]
   generalize hZ:IntKind.wrap .u32 ((BitVec.toNat _:Nat):Int)=Z
   have hz:0<=Z/\Z<2 ^ 32:=by rw[<- hZ];exact wrap32 _
   obtain⟨z,rfl⟩:∃ z:Nat,Z=z:=⟨Z.toNat,by omega⟩
   refine⟨⟨by omega,by show _<((32:Nat):Int);omega⟩,⟨by simp[IntKind.min,IntKind.signed];omega,by simp[IntKind.max,IntKind.bits,IntKind.signed];omega⟩,⟨by omega,by show _<((32:Nat):Int);omega⟩,⟨by omega,by omega⟩,ikw (by omega) (by omega),?_⟩
   refine yh (ws ++ [z]) ⟨by simp;omega,fun k=>?_⟩ (by simp;omega) ?_
   ·rw[yri];split
    ·exact h2 k
    ·split<;>omega
   refine yg [(100,fun i=>(46,i))] [] [] ?_;simp only[List.length_append,allQ,live,yc,yw,go_sem,Nat.reduceEqDiff,↓reduceIte,reduceCtorEq];refine⟨by omega,fun i hi=>?_⟩
   rw[yri]
   by_cases q:i<ws.length
   ·simp only[if_pos q];simp only[live,yc,go_sem,reduceCtorEq]
   ·obtain rfl:i=ws.length:=by omega
    simp only[if_neg q,Nat.sub_self,Nat.zero_mul];simp only[live,yc,go_sem,↓reduceIte,reduceCtorEq]
  ·simp only[ycfm,go_sem,Nat.reduceEqDiff,Nat.reduceAdd,↓reduceIte,reduceCtorEq];exact⟨ws,by omega,h2,Sim.refl _⟩
end Sh
end Go.Proofs.YtpngeppkgoaimaaGreatDoor

namespace Go.Proofs.YtpngeppkgoaimaaGreatDoor
open Go
namespace Sh
open Ev Go.RowKit
set_option maxRecDepth 8000
def ysf(l:List Int)(k:Nat):Int:=(l.take k).foldl max 0
theorem ybwc{l:List Int}(h:∀ x ∈ l,0<=x/\x<=255):∀ k,0<=ysf l k/\ysf l k<=255:=by
 intro k;unfold ysf
 have:∀ (l:List Int) (a:Int),(∀ x ∈ l,0<=x/\x<=255)->0<=a/\a<=255->0<=l.foldl max a/\l.foldl max a<=255:=by
  intro l
  induction l with
  | nil=>intro a _ h;exact h
  | cons x l ih=>intro a hl ha;exact ih _ (fun y hy=>hl y (List.mem_cons_of_mem _ hy)) (by have:=hl x List.mem_cons_self;omega)
 exact this _ 0 (fun x hx=>h x (List.mem_of_mem_take hx)) (by omega)
theorem ybhk{l:List Int}{k:Nat}(hk:k<l.length):ysf l (k+1)=max (ysf l k) (l.getD k 0):=by
 unfold ysf;rw[List.take_succ_eq_append_getElem hk,List.foldl_append,getD_at hk];rfl
theorem ybus{l:List Int}(h:∀ x ∈ l,0<=x/\x<=255)(hl:0<l.length):ysf l l.length=maxI l:=by
 unfold ysf;rw[List.take_length];exact(yuw hl fun x hx=>(h x hx).1).symm
theorem ymv{vars:List VarR}{b:VarR->Int × Int}{L:List Int}(h:ydy ((vars.take L.length).map b) L)(hl:L.length<vars.length){y:Int}(hy:(b (vars.getD L.length default)).1<=y/\y<=(b (vars.getD L.length default)).2):ydy ((vars.take (L ++ [y]).length).map b) (L ++ [y]):=by
 refine⟨by simp;omega,fun i c x hb hx=>?_⟩
 rw[List.length_append,List.length_singleton,List.getElem?_map]at hb;have hi:i<L.length+1:=by have:=(List.getElem?_eq_some_iff.1 hx).1;simpa using this
 rw[List.getElem?_take_of_lt hi]at hb
 by_cases q:i<L.length
 ·rw[List.getElem?_append_left q]at hx;refine h.2 i c x ?_ hx;rw[List.getElem?_map,List.getElem?_take_of_lt q];exact hb
 ·obtain rfl:i=L.length:=by omega
  rw[List.getElem?_append_right (Nat.le_refl _),Nat.sub_self]at hx;cases hx
  rw[List.getElem?_eq_getElem hl]at hb;cases hb
  rw[getD_at hl]at hy;exact hy
section
variable {p:ProgT} {g:Gr}
theorem yjj(hg:yx g)(hp:p.ok=true)(hf:yuj p g=true){raw:List Int}(hr:∀ k,inK .i64 (raw.getD k 0)) :
  Ct Tryz.prog 18 [grV g,yct p.vars,yj raw] fun r=>∃ c,ydk p g c=true/\Sim r (ybe c):=by
 refine ydgw _ _ ?_;have hid:=hg.2.2.1;have h24:=hg.2.1;have h1:=hg.1;have hids:=hg.2.2.2.1;simp only[c18,yddu,yczk,ydfn,grV,yu,go_sem,Nat.reduceEqDiff,Nat.reduceAdd,Nat.reduceLT,↓reduceIte,reduceCtorEq];obtain⟨n,hn⟩:∃ n,g.ports.length=n:=⟨_,rfl⟩;refine ybc (σ:=Nat) (fun k=>⟨[(9,.i .i64 k),(8,.i .i64 (ysf g.ids k)),(7,.i .i64 n),(3,.pt (3,0) 0 0),(1,yct p.vars),(2,yj raw)],[(3,.one (some ⟨28,true,2,1,fun _=>[yj g.ids,yu g.ports]⟩))]⟩) (fun k=>k<=n) (fun k=>n - k) 0 (Nat.zero_le _) ?_ ?_
 ·refine yg [] [] [] ?_;simp only[yu,hn,allQ,live,yc,yw,Int.natCast_zero,go_sem,Nat.reduceEqDiff,↓reduceIte,reduceCtorEq];rfl
 ·intro k hk;have htop:=ybwc hids k;simp only[ycwv,ydba,yddm,ydaj,ydgo,yj,go_sem,Nat.reduceEqDiff,Nat.reduceAdd,Nat.reduceLeDiff,↓reduceIte,reduceCtorEq];refine⟨fun hlt=>?_,fun hlt=>?_⟩
  ·have hs:=ybhk (l:=g.ids) (k:=k) (by omega)
   refine⟨by omega,ikw (by omega) (by omega),?_⟩
   refine yh (k+1) (by omega) (by omega) ?_
   refine yg [] [] [] ?_;simp only[allQ,live,yc,yw,go_sem,Nat.reduceEqDiff,↓reduceIte,reduceCtorEq];exact⟨by omega,hs.symm⟩
  ·obtain rfl:k=n:=by omega
   have htm:ysf g.ids k=maxI g.ids:=by rw[<- hn,<- hid];exact ybus hids (by omega)
   rw[htm]at htop ⊢;obtain⟨top,htp⟩:∃ t,maxI g.ids=t:=⟨_,rfl⟩;rw[htp]at htop ⊢;obtain⟨nv,hnv⟩:∃ k,p.vars.length=k:=⟨_,rfl⟩;have hp':=hp;unfold ProgT.ok at hp';simp only[Bool.and_eq_true,decide_eq_true_eq]at hp'
   refine ybc (σ:=Conf) (fun C=>⟨[(11,.i .i64 C.length),(10,.os (300,0) 0 C.length true),(8,.i .i64 top),(7,.i .i64 k),(3,.pt (3,0) 0 0),(1,yct p.vars),(2,yj raw)],
    [(3,.one (some ⟨28,true,2,1,fun _=>[yj g.ids,yu g.ports]⟩)),(300,.one (some ⟨22,false,1,C.length,fun j=>[yj (C.getD j [])]⟩))]⟩)
    (fun C=>C.length<=k /\ ∀ v,v<C.length->ydy (p.vars.map (ybg g v)) (C.getD v [])) (fun C=>k - C.length) [] ⟨Nat.zero_le _,fun v hv=>absurd hv (Nat.not_lt_zero v)⟩ ?_ ?_
   ·refine yg [] [300] [] ?_;simp only[yj,yu,allQ,live,yc,Int.natCast_zero,go_sem,Nat.reduceEqDiff,Nat.reduceBEq,↓reduceIte,reduceCtorEq];exact⟨(300,0),rfl,rfl,rfl⟩
   ·rintro C ⟨hC1,hC2⟩;simp only[ydfv,ycgc,ycka,yj,go_sem,Nat.reduceEqDiff,Nat.reduceAdd,↓reduceIte,reduceCtorEq];refine⟨fun hlt=>?_,fun hlt=>?_⟩
    ·refine ybc (σ:=List Int) (fun L=>⟨[(13,.i .i64 L.length),(12,.os (301,0) 0 L.length true),(11,.i .i64 C.length),(10,.os (300,0) 0 C.length true),(8,.i .i64 top),(7,.i .i64 k),(3,.pt (3,0) 0 0),(1,yct p.vars),(2,yj raw)],
      [(301,.one (some ⟨3,false,1,L.length,fun j=>[.i .i64 (L.getD j 0)]⟩)),(3,.one (some ⟨28,true,2,1,fun _=>[yj g.ids,yu g.ports]⟩)),(300,.one (some ⟨22,false,1,C.length,fun j=>[yj (C.getD j [])]⟩))]⟩)
      (fun L=>L.length<=nv/\ydy ((p.vars.take L.length).map (ybg g C.length)) L) (fun L=>nv - L.length) [] ⟨Nat.zero_le _,rfl,fun i b x hb=>by simp at hb⟩ ?_ ?_
     ·refine yg [] [301] [] ?_;simp only[yj,yu,allQ,live,yc,Int.natCast_zero,go_sem,Nat.reduceEqDiff,Nat.reduceBEq,↓reduceIte,reduceCtorEq];exact⟨(301,0),rfl,rfl,rfl⟩
     ·rintro L ⟨hL1,hL2⟩;obtain⟨x,hx⟩:∃ x,p.vars.getD L.length default=x:=⟨_,rfl⟩;simp only[ycld,yceo,ychv,yj,yct,hnv,hx,varC,clash,go_sem,Nat.reduceEqDiff,Nat.reduceAdd,Nat.reduceLeDiff,↓reduceIte,reduceCtorEq];refine⟨fun hlt2=>?_,fun hlt2=>?_⟩
      ·have hLn:L.length<p.vars.length:=by omega
       have hxm:x ∈ p.vars:=by rw[<- hx,getD_at hLn];exact List.getElem_mem _
       have hxo:=List.all_eq_true.1 hp'.1.1.2 x hxm;have hvo:=ybdv hxo;obtain⟨hb1,hb2⟩:=ykv hg hxo;rw[hid,hn]at hb1;rw[htp]at hb2;have hbn:=ybgg hg hp hf hxm C.length;have hidx:(C.length:Int) * (nv:Int)+(L.length:Int)=((C.length * nv+L.length:Nat):Int):=by push_cast;rfl
       have hdeg:=hg.deg_lt (v:=C.length);have hmi:(C.length:Int) * (nv:Int)=((C.length * nv:Nat):Int):=by push_cast;rfl
       have hmul:C.length * nv<=24 * 6:=Nat.mul_le_mul (by omega) (by omega)
       have hAt:=at_ret raw (C.length * nv+L.length);have hav:inK .i64 (atP raw (C.length * nv+L.length)):=hr _;simp only[yj]at hAt;refine⟨by omega,by omega,by omega,ikw (by omega) (by omega),ikw (by omega) (by omega),by omega,ikw (by omega) (by omega),ikw (by omega) (by omega),by omega,?_⟩
       rcases hvo.1 with hkk | hkk | hkk
       ·have hbt:ybg g C.length x=(x.lo,x.hi+x.perNode * (k:Int)+x.perID * top):=by
         unfold ybg;rw[if_pos hkk,hid,hn,htp]
        rw[hbt]at hbn;simp only[]at hbn;simp only[hkk];simp only[ybez,ybfe,ybgh,ybft,ybfg,clash,Int.reduceBEq,hidx,go_sem,Nat.reduceEqDiff,Nat.reduceAdd,↓reduceIte,reduceCtorEq];refine⟨by rw[hmi];exact ikw (by omega) (by omega),ikw (by omega) (by omega),hAt.use ?_⟩
        simp only[thenO,go_sem,Nat.reduceEqDiff,Nat.reduceAdd,Nat.reduceLT,↓reduceIte,reduceCtorEq];have hW:=ycp (atP raw (C.length * nv+L.length)) (x.hi+x.perNode * (k:Int)+x.perID * top - (x.lo)+1) (by omega) hav
        obtain⟨w1,w2⟩:=ycn (v:=atP raw (C.length * nv+L.length)) (m:=x.hi+x.perNode * (k:Int)+x.perID * top - (x.lo)+1) (by omega)
        generalize ycb (atP raw (C.length * nv+L.length)) (x.hi+x.perNode * (k:Int)+x.perID * top - (x.lo)+1)=W at hW w1 w2
        refine⟨ikw (by omega) (by omega),ikw (by omega) (by omega),hW.use ?_⟩
        simp only[ybgn,go_sem,Nat.reduceEqDiff,Nat.reduceAdd,Nat.reduceLeDiff,↓reduceIte,reduceCtorEq];refine⟨ikw (by omega) (by omega),⟨by omega,by omega⟩,ikw (by omega) (by omega),?_⟩
        refine yh (L ++ [x.lo+W]) ⟨by simp;omega,ymv hL2 hLn (by rw[hx,hbt];exact⟨by simp only[];omega,by simp only[];omega⟩)⟩ (by simp;omega) ?_
        refine yg [(301,fun i=>(101,i))] [] [] ?_;simp only[yu,yba,hn,List.length_append,allQ,live,yc,yw,go_sem,Nat.reduceEqDiff,↓reduceIte,reduceCtorEq];refine⟨by omega,fun i hi=>?_⟩
        rw[yri]
        by_cases q:i<L.length
        ·simp only[if_pos q];simp only[live,yc,go_sem,reduceCtorEq]
        ·obtain rfl:i=L.length:=by omega
         simp only[if_neg q,Nat.sub_self,Nat.zero_mul];simp only[live,yc,go_sem,↓reduceIte,reduceCtorEq]
       ·have hbt:ybg g C.length x=(0,1):=by
         unfold ybg;rw[if_neg (by omega),if_pos hkk]
        rw[hbt]at hbn;simp only[]at hbn;simp only[hkk];simp only[ybez,ybfe,ybgh,ybft,ybfg,clash,hidx,go_sem,Nat.reduceEqDiff,Nat.reduceAdd,↓reduceIte,reduceCtorEq];refine⟨by rw[hmi];exact ikw (by omega) (by omega),ikw (by omega) (by omega),hAt.use ?_⟩
        simp only[thenO,go_sem,Nat.reduceEqDiff,Nat.reduceAdd,Nat.reduceLT,↓reduceIte,reduceCtorEq];have hW:=ycp (atP raw (C.length * nv+L.length)) (1 - (0)+1) (by omega) hav
        obtain⟨w1,w2⟩:=ycn (v:=atP raw (C.length * nv+L.length)) (m:=1 - (0)+1) (by omega)
        generalize ycb (atP raw (C.length * nv+L.length)) (1 - (0)+1)=W at hW w1 w2
        refine⟨ikw (by omega) (by omega),ikw (by omega) (by omega),hW.use ?_⟩
        simp only[ybgn,go_sem,Nat.reduceEqDiff,Nat.reduceAdd,Nat.reduceLeDiff,↓reduceIte,reduceCtorEq];refine⟨ikw (by omega) (by omega),⟨by omega,by omega⟩,ikw (by omega) (by omega),?_⟩
        refine yh (L ++ [0+W]) ⟨by simp;omega,ymv hL2 hLn (by rw[hx,hbt];exact⟨by simp only[];omega,by simp only[];omega⟩)⟩ (by simp;omega) ?_
        refine yg [(301,fun i=>(101,i))] [] [] ?_;simp only[yu,yba,hn,List.length_append,allQ,live,yc,yw,go_sem,Nat.reduceEqDiff,↓reduceIte,reduceCtorEq];refine⟨by omega,fun i hi=>?_⟩
        rw[yri]
        by_cases q:i<L.length
        ·simp only[if_pos q];simp only[live,yc,go_sem,reduceCtorEq]
        ·obtain rfl:i=L.length:=by omega
         simp only[if_neg q,Nat.sub_self,Nat.zero_mul];simp only[live,yc,go_sem,↓reduceIte,reduceCtorEq]
       ·have hbt:ybg g C.length x=(-1,((g.ports.getD C.length []).length:Int) - 1):=by
         unfold ybg;rw[if_neg (by omega),if_neg (by omega),if_pos hkk]
        rw[hbt]at hbn;simp only[]at hbn;simp only[hkk];simp only[ybez,ybfe,ybgh,ybft,ybfg,clash,Int.reduceBEq,hidx,yu,yba,hn,go_sem,Nat.reduceEqDiff,Nat.reduceAdd,↓reduceIte,reduceCtorEq];refine⟨by omega,ikw (by omega) (by omega),by rw[hmi];exact ikw (by omega) (by omega),ikw (by omega) (by omega),hAt.use ?_⟩
        simp only[thenO,go_sem,Nat.reduceEqDiff,Nat.reduceAdd,Nat.reduceLT,↓reduceIte,reduceCtorEq];have hW:=ycp (atP raw (C.length * nv+L.length)) (((g.ports.getD C.length []).length:Int) - 1 - (-1)+1) (by omega) hav
        obtain⟨w1,w2⟩:=ycn (v:=atP raw (C.length * nv+L.length)) (m:=((g.ports.getD C.length []).length:Int) - 1 - (-1)+1) (by omega)
        generalize ycb (atP raw (C.length * nv+L.length)) (((g.ports.getD C.length []).length:Int) - 1 - (-1)+1)=W at hW w1 w2
        refine⟨ikw (by omega) (by omega),ikw (by omega) (by omega),hW.use ?_⟩
        simp only[ybgn,go_sem,Nat.reduceEqDiff,Nat.reduceAdd,Nat.reduceLeDiff,↓reduceIte,reduceCtorEq];refine⟨ikw (by omega) (by omega),⟨by omega,by omega⟩,ikw (by omega) (by omega),?_⟩
        refine yh (L ++ [-1+W]) ⟨by simp;omega,ymv hL2 hLn (by rw[hx,hbt];exact⟨by simp only[];omega,by simp only[];omega⟩)⟩ (by simp;omega) ?_
        refine yg [(301,fun i=>(101,i))] [] [] ?_;simp only[List.length_append,allQ,live,yc,yw,go_sem,Nat.reduceEqDiff,↓reduceIte,reduceCtorEq];refine⟨by omega,fun i hi=>?_⟩
        rw[yri]
        by_cases q:i<L.length
        ·simp only[if_pos q];simp only[live,yc,go_sem,reduceCtorEq]
        ·obtain rfl:i=L.length:=by omega
         simp only[if_neg q,Nat.sub_self,Nat.zero_mul];simp only[live,yc,go_sem,↓reduceIte,reduceCtorEq]
      ·have hLe:L.length=nv:=by omega
       rw[hLe,<- hnv,List.take_length]at hL2;simp only[ycyy,ycdl,splice,go_sem,Nat.reduceEqDiff,Nat.reduceAdd,Nat.reduceLeDiff,Nat.reduceLT,↓reduceIte,reduceCtorEq];refine⟨⟨by omega,by omega⟩,ikw (by omega) (by omega),?_⟩
       refine yh (C ++ [L]) ⟨by simp;omega,fun v hv=>?_⟩ (by simp;omega) ?_
       ·rw[yri];split
        ·exact hC2 v (by assumption)
        ·have:v=C.length:=by simp at hv;omega
         subst this;rw[if_pos rfl];exact hL2
       refine yg [(300,fun i=>(105,i))] [] [(301,0)] ?_;simp only[yu,yba,hn,List.length_append,allQ,live,yc,yw,go_sem,Nat.reduceEqDiff,Nat.reduceLeDiff,↓reduceIte,reduceCtorEq];refine⟨by omega,fun i hi=>?_⟩
       have e:=yri C L [] i;rw[e]
       by_cases q:i<C.length
       ·simp only[if_pos q];simp only[go_sem,live,yc,go_sem,reduceCtorEq]
       ·obtain rfl:i=C.length:=by omega
        simp only[if_neg q,Nat.sub_self,Nat.zero_mul,if_true];simp only[go_sem,live,yc,go_sem,Nat.reduceEqDiff,↓reduceIte,reduceCtorEq]
    ·simp only[ycon,go_sem,Nat.reduceEqDiff,Nat.reduceAdd,↓reduceIte,reduceCtorEq];refine⟨C,(yft _ _ _).2 ⟨by omega,fun v st hst=>?_⟩,Sim.refl _⟩
     have hv:=(List.getElem?_eq_some_iff.1 hst).1;have:=hC2 v hv
     rwa [List.getD,hst]at this
end
end Sh
end Go.Proofs.YtpngeppkgoaimaaGreatDoor

namespace Go.Proofs.YtpngeppkgoaimaaGreatDoor
open Go
namespace Sh
open Ev Go.RowKit
set_option maxRecDepth 8000
def blV(l:List Bool):SV:=.sl 1 l.length (fun k=>[.b (l.getD k false)])
def ycak(l:List Bool)(k:Nat):Bool:=(l.take k).any id
structure HeldOk(legit:List Bool)(ks:List Cnt)(rounds moves:Int)(ended:Bool):Prop where
 len:legit.length=ks.length
 pos:0<legit.length
 stays:∀ i,i<legit.length->ycak legit i=true->legit.getD i false=true
 rounds:∀ i,i<legit.length->ycak legit (i+1)=false->((ks.getD i default).begun:Int)<=rounds
 moves:∀ i,i<legit.length->ycak legit (i+1)=false->0<=moves->((ks.getD i default).moves:Int)<=moves
 ends:ycak legit legit.length=true\/ended=false
def ynq(kind:Int)(fair silent:Bool)(rounds moves:Int):List SV:=[.i .i64 kind,.b fair,.b silent,.i .i64 rounds,.i .i64 moves]
theorem yvq{Q1 Q2:(Nat->Option ABlk)->Value->Prop}{p:ProgT}{g:Gr}{t:ByteArray}(hpr:Returns Tryz.prog 25 [.a (.string t)] (.ag (ydb Q1 Q2 p.raw)))(h:Checked Q1 Q2 p g){kind:Int}(hk:1<=kind/\kind<=4){res:Nat->Nat->Nat}(hd:DaemonOk kind (g.ports.map netP) res){c:Conf}(hc:ydk p g c=true){ws:List Nat}(hw:∀ k,ws.getD k 0<2 ^ 32)(hwl:ws.length<=4000) :
  Returns Tryz.prog 16 [.a (.string t),grV g,.i .i64 kind,ybe c,usV ws] (.tp [yda (((ybk p g).runs res ws c).map (·.1)),yfu (((ybk p g).runs res ws c).map (·.2)),.b true]):=by
 refine Returns.of (ydai _ _ ?_);have hX:=ybsh h hk hd hc hw hwl;obtain⟨R,hR⟩:∃ R,(ybk p g).runs res ws c=R:=⟨_,rfl⟩;rw[hR]at hX ⊢;have hRl:0<R.length:=by rw[<- hR];simp[Sys.runs]
 obtain⟨m,hm⟩:∃ m,R.length=m:=⟨_,rfl⟩;rw[hm]at hRl;have f1:((m:Int) == (m:Int))=true:=by simp
 have f2:decide ((m:Int) > 0)=true:=by simp;omega
 simp only[ydb]at hpr hX;simp only[grV,usV,yda,yfu,List.length_map,hm]at hX;simp only[c16,ydei,ycyv,grV,usV,clash,go_sem,Nat.reduceAdd,Nat.reduceLT,↓reduceIte,reduceCtorEq];refine hpr.use ?_;simp only[thenO,clash,go_sem,Nat.reduceEqDiff,Nat.reduceAdd,↓reduceIte,reduceCtorEq];refine hX.use ?_;simp(maxSteps:=5000000) only [ydgy,clash,f1,f2,go_sem,Nat.reduceEqDiff,Nat.reduceAdd,↓reduceIte,reduceCtorEq]
 refine⟨by decide,?_⟩
 unfold yda yfu;rw[List.length_map,List.length_map,hm];exact Sim.refl _
end Sh
end Go.Proofs.YtpngeppkgoaimaaGreatDoor

namespace Go.Proofs.YtpngeppkgoaimaaGreatDoor
namespace Sh
open Go Ev
def ydcr:LO:=[o3 (.box 28 (.tmp 0)) 3 0,o3 (.mv (.const (.slice none 0 0))) 6 0]
def ydcc:LO:=[mv' 1 10 0,ln' 10 11 1,o3 (.mk 3 1 8 [.i .i64 0] (.tmp 11) (.tmp 11)) 12 3,mv' 12 7 7]
def ydgr:LO:=[mv' 1 13 0,ln' 13 14 1,o3 (.mv (ci' 0)) 15 0]
def ybze:LO:=[bn' .lss 15 14 16 0]
def ycro:LO:=[mv' 15 17 0,ix' 1 13 15 18 0,ld' false 1 18 19 2,mv' 17 8 7,mv' 19 9 15]
def ycrt:LO:=[mv' 7 20 0,mv' 8 21 0,ix' 1 20 21 22 3,o0 (.store 1 (.tmp 22) (.const (.int .i64 (-1)))) 7]
def ycwf:LO:=[mv' 9 23 0,mv' 2 24 0,ix' 1 23 24 25 3,ld' false 1 25 26 7,o3 (.bin .geq (.tmp 26) (ci' 0)) 27 15]
def ycxl:LO:=[mv' 7 28 0,mv' 8 29 0,fa' 1 1 3 30 0,ld' false 1 30 31 4,mv' 8 32 0,ix' 1 31 32 33 28,ld' false 1 33 34 60,mv' 9 35 0,mv' 2 36 0,ix' 1 35 36 37 384,ld' false 1 37 38 896,ix' 2 34 38 39 2044,fa' 0 1 39 40 4092,ld' false 1 40 41 8188,ix' 1 28 29 42 16383,o0 (.store 1 (.tmp 42) (.tmp 41)) 32767]
def yctk:LO:=[o3 (.bin .add (.tmp 15) (ci' 1)) 43 0,mv' 43 15 1]
def ydgc:LO:=[mv' 7 44 0,mv' 44 6 1]
def c70:SC:=(.seq (.reg false ydcr) (.seq (.reg false ydcc) (.seq (.seq (.reg false ydgr) (.block 0 (.loop (.seq (.reg false ybze) (.seq (.cond (.tmp 16) .skip (.exit 0)) (.seq (.block 1 (.seq (.reg false ycro) (.seq (.reg false ycrt) (.seq (.reg false ycwf) (.cond (.tmp 27) (.reg true ycxl) .skip))))) (.reg false yctk))))))) (.seq (.reg false ydgc) .ret))))
theorem ydbe:Fn 70 c70 [.t 6]:=fn_0 Tryz.func70 (by kernel_rfl) (by kernel_rfl)
def ydgp:LO:=[o3 (.box 28 (.tmp 0)) 2 0,o3 (.mv (.const (.slice none 0 0))) 4 0]
def yddt:LO:=[ld' true 2 2 11 0,cl' 53 [11] 12 1,o3 (.un .not (.tmp 12)) 13 3,mv' 13 14 7,⟨.mv (.tmp 1),some 15,some (14,false),15⟩,⟨.faddr 1 1 (.tmp 2),some 16,some (14,false),15⟩,⟨.load false 1 (.tmp 16),some 17,some (14,false),47⟩,⟨.len (.tmp 17),some 18,some (14,false),111⟩,⟨.bin .sub (.tmp 18) (ci' 1),some 19,some (14,false),239⟩,⟨.call (.func 54) [(.tmp 15),(ci' 0),(.tmp 19)],some 20,some (14,false),511⟩,⟨.un .not (.tmp 20),some 21,some (14,false),1023⟩,o3 (.pick (.tmp 14) (.const (.bool true)) (.tmp 21)) 22 2047]
def ydhs:LO:=[o3 (.mv (.const (.slice none 0 0))) 4 0]
def ycza:LO:=[fa' 1 1 2 23 0,ld' false 1 23 24 1,ln' 24 25 3,mv' 25 5 7]
def ydbi:LO:=[o3 (.mv (.const (.slice none 0 0))) 6 0]
def ydbs:LO:=[o3 (.mv (ci' 0)) 7 0]
def ycuy:LO:=[mv' 7 26 0,mv' 5 27 0,bn' .lss 26 27 28 3]
def ydcu:LO:=[mv' 6 31 0,o3 (.bslice 3 1 1 [.i .i64 0] [(0,1,(.const (.int .i64 (-1))))]) 32 0,o3 (.app 3 1 8 (.tmp 31) (.tmp 32)) 33 3,mv' 33 6 7]
def ydhe:LO:=[mv' 7 29 0,o3 (.bin .add (.tmp 29) (ci' 1)) 30 1,mv' 30 7 3]
def ycwp:LO:=[mv' 6 34 0,mv' 1 35 0,ix' 1 34 35 36 3,o0 (.store 1 (.tmp 36) (ci' 0)) 7]
def ycdw:LO:=[o3 (.mv (ci' 1)) 8 0]
def ybll:LO:=[mv' 8 37 0,mv' 5 38 0,bn' .lss 37 38 39 3]
def ycjv:LO:=[o3 (.mv (ci' 0)) 9 0]
def ybou:LO:=[mv' 9 42 0,mv' 5 43 0,bn' .lss 42 43 44 3]
def ycdg:LO:=[o3 (.mv (ci' 0)) 10 0]
def ybgc:LO:=[mv' 10 47 0,fa' 1 1 2 48 0,ld' false 1 48 49 2,mv' 9 50 0,ix' 1 49 50 51 14,ld' false 1 51 52 30,ln' 52 53 62,bn' .lss 47 53 54 127,mv' 54 55 255,⟨.mv (.tmp 6),some 56,some (55,true),511⟩,⟨.mv (.tmp 9),some 57,some (55,true),511⟩,⟨.idx 1 (.tmp 56) (.tmp 57),some 58,some (55,true),2047⟩,⟨.load false 1 (.tmp 58),some 59,some (55,true),4095⟩,⟨.bin .lss (.tmp 59) (ci' 0),some 60,some (55,true),8191⟩,o3 (.pick (.tmp 55) (.tmp 60) (.const (.bool false))) 61 16383]
def ycib:LO:=[mv' 6 64 0,fa' 1 1 2 65 0,ld' false 1 65 66 2,mv' 9 67 0,ix' 1 66 67 68 14,ld' false 1 68 69 30,mv' 10 70 0,ix' 2 69 70 71 126,fa' 0 1 71 72 254,ld' false 1 72 73 510,ix' 1 64 73 74 1023,ld' false 1 74 75 2047,mv' 8 76 0,o3 (.bin .sub (.tmp 76) (ci' 1)) 77 4096,bn' .eql 75 77 78 16383]
def yckg:LO:=[mv' 6 79 0,mv' 9 80 0,mv' 8 81 0,ix' 1 79 80 82 7,o0 (.store 1 (.tmp 82) (.tmp 81)) 15]
def ybqu:LO:=[mv' 10 62 0,o3 (.bin .add (.tmp 62) (ci' 1)) 63 1,mv' 63 10 3]
def ybne:LO:=[mv' 9 45 0,o3 (.bin .add (.tmp 45) (ci' 1)) 46 1,mv' 46 9 3]
def ycim:LO:=[mv' 8 40 0,o3 (.bin .add (.tmp 40) (ci' 1)) 41 1,mv' 41 8 3]
def ycjk:LO:=[mv' 6 83 0,mv' 83 4 1]
def c23:SC:=(.seq (.reg false ydgp) (.seq (.seq (.reg false yddt) (.cond (.tmp 22) (.seq (.reg false ydhs) .ret) .skip)) (.seq (.reg false ycza) (.seq (.reg false ydbi) (.seq (.seq (.reg false ydbs) (.block 0 (.loop (.seq (.seq (.reg false ycuy) (.cond (.tmp 28) .skip (.exit 0))) (.seq (.block 1 (.reg false ydcu)) (.reg false ydhe)))))) (.seq (.reg false ycwp) (.seq (.seq (.reg false ycdw) (.block 2 (.loop (.seq (.seq (.reg false ybll) (.cond (.tmp 39) .skip (.exit 2))) (.seq (.block 3 (.seq (.reg false ycjv) (.block 4 (.loop (.seq (.seq (.reg false ybou) (.cond (.tmp 44) .skip (.exit 4))) (.seq (.block 5 (.seq (.reg false ycdg) (.block 6 (.loop (.seq (.seq (.reg false ybgc) (.cond (.tmp 61) .skip (.exit 6))) (.seq (.block 7 (.seq (.reg false ycib) (.cond (.tmp 78) (.reg false yckg) .skip))) (.reg false ybqu))))))) (.reg false ybne))))))) (.reg false ycim)))))) (.seq (.reg false ycjk) .ret))))))))
theorem ydbh:Fn 23 c23 [.t 4]:=fn_0 Tryz.func23 (by kernel_rfl) (by kernel_rfl)
def c7_0:LO:=[o3 (.box 24 (.tmp 0)) 3 0,o3 (.mv (.const (.bool false))) 6 0]
def c7_1:LO:=[ld' true 6 3 16 0,o3 (.call (.func 15) [(.tmp 16),(ci' 8)]) 17 1,o3 (.alloc 28 1 [.a (.slice none 0 0),.a (.slice none 0 0)]) 7 0,o0 (.store 2 (.tmp 7) (.tmp 17)) 7]
def c7_2:LO:=[cl' 32 [] 19 0,ld' true 2 7 20 0,ld' true 2 7 21 0,cl' 33 [] 22 1,mv' 1 23 0,cl' 18 [21,22,23] 24 29,mv' 2 25 0,o3 (.call (.func 20) [(.tmp 25),(ci' 120)]) 26 125,o3 (.call (.func 16) [(.tmp 19),(.tmp 20),(ci' 3),(.tmp 24),(.tmp 26)]) 27 255,mv' 27 18 511,xt' 18 0 28 1023,xt' 18 1 29 1023,xt' 18 2 30 1023,mv' 28 8 2047,mv' 29 9 12287,mv' 30 10 32767]
def c7_3:LO:=[ld' true 2 7 31 0,o3 (.call (.func 23) [(.tmp 31),(ci' 0)]) 32 1,mv' 32 11 3]
def c7_4:LO:=[mv' 10 33 0,o3 (.un .not (.tmp 33)) 34 1]
def c7_5:LO:=[o3 (.mv (.const (.bool false))) 6 0]
def c7_6:LO:=[o3 (.mv (ci' 0)) 12 0]
def c7_7:LO:=[mv' 12 35 0,mv' 8 36 0,ln' 36 37 2,bn' .lss 35 37 38 7]
def c7_9:LO:=[o3 (.mv (ci' 0)) 13 0]
def ydjv:LO:=[mv' 13 41 0,mv' 11 42 0,ln' 42 43 2,bn' .lss 41 43 44 7,mv' 44 45 15,⟨.mv (.tmp 9),some 46,some (45,true),31⟩,⟨.mv (.tmp 12),some 47,some (45,true),31⟩,⟨.idx 5 (.tmp 46) (.tmp 47),some 48,some (45,true),127⟩,⟨.faddr 2 1 (.tmp 48),some 49,some (45,true),255⟩,⟨.load false 1 (.tmp 49),some 50,some (45,true),511⟩,⟨.bin .gtr (.tmp 50) (ci' 0),some 51,some (45,true),1023⟩,o3 (.pick (.tmp 45) (.tmp 51) (.const (.bool false))) 52 2047]
def ydjj:LO:=[mv' 8 55 0,mv' 12 56 0,ix' 1 55 56 57 3,ld' false 1 57 58 7,ln' 58 59 15,mv' 11 60 0,ln' 60 61 32,bn' .neq 59 61 62 127,mv' 62 63 255,⟨.mv (.tmp 8),some 64,some (63,false),511⟩,⟨.mv (.tmp 12),some 65,some (63,false),511⟩,⟨.idx 1 (.tmp 64) (.tmp 65),some 66,some (63,false),2047⟩,⟨.load false 1 (.tmp 66),some 67,some (63,false),4095⟩,⟨.mv (.tmp 13),some 68,some (63,false),511⟩,⟨.idx 1 (.tmp 67) (.tmp 68),some 69,some (63,false),16383⟩,⟨.load false 1 (.tmp 69),some 70,some (63,false),32767⟩,⟨.len (.tmp 70),some 71,some (63,false),65535⟩,⟨.bin .neq (.tmp 71) (ci' 2),some 72,some (63,false),131071⟩,o3 (.pick (.tmp 63) (.const (.bool true)) (.tmp 72)) 73 262143]
def ydjb:LO:=[o3 (.mv (.const (.bool false))) 6 0]
def ydho:LO:=[mv' 8 74 0,mv' 12 75 0,ix' 1 74 75 76 3,ld' false 1 76 77 7,mv' 13 78 0,ix' 1 77 78 79 31,ld' false 1 79 80 63,o3 (.idx 1 (.tmp 80) (ci' 0)) 81 127,ld' false 1 81 82 255,mv' 9 83 0,mv' 12 84 0,ix' 5 83 84 85 1536,fa' 2 1 85 86 3584,ld' false 1 86 87 7680,mv' 82 14 511,mv' 87 15 32767]
def ydhg:LO:=[mv' 11 88 0,mv' 13 89 0,ix' 1 88 89 90 3,ld' false 1 90 91 7,mv' 15 92 0,bn' .lss 91 92 93 31,mv' 93 94 63,⟨.mv (.tmp 14),some 95,some (94,true),127⟩,⟨.mv (.tmp 11),some 96,some (94,true),127⟩,⟨.mv (.tmp 13),some 97,some (94,true),127⟩,⟨.idx 1 (.tmp 96) (.tmp 97),some 98,some (94,true),895⟩,⟨.load false 1 (.tmp 98),some 99,some (94,true),1919⟩,⟨.bin .neq (.tmp 95) (.tmp 99),some 100,some (94,true),4095⟩,o3 (.pick (.tmp 94) (.tmp 100) (.const (.bool false))) 101 8191,mv' 101 102 16383,⟨.mv (.tmp 11),some 103,some (102,false),32767⟩,⟨.mv (.tmp 13),some 104,some (102,false),32767⟩,⟨.idx 1 (.tmp 103) (.tmp 104),some 105,some (102,false),131071⟩,⟨.load false 1 (.tmp 105),some 106,some (102,false),262143⟩,⟨.mv (.tmp 15),some 107,some (102,false),32767⟩,⟨.bin .geq (.tmp 106) (.tmp 107),some 108,some (102,false),1048575⟩,⟨.mv (.tmp 108),some 109,some (102,false),2097151⟩,⟨.mv (.tmp 14),some 110,some (109,true),4194303⟩,⟨.mv (.tmp 15),some 111,some (109,true),4194303⟩,⟨.bin .lss (.tmp 110) (.tmp 111),some 112,some (109,true),16777215⟩,⟨.pick (.tmp 109) (.tmp 112) (.const (.bool false)),some 113,some (102,false),33554431⟩,o3 (.pick (.tmp 102) (.const (.bool true)) (.tmp 113)) 114 67108863]
def ydhv:LO:=[o3 (.mv (.const (.bool false))) 6 0]
def ydjd:LO:=[mv' 13 53 0,o3 (.bin .add (.tmp 53) (ci' 1)) 54 1,mv' 54 13 3]
def c7_8:LO:=[mv' 12 39 0,o3 (.bin .add (.tmp 39) (ci' 1)) 40 1,mv' 40 12 3]
def ydji:LO:=[cl' 34 [] 115 0,mv' 115 6 1]
def c7:SC:=(.seq (.reg false c7_0) (.seq (.reg false c7_1) (.seq (.reg true c7_2) (.seq (.reg false c7_3) (.seq (.seq (.reg false c7_4) (.cond (.tmp 34) (.seq (.reg false c7_5) .ret) .skip)) (.seq (.seq (.reg false c7_6) (.block 0 (.loop (.seq (.seq (.reg false c7_7) (.cond (.tmp 38) .skip (.exit 0))) (.seq (.block 1 (.seq (.reg false c7_9) (.block 2 (.loop (.seq (.seq (.reg false ydjv) (.cond (.tmp 52) .skip (.exit 2))) (.seq (.block 3 (.seq (.seq (.reg false ydjj) (.cond (.tmp 73) (.seq (.reg false ydjb) .ret) .skip)) (.seq (.reg true ydho) (.seq (.reg false ydhg) (.cond (.tmp 114) (.seq (.reg false ydhv) .ret) .skip))))) (.reg false ydjd))))))) (.reg false c7_8)))))) (.seq (.reg false ydji) .ret)))))))
def c8_0:LO:=[o3 (.box 24 (.tmp 0)) 3 0,o3 (.mv (.const (.bool false))) 6 0]
def c8_1:LO:=[ld' true 6 3 16 0,o3 (.call (.func 15) [(.tmp 16),(ci' 8)]) 17 1,o3 (.alloc 28 1 [.a (.slice none 0 0),.a (.slice none 0 0)]) 7 0,o0 (.store 2 (.tmp 7) (.tmp 17)) 7]
def c8_2:LO:=[cl' 32 [] 19 0,ld' true 2 7 20 0,ld' true 2 7 21 0,cl' 33 [] 22 1,mv' 1 23 0,cl' 18 [21,22,23] 24 29,mv' 2 25 0,o3 (.call (.func 20) [(.tmp 25),(ci' 20)]) 26 125,o3 (.call (.func 16) [(.tmp 19),(.tmp 20),(ci' 4),(.tmp 24),(.tmp 26)]) 27 255,mv' 27 18 511,xt' 18 0 28 1023,xt' 18 1 29 1023,xt' 18 2 30 1023,mv' 28 8 2047,mv' 29 9 12287,mv' 30 10 32767]
def c8_3:LO:=[mv' 10 31 0,o3 (.un .not (.tmp 31)) 32 1]
def c8_4:LO:=[o3 (.mv (.const (.bool false))) 6 0]
def c8_5:LO:=[mv' 8 33 0,mv' 8 34 0,ln' 34 35 2,o3 (.bin .sub (.tmp 35) (ci' 1)) 36 6,ix' 1 33 36 37 15,ld' false 1 37 38 31,mv' 38 11 63]
def c8_6:LO:=[ld' true 2 7 39 0,mv' 11 40 0,cl' 35 [39,40] 41 3,mv' 41 12 7]
def c8_7:LO:=[ld' true 2 7 42 0,mv' 11 43 0,cl' 36 [42,43] 44 3,o3 (.un .not (.tmp 44)) 45 7,mv' 45 46 15,⟨.mv (.tmp 12),some 47,some (46,false),31⟩,⟨.len (.tmp 47),some 48,some (46,false),63⟩,⟨.faddr 1 1 (.tmp 7),some 49,some (46,false),31⟩,⟨.load false 1 (.tmp 49),some 50,some (46,false),159⟩,⟨.len (.tmp 50),some 51,some (46,false),415⟩,⟨.bin .neq (.tmp 48) (.tmp 51),some 52,some (46,false),1023⟩,o3 (.pick (.tmp 46) (.const (.bool true)) (.tmp 52)) 53 2047]
def c8_8:LO:=[o3 (.mv (.const (.bool false))) 6 0]
def c8_9:LO:=[o3 (.mv (ci' 0)) 13 0]
def ydic:LO:=[mv' 13 54 0,mv' 12 55 0,ln' 55 56 2,bn' .lss 54 56 57 7]
def ydht:LO:=[mv' 13 60 0,mv' 60 14 1,o3 (.mv (ci' 0)) 15 3]
def ydia:LO:=[mv' 15 61 0,mv' 12 62 0,ln' 62 63 2,bn' .leq 61 63 64 7,mv' 64 65 15,⟨.mv (.tmp 14),some 66,some (65,true),31⟩,⟨.bin .geq (.tmp 66) (ci' 0),some 67,some (65,true),63⟩,o3 (.pick (.tmp 65) (.tmp 67) (.const (.bool false))) 68 127,mv' 68 69 255,⟨.mv (.tmp 14),some 70,some (69,true),511⟩,⟨.mv (.tmp 12),some 71,some (69,true),511⟩,⟨.len (.tmp 71),some 72,some (69,true),1535⟩,⟨.bin .lss (.tmp 70) (.tmp 72),some 73,some (69,true),4095⟩,o3 (.pick (.tmp 69) (.tmp 73) (.const (.bool false))) 74 8191,mv' 74 75 16383,⟨.mv (.tmp 12),some 76,some (75,true),32767⟩,⟨.mv (.tmp 14),some 77,some (75,true),32767⟩,⟨.idx 1 (.tmp 76) (.tmp 77),some 78,some (75,true),131071⟩,⟨.load false 1 (.tmp 78),some 79,some (75,true),262143⟩,⟨.bin .geq (.tmp 79) (ci' 0),some 80,some (75,true),524287⟩,o3 (.pick (.tmp 75) (.tmp 80) (.const (.bool false))) 81 1048575]
def ydim:LO:=[mv' 12 82 0,mv' 14 83 0,ix' 1 82 83 84 3,ld' false 1 84 85 7,mv' 15 86 0,o3 (.bin .add (.tmp 86) (ci' 1)) 87 16,mv' 85 14 15,mv' 87 15 127]
def ydhy:LO:=[mv' 14 88 0,o3 (.bin .neq (.tmp 88) (ci' 0)) 89 1,mv' 89 90 3,⟨.mv (.tmp 15),some 91,some (90,false),7⟩,⟨.mv (.tmp 11),some 92,some (90,false),7⟩,⟨.mv (.tmp 13),some 93,some (90,false),7⟩,⟨.idx 1 (.tmp 92) (.tmp 93),some 94,some (90,false),55⟩,⟨.load false 1 (.tmp 94),some 95,some (90,false),119⟩,⟨.idx 1 (.tmp 95) (ci' 0),some 96,some (90,false),247⟩,⟨.load false 1 (.tmp 96),some 97,some (90,false),503⟩,⟨.bin .neq (.tmp 91) (.tmp 97),some 98,some (90,false),1023⟩,o3 (.pick (.tmp 90) (.const (.bool true)) (.tmp 98)) 99 2047,mv' 99 100 4095,⟨.mv (.tmp 15),some 101,some (100,false),8191⟩,⟨.load true 2 (.tmp 7),some 102,some (100,false),8191⟩,⟨.call (.func 23) [(.tmp 102),(ci' 0)],some 103,some (100,false),24575⟩,⟨.mv (.tmp 13),some 104,some (100,false),8191⟩,⟨.idx 1 (.tmp 103) (.tmp 104),some 105,some (100,false),122879⟩,⟨.load false 1 (.tmp 105),some 106,some (100,false),253951⟩,⟨.bin .neq (.tmp 101) (.tmp 106),some 107,some (100,false),524287⟩,o3 (.pick (.tmp 100) (.const (.bool true)) (.tmp 107)) 108 1048575]
def ydio:LO:=[o3 (.mv (.const (.bool false))) 6 0]
def ydjt:LO:=[mv' 13 58 0,o3 (.bin .add (.tmp 58) (ci' 1)) 59 1,mv' 59 13 3]
def ydiu:LO:=[cl' 34 [] 109 0,mv' 109 6 1]
def c8:SC:=(.seq (.reg false c8_0) (.seq (.reg false c8_1) (.seq (.reg true c8_2) (.seq (.seq (.reg false c8_3) (.cond (.tmp 32) (.seq (.reg false c8_4) .ret) .skip)) (.seq (.reg false c8_5) (.seq (.reg false c8_6) (.seq (.seq (.reg false c8_7) (.cond (.tmp 53) (.seq (.reg false c8_8) .ret) .skip)) (.seq (.seq (.reg false c8_9) (.block 0 (.loop (.seq (.seq (.reg false ydic) (.cond (.tmp 57) .skip (.exit 0))) (.seq (.block 1 (.seq (.reg false ydht) (.seq (.block 2 (.loop (.seq (.seq (.reg false ydia) (.cond (.tmp 81) .skip (.exit 2))) (.block 3 (.reg false ydim))))) (.seq (.reg false ydhy) (.cond (.tmp 108) (.seq (.reg false ydio) .ret) .skip))))) (.reg false ydjt)))))) (.seq (.reg false ydiu) .ret)))))))))
end Sh
end Go.Proofs.YtpngeppkgoaimaaGreatDoor

namespace Go.Proofs.YtpngeppkgoaimaaGreatDoor
open Go.RowKit

theorem yun(gv:Value)(g:Gr)(w:World)(hg:GrAt w gv g) :
  Calls Tryz.prog 100 #[gv] w fun e w'=>e = .returned (.bool (yey g))/\Below w.heap.size w w':=by
 have hg0:=Lib.hid hg;obtain⟨i,p,rfl,hi,hp⟩:=hg
 clear hi hp
 cases hv:yeb g with
 | false =>
  have Hf:=Lib.hid (show yey g=false by unfold yey;rw[hv];rfl)
  go_enter Tryz.func100,Tryz.ntmps100
  go_wp2_with fail
  refine(yrf _ g _ (hg0.out.below ((Below.refl _ _).alloc (Nat.le_refl _) _))).mono ?_;rintro e w1 ⟨rfl,hb1⟩
  go_wp2_with fail
  go_ret
  exact⟨ybf Hf.out.symm,yto hb1⟩
 | true =>
  have hgood:=(yje g).1 hv;have hn1:=hgood.1;have hn24:=hgood.2.1;have Hgood:=Lib.hid hgood;have Hd:=Lib.hid (yii hgood (a:=0) (by omega))
  have Hc:=Lib.hid (show yey g=(yeg g 0).all (fun x=>decide (0<=x))by unfold yey;rw[hv];rfl)
  clear hgood
  go_enter Tryz.func100,Tryz.ntmps100
  go_wp2_with fail
  refine(yrf _ g _ (hg0.out.below ((Below.refl _ _).alloc (Nat.le_refl _) _))).mono ?_;rintro e w1 ⟨rfl,hb1⟩;obtain⟨q0,q1⟩:=ybpu hb1;have Hb1:=Lib.hid (yto hb1)
  clear hb1
  go_wp2_with fail
  refine(ybhz _ g 0 _ (hg0.out.below Hb1.out) Hgood.out (by omega)).mono ?_
  rintro e w2 ⟨v,rfl,hv2,hb2⟩;have Hb2:=Lib.hid (Hb1.out.trans (hb2.mono Hb1.out.size));obtain⟨A,c,rfl,hA1,hA2⟩:=ybj hv2;have Hv2:=Lib.hid hv2
  clear hb2 hv2
  obtain⟨D,hD⟩:∃ D,yeg g 0=D:=⟨_,rfl⟩;rw[hD]at Hv2 Hd hA1 Hc ⊢
  clear hD
  go_wp2
  go_loopg [11] D.length (fun q t wr=>∃ k:Nat,q+k=D.length/\t = .int .i64 k/\wr=w2/\Hid (∀ j (hj:j<D.length),j<k->0<=D[j]))
  case atStart=>exact⟨0,by omega,rfl,rfl,Lib.hid (fun j _ hj=>absurd hj (by omega))⟩
  case round =>
   obtain⟨k,hq,rfl,rfl,hall⟩:=hrel
   by_cases hlt:k<D.length
   ·obtain⟨b,off,rfl,hb,hc,hr⟩:=yfq Hv2.out hlt
    by_cases c1:D[k]<0
    ·have Hf:=Lib.hid (show yey g=false by
      rw[Hc.out,List.all_eq_false];exact⟨D[k],List.getElem_mem hlt,by simp;omega⟩)
     go_wp2
     go_ret
     exact⟨ybf Hf.out.symm,Hb2.out⟩
    ·go_wp2
     go_roundg (gk - 1)
     case measure=>omega
     case rel =>
      refine⟨k+1,by omega,by go_num,rfl,Lib.hid (fun j hj hjk=>?_)⟩
      by_cases e:j=k
      ·subst e;omega
      ·exact hall.out j hj (by omega)
   ·obtain rfl:k=D.length:=by omega
    have Ht:=Lib.hid (show yey g=true by
     rw[Hc.out,List.all_eq_true];intro x hx;obtain⟨j,hj,rfl⟩:=List.mem_iff_getElem.1 hx;exact decide_eq_true (hall.out j hj hj))
    go_wp2
    go_ret
    exact⟨ybf Ht.out.symm,Hb2.out⟩

end Go.Proofs.YtpngeppkgoaimaaGreatDoor

namespace Go.Proofs.YtpngeppkgoaimaaGreatDoor
open Go.RowKit

theorem yjo(g:Gr)(G:List Int)(v:Nat):(yee g G v).length=G.length:=by simp[yee]

set_option maxHeartbeats 2000000 in
theorem ymn(gv cv Gv:Value)(g:Gr)(c:Conf)(G:List Int)(w:World)(hg:GrAt w gv g)(hc:ycfb w cv c)(hG:yju w Gv G)(hgood:yx g) :
  Calls Tryz.prog 79 #[gv,cv,Gv] w fun e w'=>e = .returned (.bool (yol g.ports.length (yee g G) c))/\Below w.heap.size w w':=by
 have hn24:=hgood.2.1;have hid:=hgood.2.2.1;have Hid':=Lib.hid hid
 clear hgood
 obtain⟨i,p,rfl,hi,hp⟩:=hg;obtain⟨A,c0,rfl,hA1,hA2⟩:=ybj hi;obtain⟨A2,c2,rfl,hB1,hB2⟩:=ybj hp;obtain⟨A3,c3,rfl,hC1,hC2⟩:=ybj hc;obtain⟨A4,c4,rfl,hD1,hD2⟩:=ybj hG;have Hp:=Lib.hid hp;have Hc:=Lib.hid hc;have HG:=Lib.hid hG
 clear hi hp hc hG
 by_cases n1:c.length=g.ids.length
 ·have n1':((c.length:Int) != (g.ids.length:Int))=false:=by simp[n1]
  have Hn:=Lib.hid (n1.trans hid);have hcn:c.length<=24:=by omega
  clear n1 hid
  go_enter Tryz.func79,Tryz.ntmps79
  go_wp2
  obtain⟨W1,hW1⟩:∃ W,W=w.alloc (.cells #[.slice A g.ids.length c0,.slice A2 g.ports.length c2] 28):=⟨_,rfl⟩;have hbox:W1.cell? ⟨w.heap.size,1,none⟩=some (.slice A2 g.ports.length c2):=by subst hW1;simp
  have HbW:=Lib.hid (show Below w.heap.size w W1 by subst hW1;exact(Below.refl _ _).alloc (Nat.le_refl _) _)
  rw[<- hW1]
  clear hW1
  go_loopg [21] c.length (fun q t wr=>∃ v n:Nat,q+v=c.length/\t = .int .i64 v/\wr=W1.drewN n/\Hid (∀ (u:Nat) s,u<v->c[u]? = some s->ydy (yee g G u) s))
  case atStart=>exact⟨0,0,by omega,rfl,rfl,Lib.hid (fun u s hu=>absurd hu (by omega))⟩
  case round =>
   obtain⟨v,n,hq,rfl,rfl,hok⟩:=hrel
   by_cases hlt:v<c.length
   ·obtain⟨b3,off3,sv,rfl,hb3,hcs,hs⟩:=yfn (Hc.out.below (Stable.sl Stable.int) HbW.out) (List.getElem?_eq_getElem hlt);obtain⟨A5,c5,rfl,hE1,hE2⟩:=ybj hs;obtain⟨s,hse⟩:∃ s,c[v]=s:=⟨_,rfl⟩;have Hs?:=Lib.hid (show c[v]? = some s by rw[List.getElem?_eq_getElem hlt,hse])
    rw[hse]at hs hcs hE1;have Hbad:=Lib.hid (show ¬ ydy (yee g G v) s->yol g.ports.length (yee g G) c=false from fun h=>yhf (fun hc=>h (hc.2 v s Hs?.out)))
    have Hs:=Lib.hid hs
    clear hs hse
    by_cases c1:s.length=G.length
    ·have c1':((s.length:Int) != (G.length:Int))=false:=by simp[c1]
     have Hsl:=Lib.hid c1
     clear c1
     have hvp:v<g.ports.length:=by rw[<- Hn.out];exact hlt
     go_wp2
     obtain⟨go,rfl⟩:∃ go,go=gk:=⟨_,rfl⟩
     go_loopg [33] s.length (fun q t wr=>∃ x n:Nat,q+x=s.length/\t = .int .i64 x/\wr=W1.drewN n/\Hid (∀ (j:Nat) b z,j<x->(yee g G v)[j]? = some b->s[j]? = some z->b.1<=z/\z<=b.2))
     case atStart=>exact⟨0,n,by omega,rfl,rfl,Lib.hid (fun j b z hj=>absurd hj (by omega))⟩
     case round =>
      obtain⟨x,n,hqx,rfl,rfl,hst⟩:=hrel
      by_cases hxl:x<s.length
      ·have hxG:x<G.length:=by rw[<- Hsl.out];exact hxl
       obtain⟨b5,o5,rfl,hb5,hc5,hr5⟩:=yfq (Hs.out) hxl;obtain⟨b6,o6,rfl,hb6,hc6,hr6⟩:=yfq (HG.out.below Stable.int HbW.out) hxG;obtain⟨b7,o7,lv,rfl,hb7,hc7,hl7⟩:=yfn (Hp.out.below (Stable.sl Stable.link) HbW.out) (List.getElem?_eq_getElem hvp);obtain⟨A8,c8,rfl,hF1,hF2⟩:=ybj hl7;obtain⟨ds,hds⟩:∃ ds,g.ports[v]=ds:=⟨_,rfl⟩;have hdeg:ybvt g v=ds.length:=by simp[ybvt,List.getD,List.getElem?_eq_getElem hvp,hds]
       rw[hds]at hc7 hF1;obtain⟨y,hy⟩:∃ y,s[x]=y:=⟨_,rfl⟩;obtain⟨h,hh⟩:∃ h,G[x]=h:=⟨_,rfl⟩;have Hy?:=Lib.hid (show s[x]? = some y by rw[List.getElem?_eq_getElem hxl,hy])
       have hb?:(yee g G v)[x]? = some (if h = -1 then(-1,(ds.length:Int) - 1)else(0,h)):=by
        simp[yee,hxG,hh,hdeg]
       rw[hy]at hc5 hr5;rw[hh]at hc6 hr6;obtain⟨hr5a,hr5b⟩:=hr5;obtain⟨hr6a,hr6b⟩:=hr6
       clear hl7 hds hdeg hy hh
       by_cases c2:h = -1
       ·have c2':(h == -1)=true:=by simp[c2]
        rw[if_pos c2]at hb?;have Hb?:=Lib.hid hb?
        clear hb? c2
        by_cases c3:y < -1
        ·have Hf:=Lib.hid (Hbad.out (fun h=>by have:=h.2 x _ y Hb?.out Hy?.out;simp only at this;omega))
         go_wp2
         go_quiet (fail)
         go_wp2
         go_quiet (fail)
         go_wp2
         go_ret
         exact⟨ybf Hf.out.symm,below_drewN HbW.out _⟩
        ·by_cases c4:(ds.length:Int) - 1<y
         ·have Hf:=Lib.hid (Hbad.out (fun h=>by have:=h.2 x _ y Hb?.out Hy?.out;simp only at this;omega))
          go_wp2
          go_quiet (fail)
          go_wp2
          go_quiet (fail)
          go_wp2
          go_ret
          exact⟨ybf Hf.out.symm,below_drewN HbW.out _⟩
         ·have c4d:decide ((ds.length:Int) - 1<y)=false:=by simp;omega
          go_wp2
          go_quiet (fail)
          go_wp2
          go_quiet (fail)
          go_wp2
          go_roundg (gk - 1)
          case measure=>omega
          case rel =>
           refine⟨x+1,_,by omega,by go_num,rfl,Lib.hid (fun j b z hj hb hz=>?_)⟩
           by_cases hjx:j<x
           ·exact hst.out j b z hjx hb hz
           ·obtain rfl:j=x:=by omega
            rw[Hb?.out]at hb;rw[Hy?.out]at hz;cases hb
            cases hz
            simp only;omega
       ·have c2':(h == -1)=false:=by simp[c2]
        rw[if_neg c2]at hb?;have Hb?:=Lib.hid hb?
        clear hb? c2
        by_cases c3:y<0
        ·have Hf:=Lib.hid (Hbad.out (fun h=>by have:=h.2 x _ y Hb?.out Hy?.out;simp only at this;omega))
         go_wp2
         go_quiet (fail)
         go_wp2
         go_ret
         exact⟨ybf Hf.out.symm,below_drewN HbW.out _⟩
        ·by_cases c4:h<y
         ·have Hf:=Lib.hid (Hbad.out (fun h=>by have:=h.2 x _ y Hb?.out Hy?.out;simp only at this;omega))
          go_wp2
          go_quiet (fail)
          go_wp2
          go_ret
          exact⟨ybf Hf.out.symm,below_drewN HbW.out _⟩
         ·have c4d:decide (h<y)=false:=by simp;omega
          go_wp2
          go_quiet (fail)
          go_wp2
          go_roundg (gk - 1)
          case measure=>omega
          case rel =>
           refine⟨x+1,_,by omega,by go_num,rfl,Lib.hid (fun j b z hj hb hz=>?_)⟩
           by_cases hjx:j<x
           ·exact hst.out j b z hjx hb hz
           ·obtain rfl:j=x:=by omega
            rw[Hb?.out]at hb;rw[Hy?.out]at hz;cases hb
            cases hz
            simp only;omega
      ·obtain rfl:x=s.length:=by omega
       go_wp2
       go_roundg (go - 1)
       case measure=>omega
       case rel =>
        refine⟨v+1,_,by omega,by go_num,rfl,Lib.hid (fun u s' hu hs'=>?_)⟩
        by_cases huv:u<v
        ·exact hok.out u s' huv hs'
        ·obtain rfl:u=v:=by omega
         rw[Hs?.out]at hs';cases hs'
         refine⟨by rw[yjo,Hsl.out],fun j b z hb hz=>hst.out j b z (List.getElem?_eq_some_iff.1 hz).1 hb hz⟩
    ·have c1':((s.length:Int) != (G.length:Int))=true:=by simp;omega
     have Hf:=Lib.hid (Hbad.out (fun h=>c1 (by rw[h.1,yjo])))
     clear c1
     go_wp2
     go_ret
     exact⟨ybf Hf.out.symm,below_drewN HbW.out _⟩
   ·obtain rfl:v=c.length:=by omega
    have Ht:=Lib.hid (ytm (n:=g.ports.length) (bs:=yee g G) (c:=c) ⟨Hn.out,fun v s hs=>hok.out v s (List.getElem?_eq_some_iff.1 hs).1 hs⟩)
    go_wp2
    go_ret
    exact⟨ybf Ht.out.symm,below_drewN HbW.out _⟩
 ·have n1':((c.length:Int) != (g.ids.length:Int))=true:=by simp;omega
  have Hf:=Lib.hid (yhf (n:=g.ports.length) (bs:=yee g G) (c:=c) (fun h=>n1 (h.1.trans hid.symm)))
  clear n1 hid
  go_enter Tryz.func79,Tryz.ntmps79
  go_wp2
  go_ret
  exact⟨ybf Hf.out.symm,(Below.refl _ _).alloc (Nat.le_refl _) _⟩
end Go.Proofs.YtpngeppkgoaimaaGreatDoor

namespace Go.Proofs.YtpngeppkgoaimaaGreatDoor
open Go.RowKit

end Go.Proofs.YtpngeppkgoaimaaGreatDoor

namespace Go.Proofs.YtpngeppkgoaimaaGreatDoor
open Go.RowKit

end Go.Proofs.YtpngeppkgoaimaaGreatDoor

namespace Go.Proofs.YtpngeppkgoaimaaGreatDoor
open Go.RowKit

theorem ytf(R:List Int)(x:Int)(ls:List (Int × Int))(i:Nat)(hi:i<ls.length):yia R x (ls.take (i+1))=(yia R x (ls.take i) || decide (R[ls[i].1.toNat]? = some x)):=by
 unfold yia;rw[take_snoc ls i hi,List.any_append];simp

end Go.Proofs.YtpngeppkgoaimaaGreatDoor

namespace Go.Proofs.YtpngeppkgoaimaaGreatDoor
open Go.RowKit

end Go.Proofs.YtpngeppkgoaimaaGreatDoor

namespace Go.Proofs.YtpngeppkgoaimaaGreatDoor
open Go
namespace Sh
open Ev Go.RowKit
set_option maxRecDepth 8000
theorem ybwk{n nv:Nat}{c:Conf}(h:ConfIn n nv c):ycud c:=fun s hs x hx=>by
 have:=(h.row s hs).2 x hx;unfold InB at this;exact yep (by omega)
end Sh
end Go.Proofs.YtpngeppkgoaimaaGreatDoor

namespace Go.Proofs.YtpngeppkgoaimaaGreatDoor
open Go
def yjy(ls:List (Int × Int))(b:Int):Bool:=ls.any fun l=>decide (l.1=b)
namespace Sh
open Ev Go.RowKit
set_option maxRecDepth 8000
theorem ybid{ids:List Int}{ports:List (List (Int × Int))}{a b:Nat}(ha:a<ports.length)(hl:(ports.getD a []).length<=100000) :
  Returns Tryz.prog 117 [.ag [yj ids,yu ports],.i .i64 a,.i .i64 b] (.b (yjy (ports.getD a []) b)):=by
 refine Returns.of (ycul _ _ ?_);obtain⟨n,hn⟩:∃ n,ports.length=n:=⟨_,rfl⟩;obtain⟨L,hL⟩:∃ L,ports.getD a []=L:=⟨_,rfl⟩;rw[hL]at hl ⊢;obtain⟨m,hm⟩:∃ m,L.length=m:=⟨_,rfl⟩;simp only[c117,yckj,ycje,go_sem,Nat.reduceAdd,Nat.reduceLT,↓reduceIte];refine ybc (σ:=Nat) (fun k=>⟨[(7,.i .i64 k),(3,.pt (3,0) 0 0),(1,.i .i64 a),(2,.i .i64 b)],[(3,.one (some ⟨28,true,2,1,fun _=>[yj ids,yu ports]⟩))]⟩) (fun k=>k<=m /\ ∀ j,j<k->(L.getD j (0,0)).1 ≠ b) (fun k=>m - k) 0 ⟨Nat.zero_le _,fun j hj=>absurd hj (Nat.not_lt_zero j)⟩ ?_ ?_
 ·refine yg [] [] [] ?_;simp only[go_sem,allQ,live,yc,Int.natCast_zero,go_sem,Nat.reduceEqDiff,↓reduceIte,reduceCtorEq]
 ·rintro k ⟨hk,hno⟩;simp only[ycof,ycfj,ycep,ycmi,ycns,yu,yba,hn,hL,hm,go_sem,Nat.reduceEqDiff,Nat.reduceAdd,Nat.reduceLeDiff,↓reduceIte,reduceCtorEq];refine⟨⟨by omega,by omega⟩,fun hlt=>⟨⟨by omega,by omega⟩,⟨by omega,by omega⟩,fun he=>?_,fun hne=>⟨ikw (by omega) (by omega),?_⟩⟩,fun hge=>?_⟩
  ·have hk':k<L.length:=by omega
   have:yjy L b=true:=List.any_eq_true.2 ⟨L[k],List.getElem_mem _,by rw[getD_at hk']at he;exact decide_eq_true he⟩
   rw[this];exact Sim.refl _
  ·refine yh (k+1) ⟨by omega,fun j hj=>?_⟩ (by omega) ?_
   ·by_cases q:j=k
    ·rw[q];exact hne
    ·exact hno j (by omega)
   refine yg [] [] [] ?_;simp only[allQ,live,yc,yw,go_sem,Nat.reduceEqDiff,↓reduceIte,reduceCtorEq];omega
  ·have:yjy L b=false:=List.any_eq_false.2 fun l hl he=>by
    obtain⟨j,hj,rfl⟩:=List.getElem_of_mem hl;have:=hno j (by omega)
    rw[getD_at hj]at this;exact this (of_decide_eq_true he)
   rw[this];exact Sim.refl _
end Sh
end Go.Proofs.YtpngeppkgoaimaaGreatDoor

namespace Go.Proofs.YtpngeppkgoaimaaGreatDoor
def yti(g:Gr):Nat:=(g.ports.map List.length).sum
def addL(back:Bool)(l:List (Int × Int))(x:Int × Int):List (Int × Int):=if back then x :: l else l ++ [x]
theorem ydt{back:Bool}{l:List (Int × Int)}{x y:Int × Int}:y ∈ addL back l x ↔ y=x\/y ∈ l:=by
 unfold addL;cases back<;>simp[or_comm]
def ybt(back:Bool)(g:Gr)(a b:Nat)(w:Int):Gr:=⟨g.ids,(g.ports.set a (addL back (g.ports.getD a []) (b,w))).set b (addL back (g.ports.getD b []) (a,w))⟩
theorem ydc(back:Bool)(g:Gr){a b:Nat}(w:Int)(ha:a<g.ports.length)(hb:b<g.ports.length)(v:Nat) :
  (ybt back g a b w).ports.getD v []=if v=b then addL back (g.ports.getD b []) (a,w)else if v=a then addL back (g.ports.getD a []) (b,w)else g.ports.getD v []:=by
 unfold ybt;simp only[List.getD]
 by_cases h1:v=b
 ·subst h1;rw[if_pos rfl,List.getElem?_set_self (by simpa using hb)]
  rfl
 ·rw[if_neg h1,List.getElem?_set_ne (fun q=>h1 q.symm)]
  by_cases h2:v=a
  ·subst h2;rw[if_pos rfl,List.getElem?_set_self ha];rfl
  ·rw[if_neg h2,List.getElem?_set_ne (fun q=>h2 q.symm)]
theorem ynh{back:Bool}{l:List (Int × Int)}{v n:Int}{x:Int × Int}(h:ybr l v n)(hx:ygx v n x)(hno:∀ y ∈ l,y.1 ≠ x.1):ybr (addL back l x) v n:=by
 refine⟨fun y hy=>?_,?_⟩
 ·rcases ydt.1 hy with rfl | hy
  ·exact hx
  ·exact h.1 y hy
 ·have hn:x.1 ∉ l.map (·.1):=fun hm=>by
   obtain⟨y,hy,e⟩:=List.mem_map.1 hm;exact hno y hy e
  unfold addL;cases back
  ·simp only[Bool.false_eq_true,if_false,List.map_append,List.map_cons,List.map_nil];rw[List.nodup_append];refine⟨h.2,by simp,fun p hp q hq=>?_⟩
   rw[List.mem_singleton]at hq;subst hq;intro e;exact hn (e ▸ hp)
  ·simp only[if_true,List.map_cons];exact List.nodup_cons.2 ⟨hn,h.2⟩
theorem yxl{back:Bool}{g:Gr}(hg:yx g){a b:Nat}{w:Int}(ha:a<g.ports.length)(hb:b<g.ports.length)(hab:a ≠ b)(hw:1<=w/\w<=15)(hno:∀ y ∈ g.ports.getD a [],y.1 ≠ (b:Int)):yx (ybt back g a b w):=by
 obtain⟨h1,h2,h3,h4,h5,h6,h7⟩:=hg;have hlen:(ybt back g a b w).ports.length=g.ports.length:=by simp[ybt]
 have gd:∀ (v:Nat) (hv:v<g.ports.length),g.ports.getD v []=g.ports[v]:=fun v hv=>by simp[List.getD,hv]
 have hno2:∀ y ∈ g.ports.getD b [],y.1 ≠ (a:Int):=fun y hy e=>by
  rw[gd b hb]at hy;have:=h7 ⟨b,hb⟩ y hy;rw[e,Int.toNat_natCast]at this;exact hno _ this rfl
 have at_:∀ (v:Nat) (hv:v<g.ports.length),(ybt back g a b w).ports[v]'(by rw[hlen];exact hv)=if v=b then addL back (g.ports.getD b []) (a,w)else if v=a then addL back (g.ports.getD a []) (b,w)else g.ports.getD v []:=fun v hv=>by
  rw[<- ydc back g w ha hb v];simp[List.getD,hlen,hv]
 refine⟨by rw[hlen];exact h1,by rw[hlen];exact h2,by rw[hlen];exact h3,h4,h5,fun v=>?_,fun v l hl=>?_⟩
 ·have hv:v.1<g.ports.length:=Nat.lt_of_lt_of_eq v.isLt hlen;have hl':(((ybt back g a b w).ports.length:Nat):Int)=(g.ports.length:Int):=by rw[hlen]
  rw[hl'];show ybr ((ybt back g a b w).ports[v.1]) _ _;rw[at_ v.1 hv];split
  ·rename_i e
   rw[e];refine ynh ?_ ⟨by simp only[];omega,by simp only[];omega,by simp only[];omega,hw.1,hw.2⟩ hno2
   rw[gd b hb];exact h6 ⟨b,hb⟩
  ·split
   ·rename_i e
    rw[e];refine ynh ?_ ⟨by simp only[];omega,by simp only[];omega,by simp only[];omega,hw.1,hw.2⟩ hno
    rw[gd a ha];exact h6 ⟨a,ha⟩
   ·rw[gd v.1 hv];exact h6 ⟨v.1,hv⟩
 ·have hv:v.1<g.ports.length:=Nat.lt_of_lt_of_eq v.isLt hlen
  change l ∈ (ybt back g a b w).ports[v.1]at hl
  rw[at_ v.1 hv]at hl
  have old:∀ u x,x ∈ g.ports.getD u []->x ∈ (ybt back g a b w).ports.getD u []:=fun u x hx=>by
   rw[ydc back g w ha hb u];split
   ·rename_i e;subst e;exact ydt.2 (.inr hx)
   ·split
    ·rename_i e;subst e;exact ydt.2 (.inr hx)
    ·exact hx
  have sym:∀ (u:Nat) (hu:u<g.ports.length),l ∈ g.ports.getD u []->((u:Int),l.2) ∈ (ybt back g a b w).ports.getD l.1.toNat []:=fun u hu hx=>by
   rw[gd u hu]at hx;exact old _ _ (h7 ⟨u,hu⟩ l hx)
  split at hl
  ·rename_i e
   rcases ydt.1 hl with rfl | hl
   ·rw[ydc back g w ha hb,e];simp only[Int.toNat_natCast];simp only[if_neg hab,if_true];exact ydt.2 (.inl rfl)
   ·rw[e];exact sym b hb hl
  ·split at hl
   ·rename_i e
    rcases ydt.1 hl with rfl | hl
    ·rw[ydc back g w ha hb,e];simp only[Int.toNat_natCast];simp only[if_true];exact ydt.2 (.inl rfl)
    ·rw[e];exact sym a ha hl
   ·exact sym v.1 hv hl
end Go.Proofs.YtpngeppkgoaimaaGreatDoor

namespace Go.Proofs.YtpngeppkgoaimaaGreatDoor
def Tre(g:Gr)(m:Nat):Prop:=∀ v,0<v->v<m -> ∃ u,u<v/\adj g u v
theorem Tre.walk{g:Gr}{m:Nat}(h:Tre g m):∀ v,v<m -> ∃ k,Walk g 0 k v:=by
 intro v
 induction v using Nat.strongRecOn with
 | _ v ih =>
  intro hv
  by_cases h0:v=0
  ·subst h0;exact⟨0,rfl⟩
  ·obtain⟨u,hu,ha⟩:=h v (by omega) hv
   obtain⟨k,hk⟩:=ih u hu (by omega)
   exact⟨k+1,u,hk,ha⟩
theorem Tre.conn{g:Gr}(hg:yx g)(h:Tre g g.ports.length):yey g=true:=by
 unfold yey;rw[(yje g).2 hg,Bool.true_and,ybek hg (a:=0) (by have:=hg.1;omega)]
 exact h.walk
theorem ykd{g:Gr}{u v:Nat}:adj g u v ↔ ∃ l,l ∈ g.ports.getD u []/\l.1=(v:Int):=by
 constructor
 ·rintro⟨ls,h,l,hl,e⟩;exact⟨l,by simpa [List.getD,h]using hl,e⟩
 ·rintro⟨l,hl,e⟩;cases h:g.ports[u]? with
  | none=>simp[List.getD,h]at hl
  | some ls=>exact⟨ls,h,l,by simpa [List.getD,h]using hl,e⟩
theorem ybdp{back:Bool}{g:Gr}{a b:Nat}{w:Int}(ha:a<g.ports.length)(hb:b<g.ports.length){u v:Nat}(h:adj g u v):adj (ybt back g a b w) u v:=by
 obtain⟨l,hl,e⟩:=ykd.1 h;refine ykd.2 ⟨l,?_,e⟩;rw[ydc back g w ha hb u];split
 ·rename_i q;subst q;exact ydt.2 (.inr hl)
 ·split
  ·rename_i q;subst q;exact ydt.2 (.inr hl)
  ·exact hl
theorem yben{back:Bool}{g:Gr}{a b:Nat}{w:Int}(ha:a<g.ports.length)(hb:b<g.ports.length)(hab:a ≠ b):adj (ybt back g a b w) a b:=by
 refine ykd.2 ⟨((b:Int),w),?_,rfl⟩;rw[ydc back g w ha hb a,if_neg hab,if_pos rfl];exact ydt.2 (.inl rfl)
theorem Tre.add{back:Bool}{g:Gr}{a b:Nat}{w:Int}(ha:a<g.ports.length)(hb:b<g.ports.length){m:Nat}(h:Tre g m):Tre (ybt back g a b w) m:=fun v h0 hv=>by
 obtain⟨u,hu,hadj⟩:=h v h0 hv;exact⟨u,hu,ybdp ha hb hadj⟩
def bare(ids:List Int):Gr:=⟨ids,List.replicate ids.length []⟩
theorem ybnt{ids:List Int}(h1:1<=ids.length)(h2:ids.length<=24)(h3:∀ x ∈ ids,0<=x/\x<=255)(h4:ids.Nodup):yx (bare ids):=by
 have e:∀ v:Fin (bare ids).ports.length,(bare ids).ports[v] = []:=fun v=>by
  have hv:v.1<ids.length:=by have:=v.isLt;simpa [bare]using this
  show(List.replicate ids.length ([]:List (Int × Int)))[v.1]'(by simpa using hv) = []
  exact List.getElem_replicate ..
 refine⟨by simpa [bare]using h1,by simpa [bare]using h2,by simp[bare],h3,h4,fun v=>?_,fun v l hl=>?_⟩
 ·rw[e v];exact⟨fun l hl=>(nomatch hl),List.nodup_nil⟩
 ·rw[e v]at hl;cases hl
end Go.Proofs.YtpngeppkgoaimaaGreatDoor

namespace Go.Proofs.YtpngeppkgoaimaaGreatDoor
open Go
structure NetR where
 n:Int
 links:List Int
 weights:List Int
 ids:List Int
 apart:Bool
 back:Bool
def NetR.ok(x:NetR):Prop:=Sh.inK .i64 x.n/\(∀ k,Sh.inK .i64 (x.links.getD k 0))/\(∀ k,Sh.inK .i64 (x.weights.getD k 0))/\(∀ k,Sh.inK .i64 (x.ids.getD k 0))
theorem ybcu(a r:Nat)(hr:r<=256):((List.range r).map fun i=>(((a+i) % 256:Nat):Int)).Nodup:=by
 unfold List.Nodup;rw[List.pairwise_map];refine List.Pairwise.imp_of_mem (R:=(· < ·)) (fun {i j} hi hj h=>?_) List.pairwise_lt_range;have hi:=List.mem_range.1 hi;have hj:=List.mem_range.1 hj;intro e;omega
theorem yber{a r:Nat}{l:List Int}(hr:r<=256)(h:∀ i,i<r->(((a+i) % 256:Nat):Int) ∈ l):r<=l.length:=by
 have:=List.Nodup.length_le_of_subset (ybcu a r hr) (l₂:=l) fun x hx=>by
  obtain⟨i,hi,rfl⟩:=List.mem_map.1 hx;exact h i (List.mem_range.1 hi)
 simpa using this
namespace Sh
open Ev Go.RowKit
set_option maxRecDepth 8000
def netC(x:NetR):List SV:=[.i .i64 x.n,yj x.links,yj x.weights,yj x.ids,.b x.apart,.b x.back]
theorem wrap64_in(z:Int):inK .i64 (IntKind.wrap .i64 z):=by
 unfold inK;have e1:IntKind.i64.min = -9223372036854775808:=rfl;have e2:IntKind.i64.max=9223372036854775807:=rfl;have h1:=Int.emod_nonneg z (show(18446744073709551616:Int) ≠ 0 by decide)
 have h2:=Int.emod_lt_of_pos z (show(0:Int)<18446744073709551616 by decide)
 rw[e1,e2]
 have e:IntKind.wrap .i64 z=if z % 18446744073709551616 >= 9223372036854775808 then z % 18446744073709551616 - 18446744073709551616 else z % 18446744073709551616:=by
  show(if (true && decide (z % 18446744073709551616 >= 9223372036854775808))=true then z % 18446744073709551616 - 18446744073709551616 else z % 18446744073709551616)=_
  simp only[Bool.true_and,decide_eq_true_eq]
 rw[e];split<;>omega
theorem ybyb{x:NetR}(hx:x.ok){most:Nat}(hm:1<=most/\most<=24) :
  Cm Tryz.prog 88 [] [] [.ag (netC x),.i .i64 most] fun r o=>∃ ids:List Int,(1<=ids.length/\ids.length<=most)/\(∀ y ∈ ids,0<=y/\y<=255)/\ids.Nodup/\r = .ag [yj ids,.os (17,0) 0 ids.length true] /\
   o = [(17,.one (some ⟨41,false,1,ids.length,fun _=>[.a (.slice none 0 0)]⟩))]:=by
 refine yctc [] [] _ _ _ ?_;obtain⟨hx1,hx2,hx3,hx4⟩:=hx;have hin:=ycn (v:=IntKind.wrap .i64 (x.n - 1)) (m:=(most:Int)) (by omega)
 obtain⟨k,hk⟩:∃ k:Nat,ycb (IntKind.wrap .i64 (x.n - 1)) most=k:=Int.eq_ofNat_of_zero_le hin.1;have hW:=ycp (IntKind.wrap .i64 (x.n - 1)) most (by omega) (wrap64_in _)
 rw[hk]at hW hin;obtain⟨n,hn⟩:∃ n:Nat,(1:Int)+(k:Int)=(n:Int):=⟨1+k,by omega⟩
 have hn1:1<=n/\n<=most:=by omega
 simp only[c88,ycxx,ycyb,netC,go_sem,Nat.reduceEqDiff,Nat.reduceAdd,Nat.reduceLeDiff,Nat.reduceLT,↓reduceIte,reduceCtorEq];refine hW.use ?_;simp only[thenO,ydfq,ycwj,hn,clash,go_sem,Nat.reduceEqDiff,Nat.reduceAdd,Nat.reduceLT,↓reduceIte,reduceCtorEq];refine⟨ikw (by omega) (by omega),⟨by omega,by omega,by omega⟩,?_⟩
 refine ybc (σ:=List Int) (fun l=>⟨[(7,.i .i64 l.length),(5,.i .i64 n),(2,.pt (2,0) 0 0),(6,.pt (6,0) 0 0),(4,.pt (4,0) 0 0)],
   [(2,.one (some ⟨24,true,6,1,fun _=>netC x⟩)),(4,.one (some ⟨28,true,2,1,fun _=>[.a (.slice none 0 0),.a (.slice none 0 0)]⟩)),
    (6,.one (some ⟨28,true,2,1,fun _=>[.os (148,0) 0 l.length true,.os (17,0) 0 n true]⟩)),(17,.one (some ⟨41,false,1,n,fun _=>[.a (.slice none 0 0)]⟩)),
    (148,.one (some ⟨3,false,1,l.length,fun k=>[.i .i64 (l.getD k 0)]⟩))]⟩)
  (fun l=>l.length<=n/\(∀ y ∈ l,0<=y/\y<=255)/\l.Nodup) (fun l=>n - l.length) [] ⟨Nat.zero_le _,fun y hy=>(List.not_mem_nil hy).elim,List.nodup_nil⟩ ?_ ?_
 ·refine yg [] [148] [] ?_;simp only[netC,allQ,live,yc,Int.natCast_zero,go_sem,Nat.reduceEqDiff,Nat.reduceBEq,↓reduceIte,reduceCtorEq];exact fun i _=>⟨(148,0),rfl,rfl,rfl⟩
 ·rintro l ⟨hl,hl2,hl3⟩;obtain⟨v,hv⟩:∃ v,l.length=v:=⟨_,rfl⟩;rw[hv]at hl;have hA:=at_ret x.ids v;have hi2:=ycn (v:=atP x.ids v) (m:=256) (by omega)
  obtain⟨a,ha⟩:∃ a:Nat,ycb (atP x.ids v) 256=a:=Int.eq_ofNat_of_zero_le hi2.1;have hW2:=ycp (atP x.ids v) 256 (by omega) (hx4 v)
  rw[ha]at hW2 hi2;simp only[ydds,ydcb,ycxz,yccx,netC,hv,splice,clash,go_sem,Nat.reduceEqDiff,Nat.reduceAdd,Nat.reduceLeDiff,↓reduceIte,reduceCtorEq];refine⟨fun hlt=>?_,fun hge=>?_⟩
  ·refine hA.use ?_;simp only[thenO,clash,go_sem,Nat.reduceEqDiff,Nat.reduceAdd,↓reduceIte,reduceCtorEq];refine hW2.use ?_
   refine ybc (σ:=Nat × Nat) (fun q=>⟨[(9,.i .i64 q.2),(8,.i .i64 ((a+q.1) % 256:Nat)),(7,.i .i64 v),(5,.i .i64 n),(2,.pt (2,0) 0 0),(6,.pt (6,0) 0 0),(4,.pt (4,0) 0 0)],
    [(2,.one (some ⟨24,true,6,1,fun _=>netC x⟩)),(4,.one (some ⟨28,true,2,1,fun _=>[.a (.slice none 0 0),.a (.slice none 0 0)]⟩)),
     (6,.one (some ⟨28,true,2,1,fun _=>[.os (148,0) 0 v true,.os (17,0) 0 n true]⟩)),(17,.one (some ⟨41,false,1,n,fun _=>[.a (.slice none 0 0)]⟩)),
     (148,.one (some ⟨3,false,1,v,fun k=>[.i .i64 (l.getD k 0)]⟩))]⟩)
    (fun q=>q.2<=v/\(∀ i,i<q.1->(((a+i) % 256:Nat):Int) ∈ l)/\q.1<=256 /\ ∀ j,j<q.2->l.getD j 0 ≠ (((a+q.1) % 256:Nat):Int)) (fun q=>(v - q.1) * (v+2)+(v - q.2)) (0,0) ⟨Nat.zero_le _,fun i hi=>absurd hi (Nat.not_lt_zero i),by omega,fun j hj=>absurd hj (Nat.not_lt_zero j)⟩ ?_ ?_
   ·refine yg [] [] [] ?_;simp only[netC,allQ,live,yc,yw,Int.natCast_zero,go_sem,Nat.reduceEqDiff,↓reduceIte,reduceCtorEq];rw[Nat.mod_eq_of_lt (by omega)]
   ·rintro⟨r,u⟩ ⟨hu,hr,hr256,hno⟩;obtain⟨b,hb⟩:∃ b,(a+r) % 256=b:=⟨_,rfl⟩;have hb256:b<256:=by omega
    simp only[ydgk,yddg,ycbx,yccd,ychq,ydbc,netC,hb,splice,clash,go_sem,Nat.reduceEqDiff,Nat.reduceAdd,Nat.reduceLeDiff,Nat.reduceLT,↓reduceIte,reduceCtorEq];have hu:u<=v:=hu;have hr:∀ i,i<r->(((a+i) % 256:Nat):Int) ∈ l:=hr;have hr256:r<=256:=hr256;have hno:∀ j,j<u->l.getD j 0 ≠ (b:Int):=fun j hj=>by rw[<- hb];exact hno j hj
    have hrv:r<=v:=by rw[<- hv];exact yber hr256 hr
    refine⟨fun hlt2=>⟨⟨by omega,by omega⟩,by omega,fun he=>⟨ikw (by omega) (by omega),by decide,ikw (by omega) (by omega),?_⟩,fun hne=>⟨ikw (by omega) (by omega),?_⟩⟩,fun hge2=>?_⟩
    ·have hmem:(b:Int) ∈ l:=by
      rw[<- he,getD_at (show u<l.length by omega)]
      exact List.getElem_mem _
     have hr':∀ i,i<r+1->(((a+i) % 256:Nat):Int) ∈ l:=fun i hi=>by
      by_cases q:i=r
      ·rw[q,hb];exact hmem
      ·exact hr i (by omega)
     have hrv':r+1<=v:=by rw[<- hv];exact yber (by omega) hr'
     refine yh (r+1,0) ⟨Nat.zero_le _,hr',by show r+1<=256;omega,fun j hj=>absurd hj (Nat.not_lt_zero j)⟩ ?_ ?_
     ·show(v - (r+1)) * (v+2)+(v - 0)<(v - r) * (v+2)+(v - u);obtain⟨m,hm⟩:∃ m,v - r=m+1:=⟨v - r - 1,by omega⟩
      rw[show v - (r+1)=m by omega,hm,Nat.succ_mul]
      generalize m * (v+2)=z
      omega
     ·refine yg [] [] [] ?_;simp only[allQ,live,yc,yw,Int.natCast_zero,go_sem,Nat.reduceEqDiff,↓reduceIte,reduceCtorEq];refine⟨by omega,?_⟩
      rw[Int.tmod_eq_emod_of_nonneg (by omega)]
      omega
    ·refine yh (r,u+1) ⟨by show u+1<=v;omega,hr,hr256,fun j hj=>?_⟩ ?_ ?_
     ·show l.getD j 0 ≠ (((a+r) % 256:Nat):Int);rw[hb]
      by_cases q:j=u
      ·rw[q];exact hne
      ·exact hno j (by have:j<u+1:=hj;omega)
     ·show(v - r) * (v+2)+(v - (u+1))<(v - r) * (v+2)+(v - u)
      generalize (v - r) * (v+2)=z
      omega
     ·refine yg [] [] [] ?_;simp only[hb,allQ,live,yc,yw,go_sem,Nat.reduceEqDiff,↓reduceIte,reduceCtorEq];omega
    ·obtain rfl:u=v:=by omega
     refine⟨⟨by omega,by omega⟩,ikw (by omega) (by omega),?_⟩
     have hno':(b:Int) ∉ l:=fun hm=>by
      obtain⟨j,hj,e⟩:=List.getElem_of_mem hm;exact hno j (by omega) (by rw[getD_at hj,e])
     refine yh (l ++ [(b:Int)]) ⟨by rw[List.length_append,List.length_singleton];omega,fun y hy=>?_,?_⟩ (by rw[List.length_append,List.length_singleton];omega) ?_
     ·rcases List.mem_append.1 hy with hy | hy
      ·exact hl2 y hy
      ·rw[List.mem_singleton.1 hy];omega
     ·rw[List.nodup_append];exact⟨hl3,by simp,fun y hy z hz=>by rw[List.mem_singleton.1 hz];exact fun e=>hno' (e ▸ hy)⟩
     refine yg [(148,fun i=>(48,i))] [] [] ?_;simp only[List.length_append,hv,allQ,live,yc,yw,go_sem,Nat.reduceEqDiff,↓reduceIte,reduceCtorEq];refine⟨by omega,fun i hi=>?_⟩
     rw[yri,hv]
     by_cases q:i<u
     ·simp only[if_pos q];simp only[live,yc,go_sem,reduceCtorEq]
     ·obtain rfl:i=u:=by omega
      simp only[if_neg q,Nat.sub_self];simp only[live,yc,go_sem,↓reduceIte,reduceCtorEq]
  ·obtain rfl:v=n:=by omega
   simp only[yfj,go_sem];refine⟨.ag [yj l,.os (17,0) 0 v true],[(17,.one (some ⟨41,false,1,v,fun _=>[.a (.slice none 0 0)]⟩))],?_,?_,l,by rw[hv];exact hn1,hl2,hl3,by rw[hv],by rw[hv]⟩
   ·refine yg [] [] [(148,0)] ?_;simp only[yj,hv,allQ,live,yc,go_sem,Nat.reduceEqDiff,↓reduceIte,reduceCtorEq]
   ·simp only[famCln,yeo,allQ,live,go_sem,↓reduceIte]
end Sh
end Go.Proofs.YtpngeppkgoaimaaGreatDoor

