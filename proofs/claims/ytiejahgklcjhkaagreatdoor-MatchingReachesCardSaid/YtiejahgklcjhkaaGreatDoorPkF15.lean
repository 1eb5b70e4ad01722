/- Lemmas, joined: SgV SgX SgY SgZ SiA Pd PrC WmA WmB WmC TrA TrB WmD WkA RefC RefD SiJ. -/
import Derived.Test.YtiejahgklcjhkaaGreatDoorPkF14
import Derived.Test.YtiejahgklcjhkaaGreatDoorPkF12
import Derived.Test.YtiejahgklcjhkaaGreatDoorPkF8
set_option linter.unusedSimpArgs false
set_option linter.unusedVariables false
namespace Go.Proofs.YtiejahgklcjhkaaGreatDoor
open Go
namespace Sh
open Ev Go.RowKit
set_option maxRecDepth 8000
def seeC:SV:=.fn 131 [] [.pt (201,0) 0 0,.pt (203,0) 0 0]
def seeX(cs:List Conf)(ks:List Cnt):Own:=[(201,.one (some ⟨29,true,1,1,fun _=>[.os (202,0) 0 cs.length true]⟩)),(202,.one (some ⟨34,false,1,cs.length,fun i=>[rowsV (cs.getD i [])]⟩)),
 (203,.one (some ⟨30,true,1,1,fun _=>[.os (204,0) 0 ks.length true]⟩)),(204,.one (some ⟨48,false,5,ks.length,fun i=>cntV (ks.getD i default)⟩))]
def yjv:Own:=[(201,.one (some ⟨29,true,1,1,fun _=>[.a (.slice none 0 0)]⟩)),(203,.one (some ⟨30,true,1,1,fun _=>[.a (.slice none 0 0)]⟩))]
def TT:(Nat->Option ABlk)->Value->Prop:=fun _ _=>True
def yeh(p:ProgT)(g:Gr):SV:=.ex TT (.rf (ydg p.raw g))
def ycy(p:ProgT)(g:Gr)(net:List Nat)(kind:Int):List SV:=[yeh p g,usV net,.i .i64 kind,.i .u32 (2 ^ g.ids.length - 1:Nat),seeC]
def ybwf(p:ProgT)(g:Gr)(net:List Nat)(kind:Int)(ws:List Nat):Own:=[(205,.one (some ⟨126,true,5,1,fun _=>ycy p g net kind⟩)),(206,.one (some ⟨38,true,1,1,fun _=>[usV ws]⟩))]
theorem gmr{α:Type}(f:Nat->α)(n k:Nat)(d:α)(h:k<n):((List.range n).map f).getD k d=f k:=by simp[List.getD,h]
def mapR{α:Type}(n:Nat)(f:Nat->α):List α:=(List.range n).map f
theorem gmR{α:Type}(f:Nat->α)(n k:Nat)(d:α)(h:k<n):(mapR n f).getD k d=f k:=gmr f n k d h
theorem yuw{α:Type}(n:Nat)(f:Nat->α):(mapR n f).length=n:=by simp[mapR]
theorem ybfm{α β:Type}(n:Nat)(f:Nat->α)(h:α->β):(mapR n f).map h=mapR n fun k=>h (f k):=by simp[mapR,Function.comp_def]
theorem ybwi{α:Type}(f:Nat->α)(n:Nat)(x d:α)(hx:f n=x)(k:Nat)(h:k<n+1):(((List.range n).map f) ++ [x]).getD k d=f k:=by
 rw[<- hx,show[f n] = [n].map f from rfl,<- List.map_append,<- List.range_succ]
 exact gmr f (n+1) k d h
section
variable {Q1 Q2:(Nat->Option ABlk)->Value->Prop} {p:ProgT} {g:Gr}
theorem ybjg(h:Checked Q1 Q2 p g){kind:Int}{net:List Nat}(hnl:g.ids.length<=net.length){res:Nat->Nat->Nat}(hd:DaemonOk kind net res){c:Conf}(hc:ydw p g c=true){ws:List Nat}(hw:∀ k,ws.getD k 0<2 ^ 32)(hwl:ws.length<=4000) :
  Cm Tryz.prog 168 [(201,0),(203,0)] (yjv ++ ybwf p g net kind ws) [.ag (ycy p g net kind),rowsV c,.i .i64 ws.length,.fn 169 [] [.pt (205,0) 0 0,.pt (206,0) 0 0]]
   fun r o=>(∃ l1 l2 c' k',r = .tp [.ag (usV l1 :: usV l2 :: rowsV c' :: cntV k'),.i .i64 0])/\o=seeX ((ybc p g).runs res ws c |>.map (·.1)) ((ybc p g).runs res ws c |>.map (·.2)):=by
 refine ycbu [(201,0),(203,0)] [131] _ _ _ ?_;obtain⟨O2,hO2⟩:∃ O,seeX ((ybc p g).runs res ws c |>.map (·.1)) ((ybc p g).runs res ws c |>.map (·.2))=O:=⟨_,rfl⟩;rw[hO2];obtain⟨hr1,hr2⟩:=ylr h.hg h.hp hc;have hcin:=ygy h.hg h.hp hc;have hC:=yvz c hr1 hr2;have hE:=yhy p h.hg h.hp hcin;have hX:SimL [yeh p g,rowsV c] [.rf (ydg p.raw g),rowsV c]:=⟨ykr _ _,Sim.refl _,trivial⟩
 have hen:=ybkb p g c;have hid:=h.hg.2.2.1;have h24:=h.hg.2.1;have h2n:2 ^ g.ids.length<=2 ^ 24:=Nat.pow_le_pow_right (by omega) (by omega)
 simp only[c168,ycla,ychk,ycoh,yjv,ybwf,ycy,seeC,usV,yeh,go_sem,Nat.reduceEqDiff,Nat.reduceAdd,Nat.reduceLT,Nat.reduceBEq,↓reduceIte,reduceCtorEq];refine hC.use ?_;simp only[thenO,ycpd,clash,go_sem,Nat.reduceEqDiff,Nat.reduceAdd,Nat.reduceLeDiff,Nat.reduceBEq,↓reduceIte,reduceCtorEq];refine hE.useS ?_ ?_
 ·exact hX
 have ha:IntKind.wrap .u32 (((BitVec.ofInt (IntKind.bits .u32) (yw p g c:Int)) &&& BitVec.ofInt (IntKind.bits .u32) ((2 ^ g.ids.length - 1:Nat):Int)).toNat:Int)=(yw p g c:Int):=by
  have e:=u32_and (a:=yw p g c) (b:=2 ^ g.ids.length - 1) (by omega) (by omega)
  rw[Nat.and_two_pow_sub_one_of_lt_two_pow hen]at e;exact e
 simp only[IntKind.bits]at ha;simp only[thenO,ycfv,clash,ha,go_sem,Nat.reduceEqDiff,Nat.reduceAdd,Nat.reduceLT,Nat.reduceBEq,↓reduceIte];have hB:=yboj (e:=yw p g c) (by omega)
 obtain⟨K0,hK0⟩:∃ K,ycs (yw p g c)=K:=⟨_,rfl⟩;rw[hK0]at hB;refine hB.use ?_;simp only[ycid,cntV,go_sem,Nat.reduceEqDiff,Nat.reduceAdd,↓reduceIte,reduceCtorEq];have hS:=ybry hr1 hr2 (yw p g c) K0;simp only[cntV]at hS;refine callM_of hS [(1,201),(3,203)] 200 [1,2,3,4,8,9,10,11,12] [4,8,10,12,205,206] ?_ ?_
 ·simp only[ycze,to1,okN,famCln,obCln,keepF,keepO,allQ,live,sim_self,go_sem,Nat.reduceEqDiff,Nat.reduceAdd,Nat.reduceBEq,↓reduceIte,reduceCtorEq]
 ·rintro r o' ⟨rfl,rfl⟩;simp only[seeO,thenM,yhf,nuF,nu,difN,keepF,keepO,Fam.ren,OB.ren,dim,yrv,ygd,go_sem,Nat.reduceEqDiff,Nat.reduceAdd,Nat.reduceBEq,↓reduceIte,reduceCtorEq];simp only[yche,ycgv,splice,go_sem,Nat.reduceEqDiff,Nat.reduceAdd,Nat.reduceLeDiff,Nat.reduceLT,Nat.reduceMul,↓reduceIte,reduceCtorEq]
  let st:Nat->Conf × Cnt:=stAt (ybc p g) res ws c K0
  let en:Nat->Nat:=fun i=>yw p g (st i).1
  let ch:Nat->Nat:=fun i=>res (en i) (ws.getD i 0)
  refine loop_on (σ:=Nat) (fun i=>⟨[(40,.i .i64 i),(39,.i .i64 ws.length),(1,rowsV (st i).1),(3,.fn 169 [] [.pt (205,0) 0 0,.pt (206,0) 0 0]),(4,.pt (4,0) 0 0),(8,.pt (8,0) 0 0),(9,.i .i64 0),(10,.pt (10,0) 0 0),(11,.i .u32 (en i)),(12,.pt (12,0) 0 0)],
   [(4,.one (some ⟨126,true,5,1,fun _=>ycy p g net kind⟩)),
    (8,.one (some ⟨130,true,8,1,fun _=>[.a (.slice none 0 0),.a (.slice none 0 0),.a (.slice none 0 0),.i .i64 0,.i .i64 0,.i .i64 0,.i .i64 0,.i .u32 0]⟩)),
    (10,.one (some ⟨130,true,8,1,fun _=>[.os (301,0) 0 i true,.os (302,0) 0 (i+1) true,.a (.slice none 0 0),.i .i64 0,.i .i64 0,.i .i64 0,.i .i64 0,.i .u32 0]⟩)),
    (301,.one (some ⟨40,false,1,i,fun j=>[.i .u32 (ch j)]⟩)),(302,.one (some ⟨40,false,1,i+1,fun j=>[.i .u32 (en j)]⟩)),
    (12,.one (some ⟨48,true,5,1,fun _=>cntV (st i).2⟩)),
    (201,.one (some ⟨29,true,1,1,fun _=>[.os (202,0) 0 (i+1) true]⟩)),(202,.one (some ⟨34,false,1,i+1,fun j=>[rowsV (st j).1]⟩)),
    (203,.one (some ⟨30,true,1,1,fun _=>[.os (204,0) 0 (i+1) true]⟩)),(204,.one (some ⟨48,false,5,i+1,fun j=>cntV (st j).2⟩)),
    (205,.one (some ⟨126,true,5,1,fun _=>ycy p g net kind⟩)),(206,.one (some ⟨38,true,1,1,fun _=>[usV ws]⟩))]⟩)
   (fun i=>i<=ws.length/\(∀ j,j<i->en j ≠ 0)/\ydw p g (st i).1=true/\(st i).2.ok/\(st i).2.steps=i) (fun i=>ws.length - i) 0 ⟨Nat.zero_le _,fun j hj=>absurd hj (Nat.not_lt_zero j),hc,by show K0.ok;rw[<- hK0];exact yxs (by omega),by show K0.steps=0;rw[<- hK0];rfl⟩ ?_ ?_
  ·refine weak_allP [(302,fun i=>(37,i))] [301] [] ?_;have st0:st 0=(c,K0):=rfl;have en0:en 0=yw p g c:=rfl;simp only[ycy,yeh,seeC,usV,cntV,st0,en0,allQ,live,sim_self,sim_i,Int.natCast_zero,go_sem,Nat.reduceEqDiff,Nat.reduceLeDiff,Nat.reduceBEq,↓reduceIte,reduceCtorEq];refine⟨fun i _=>⟨(301,0),rfl,?_⟩,?_⟩
   ·simp only[go_sem,go_sem,Nat.reduceEqDiff,↓reduceIte]
   refine⟨fun i hi=>?_,fun i hi=>?_,fun i hi=>?_⟩
   ·obtain rfl:i=0:=by omega
    simp only[Nat.zero_mul];simp only[en0,live,sim_self,go_sem,reduceCtorEq]
   ·obtain rfl:i=0:=by omega
    simp only[st0,List.getD_cons_zero,sim_self,go_sem]
   ·obtain rfl:i=0:=by omega
    simp only[st0,List.getD_cons_zero,go_sem]
  ·rintro i ⟨hi,hj,hci,hko,hks⟩;obtain⟨cr1,cr2⟩:=ylr h.hg h.hp hci;have cin:=ygy h.hg h.hp hci;have eni:=ybkb p g (st i).1
   have fin:(i=ws.length\/en i=0)->(ybc p g).runs res ws c=mapR (i+1) st:=fun hq=>by
    have e:=yblf (ybc p g) res ws c i;rw[show(ybc p g).en c=yw p g c from rfl,hK0]at e
    exact e hj hi hq
   simp only[ycmy,ycoe,ybnj,ycy,yeh,seeC,usV,cntV,go_sem,Nat.reduceEqDiff,Nat.reduceAdd,Nat.reduceLeDiff,Nat.reduceBEq,↓reduceIte,reduceCtorEq];refine⟨fun hlt=>.inl ?_,fun hlt=>?_⟩
   ·have hi':i<ws.length:=by omega
    by_cases h0:en i=0
    ·obtain⟨x,hF⟩:=ybch hd (.fn 131 [] [.rf [.sl 1 (i+1) fun j=>[rowsV (st j).1]],.rf [.sl 5 (i+1) fun j=>cntV (st j).2]]) (.i .u32 (2 ^ g.ids.length - 1:Nat)) (yeh p g) hw hi';simp only[yeh,usV,cntV]at hF;simp only[h0,Int.natCast_zero];refine hF.use ?_;simp only[thenO,ybdo,ybbz,ybbq,go_sem,Nat.reduceEqDiff,Nat.reduceAdd,Nat.reduceLeDiff,↓reduceIte,reduceCtorEq];refine⟨by decide,?_⟩
     simp only[yer,go_sem];refine⟨.tp [.ag (usV (mapR i ch) :: usV (mapR (i+1) en) :: rowsV (st i).1 :: cntV (st i).2),.i .i64 0],O2,?_,?_,⟨_,_,_,_,rfl⟩,rfl⟩
     ·subst hO2;rw[fin (.inr h0)];refine weak_allP [] [] [(301,0),(302,0)] ?_;simp only[seeX,usV,cntV,ybfm,yuw,allQ,live,sim_self,sim_i,go_sem,Nat.reduceEqDiff,↓reduceIte,reduceCtorEq];refine⟨ycew ⟨ynt ⟨sim_sl fun q hq=>by rw[gmR _ _ _ _ hq],sim_sl fun q hq=>by rw[gmR _ _ _ _ hq],Sim.refl _,Sim.refl _,Sim.refl _,Sim.refl _,Sim.refl _,Sim.refl _,trivial⟩,Sim.refl _,trivial⟩,fun q hq=>?_,fun q hq=>?_⟩
      ·rw[gmR _ _ _ _ hq];exact Sim.refl _
      ·rw[gmR _ _ _ _ hq];exact⟨rfl,rfl,rfl,rfl,rfl⟩
     ·subst hO2;simp only[seeX,usV,cntV,famCln,obCln,allQ,live,go_sem,Nat.reduceEqDiff,↓reduceIte]
    ·have hen24:en i<2 ^ 24:=by show yw p g (st i).1<_;omega
     have henn:en i<2 ^ net.length:=Nat.lt_of_lt_of_le eni (Nat.pow_le_pow_right (by omega) hnl)
     have hF:=ybbn hd (.fn 131 [] [.rf [.sl 1 (i+1) fun j=>[rowsV (st j).1]],.rf [.sl 5 (i+1) fun j=>cntV (st j).2]]) (.i .u32 (2 ^ g.ids.length - 1:Nat)) (yeh p g) hw hen24 henn h0 hi';obtain⟨hch0,hchs⟩:=hd.sub (en i) (ws.getD i 0) h0 hen24;have hP:=hd.permits (en i) (ws.getD i 0) hen24 henn h0 (hw i);have hch24:ch i<2 ^ 24:=ybcb hchs hen24;have hSt:=ybxf p h.hg h.hp cin (s:=ch i) (by omega) hchs
     obtain⟨d,hdd⟩:∃ d,yem p g (st i).1 (ch i)=d:=⟨_,rfl⟩;rw[hdd]at hSt;have hcd:ydw p g d=true:=by rw[<- hdd];exact ytb h.hg h.hp h.hf hci (ch i)
     simp only[yeh,usV,cntV]at hF hP;refine hF.use ?_;simp only[thenO,ybdo,ybtb,go_sem,Nat.reduceEqDiff,Nat.reduceAdd,Nat.reduceLeDiff,Nat.reduceBEq,↓reduceIte,reduceCtorEq];refine hP.use ?_;simp only[thenO,ybng,go_sem,Nat.reduceEqDiff,Nat.reduceAdd,Nat.reduceLeDiff,Nat.reduceBEq,↓reduceIte,reduceCtorEq];refine hSt.useS ?_ ?_
     ·exact⟨ykr _ _,Sim.refl _,Sim.refl _,trivial⟩
     obtain⟨dr1,dr2⟩:=ylr h.hg h.hp hcd;have dcin:=ygy h.hg h.hp hcd;have hE2:=yhy p h.hg h.hp dcin;have hen2:=ybkb p g d;obtain⟨e2,he2⟩:∃ e,yw p g d=e:=⟨_,rfl⟩;rw[he2]at hE2 hen2
     have ha2:IntKind.wrap .u32 (((BitVec.ofInt (IntKind.bits .u32) (e2:Int)) &&& BitVec.ofInt (IntKind.bits .u32) ((2 ^ g.ids.length - 1:Nat):Int)).toNat:Int)=(e2:Int):=by
      have e:=u32_and (a:=e2) (b:=2 ^ g.ids.length - 1) (by omega) (by omega)
      rw[Nat.and_two_pow_sub_one_of_lt_two_pow hen2]at e;exact e
     simp only[IntKind.bits]at ha2;simp only[thenO,ybvx,clash,go_sem,Nat.reduceEqDiff,Nat.reduceAdd,Nat.reduceLeDiff,Nat.reduceBEq,↓reduceIte,reduceCtorEq];refine hE2.useS ?_ ?_
     ·exact⟨ykr _ _,Sim.refl _,trivial⟩
     have hA:=ycsn hko (by omega) hch0 hch24 (e:=e2) (by omega)
     obtain⟨K2,hK2⟩:∃ K,addP (st i).2 (ch i) e2=K:=⟨_,rfl⟩;rw[hK2]at hA;simp only[cntV]at hA;simp only[thenO,ybob,clash,ha2,go_sem,Nat.reduceEqDiff,Nat.reduceAdd,Nat.reduceBEq,↓reduceIte,reduceCtorEq];refine hA.use ?_;simp only[ybqh,go_sem,Nat.reduceEqDiff,Nat.reduceAdd,↓reduceIte,reduceCtorEq]
     let cs:List Conf:=(List.range (i+1)).map fun j=>(st j).1
     let ks:List Cnt:=(List.range (i+1)).map fun j=>(st j).2
     have lc:cs.length=i+1:=by simp[cs]
     have lk:ks.length=i+1:=by simp[ks]
     have hS2:=ycam cs ks (by omega) (by omega) dr1 dr2 e2 K2
     simp only[cntV]at hS2;refine callM_of hS2 [(1,201),(2,202),(3,203),(4,204)] 400 [40,39,1,3,4,8,9,10,11,12,14] [4,8,10,301,302,12,205,206] ?_ ?_
     ·simp only[seeO,lc,lk,cntV,to1,okN,famCln,obCln,keepF,keepO,allQ,live,sim_self,sim_i,go_sem,Nat.reduceEqDiff,Nat.reduceAdd,Nat.reduceBEq,↓reduceIte,reduceCtorEq];refine⟨fun q hq=>?_,fun q hq=>?_⟩
      ·simp only[cs,gmr _ _ _ _ hq];exact Sim.refl _
      ·simp only[ks,gmr _ _ _ _ hq];exact⟨trivial,trivial,trivial,trivial,trivial⟩
     ·rintro r o' ⟨rfl,rfl⟩;simp only[seeO,cntV,List.length_append,lc,lk,thenM,yhf,nuF,nu,difN,keepF,keepO,Fam.ren,OB.ren,dim,yew,yrv,ygd,go_sem,Nat.reduceEqDiff,Nat.reduceBEq,↓reduceIte];simp only[ybqc,ybmr,ybuu,splice,go_sem,Nat.reduceEqDiff,Nat.reduceAdd,Nat.reduceLeDiff,Nat.reduceLT,↓reduceIte,reduceCtorEq]
      have hst:st (i+1)=(d,K2):=by
       show stAt (ybc p g) res ws c K0 (i+1)=_;rw[yyv];show(yem p g (st i).1 (ch i),addP (st i).2 (ch i) (yw p g (yem p g (st i).1 (ch i))))=_;rw[hdd,he2,hK2]
      have hen':en (i+1)=e2:=by
       show yw p g (st (i+1)).1=_;rw[hst];exact he2
      refine⟨⟨by omega,by omega⟩,⟨by omega,by omega⟩,ikw (by omega) (by omega),?_⟩
      refine loop_again (i+1) ⟨by omega,fun j hj'=>?_,by rw[hst];exact hcd,by rw[hst,<- hK2];exact ybvp hko hch24 hch0 (by omega),by rw[hst,<- hK2];show(st i).2.steps+1=i+1;omega⟩ (by omega) ?_
      ·by_cases q:j=i
       ·rw[q];exact h0
       ·exact hj j (by omega)
      refine weak_allP [(301,fun i=>(90,i)),(302,fun i=>(96,i))] [] [] ?_;simp only[hst,hen',allQ,live,sim_self,sim_i,go_sem,Nat.reduceEqDiff,Nat.reduceLeDiff,↓reduceIte,reduceCtorEq];have hcs:∀ k,k<i+1+1->(cs ++ [d]).getD k []=(st k).1:=ybwi (fun j=>(st j).1) (i+1) d [] (by rw[hst])
      have hksx:∀ k,k<i+1+1->(ks ++ [K2]).getD k default=(st k).2:=ybwi (fun j=>(st j).2) (i+1) K2 default (by rw[hst])
      refine⟨by omega,fun q hq=>?_,fun q hq=>?_,fun q hq=>?_,fun q hq=>?_⟩
      ·by_cases q1:q<i
       ·simp only[if_pos q1];simp only[go_sem,live,sim_self,go_sem,reduceCtorEq]
       ·obtain rfl:q=i:=by omega
        simp only[if_neg q1,Nat.sub_self,Nat.zero_mul];simp only[ch,live,sim_self,go_sem,reduceCtorEq]
      ·by_cases q1:q<i+1
       ·simp only[if_pos q1];simp only[go_sem,live,sim_self,go_sem,reduceCtorEq]
       ·obtain rfl:q=i+1:=by omega
        simp only[if_neg q1,Nat.sub_self,Nat.zero_mul];simp only[hen',live,sim_self,go_sem,reduceCtorEq]
      ·rw[hcs q hq];exact Sim.refl _
      ·rw[hksx q hq];exact⟨rfl,rfl,rfl,rfl,rfl⟩
   ·obtain rfl:i=ws.length:=by omega
    simp only[ybbz,ybbq,go_sem,Nat.reduceEqDiff,Nat.reduceAdd,Nat.reduceLeDiff,↓reduceIte,reduceCtorEq];refine⟨by decide,?_⟩
    simp only[yer,go_sem];refine⟨.tp [.ag (usV (mapR ws.length ch) :: usV (mapR (ws.length+1) en) :: rowsV (st ws.length).1 :: cntV (st ws.length).2),.i .i64 0],O2,?_,?_,⟨_,_,_,_,rfl⟩,rfl⟩
    ·subst hO2;rw[fin (.inl rfl)];refine weak_allP [] [] [(301,0),(302,0)] ?_;simp only[seeX,usV,cntV,ybfm,yuw,allQ,live,sim_self,sim_i,go_sem,Nat.reduceEqDiff,↓reduceIte,reduceCtorEq];refine⟨ycew ⟨ynt ⟨sim_sl fun q hq=>by rw[gmR _ _ _ _ hq],sim_sl fun q hq=>by rw[gmR _ _ _ _ hq],Sim.refl _,Sim.refl _,Sim.refl _,Sim.refl _,Sim.refl _,Sim.refl _,trivial⟩,Sim.refl _,trivial⟩,fun q hq=>?_,fun q hq=>?_⟩
     ·rw[gmR _ _ _ _ hq];exact Sim.refl _
     ·rw[gmR _ _ _ _ hq];exact⟨rfl,rfl,rfl,rfl,rfl⟩
    ·subst hO2;simp only[seeX,usV,cntV,famCln,obCln,allQ,live,go_sem,Nat.reduceEqDiff,↓reduceIte]
end
end Sh
end Go.Proofs.YtiejahgklcjhkaaGreatDoor

namespace Go.Proofs.YtiejahgklcjhkaaGreatDoor
open Go
namespace Sh
open Ev Go.RowKit
set_option maxRecDepth 8000
theorem Returns.exT{P:Program}{g:FuncId}{args:List SV}{r:SV}(h:Returns P g args r):Returns P g args (.ex TT r):=fun G m us h1 h2 h3=>by
 obtain⟨v,m',x,a,b,c,d,e⟩:=h G m us h1 h2 h3;exact⟨v,m',.ex TT r,a,b,c,rfl,.ex trivial (fun _ _ _ _ _=>trivial) (d ▸ e)⟩
section
variable {Q1 Q2:(Nat->Option ABlk)->Value->Prop} {p:ProgT} {g:Gr}
theorem ybok(h:Checked Q1 Q2 p g){kind:Int}(hk:1<=kind/\kind<=4){c:Conf}(hc:ydw p g c=true){len:Nat}(hl:len<=4096):Returns Tryz.prog 129 [.ag (yct Q1 Q2 p.raw),grV g,.i .i64 kind,rowsV c,.i .i64 len] (.i .i64 0):=by
 refine Returns.of (ycxe _ _ ?_);have hC:=ywz h c;rw[if_pos hc]at hC;have hD:=ybia kind;rw[decide_eq_true hk.1,decide_eq_true hk.2]at hD;have f1:decide ((len:Int) > 4096)=false:=by simp;omega
 simp only[yct,grV]at hC;simp only[c129,ycin,ycpb,yct,grV,go_sem,Nat.reduceEqDiff,Nat.reduceAdd,Nat.reduceLT,↓reduceIte,reduceCtorEq];refine hC.use ?_;simp only[thenO,yceb,ycpw,Int.reduceBNe,go_sem,Nat.reduceEqDiff,Nat.reduceAdd,↓reduceIte,reduceCtorEq];refine hD.use ?_;simp only[ycco,ycip,f1,sim_i,Bool.and_self,go_sem,Nat.reduceEqDiff,Nat.reduceAdd,↓reduceIte,reduceCtorEq]
theorem yblj(h:Checked Q1 Q2 p g):Returns Tryz.prog 93 [.ag (ykv p.raw),grV g] (yeh p g):=by
 have hp':=h.hp;unfold ProgT.ok at hp';simp only[Bool.and_eq_true,decide_eq_true_eq]at hp';exact(ynd p.raw h.hg hp'.1.1.2 hp'.1.1.1.2).exT
theorem ybak(h:Checked Q1 Q2 p g)(kind:Int):Cm Tryz.prog 130 [(201,0),(203,0)] yjv [.ag (yct Q1 Q2 p.raw),grV g,.i .i64 kind,seeC] fun r o=>r = .ag (ycy p g (g.ports.map netP) kind)/\o=yjv:=by
 refine ybzn [(201,0),(203,0)] [] _ _ _ ?_;have hM:=yblj h;have hN:=ybiu h.hg;have hA:=yczu h.hg;simp only[grV]at hM hN hA;simp only[c130,ycga,ycnf,yct,grV,seeC,yjv,clash,go_sem,Nat.reduceEqDiff,Nat.reduceAdd,Nat.reduceLT,↓reduceIte,reduceCtorEq];refine hM.useS ?_ ?_
 ·exact⟨ynt ⟨Sim.refl _,ykr _ _,ykr _ _,trivial⟩,Sim.refl _,trivial⟩
 simp only[usV,yeh]at hN ⊢;simp only[thenO,clash,go_sem,Nat.reduceEqDiff,Nat.reduceAdd,Nat.reduceLeDiff,↓reduceIte,reduceCtorEq];refine hN.use ?_;simp only[go_sem,Nat.reduceAdd,Nat.reduceLeDiff,↓reduceIte];refine⟨by decide,hA.use ?_⟩
 simp only[yer,go_sem,Nat.reduceEqDiff,Nat.reduceAdd,↓reduceIte];refine⟨by decide,by decide,.ag (ycy p g (g.ports.map netP) kind),yjv,?_,?_,rfl,rfl⟩
 ·refine weak_allP [] [] [] ?_;simp only[ycy,yeh,usV,seeC,yjv,allQ,live,sim_self,go_sem,Nat.reduceEqDiff,↓reduceIte,reduceCtorEq]
 ·simp only[ycy,yeh,usV,seeC,yjv,famCln,obCln,allQ,live,go_sem,Nat.reduceEqDiff,↓reduceIte]
theorem yboz(h:Checked Q1 Q2 p g){kind:Int}{net:List Nat}(hnl:g.ids.length<=net.length){res:Nat->Nat->Nat}(hd:DaemonOk kind net res){c:Conf}(hc:ydw p g c=true){ws:List Nat}(hw:∀ k,ws.getD k 0<2 ^ 32)(hwl:ws.length<=4000) :
  Cm Tryz.prog 133 [(201,0),(203,0)] yjv [.ag (ycy p g net kind),rowsV c,usV ws]
   fun r o=>(∃ l1 l2 c' k',r = .tp [.ag (usV l1 :: usV l2 :: rowsV c' :: cntV k'),.i .i64 0])/\o=seeX ((ybc p g).runs res ws c |>.map (·.1)) ((ybc p g).runs res ws c |>.map (·.2)):=by
 refine ycaz [(201,0),(203,0)] [168] _ _ _ ?_;have hX:=ybjg h hnl hd hc hw hwl
 generalize ((ybc p g).runs res ws c).map (·.1)=CS at hX ⊢
 generalize ((ybc p g).runs res ws c).map (·.2)=KS at hX ⊢
 simp only[c133,ycqx,ycsc,yjv,ycy,yeh,usV,seeC,go_sem,Nat.reduceEqDiff,Nat.reduceAdd,Nat.reduceLT,↓reduceIte,reduceCtorEq];refine callM_of hX [(201,201),(203,203),(205,3),(206,5)] 0 [6,7] [6] ?_ ?_
 ·simp only[yjv,ybwf,ycy,yeh,usV,seeC,List.cons_append,List.nil_append,to1,okN,famCln,obCln,keepF,keepO,allQ,live,sim_self,go_sem,Nat.reduceEqDiff,Nat.reduceAdd,Nat.reduceLeDiff,Nat.reduceBEq,↓reduceIte,reduceCtorEq]
 ·rintro r o' ⟨⟨l1,l2,c',k',rfl⟩,rfl⟩;simp only[seeX,usV,cntV,thenM,yhf,nuF,nu,difN,keepF,keepO,Fam.ren,OB.ren,dim,yew,yxq,ylb,yrv,ygd,go_sem,Nat.reduceEqDiff,Nat.reduceAdd,Nat.reduceBEq,↓reduceIte,reduceCtorEq];simp only[yer,go_sem];refine⟨.tp [.ag (usV l1 :: usV l2 :: rowsV c' :: cntV k'),.i .i64 0],seeX CS KS,?_,?_,⟨l1,l2,c',k',rfl⟩,rfl⟩
  ·refine weak_allP [] [] [] ?_;simp only[seeX,usV,cntV,allQ,live,sim_self,go_sem,Nat.reduceEqDiff,↓reduceIte,reduceCtorEq]
  ·simp only[seeX,usV,cntV,famCln,obCln,allQ,live,go_sem,Nat.reduceEqDiff,↓reduceIte]
def ydd(l:List Conf):SV:=.sl 1 l.length (fun i=>[rowsV (l.getD i [])])
def ydn(l:List Cnt):SV:=.sl 5 l.length (fun i=>cntV (l.getD i default))
theorem ybvs(h:Checked Q1 Q2 p g){kind:Int}(hk:1<=kind/\kind<=4){res:Nat->Nat->Nat}(hd:DaemonOk kind (g.ports.map netP) res){c:Conf}(hc:ydw p g c=true){ws:List Nat}(hw:∀ k,ws.getD k 0<2 ^ 32)(hwl:ws.length<=4000) :
  Returns Tryz.prog 78 [.ag (yct Q1 Q2 p.raw),grV g,.i .i64 kind,rowsV c,usV ws] (.tp [ydd (((ybc p g).runs res ws c).map (·.1)),ydn (((ybc p g).runs res ws c).map (·.2)),.i .i64 0]):=by
 refine Returns.of (yctl [130,133] _ _ ?_);have hC:=ybok h hk hc (len:=ws.length) (by omega)
 have hN:=ybak h kind;have hX:=yboz h (by have:=h.hg.2.2.1;rw[List.length_map];omega) hd hc hw hwl
 generalize ((ybc p g).runs res ws c).map (·.1)=CS at hX ⊢
 generalize ((ybc p g).runs res ws c).map (·.2)=KS at hX ⊢
 simp only[yct,grV]at hC;simp only[c78,ydgz,ydbf,yct,grV,usV,go_sem,Nat.reduceEqDiff,Nat.reduceAdd,Nat.reduceLT,Nat.reduceBEq,↓reduceIte,reduceCtorEq];refine hC.use ?_;simp only[thenO,yddq,ydcl,ydcy,ydei,Int.reduceBNe,go_sem,Nat.reduceEqDiff,Nat.reduceAdd,Nat.reduceLT,↓reduceIte,reduceCtorEq];refine callM_of hN [(201,14),(203,15)] 0 [3,4,14,15] [] ?_ ?_
 ·simp only[yjv,seeC,yct,grV,to1,okN,famCln,obCln,keepF,keepO,allQ,live,sim_self,go_sem,Nat.reduceEqDiff,Nat.reduceAdd,↓reduceIte,reduceCtorEq]
 rintro r o' ⟨rfl,rfl⟩;simp only[yjv,ycy,yeh,usV,seeC,thenM,yhf,nuF,nu,difN,keepF,keepO,Fam.ren,OB.ren,dim,yew,ycwh,yxq,ycfg,ylb,ybfa,ybhq,go_sem,Nat.reduceEqDiff,Nat.reduceAdd,Nat.reduceLT,Nat.reduceBEq,↓reduceIte,reduceCtorEq];simp only[ydha,go_sem,Nat.reduceEqDiff,Nat.reduceAdd,Nat.reduceBEq,↓reduceIte,reduceCtorEq];simp only[ycy,yeh,usV,seeC]at hX;refine callM_of hX [(201,14),(203,15)] 0 [14,15] [] ?_ ?_
 ·simp only[yjv,to1,okN,famCln,obCln,keepF,keepO,allQ,live,sim_self,go_sem,Nat.reduceEqDiff,Nat.reduceAdd,↓reduceIte,reduceCtorEq]
 rintro r o' ⟨⟨l1,l2,c',k',rfl⟩,rfl⟩;simp only[seeX,cntV,thenM,yhf,nuF,nu,difN,keepF,keepO,Fam.ren,OB.ren,dim,yew,yxq,ylb,yrv,ygd,go_sem,Nat.reduceEqDiff,Nat.reduceAdd,Nat.reduceLT,Nat.reduceBEq,↓reduceIte,reduceCtorEq];simp only[ydfp,ycqn,clash,Int.reduceBNe,ydd,ydn,go_sem,Nat.reduceEqDiff,Nat.reduceAdd,↓reduceIte,reduceCtorEq];exact Sim.refl _
end
end Sh
end Go.Proofs.YtiejahgklcjhkaaGreatDoor

namespace Go.Proofs.YtiejahgklcjhkaaGreatDoor
open Go
def ycc(v m:Int):Int:=if m<1 then 0 else v % m
def atP(l:List Int)(i:Nat):Int:=l.getD i 0
theorem yck{v m:Int}(h:1<=m):0<=ycc v m/\ycc v m<m:=by
 unfold ycc;rw[if_neg (by omega)]
 exact⟨Int.emod_nonneg _ (by omega),Int.emod_lt_of_pos _ (by omega)⟩
namespace Sh
open Ev Go.RowKit
set_option maxRecDepth 8000
theorem ybhw{v m:Int}(h:1<=m):(if v.tmod m<0 then v.tmod m+m else v.tmod m)=v % m:=by
 have h1:=Int.emod_add_mul_ediv v m;have h2:=Int.emod_nonneg v (show m ≠ 0 by omega)
 have h3:=Int.emod_lt_of_pos v (show 0<m by omega)
 have h4:=Int.tmod_eq_emod (a:=v) (b:=m);have h5:(m.natAbs:Int)=m:=by omega
 rw[h4]
 by_cases q:0<=v\/m ∣ v
 ·simp only[if_pos q,Int.natCast_zero,Int.sub_zero];rw[if_neg (by omega)]
 ·simp only[if_neg q,h5];rw[if_pos (by omega)]
  omega
theorem ycj(v m:Int)(hm:m<=4611686018427387904)(hv:inK .i64 v):Returns Tryz.prog 39 [.i .i64 v,.i .i64 m] (.i .i64 (ycc v m)):=by
 refine Returns.of (ydhv _ _ ?_);simp only[c39,yddk,ydhk,ydeh,ydfi,ydcd,ydhc,yder,sim_i,go_sem,Nat.reduceEqDiff,Nat.reduceAdd,↓reduceIte,reduceCtorEq];unfold ycc;refine⟨fun h=>by rw[if_pos h],fun h=>⟨by omega,fun h2=>?_,fun h2=>?_⟩⟩
 ·have h3:=ybhw (v:=v) (show 1<=m by omega)
  rw[if_pos h2]at h3;rw[if_neg h,h3];have h4:=Int.emod_nonneg v (show m ≠ 0 by omega)
  have h5:=Int.emod_lt_of_pos v (show 0<m by omega)
  exact⟨ikw (by omega) (by omega),rfl⟩
 ·have h3:=ybhw (v:=v) (show 1<=m by omega)
  rw[if_neg h2]at h3;rw[if_neg h,h3]
theorem at_ret(l:List Int)(i:Nat):Returns Tryz.prog 77 [intsV l,.i .i64 i] (.i .i64 (atP l i)):=by
 refine Returns.of (yddw _ _ ?_);simp only[c77,yczw,ydhl,yddg,yddh,intsV,sim_i,go_sem,Nat.reduceEqDiff,Nat.reduceAdd,↓reduceIte,reduceCtorEq];exact⟨fun h=>⟨by omega,rfl⟩,fun h=>by unfold atP;rw[List.getD,List.getElem?_eq_none (by omega)];rfl⟩
theorem wrap32(z:Int):0<=IntKind.wrap .u32 z/\IntKind.wrap .u32 z<2 ^ 32:=by
 unfold IntKind.wrap;simp only[IntKind.signed,IntKind.bits];exact⟨Int.emod_nonneg _ (by decide),Int.emod_lt_of_pos _ (by decide)⟩
theorem yrg{α:Type}(l:List α)(x d:α)(i:Nat):(l ++ [x]).getD i d=if i<l.length then l.getD i d else if i=l.length then x else d:=by
 by_cases h:i<l.length
 ·simp[List.getD,List.getElem?_append_left h,h]
 ·by_cases e:i=l.length
  ·subst e;simp[List.getD]
  ·rw[if_neg h,if_neg e,List.getD,List.getElem?_eq_none (by simp;omega)]
   rfl
theorem yup(l:List Nat)(hb:∀ k,l.getD k 0<2 ^ 32)(n:Nat)(hn:n<=1000):Ct Tryz.prog 26 [usV l,.i .i64 n] fun r=>∃ ws:List Nat,ws.length=n/\(∀ k,ws.getD k 0<2 ^ 32)/\Sim r (usV ws):=by
 refine ydgx _ _ ?_;simp only[c26,ydbi,ydao,ydhb,usV,go_sem,↓reduceIte];refine loop_on (σ:=List Nat) (fun ws=>⟨[(6,.i .i64 ws.length),(1,.i .i64 n),(0,usV l),(5,.os (100,0) 0 ws.length true)],[(100,.one (some ⟨40,false,1,ws.length,fun k=>[.i .u32 (ws.getD k 0:Nat)]⟩))]⟩) (fun ws=>ws.length<=n /\ ∀ k,ws.getD k 0<2 ^ 32) (fun ws=>n - ws.length) [] ⟨Nat.zero_le _,fun k=>by simp⟩ ?_ ?_
 ·refine weak_all [] [100] [] ?_;simp only[usV,allQ,live,sim_self,Int.natCast_zero,go_sem,Nat.reduceEqDiff,↓reduceIte,reduceCtorEq];exact⟨(100,0),rfl,rfl,rfl⟩
 ·rintro ws ⟨h1,h2⟩;simp only[ydgp,ydal,usV,go_sem,Nat.reduceEqDiff,Nat.reduceAdd,↓reduceIte,reduceCtorEq];refine⟨fun hlt=>⟨fun h0=>?_,fun h0=>?_⟩,fun hlt=>?_⟩
  ·simp only[ycws,ydes,splice,go_sem,Nat.reduceEqDiff,Nat.reduceAdd,Nat.reduceLeDiff,Nat.reduceLT,↓reduceIte,reduceCtorEq];refine⟨⟨by omega,by omega⟩,ikw (by omega) (by omega),?_⟩
   refine loop_again (ws ++ [4294967295]) ⟨by simp;omega,fun k=>?_⟩ (by simp;omega) ?_
   ·rw[yrg];split
    ·exact h2 k
    ·split<;>decide
   refine weak_all [(100,fun i=>(19,i))] [] [] ?_;simp only[List.length_append,allQ,live,sim_self,sim_i,go_sem,Nat.reduceEqDiff,↓reduceIte,reduceCtorEq];refine⟨by omega,fun i hi=>?_⟩
   rw[yrg]
   by_cases q:i<ws.length
   ·simp only[if_pos q];simp only[live,sim_self,go_sem,reduceCtorEq]
   ·obtain rfl:i=ws.length:=by omega
    simp only[if_neg q,Nat.sub_self,Nat.zero_mul];simp only[live,sim_i,go_sem,↓reduceIte,reduceCtorEq];rfl
  ·simp only[ydaj,yddt,clash,go_sem,Nat.reduceEqDiff,Nat.reduceAdd,↓reduceIte,reduceCtorEq];have hl0:0<l.length:=by omega
   have t1:(ws.length:Int).tmod (l.length:Int)=((ws.length % l.length:Nat):Int):=(Int.ofNat_tmod _ _).symm;have t2:(ws.length:Int).tdiv (l.length:Int)=((ws.length / l.length:Nat):Int):=(Int.ofNat_tdiv _ _).symm;have t3:((ws.length / l.length:Nat):Int).tmod 24=((ws.length / l.length % 24:Nat):Int):=(Int.ofNat_tmod _ 24).symm;have hlt1:=Nat.mod_lt ws.length hl0;have hle1:=Nat.div_le_self ws.length l.length
   obtain⟨D,hD⟩:∃ D,ws.length / l.length=D:=⟨_,rfl⟩;rw[hD]at t2 t3 hle1;obtain⟨K,hK⟩:∃ K,D % 24=K:=⟨_,rfl⟩;have hK24:K<24:=by rw[<- hK];exact Nat.mod_lt _ (by decide)
   have t4:IntKind.wrap .u64 (K:Int)=K:=by unfold IntKind.wrap;simp[IntKind.bits,IntKind.signed];omega
   simp only[t1,t2,t3,hK,t4]
   generalize IntKind.wrap .u32 _=A
   refine⟨by omega,⟨by omega,by omega⟩,⟨by omega,ikw (by omega) (by omega)⟩,by decide,?_⟩
   simp only[ycws,ydfz,splice,go_sem,Nat.reduceEqDiff,Nat.reduceAdd,Nat.reduceLeDiff,Nat.reduceLT,↓reduceIte,reduceCtorEq]
   generalize hZ:IntKind.wrap .u32 ((BitVec.toNat _:Nat):Int)=Z
   have hz:0<=Z/\Z<2 ^ 32:=by rw[<- hZ];exact wrap32 _
   obtain⟨z,rfl⟩:∃ z:Nat,Z=z:=⟨Z.toNat,by omega⟩
   refine⟨⟨by omega,by show _<((32:Nat):Int);omega⟩,⟨by simp[IntKind.min,IntKind.signed];omega,by simp[IntKind.max,IntKind.bits,IntKind.signed];omega⟩,⟨by omega,by show _<((32:Nat):Int);omega⟩,⟨by omega,by omega⟩,ikw (by omega) (by omega),?_⟩
   refine loop_again (ws ++ [z]) ⟨by simp;omega,fun k=>?_⟩ (by simp;omega) ?_
   ·rw[yrg];split
    ·exact h2 k
    ·split<;>omega
   refine weak_all [(100,fun i=>(46,i))] [] [] ?_;simp only[List.length_append,allQ,live,sim_self,sim_i,go_sem,Nat.reduceEqDiff,↓reduceIte,reduceCtorEq];refine⟨by omega,fun i hi=>?_⟩
   rw[yrg]
   by_cases q:i<ws.length
   ·simp only[if_pos q];simp only[live,sim_self,go_sem,reduceCtorEq]
   ·obtain rfl:i=ws.length:=by omega
    simp only[if_neg q,Nat.sub_self,Nat.zero_mul];simp only[live,sim_self,go_sem,↓reduceIte,reduceCtorEq]
  ·simp only[ychs,go_sem,Nat.reduceEqDiff,Nat.reduceAdd,↓reduceIte,reduceCtorEq];exact⟨ws,by omega,h2,Sim.refl _⟩
end Sh
end Go.Proofs.YtiejahgklcjhkaaGreatDoor

namespace Go.Proofs.YtiejahgklcjhkaaGreatDoor
open Go
namespace Sh
open Ev Go.RowKit
set_option maxRecDepth 8000
def ysj(l:List Int)(k:Nat):Int:=(l.take k).foldl max 0
theorem ycba{l:List Int}(h:∀ x ∈ l,0<=x/\x<=255):∀ k,0<=ysj l k/\ysj l k<=255:=by
 intro k;unfold ysj
 have:∀ (l:List Int) (a:Int),(∀ x ∈ l,0<=x/\x<=255)->0<=a/\a<=255->0<=l.foldl max a/\l.foldl max a<=255:=by
  intro l
  induction l with
  | nil=>intro a _ h;exact h
  | cons x l ih=>intro a hl ha;exact ih _ (fun y hy=>hl y (List.mem_cons_of_mem _ hy)) (by have:=hl x List.mem_cons_self;omega)
 exact this _ 0 (fun x hx=>h x (List.mem_of_mem_take hx)) (by omega)
theorem ybju{l:List Int}{k:Nat}(hk:k<l.length):ysj l (k+1)=max (ysj l k) (l.getD k 0):=by
 unfold ysj;rw[List.take_succ_eq_append_getElem hk,List.foldl_append,getD_at hk];rfl
theorem ybpu{l:List Int}(h:∀ x ∈ l,0<=x/\x<=255)(hl:0<l.length):ysj l l.length=maxI l:=by
 unfold ysj;rw[List.take_length];exact(ybfp hl fun x hx=>(h x hx).1).symm
theorem ymo{vars:List VarR}{b:VarR->Int × Int}{L:List Int}(h:ydm ((vars.take L.length).map b) L)(hl:L.length<vars.length){y:Int}(hy:(b (vars.getD L.length default)).1<=y/\y<=(b (vars.getD L.length default)).2):ydm ((vars.take (L ++ [y]).length).map b) (L ++ [y]):=by
 refine⟨by simp;omega,fun i c x hb hx=>?_⟩
 rw[List.length_append,List.length_singleton,List.getElem?_map]at hb;have hi:i<L.length+1:=by have:=(List.getElem?_eq_some_iff.1 hx).1;simpa using this
 rw[List.getElem?_take_of_lt hi]at hb
 by_cases q:i<L.length
 ·rw[List.getElem?_append_left q]at hx;refine h.2 i c x ?_ hx;rw[List.getElem?_map,List.getElem?_take_of_lt q];exact hb
 ·obtain rfl:i=L.length:=by omega
  rw[List.getElem?_append_right (Nat.le_refl _),Nat.sub_self]at hx;cases hx
  rw[List.getElem?_eq_getElem hl]at hb;cases hb
  rw[getD_at hl]at hy;exact hy
section
variable {p:ProgT} {g:Gr}
theorem yst(hg:GoodG g)(hp:p.ok=true)(hf:yvq p g=true){raw:List Int}(hr:∀ k,inK .i64 (raw.getD k 0)) :
  Ct Tryz.prog 24 [grV g,ycl p.vars,intsV raw] fun r=>∃ c,ydw p g c=true/\Sim r (rowsV c):=by
 refine ydgn _ _ ?_;have hid:=hg.2.2.1;have h24:=hg.2.1;have h1:=hg.1;have hids:=hg.2.2.2.1;simp only[c24,ydhr,ydah,ydez,grV,portsV,go_sem,Nat.reduceEqDiff,Nat.reduceAdd,Nat.reduceLT,↓reduceIte,reduceCtorEq];obtain⟨n,hn⟩:∃ n,g.ports.length=n:=⟨_,rfl⟩;refine loop_on (σ:=Nat) (fun k=>⟨[(9,.i .i64 k),(8,.i .i64 (ysj g.ids k)),(7,.i .i64 n),(3,.pt (3,0) 0 0),(1,ycl p.vars),(2,intsV raw)],[(3,.one (some ⟨27,true,2,1,fun _=>[intsV g.ids,portsV g.ports]⟩))]⟩) (fun k=>k<=n) (fun k=>n - k) 0 (Nat.zero_le _) ?_ ?_
 ·refine weak_all [] [] [] ?_;simp only[portsV,hn,allQ,live,sim_self,sim_i,Int.natCast_zero,go_sem,Nat.reduceEqDiff,↓reduceIte,reduceCtorEq];rfl
 ·intro k hk;have htop:=ycba hids k;simp only[ydft,ydbg,ydde,ydgl,ydce,intsV,go_sem,Nat.reduceEqDiff,Nat.reduceAdd,Nat.reduceLeDiff,↓reduceIte,reduceCtorEq];refine⟨fun hlt=>?_,fun hlt=>?_⟩
  ·have hs:=ybju (l:=g.ids) (k:=k) (by omega)
   refine⟨by omega,ikw (by omega) (by omega),?_⟩
   refine loop_again (k+1) (by omega) (by omega) ?_
   refine weak_all [] [] [] ?_;simp only[allQ,live,sim_self,sim_i,go_sem,Nat.reduceEqDiff,↓reduceIte,reduceCtorEq];exact⟨by omega,hs.symm⟩
  ·obtain rfl:k=n:=by omega
   have htm:ysj g.ids k=maxI g.ids:=by rw[<- hn,<- hid];exact ybpu hids (by omega)
   rw[htm]at htop ⊢;obtain⟨top,htp⟩:∃ t,maxI g.ids=t:=⟨_,rfl⟩;rw[htp]at htop ⊢;obtain⟨nv,hnv⟩:∃ k,p.vars.length=k:=⟨_,rfl⟩;have hp':=hp;unfold ProgT.ok at hp';simp only[Bool.and_eq_true,decide_eq_true_eq]at hp'
   refine loop_on (σ:=Conf) (fun C=>⟨[(11,.i .i64 C.length),(10,.os (300,0) 0 C.length true),(8,.i .i64 top),(7,.i .i64 k),(3,.pt (3,0) 0 0),(1,ycl p.vars),(2,intsV raw)],
    [(3,.one (some ⟨27,true,2,1,fun _=>[intsV g.ids,portsV g.ports]⟩)),(300,.one (some ⟨22,false,1,C.length,fun j=>[intsV (C.getD j [])]⟩))]⟩)
    (fun C=>C.length<=k /\ ∀ v,v<C.length->ydm (p.vars.map (yu g v)) (C.getD v [])) (fun C=>k - C.length) [] ⟨Nat.zero_le _,fun v hv=>absurd hv (Nat.not_lt_zero v)⟩ ?_ ?_
   ·refine weak_all [] [300] [] ?_;simp only[intsV,portsV,allQ,live,sim_self,Int.natCast_zero,go_sem,Nat.reduceEqDiff,Nat.reduceBEq,↓reduceIte,reduceCtorEq];exact⟨(300,0),rfl,rfl,rfl⟩
   ·rintro C ⟨hC1,hC2⟩;simp only[ydds,yciw,yckn,intsV,go_sem,Nat.reduceEqDiff,Nat.reduceAdd,↓reduceIte,reduceCtorEq];refine⟨fun hlt=>?_,fun hlt=>?_⟩
    ·refine loop_on (σ:=List Int) (fun L=>⟨[(13,.i .i64 L.length),(12,.os (301,0) 0 L.length true),(11,.i .i64 C.length),(10,.os (300,0) 0 C.length true),(8,.i .i64 top),(7,.i .i64 k),(3,.pt (3,0) 0 0),(1,ycl p.vars),(2,intsV raw)],
      [(301,.one (some ⟨3,false,1,L.length,fun j=>[.i .i64 (L.getD j 0)]⟩)),(3,.one (some ⟨27,true,2,1,fun _=>[intsV g.ids,portsV g.ports]⟩)),(300,.one (some ⟨22,false,1,C.length,fun j=>[intsV (C.getD j [])]⟩))]⟩)
      (fun L=>L.length<=nv/\ydm ((p.vars.take L.length).map (yu g C.length)) L) (fun L=>nv - L.length) [] ⟨Nat.zero_le _,rfl,fun i b x hb=>by simp at hb⟩ ?_ ?_
     ·refine weak_all [] [301] [] ?_;simp only[intsV,portsV,allQ,live,sim_self,Int.natCast_zero,go_sem,Nat.reduceEqDiff,Nat.reduceBEq,↓reduceIte,reduceCtorEq];exact⟨(301,0),rfl,rfl,rfl⟩
     ·rintro L ⟨hL1,hL2⟩;obtain⟨x,hx⟩:∃ x,p.vars.getD L.length default=x:=⟨_,rfl⟩;simp only[ycjv,ycoa,ycjc,intsV,ycl,hnv,hx,varC,clash,go_sem,Nat.reduceEqDiff,Nat.reduceAdd,Nat.reduceLeDiff,↓reduceIte,reduceCtorEq];refine⟨fun hlt2=>?_,fun hlt2=>?_⟩
      ·have hLn:L.length<p.vars.length:=by omega
       have hxm:x ∈ p.vars:=by rw[<- hx,getD_at hLn];exact List.getElem_mem _
       have hxo:=List.all_eq_true.1 hp'.1.1.2 x hxm;have hvo:=ybet hxo;obtain⟨hb1,hb2⟩:=ykj hg hxo;rw[hid,hn]at hb1;rw[htp]at hb2;have hbn:=ybhp hg hp hf hxm C.length;have hidx:(C.length:Int) * (nv:Int)+(L.length:Int)=((C.length * nv+L.length:Nat):Int):=by push_cast;rfl
       have hdeg:=hg.deg_lt (v:=C.length);have hmi:(C.length:Int) * (nv:Int)=((C.length * nv:Nat):Int):=by push_cast;rfl
       have hmul:C.length * nv<=24 * 6:=Nat.mul_le_mul (by omega) (by omega)
       have hAt:=at_ret raw (C.length * nv+L.length);have hav:inK .i64 (atP raw (C.length * nv+L.length)):=hr _;simp only[intsV]at hAt;refine⟨by omega,by omega,by omega,ikw (by omega) (by omega),ikw (by omega) (by omega),by omega,ikw (by omega) (by omega),ikw (by omega) (by omega),by omega,?_⟩
       rcases hvo.1 with hkk | hkk | hkk
       ·have hbt:yu g C.length x=(x.lo,x.hi+x.perNode * (k:Int)+x.perID * top):=by
         unfold yu;rw[if_pos hkk,hid,hn,htp]
        rw[hbt]at hbn;simp only[]at hbn;simp only[hkk];simp only[ybgd,ybgp,ybhl,ybfj,ybfx,clash,Int.reduceBEq,hidx,go_sem,Nat.reduceEqDiff,Nat.reduceAdd,↓reduceIte,reduceCtorEq];refine⟨by rw[hmi];exact ikw (by omega) (by omega),ikw (by omega) (by omega),hAt.use ?_⟩
        simp only[thenO,go_sem,Nat.reduceEqDiff,Nat.reduceAdd,Nat.reduceLT,↓reduceIte,reduceCtorEq];have hW:=ycj (atP raw (C.length * nv+L.length)) (x.hi+x.perNode * (k:Int)+x.perID * top - (x.lo)+1) (by omega) hav
        obtain⟨w1,w2⟩:=yck (v:=atP raw (C.length * nv+L.length)) (m:=x.hi+x.perNode * (k:Int)+x.perID * top - (x.lo)+1) (by omega)
        generalize ycc (atP raw (C.length * nv+L.length)) (x.hi+x.perNode * (k:Int)+x.perID * top - (x.lo)+1)=W at hW w1 w2
        refine⟨ikw (by omega) (by omega),ikw (by omega) (by omega),hW.use ?_⟩
        simp only[ybgy,go_sem,Nat.reduceEqDiff,Nat.reduceAdd,Nat.reduceLeDiff,↓reduceIte,reduceCtorEq];refine⟨ikw (by omega) (by omega),⟨by omega,by omega⟩,ikw (by omega) (by omega),?_⟩
        refine loop_again (L ++ [x.lo+W]) ⟨by simp;omega,ymo hL2 hLn (by rw[hx,hbt];exact⟨by simp only[];omega,by simp only[];omega⟩)⟩ (by simp;omega) ?_
        refine weak_all [(301,fun i=>(101,i))] [] [] ?_;simp only[portsV,yg,hn,List.length_append,allQ,live,sim_self,sim_i,go_sem,Nat.reduceEqDiff,↓reduceIte,reduceCtorEq];refine⟨by omega,fun i hi=>?_⟩
        rw[yrg]
        by_cases q:i<L.length
        ·simp only[if_pos q];simp only[live,sim_self,go_sem,reduceCtorEq]
        ·obtain rfl:i=L.length:=by omega
         simp only[if_neg q,Nat.sub_self,Nat.zero_mul];simp only[live,sim_self,go_sem,↓reduceIte,reduceCtorEq]
       ·have hbt:yu g C.length x=(0,1):=by
         unfold yu;rw[if_neg (by omega),if_pos hkk]
        rw[hbt]at hbn;simp only[]at hbn;simp only[hkk];simp only[ybgd,ybgp,ybhl,ybfj,ybfx,clash,hidx,go_sem,Nat.reduceEqDiff,Nat.reduceAdd,↓reduceIte,reduceCtorEq];refine⟨by rw[hmi];exact ikw (by omega) (by omega),ikw (by omega) (by omega),hAt.use ?_⟩
        simp only[thenO,go_sem,Nat.reduceEqDiff,Nat.reduceAdd,Nat.reduceLT,↓reduceIte,reduceCtorEq];have hW:=ycj (atP raw (C.length * nv+L.length)) (1 - (0)+1) (by omega) hav
        obtain⟨w1,w2⟩:=yck (v:=atP raw (C.length * nv+L.length)) (m:=1 - (0)+1) (by omega)
        generalize ycc (atP raw (C.length * nv+L.length)) (1 - (0)+1)=W at hW w1 w2
        refine⟨ikw (by omega) (by omega),ikw (by omega) (by omega),hW.use ?_⟩
        simp only[ybgy,go_sem,Nat.reduceEqDiff,Nat.reduceAdd,Nat.reduceLeDiff,↓reduceIte,reduceCtorEq];refine⟨ikw (by omega) (by omega),⟨by omega,by omega⟩,ikw (by omega) (by omega),?_⟩
        refine loop_again (L ++ [0+W]) ⟨by simp;omega,ymo hL2 hLn (by rw[hx,hbt];exact⟨by simp only[];omega,by simp only[];omega⟩)⟩ (by simp;omega) ?_
        refine weak_all [(301,fun i=>(101,i))] [] [] ?_;simp only[portsV,yg,hn,List.length_append,allQ,live,sim_self,sim_i,go_sem,Nat.reduceEqDiff,↓reduceIte,reduceCtorEq];refine⟨by omega,fun i hi=>?_⟩
        rw[yrg]
        by_cases q:i<L.length
        ·simp only[if_pos q];simp only[live,sim_self,go_sem,reduceCtorEq]
        ·obtain rfl:i=L.length:=by omega
         simp only[if_neg q,Nat.sub_self,Nat.zero_mul];simp only[live,sim_self,go_sem,↓reduceIte,reduceCtorEq]
       ·have hbt:yu g C.length x=(-1,((g.ports.getD C.length []).length:Int) - 1):=by
         unfold yu;rw[if_neg (by omega),if_neg (by omega),if_pos hkk]
        rw[hbt]at hbn;simp only[]at hbn;simp only[hkk];simp only[ybgd,ybgp,ybhl,ybfj,ybfx,clash,Int.reduceBEq,hidx,portsV,yg,hn,go_sem,Nat.reduceEqDiff,Nat.reduceAdd,↓reduceIte,reduceCtorEq];refine⟨by omega,ikw (by omega) (by omega),by rw[hmi];exact ikw (by omega) (by omega),ikw (by omega) (by omega),hAt.use ?_⟩
        simp only[thenO,go_sem,Nat.reduceEqDiff,Nat.reduceAdd,Nat.reduceLT,↓reduceIte,reduceCtorEq];have hW:=ycj (atP raw (C.length * nv+L.length)) (((g.ports.getD C.length []).length:Int) - 1 - (-1)+1) (by omega) hav
        obtain⟨w1,w2⟩:=yck (v:=atP raw (C.length * nv+L.length)) (m:=((g.ports.getD C.length []).length:Int) - 1 - (-1)+1) (by omega)
        generalize ycc (atP raw (C.length * nv+L.length)) (((g.ports.getD C.length []).length:Int) - 1 - (-1)+1)=W at hW w1 w2
        refine⟨ikw (by omega) (by omega),ikw (by omega) (by omega),hW.use ?_⟩
        simp only[ybgy,go_sem,Nat.reduceEqDiff,Nat.reduceAdd,Nat.reduceLeDiff,↓reduceIte,reduceCtorEq];refine⟨ikw (by omega) (by omega),⟨by omega,by omega⟩,ikw (by omega) (by omega),?_⟩
        refine loop_again (L ++ [-1+W]) ⟨by simp;omega,ymo hL2 hLn (by rw[hx,hbt];exact⟨by simp only[];omega,by simp only[];omega⟩)⟩ (by simp;omega) ?_
        refine weak_all [(301,fun i=>(101,i))] [] [] ?_;simp only[List.length_append,allQ,live,sim_self,sim_i,go_sem,Nat.reduceEqDiff,↓reduceIte,reduceCtorEq];refine⟨by omega,fun i hi=>?_⟩
        rw[yrg]
        by_cases q:i<L.length
        ·simp only[if_pos q];simp only[live,sim_self,go_sem,reduceCtorEq]
        ·obtain rfl:i=L.length:=by omega
         simp only[if_neg q,Nat.sub_self,Nat.zero_mul];simp only[live,sim_self,go_sem,↓reduceIte,reduceCtorEq]
      ·have hLe:L.length=nv:=by omega
       rw[hLe,<- hnv,List.take_length]at hL2;simp only[ydeq,ycju,splice,go_sem,Nat.reduceEqDiff,Nat.reduceAdd,Nat.reduceLeDiff,Nat.reduceLT,↓reduceIte,reduceCtorEq];refine⟨⟨by omega,by omega⟩,ikw (by omega) (by omega),?_⟩
       refine loop_again (C ++ [L]) ⟨by simp;omega,fun v hv=>?_⟩ (by simp;omega) ?_
       ·rw[yrg];split
        ·exact hC2 v (by assumption)
        ·have:v=C.length:=by simp at hv;omega
         subst this;rw[if_pos rfl];exact hL2
       refine weak_all [(300,fun i=>(105,i))] [] [(301,0)] ?_;simp only[portsV,yg,hn,List.length_append,allQ,live,sim_self,sim_i,go_sem,Nat.reduceEqDiff,Nat.reduceLeDiff,↓reduceIte,reduceCtorEq];refine⟨by omega,fun i hi=>?_⟩
       have e:=yrg C L [] i;rw[e]
       by_cases q:i<C.length
       ·simp only[if_pos q];simp only[go_sem,live,sim_self,go_sem,reduceCtorEq]
       ·obtain rfl:i=C.length:=by omega
        simp only[if_neg q,Nat.sub_self,Nat.zero_mul,if_true];simp only[go_sem,live,sim_self,go_sem,Nat.reduceEqDiff,↓reduceIte,reduceCtorEq]
    ·simp only[ycqp,go_sem,Nat.reduceEqDiff,Nat.reduceAdd,↓reduceIte,reduceCtorEq];refine⟨C,(ydy _ _ _).2 ⟨by omega,fun v st hst=>?_⟩,Sim.refl _⟩
     have hv:=(List.getElem?_eq_some_iff.1 hst).1;have:=hC2 v hv
     rwa [List.getD,hst]at this
end
end Sh
end Go.Proofs.YtiejahgklcjhkaaGreatDoor

namespace Go.Proofs.YtiejahgklcjhkaaGreatDoor
open Go
namespace Sh
open Ev Go.RowKit
set_option maxRecDepth 8000
def blV(l:List Bool):SV:=.sl 1 l.length (fun k=>[.b (l.getD k false)])
def ylw(l:List Bool)(k:Nat):Bool:=(l.take k).any id
theorem ybjp{l:List Bool}{k:Nat}(hk:k<l.length):ylw l (k+1)=(ylw l k || l.getD k false):=by
 unfold ylw;rw[List.take_succ_eq_append_getElem hk,List.any_append,getD_at hk];simp
structure HeldOk(legit:List Bool)(ks:List Cnt)(rounds moves:Int)(ended:Bool):Prop where
 len:legit.length=ks.length
 pos:0<legit.length
 stays:∀ i,i<legit.length->ylw legit i=true->legit.getD i false=true
 rounds:∀ i,i<legit.length->ylw legit (i+1)=false->((ks.getD i default).begun:Int)<=rounds
 moves:∀ i,i<legit.length->ylw legit (i+1)=false->0<=moves->((ks.getD i default).moves:Int)<=moves
 ends:ylw legit legit.length=true\/ended=false
def yep(kind:Int)(fair silent:Bool)(rounds moves:Int):List SV:=[.i .i64 kind,.b fair,.b silent,.i .i64 rounds,.i .i64 moves]
theorem ybya{legit:List Bool}{ks:List Cnt}{kind rounds moves:Int}{fair silent ended:Bool}(h:HeldOk legit ks rounds moves ended)(hl:legit.length<=100000) :
  Returns Tryz.prog 38 [blV legit,ydn ks,.ag (yep kind fair silent rounds moves),.b ended] (.b true):=by
 refine Returns.of (ydak _ _ ?_);obtain⟨n,hn⟩:∃ n,legit.length=n:=⟨_,rfl⟩;have hkn:ks.length=n:=by rw[<- h.len];exact hn
 have hpos:=h.pos;rw[hn]at hpos hl;have f1:((n:Int) != (n:Int))=false:=by simp
 have f2:((n:Int) == 0)=false:=by simp;omega
 simp only[c38,ydbk,ydeu,ydic,ydcu,ydav,blV,ydn,yep,hn,hkn,f1,f2,go_sem,Nat.reduceEqDiff,Nat.reduceAdd,Nat.reduceLT,↓reduceIte,reduceCtorEq];refine loop_on (σ:=Nat) (fun k=>⟨[(10,.i .i64 k),(9,.b (ylw legit k)),(6,.pt (6,0) 0 0),(0,blV legit),(1,ydn ks),(3,.b ended)],[(6,.one (some ⟨51,true,5,1,fun _=>yep kind fair silent rounds moves⟩))]⟩) (fun k=>k<=n) (fun k=>n - k) 0 (Nat.zero_le _) ?_ ?_
 ·refine weak_all [] [] [] ?_;simp only[blV,ydn,yep,hn,hkn,allQ,live,sim_self,sim_b,Int.natCast_zero,go_sem,Nat.reduceEqDiff,↓reduceIte,reduceCtorEq];rfl
 ·intro k hk;obtain⟨a0,ha0⟩:∃ b,ylw legit k=b:=⟨_,rfl⟩;obtain⟨lk,hlk⟩:∃ b,legit.getD k false=b:=⟨_,rfl⟩;rw[ha0]
  by_cases hlt:k<n
  ·have hs:=h.stays k (by omega)
   have hr:=h.rounds k (by omega)
   have hm:=h.moves k (by omega)
   have hsucc:=ybjp (l:=legit) (k:=k) (by omega)
   rw[ha0,hlk]at hsucc hs;have c1:decide ((k:Int)<(n:Int))=true:=by simp;omega
   cases a0<;>cases lk
   ·have g1:decide ((((ks.getD k default).begun:Nat):Int) > rounds)=false:=by simp;exact hr hsucc
    by_cases hmv:moves >= 0
    ·have g2:decide (moves >= 0)=true:=by simp;omega
     have g3:decide ((((ks.getD k default).moves:Nat):Int) > moves)=false:=by simp;exact hm hsucc hmv
     simp(maxSteps:=5000000) only [ybks,ywt,ybvj,ybvd,yxa,ywt,blV,ydn,cntV,yep,hn,hkn,c1,hlk,clash,g1,g2,g3,go_sem,Nat.reduceEqDiff,Nat.reduceAdd,Nat.reduceLeDiff,↓reduceIte,reduceCtorEq];refine⟨by omega,by omega,by omega,ikw (by omega) (by omega),?_⟩
     refine loop_again (k+1) (by omega) (by omega) ?_
     refine weak_all [] [] [] ?_;simp only[hsucc,Bool.or_self,allQ,live,sim_self,sim_i,go_sem,Nat.reduceEqDiff,↓reduceIte,reduceCtorEq];omega
    ·have g2:decide (moves >= 0)=false:=by simp;omega
     simp(maxSteps:=5000000) only [ybks,ywt,ybvj,ybvd,yxa,ywt,blV,ydn,cntV,yep,hn,hkn,c1,hlk,clash,g1,g2,go_sem,Nat.reduceEqDiff,Nat.reduceAdd,Nat.reduceLeDiff,↓reduceIte,reduceCtorEq];refine⟨by omega,by omega,ikw (by omega) (by omega),?_⟩
     refine loop_again (k+1) (by omega) (by omega) ?_
     refine weak_all [] [] [] ?_;simp only[hsucc,Bool.or_self,allQ,live,sim_self,sim_i,go_sem,Nat.reduceEqDiff,↓reduceIte,reduceCtorEq];omega
   ·simp(maxSteps:=5000000) only [ybks,ywt,ybvj,ybvd,yxa,ywt,blV,ydn,cntV,yep,hn,hkn,c1,hlk,clash,go_sem,Nat.reduceEqDiff,Nat.reduceAdd,↓reduceIte,reduceCtorEq];refine⟨by omega,ikw (by omega) (by omega),?_⟩
    refine loop_again (k+1) (by omega) (by omega) ?_
    refine weak_all [] [] [] ?_;simp only[hsucc,Bool.or_true,allQ,live,sim_self,sim_i,go_sem,Nat.reduceEqDiff,↓reduceIte,reduceCtorEq];omega
   ·exact absurd (hs rfl) (by simp)
   ·simp(maxSteps:=5000000) only [ybks,ywt,ybvj,ybvd,yxa,ywt,blV,ydn,cntV,yep,hn,hkn,c1,hlk,clash,go_sem,Nat.reduceEqDiff,Nat.reduceAdd,↓reduceIte,reduceCtorEq];refine⟨by omega,ikw (by omega) (by omega),?_⟩
    refine loop_again (k+1) (by omega) (by omega) ?_
    refine weak_all [] [] [] ?_;simp only[hsucc,Bool.or_self,allQ,live,sim_self,sim_i,go_sem,Nat.reduceEqDiff,↓reduceIte,reduceCtorEq];omega
  ·obtain rfl:k=n:=by omega
   have c1:decide ((k:Int)<(k:Int))=false:=by simp
   have he:=h.ends;rw[hn,ha0]at he;simp(maxSteps:=5000000) only [ybks,ycjw,blV,ydn,yep,hn,hkn,c1,go_sem,Nat.reduceEqDiff,Nat.reduceAdd,↓reduceIte,reduceCtorEq];cases a0
   ·rcases he with he | he
    ·cases he
    ·subst he;simp only[sim_b,go_sem]
   ·simp only[sim_b,go_sem]
theorem ybtd{Q1 Q2:(Nat->Option ABlk)->Value->Prop}{p:ProgT}{g:Gr}{t:ByteArray}(hpr:Returns Tryz.prog 37 [.a (.string t)] (.ag (yct Q1 Q2 p.raw)))(h:Checked Q1 Q2 p g){kind:Int}(hk:1<=kind/\kind<=4){res:Nat->Nat->Nat}(hd:DaemonOk kind (g.ports.map netP) res){c:Conf}(hc:ydw p g c=true){ws:List Nat}(hw:∀ k,ws.getD k 0<2 ^ 32)(hwl:ws.length<=4000) :
  Returns Tryz.prog 22 [.a (.string t),grV g,.i .i64 kind,rowsV c,usV ws] (.tp [ydd (((ybc p g).runs res ws c).map (·.1)),ydn (((ybc p g).runs res ws c).map (·.2)),.b true]):=by
 refine Returns.of (ydht _ _ ?_);have hX:=ybvs h hk hd hc hw hwl;obtain⟨R,hR⟩:∃ R,(ybc p g).runs res ws c=R:=⟨_,rfl⟩;rw[hR]at hX ⊢;have hRl:0<R.length:=by rw[<- hR];simp[Sys.runs]
 obtain⟨m,hm⟩:∃ m,R.length=m:=⟨_,rfl⟩;rw[hm]at hRl;have f1:((m:Int) == (m:Int))=true:=by simp
 have f2:decide ((m:Int) > 0)=true:=by simp;omega
 simp only[yct]at hpr hX;simp only[grV,usV,ydd,ydn,List.length_map,hm]at hX;simp only[c22,ydfr,ydgh,grV,usV,clash,go_sem,Nat.reduceAdd,Nat.reduceLT,↓reduceIte,reduceCtorEq];refine hpr.use ?_;simp only[thenO,clash,go_sem,Nat.reduceEqDiff,Nat.reduceAdd,↓reduceIte,reduceCtorEq];refine hX.use ?_;simp(maxSteps:=5000000) only [ydax,clash,f1,f2,go_sem,Nat.reduceEqDiff,Nat.reduceAdd,↓reduceIte,reduceCtorEq]
 refine⟨by decide,?_⟩
 unfold ydd ydn;rw[List.length_map,List.length_map,hm];exact Sim.refl _
end Sh
end Go.Proofs.YtiejahgklcjhkaaGreatDoor

namespace Go.Proofs.YtiejahgklcjhkaaGreatDoor
namespace Sh
theorem yrm{l:List Bool}{k:Nat}:ylw l k=true ↔ ∃ j,j<k/\l[j]? = some true:=by
 unfold ylw;rw[List.any_eq_true];constructor
 ·rintro⟨x,hx,he⟩;obtain⟨j,hj,e⟩:=List.getElem_of_mem hx;have hj':j<k:=by rw[List.length_take]at hj;omega
  refine⟨j,hj',?_⟩;have:(l.take k)[j]? = some true:=by rw[List.getElem?_eq_getElem hj,e];exact congrArg some he
  rwa [List.getElem?_take_of_lt hj']at this
 ·rintro⟨j,hj,e⟩;refine⟨true,?_,rfl⟩;refine List.mem_of_getElem? (i:=j) ?_;rw[List.getElem?_take_of_lt hj];exact e
theorem ycxp {S:Sys} {res:Nat->Nat->Nat} {ws:List Nat} {c:Conf} {L:Conf->Bool} {J:Conf->Cnt->Prop} {rounds:Int} (hJ:∀ p ∈ S.runs res ws c,J p.1 p.2) (hrest:∀ c k,J c k->(S.en c=0 ↔ L c=true)) (hb:∀ c k,J c k->L c=false->(k.begun:Int)<=rounds) {moves:Int} (hm:∀ c k,J c k->L c=false->0<=moves->(k.moves:Int)<=moves)
  {ended:Bool} (he:ended=true -> ∀ p,(S.runs res ws c)[(S.runs res ws c).length - 1]? = some p->S.en p.1=0) :
  HeldOk ((S.runs res ws c).map fun p=>L p.1) ((S.runs res ws c).map (·.2)) rounds moves ended:=by
 obtain⟨R,hR⟩:∃ R,S.runs res ws c=R:=⟨_,rfl⟩
 have hlast:∀ i,i+1<R.length -> ∀ p,R[i]? = some p->S.en p.1 ≠ 0:=fun i hi p hp=>by
  rw[<- hR]at hi hp;exact Sys.runs_last hi hp
 have hpos:0<R.length:=by rw[<- hR];simp[Sys.runs]
 rw[hR]at hJ he ⊢;have at_:∀ i,i<R.length -> ∃ p,R[i]? = some p/\J p.1 p.2:=fun i hi=>⟨R[i],List.getElem?_eq_getElem hi,hJ _ (List.getElem_mem hi)⟩;have lg:∀ (i:Nat) (p:Conf × Cnt),R[i]? = some p->(R.map fun p=>L p.1)[i]? = some (L p.1):=fun i p hp=>by simp[hp]
 have no:∀ (i:Nat),ylw (R.map fun p=>L p.1) (i+1)=false->i<R.length -> ∀ p:Conf × Cnt,R[i]? = some p->L p.1=false:=fun i h hi p hp=>by
  cases hq:L p.1 with
  | false=>rfl
  | true =>
   have:ylw (R.map fun p=>L p.1) (i+1)=true:=yrm.2 ⟨i,Nat.lt_succ_self i,by rw[lg i p hp,hq]⟩
   rw[this]at h;cases h
 refine⟨by simp,by simpa using hpos,fun i hi h=>?_,fun i hi h=>?_,fun i hi h hmv=>?_,?_⟩
 ·have hi:i<R.length:=by simpa using hi
  obtain⟨j,hj,e⟩:=yrm.1 h;obtain⟨p,hp,hJp⟩:=at_ j (by omega)
  rw[lg j p hp]at e;exact absurd ((hrest p.1 p.2 hJp).2 (Option.some.inj e)) (hlast j (by omega) p hp)
 ·have hi:i<R.length:=by simpa using hi
  obtain⟨p,hp,hJp⟩:=at_ i hi;have:=hb p.1 p.2 hJp (no i h hi p hp);rw[List.getD_eq_getElem?_getD,List.getElem?_map,hp];exact this
 ·have hi:i<R.length:=by simpa using hi
  obtain⟨p,hp,hJp⟩:=at_ i hi;have:=hm p.1 p.2 hJp (no i h hi p hp) hmv;rw[List.getD_eq_getElem?_getD,List.getElem?_map,hp];exact this
 ·cases ended with
  | false=>exact .inr rfl
  | true =>
   obtain⟨p,hp,hJp⟩:=at_ (R.length - 1) (by omega)
   have h1:=(hrest p.1 p.2 hJp).1 (he rfl p hp);exact .inl (yrm.2 ⟨R.length - 1,by simp;omega,by rw[lg _ p hp,h1]⟩)
section
variable {nm nd np nt nl:ByteArray} {g:Gr}
end
end Sh
end Go.Proofs.YtiejahgklcjhkaaGreatDoor

namespace Go.Proofs.YtiejahgklcjhkaaGreatDoor
def yoo(g:Gr)(s:Nat):Prop:=∀ u v,adj g u v->s.testBit u=true->s.testBit v=false
def ResD(D:Nat->Prop)(res:Nat->Nat->Nat):Prop:=∀ e w,e ≠ 0->res e w ≠ 0/\subB (res e w) e/\D (res e w)
theorem Sys.run_allD{S:Sys}{D:Nat->Prop}{res:Nat->Nat->Nat}(hr:ResD D res){J:Conf->Cnt->Prop}(hstep:∀ c k s,J c k->s ≠ 0->subB s (S.en c)->D s->J (S.mv c s) (addP k s (S.en (S.mv c s)))) :
  ∀ (ws:List Nat) (c:Conf) (k:Cnt),J c k -> ∀ p ∈ S.run res ws c k,J p.1 p.2
 | [],c,k,_,p,hp=>by cases hp
 | w :: ws,c,k,hJ,p,hp=>by
  unfold Sys.run at hp;split at hp
  ·cases hp
  ·rename_i h0
   obtain⟨r1,r2,r3⟩:=hr _ w h0;have hJ':=hstep c k _ hJ r1 r2 r3;rcases List.mem_cons.1 hp with e | e
   ·rw[e];exact hJ'
   ·exact Sys.run_allD hr hstep ws _ _ hJ' p e
theorem Sys.runs_allD{S:Sys}{D:Nat->Prop}{res:Nat->Nat->Nat}(hr:ResD D res){J:Conf->Cnt->Prop}(hstep:∀ c k s,J c k->s ≠ 0->subB s (S.en c)->D s->J (S.mv c s) (addP k s (S.en (S.mv c s)))){ws:List Nat}{c:Conf}(h:J c (ycs (S.en c))):∀ p ∈ S.runs res ws c,J p.1 p.2:=fun p hp=>by
 rcases List.mem_cons.1 hp with e | e
 ·rw[e];exact h
 ·exact Sys.run_allD hr hstep ws _ _ h p e
theorem ResD.ok{D:Nat->Prop}{res:Nat->Nat->Nat}(h:ResD D res):ybug res:=fun e w h0=>⟨(h e w h0).1,(h e w h0).2.1⟩
structure ByRoundsC(S:Sys)(V:Conf->Prop)(D:Nat->Prop)(P:Nat->Nat->Conf->Prop):Prop where
 valid:∀ c s,V c->s ≠ 0->subB s (S.en c)->D s->V (S.mv c s)
 stay:∀ c s v r r',r<=r'->r'<=r+1->V c->v<S.n->s.testBit v=false->subB s (S.en c)->D s->(∀ u,u<S.n->P r u c)->P r' v c->P r' v (S.mv c s)
 move:∀ c s v r,V c->v<S.n->s.testBit v=true->subB s (S.en c)->D s->(∀ u,u<S.n->P r u c)->P (r+1) v (S.mv c s)
 rest:∀ c v r,V c->v<S.n->(S.en c).testBit v=false->(∀ u,u<S.n->P r u c)->P (r+1) v c
 less:∀ r v c,P (r+1) v c->P r v c
structure RInvC(S:Sys)(V:Conf->Prop)(P:Nat->Nat->Conf->Prop)(c:Conf)(k:Cnt):Prop where
 valid:V c
 all:∀ v,v<S.n->P k.rounds v c
 done:∀ v,v<S.n->k.pend.testBit v=false->P (k.rounds+1) v c
 begun:k.begun<=k.rounds+1
section
variable {S:Sys} {V:Conf->Prop} {D:Nat->Prop} {P:Nat->Nat->Conf->Prop}
theorem ByRoundsC.start(h:ByRoundsC S V D P){c:Conf}(hv:V c)(h0:∀ v,v<S.n->P 0 v c):RInvC S V P c (ycs (S.en c)) :=
 ⟨hv,h0,fun v hn hb=>h.rest c v 0 hv hn hb h0,by simp[ycs]⟩
theorem ByRoundsC.step(h:ByRoundsC S V D P)(c:Conf)(k:Cnt)(s:Nat)(hi:RInvC S V P c k)(h0:s ≠ 0)(hs:subB s (S.en c))(hD:D s):RInvC S V P (S.mv c s) (addP k s (S.en (S.mv c s))):=by
 obtain⟨i1,i2,i3,i4⟩:=hi;have hv:=h.valid c s i1 h0 hs hD
 have hall:∀ v,v<S.n->P k.rounds v (S.mv c s):=fun v hn=>by
  cases hb:s.testBit v with
  | true=>exact h.less _ _ _ (h.move c s v _ i1 hn hb hs hD i2)
  | false=>exact h.stay c s v _ _ (Nat.le_refl _) (Nat.le_succ _) i1 hn hb hs hD i2 (i2 v hn)
 have hnext:∀ v,v<S.n->(difB k.pend s &&& S.en (S.mv c s)).testBit v=false->P (k.rounds+1) v (S.mv c s):=fun v hn hb=>by
  rw[Nat.testBit_and,yik]at hb;cases hb1:s.testBit v with
  | true=>exact h.move c s v _ i1 hn hb1 hs hD i2
  | false =>
   cases hb2:k.pend.testBit v with
   | false=>exact h.stay c s v _ _ (Nat.le_succ _) (Nat.le_refl _) i1 hn hb1 hs hD i2 (i3 v hn hb2)
   | true =>
    rw[hb1,hb2]at hb;exact h.rest _ v _ hv hn (by simpa using hb) hall
 unfold addP;simp only
 by_cases hp:difB k.pend s &&& S.en (S.mv c s)=0
 ·simp only[if_pos hp];have hall':∀ v,v<S.n->P (k.rounds+1) v (S.mv c s):=fun v hn=>hnext v hn (by rw[hp];simp)
  exact⟨hv,hall',fun v hn hb=>h.rest _ v _ hv hn hb hall',by show k.rounds+1<=_;simp⟩
 ·simp only[if_neg hp];exact⟨hv,hall,hnext,Nat.le_refl _⟩
theorem ByRoundsC.runs(h:ByRoundsC S V D P){res:Nat->Nat->Nat}(hr:ResD D res){ws:List Nat}{c:Conf}(hv:V c)(h0:∀ v,v<S.n->P 0 v c):∀ p ∈ S.runs res ws c,RInvC S V P p.1 p.2 :=
 Sys.runs_allD hr (fun c k s=>h.step c k s) (h.start hv h0)
theorem ByRoundsC.silent(h:ByRoundsC S V D P){c:Conf}(hv:V c)(h0:∀ v,v<S.n->P 0 v c)(he:S.en c=0):∀ r v,v<S.n->P r v c
 | 0,v,hn=>h0 v hn
 | r+1,v,hn=>h.rest c v r hv hn (by rw[he];simp) (ByRoundsC.silent h hv h0 he r)
end
end Go.Proofs.YtiejahgklcjhkaaGreatDoor

namespace Go.Proofs.YtiejahgklcjhkaaGreatDoor
abbrev Ptr:=Nat->Option Nat
def Mt(p:Ptr)(x:Nat):Prop:=∃ y,p x=some y/\p y=some x
inductive Mv (g:Gr) (p:Ptr) (v:Nat):Option Nat->Prop
 | accept (u:Nat):p v=none->adj g v u->p u=some v->Mv g p v (some u)
 | propose (u:Nat):p v=none->adj g v u->p u=none->(∀ x,adj g v x->p x ≠ some v)->Mv g p v (some u)
 | withdraw (u w:Nat):p v=some u->p u=some w->w ≠ v->Mv g p v none
def ygu(p:Ptr)(v:Nat)(t:Option Nat):Ptr:=fun x=>if x=v then t else p x
structure PtI(g:Gr)(p:Ptr)(I:Nat->Prop):Prop where
 nb:∀ v u,p v=some u->adj g v u
 fresh:∀ v u,p v=some u -> ¬ I v->p u=none\/p u=some v\/Mt p u
open Classical in
noncomputable def lv(A B C:Prop):Nat:=if A then 0 else if B then 1 else if C then 0 else 2
noncomputable def lft(p:Ptr)(I:Nat->Prop)(u v:Nat):Nat:=lv (p u=some v/\p v=some u) ((p u=some v /\ ¬ I u)\/(p v=some u /\ ¬ I v)) (Mt p u\/Mt p v)
theorem yox(p:Ptr)(I:Nat->Prop)(u v:Nat):lft p I u v=lft p I v u:=by
 unfold lft;rw[show(p u=some v/\p v=some u)=(p v=some u/\p u=some v)from propext and_comm,show((p u=some v /\ ¬ I u)\/(p v=some u /\ ¬ I v))=((p v=some u /\ ¬ I v)\/(p u=some v /\ ¬ I u))from propext or_comm,show(Mt p u\/Mt p v)=(Mt p v\/Mt p u)from propext or_comm]
theorem ydad(p:Ptr)(I:Nat->Prop)(u v:Nat):lft p I u v<=2:=by
 unfold lft lv;split
 ·omega
 ·split
  ·omega
  ·split<;>omega
section
variable {g:Gr} {p:Ptr} {I:Nat->Prop} {v:Nat} {t:Option Nat}
def mvI(I:Nat->Prop)(v:Nat):Nat->Prop:=fun x=>I x/\x ≠ v
theorem set_self:ygu p v t v=t:=if_pos rfl
theorem ycg{x:Nat}(h:x ≠ v):ygu p v t x=p x:=if_neg h
theorem yqq(hm:Mv g p v t){x:Nat}(h:Mt p x):Mt (ygu p v t) x:=by
 obtain⟨y,h1,h2⟩:=h
 have free:∀ a b,p a=some b->p b=some a->a ≠ v:=fun a b ha hb e=>by
  subst e;cases hm with
  | accept u q=>rw[q]at ha;cases ha
  | propose u q=>rw[q]at ha;cases ha
  | withdraw u w q1 q2 q3 =>
   rw[ha]at q1;cases q1
   rw[hb]at q2;cases q2
   exact q3 rfl
 exact⟨y,by rw[ycg (free x y h1 h2)];exact h1,by rw[ycg (free y x h2 h1)];exact h2⟩
theorem ydaw(hi:PtI g p I)(hm:Mv g p v t)(hs:∀ u w,adj g u w->adj g w u)(hr:∀ u,¬ adj g u u):PtI g (ygu p v t) (mvI I v):=by
 refine⟨fun x y h=>?_,fun x y h hx=>?_⟩
 ·by_cases e:x=v
  ·subst e;rw[set_self]at h;cases hm with
   | accept u _ ha=>cases h;exact ha
   | propose u _ ha=>cases h;exact ha
   | withdraw=>cases h
  ·rw[ycg e]at h;exact hi.nb x y h
 ·by_cases e:x=v
  ·subst e;rw[set_self]at h;cases hm with
   | accept u q1 q2 q3 =>
    cases h
    have hne:y ≠ x:=fun e=>by subst e;rw[q1]at q3;cases q3
    right;left
    rw[ycg hne];exact q3
   | propose u q1 q2 q3 q4 =>
    cases h
    by_cases e:y=x
    ·subst e;exact absurd q2 (hr _)
    ·left;rw[ycg e];exact q3
   | withdraw=>cases h
  ·rw[ycg e]at h;have hxI:¬ I x:=fun q=>hx ⟨q,e⟩;rcases hi.fresh x y h hxI with q | q | q
   ·by_cases e2:y=v
    ·subst e2;cases hm with
     | accept u q1 q2 q3 =>
      by_cases e3:u=x
      ·subst e3;right;left;exact set_self
      ·right;right
       have hne:u ≠ y:=fun e4=>by subst e4;rw[q1]at q3;cases q3
       exact⟨u,set_self,by rw[ycg hne];exact q3⟩
     | propose u q1 q2 q3 q4=>exact absurd h (q4 x (hs _ _ (hi.nb x y h)))
     | withdraw u w q1=>rw[q]at q1;cases q1
    ·left;rw[ycg e2];exact q
   ·by_cases e2:y=v
    ·subst e2;cases hm with
     | accept u q1=>rw[q]at q1;cases q1
     | propose u q1=>rw[q]at q1;cases q1
     | withdraw u w q1 q2 q3 =>
      rw[q]at q1;cases q1
      rw[h]at q2;cases q2
      exact absurd rfl q3
    ·right;left;rw[ycg e2];exact q
   ·exact .inr (.inr (yqq hm q))
end
end Go.Proofs.YtiejahgklcjhkaaGreatDoor

namespace Go.Proofs.YtiejahgklcjhkaaGreatDoor
theorem ybxc{A B C A' B' C':Prop}(h0:A->A')(h1:¬ A->B->A'\/B'\/C')(h2:¬ A -> ¬ B->C->A'\/(¬ B'/\C')):lv A' B' C'<=lv A B C:=by
 unfold lv
 by_cases a:A
 ·rw[if_pos (h0 a)];exact Nat.zero_le _
 ·rw[if_neg a]
  by_cases a':A'
  ·rw[if_pos a'];exact Nat.zero_le _
  ·rw[if_neg a']
   by_cases b:B
   ·rw[if_pos b]
    by_cases b':B'
    ·rw[if_pos b'];omega
    ·rw[if_neg b'];rcases h1 a b with q | q | q
     ·exact absurd q a'
     ·exact absurd q b'
     ·rw[if_pos q];omega
   ·rw[if_neg b]
    by_cases c:C
    ·rcases h2 a b c with q | ⟨q1,q2⟩
     ·exact absurd q a'
     ·rw[if_neg q1,if_pos q2];exact Nat.zero_le _
    ·rw[if_neg c];split
     ·omega
     ·split<;>omega
section
variable {g:Gr} {p:Ptr} {I:Nat->Prop} {v:Nat} {t:Option Nat}
theorem yja(p:Ptr)(I:Nat->Prop)(u v:Nat):lft p I u v=lv (p u=some v/\p v=some u) ((p u=some v /\ ¬ I u)\/(p v=some u /\ ¬ I v)) (Mt p u\/Mt p v):=rfl
theorem ybha(hi:PtI g p I)(hm:Mv g p v t)(hr:∀ u,¬ adj g u u)(hs:∀ u w,adj g u w->adj g w u){y:Nat}(hy:adj g v y):lft (ygu p v t) (mvI I v) v y<=lft p I v y:=by
 have hne:y ≠ v:=fun e=>by subst e;exact hr _ hy
 have hIv:¬ mvI I v v:=fun q=>q.2 rfl;have hIy:mvI I v y ↔ I y:=⟨fun q=>q.1,fun q=>⟨q,hne⟩⟩;have keep:Mt p y->Mt (ygu p v t) y:=yqq hm;rw[yja,yja,set_self,ycg hne];cases hm with
 | accept u q1 q2 q3 =>
  refine ybxc (fun⟨a,_⟩=>by rw[q1]at a;cases a) (fun _ b=>?_) (fun _ nb c=>?_)
  ·rcases b with⟨b,_⟩ | ⟨b1,b2⟩
   ·rw[q1]at b;cases b
   ·exact .inr (.inl (.inr ⟨b1,fun q=>b2 (hIy.1 q)⟩))
  ·by_cases e:u=y
   ·subst e;exact .inl ⟨rfl,q3⟩
   ·refine .inr ⟨?_,.inl ?_⟩
    ·rintro(⟨b,_⟩ | ⟨b1,b2⟩)
     ·cases b;exact e rfl
     ·exact nb (.inr ⟨b1,fun q=>b2 (hIy.2 q)⟩)
    ·have hnu:u ≠ v:=fun e=>by subst e;exact hr _ q2
     exact⟨u,set_self,by rw[ycg hnu];exact q3⟩
 | propose u q1 q2 q3 q4 =>
  refine ybxc (fun⟨a,_⟩=>by rw[q1]at a;cases a) (fun _ b=>?_) (fun _ nb c=>?_)
  ·rcases b with⟨b,_⟩ | ⟨b1,_⟩
   ·rw[q1]at b;cases b
   ·exact absurd b1 (q4 y hy)
  ·right
   have my:Mt p y:=by
    rcases c with⟨z,c,_⟩ | c
    ·rw[q1]at c;cases c
    ·exact c
   refine⟨?_,.inr (keep my)⟩;rintro(⟨b,_⟩ | ⟨b1,_⟩)
   ·cases b
    obtain⟨z,c1,_⟩:=my;rw[q3]at c1;cases c1
   ·exact q4 y hy b1
 | withdraw u w q1 q2 q3 =>
  refine ybxc (fun⟨a,a2⟩=>?_) (fun _ b=>?_) (fun _ nb c=>?_)
  ·rw[q1]at a;cases a;rw[q2]at a2;cases a2;exact absurd rfl q3
  ·rcases b with⟨b1,b2⟩ | ⟨b1,b2⟩
   ·rw[q1]at b1;cases b1
    rcases hi.fresh v y q1 b2 with q | q | q
    ·rw[q2]at q;cases q
    ·rw[q2]at q;cases q;exact absurd rfl q3
    ·exact .inr (.inr (.inr (keep q)))
   ·exact .inr (.inl (.inr ⟨b1,fun q=>b2 (hIy.1 q)⟩))
  ·right
   have my:Mt p y:=by
    rcases c with⟨z,c1,c2⟩ | c
    ·rw[q1]at c1;cases c1;rw[q2]at c2;cases c2;exact absurd rfl q3
    ·exact c
   refine⟨?_,.inr (keep my)⟩;rintro(⟨b,_⟩ | ⟨b1,b2⟩)
   ·cases b
   ·exact nb (.inr ⟨b1,fun q=>b2 (hIy.2 q)⟩)
theorem ybfn(hi:PtI g p I)(hm:Mv g p v t)(hr:∀ u,¬ adj g u u)(hs:∀ u w,adj g u w->adj g w u){x y:Nat}(hxy:adj g x y):lft (ygu p v t) (mvI I v) x y<=lft p I x y:=by
 by_cases ex:x=v
 ·subst ex;exact ybha hi hm hr hs hxy
 ·by_cases ey:y=v
  ·subst ey;rw[yox,yox p I x y];exact ybha hi hm hr hs (hs _ _ hxy)
  ·rw[yja,yja,ycg ex,ycg ey];have ix:mvI I v x ↔ I x:=⟨fun q=>q.1,fun q=>⟨q,ex⟩⟩;have iy:mvI I v y ↔ I y:=⟨fun q=>q.1,fun q=>⟨q,ey⟩⟩;rw[ix,iy];exact ybxc (fun a=>a) (fun _ b=>.inr (.inl b)) (fun _ nb c=>.inr ⟨nb,c.imp (yqq hm) (yqq hm)⟩)
theorem ybzh(hi:PtI g p I)(hm:Mv g p v t)(hr:∀ u,¬ adj g u u)(hs:∀ u w,adj g u w->adj g w u) :
  (∃ u,adj g v u/\lft (ygu p v t) (mvI I v) v u+1<=lft p I v u)\/(I v/\p v ≠ none):=by
 have hIv:¬ mvI I v v:=fun q=>q.2 rfl;cases hm with
 | accept u q1 q2 q3 =>
  left
  have hnu:u ≠ v:=fun e=>by subst e;exact hr _ q2
  refine⟨u,q2,?_⟩;rw[yja,yja,set_self,ycg hnu];unfold lv;rw[if_pos ⟨rfl,q3⟩,if_neg (fun⟨a,_⟩=>by rw[q1]at a;cases a)]
  split
  ·omega
  ·rw[if_neg]
   ·omega
   ·rintro(⟨z,c,_⟩ | ⟨z,c1,c2⟩)
    ·rw[q1]at c;cases c
    ·rw[q3]at c1;cases c1;rw[q1]at c2;cases c2
 | propose u q1 q2 q3 q4 =>
  left
  have hnu:u ≠ v:=fun e=>by subst e;exact hr _ q2
  refine⟨u,q2,?_⟩;rw[yja,yja,set_self,ycg hnu];unfold lv;rw[if_neg (fun⟨_,a⟩=>by rw[q3]at a;cases a),if_pos (.inl ⟨rfl,hIv⟩),if_neg (fun⟨a,_⟩=>by rw[q1]at a;cases a),if_neg,if_neg]
  ·omega
  ·rintro(⟨z,c,_⟩ | ⟨z,c,_⟩)
   ·rw[q1]at c;cases c
   ·rw[q3]at c;cases c
  ·rintro(⟨b,_⟩ | ⟨b,_⟩)
   ·rw[q1]at b;cases b
   ·rw[q3]at b;cases b
 | withdraw u w q1 q2 q3 =>
  by_cases hI:I v
  ·right;exact⟨hI,by rw[q1];simp⟩
  ·left
   have huv:=hi.nb v u q1;have hnu:u ≠ v:=fun e=>by subst e;exact hr _ huv
   refine⟨u,huv,?_⟩
   have mu:Mt p u:=by
    rcases hi.fresh v u q1 hI with q | q | q
    ·rw[q2]at q;cases q
    ·rw[q2]at q;cases q;exact absurd rfl q3
    ·exact q
   have hm:Mv g p v none:=.withdraw u w q1 q2 q3;rw[yja,yja,set_self,ycg hnu];unfold lv;rw[if_neg (fun⟨a,_⟩=>by cases a),if_neg,if_pos (.inr (yqq hm mu)),if_neg (fun⟨_,a⟩=>by rw[q2]at a;cases a;exact q3 rfl),if_pos (.inl ⟨q1,hI⟩)]
   ·omega
   ·rintro(⟨b,_⟩ | ⟨b,_⟩)
    ·cases b
    ·rw[q2]at b;cases b;exact q3 rfl
end
theorem ybar{α:Type}(f h:α->Nat):∀ (l:List α),(∀ x ∈ l,f x<=h x)->(l.map f).sum<=(l.map h).sum
 | [],_=>Nat.le_refl _
 | x :: l,hl=>by
  have h1:=hl x List.mem_cons_self;have h2:=ybar f h l fun y hy=>hl y (List.mem_cons_of_mem _ hy);simp only[List.map_cons,List.sum_cons];omega
theorem sum_lt{α:Type}(f h:α->Nat):∀ (l:List α),(∀ x ∈ l,f x<=h x)->(∃ x ∈ l,f x+1<=h x)->(l.map f).sum+1<=(l.map h).sum
 | [],_,⟨x,hx,_⟩=>absurd hx List.not_mem_nil
 | x :: l,hl,⟨y,hy,e⟩=>by
  have h1:=hl x List.mem_cons_self;simp only[List.map_cons,List.sum_cons];rcases List.mem_cons.1 hy with rfl | hy
  ·have h2:=ybar f h l fun y hy=>hl y (List.mem_cons_of_mem _ hy);omega
  ·have h2:=sum_lt f h l (fun y hy=>hl y (List.mem_cons_of_mem _ hy)) ⟨y,hy,e⟩;omega
theorem yczg(f h:Nat->Nat)(l:List Nat)(hl:∀ x ∈ l,f x<=h x){a b:Nat}(ha:a ∈ l)(hb:b ∈ l)(hab:a ≠ b)(e1:f a+1<=h a)(e2:f b+1<=h b):(l.map f).sum+2<=(l.map h).sum:=by
 have s1:=sum_lt f (fun x=>if x=a then h a - 1 else h x) l (fun x hx=>by
  show f x<=if x=a then h a - 1 else h x
  by_cases e:x=a
  ·rw[if_pos e,e];omega
  ·rw[if_neg e];exact hl x hx) ⟨b,hb,by
  show f b+1<=if b=a then h a - 1 else h b
  rw[if_neg (fun e=>hab e.symm)];exact e2⟩
 have s2:=sum_lt (fun x=>if x=a then h a - 1 else h x) h l (fun x hx=>by
  show(if x=a then h a - 1 else h x)<=h x
  by_cases e:x=a
  ·rw[if_pos e,e];omega
  ·rw[if_neg e];exact Nat.le_refl _) ⟨a,ha,by
  show(if a=a then h a - 1 else h a)+1<=h a
  rw[if_pos rfl];omega⟩
 omega
open Classical in
noncomputable def oldN(g:Gr)(p:Ptr)(I:Nat->Prop):Nat:=((List.range g.ports.length).map fun x=>if I x/\p x ≠ none then 1 else 0).sum
open Classical in
noncomputable def lftN(g:Gr)(p:Ptr)(I:Nat->Prop):Nat:=((List.range g.ports.length).map fun x=>((g.ports.getD x []).map fun l=>lft p I x l.1.toNat).sum).sum
open Classical in
theorem ybxy{g:Gr}(hg:GoodG g){p:Ptr}{I:Nat->Prop}{v:Nat}{t:Option Nat}(hv:v<g.ports.length)(hi:PtI g p I)(hm:Mv g p v t) :
  2 * oldN g (ygu p v t) (mvI I v)+lftN g (ygu p v t) (mvI I v)+2<=2 * oldN g p I+lftN g p I:=by
 have hs:∀ u w,adj g u w->adj g w u:=fun u w h=>hg.adj_symm h
 have hr:∀ u,¬ adj g u u:=fun u h=>by
  obtain⟨hu,_⟩:=hg.adj_lt h;obtain⟨l,hl,e⟩:=yec.1 h;have e3:g.ports[u]? = some (g.ports.getD u []):=by simp[List.getD,hu]
  exact(hg.link e3 hl).2.2.1 e
 have old:∀ x ∈ List.range g.ports.length,(fun x=>if mvI I v x/\ygu p v t x ≠ none then 1 else 0) x<=(fun x=>if I x/\p x ≠ none then 1 else 0) x:=fun x _=>by
  show(if mvI I v x/\ygu p v t x ≠ none then 1 else 0)<=if I x/\p x ≠ none then 1 else 0
  by_cases e:x=v
  ·rw[if_neg (fun q=>q.1.2 e)];exact Nat.zero_le _
  ·rw[ycg e]
   by_cases q:I x/\p x ≠ none
   ·rw[if_pos q];split<;>omega
   ·rw[if_neg q,if_neg (fun r=>q ⟨r.1.1,r.2⟩)];exact Nat.le_refl _
 have row:∀ x ∈ List.range g.ports.length,(fun x=>((g.ports.getD x []).map fun l=>lft (ygu p v t) (mvI I v) x l.1.toNat).sum) x<=(fun x=>((g.ports.getD x []).map fun l=>lft p I x l.1.toNat).sum) x:=fun x hx =>
  ybar _ _ _ fun l hl=>ybfn hi hm hr hs (mem_adj hg (List.mem_range.1 hx) hl).2.2.1
 have o:=ybar _ _ _ old;have r:=ybar _ _ _ row;unfold oldN lftN;rcases ybzh hi hm hr hs with⟨u,hu,e⟩ | ⟨h1,h2⟩
 ·have hul:=(hg.adj_lt hu).2;have hne:v ≠ u:=fun q=>by subst q;exact hr _ hu
  have strict:∀ a b,adj g a b->lft (ygu p v t) (mvI I v) a b+1<=lft p I a b->(fun x=>((g.ports.getD x []).map fun l=>lft (ygu p v t) (mvI I v) x l.1.toNat).sum) a+1<=(fun x=>((g.ports.getD x []).map fun l=>lft p I x l.1.toNat).sum) a:=fun a b hab he=>by
   obtain⟨l,hl,el⟩:=yhz hab;exact sum_lt _ _ _ (fun l' hl'=>ybfn hi hm hr hs (mem_adj hg (hg.adj_lt hab).1 hl').2.2.1) ⟨l,hl,by rw[el];exact he⟩
  have:=yczg _ _ _ row (List.mem_range.2 hv) (List.mem_range.2 hul) hne (strict v u hu e) (strict u v (hs _ _ hu) (by rw[yox,yox p I u v];exact e))
  omega
 ·have:=sum_lt _ _ _ old ⟨v,List.mem_range.2 hv,by
   show(if mvI I v v/\ygu p v t v ≠ none then 1 else 0)+1<=if I v/\p v ≠ none then 1 else 0
   rw[if_neg (fun q=>q.1.2 rfl),if_pos ⟨h1,h2⟩];exact Nat.le_refl _⟩
  omega
end Go.Proofs.YtiejahgklcjhkaaGreatDoor

namespace Go.Proofs.YtiejahgklcjhkaaGreatDoor
section
variable {g:Gr} {p:Ptr} {I:Nat->Prop} {v w:Nat} {t t':Option Nat}
theorem ycbe(hi:PtI g p I)(hw:Mv g p w t')(hne:w ≠ v)(hna:¬ adj g w v):Mv g (ygu p v t) w t':=by
 have nb:∀ u,adj g w u->u ≠ v:=fun u hu e=>hna (by rw[<- e];exact hu)
 cases hw with
 | accept u q1 q2 q3=>exact .accept u (by rw[ycg hne];exact q1) q2 (by rw[ycg (nb u q2)];exact q3)
 | propose u q1 q2 q3 q4=>exact .propose u (by rw[ycg hne];exact q1) q2 (by rw[ycg (nb u q2)];exact q3) fun x hx=>by rw[ycg (nb x hx)];exact q4 x hx
 | withdraw u x q1 q2 q3=>exact .withdraw u x (by rw[ycg hne];exact q1) (by rw[ycg (nb u (hi.nb w u q1))];exact q2) q3
noncomputable def potN(g:Gr)(p:Ptr)(I:Nat->Prop):Nat:=2 * oldN g p I+lftN g p I
theorem yxh(hg:GoodG g)(t:Nat->Option Nat):∀ (vs:List Nat) (p:Ptr) (I:Nat->Prop),PtI g p I->vs.Nodup->(∀ v ∈ vs,v<g.ports.length)->(∀ v ∈ vs,∀ w ∈ vs,¬ adj g v w)->(∀ v ∈ vs,Mv g p v (t v)) ->
  ∃ I',PtI g (fun x=>if x ∈ vs then t x else p x) I'/\potN g (fun x=>if x ∈ vs then t x else p x) I'+2 * vs.length<=potN g p I
 | [],p,I,hi,_,_,_,_=>⟨I,by simpa using hi,by simp⟩
 | v :: vs,p,I,hi,hn,hl,ha,hm=>by
  have hn:=List.nodup_cons.1 hn;have hs:∀ u w,adj g u w->adj g w u:=fun u w h=>hg.adj_symm h
  have hr:∀ u,¬ adj g u u:=fun u h=>by
   obtain⟨hu,_⟩:=hg.adj_lt h;obtain⟨l,hl,e⟩:=yec.1 h;have e3:g.ports[u]? = some (g.ports.getD u []):=by simp[List.getD,hu]
   exact(hg.link e3 hl).2.2.1 e
  have m1:=hm v List.mem_cons_self;have step:=ybxy hg (hl v List.mem_cons_self) hi m1;have inv:=ydaw hi m1 hs hr
  obtain⟨I',h1,h2⟩:=yxh hg t vs (ygu p v (t v)) (mvI I v) inv hn.2 (fun w hw=>hl w (List.mem_cons_of_mem _ hw)) (fun w hw x hx=>ha w (List.mem_cons_of_mem _ hw) x (List.mem_cons_of_mem _ hx)) (fun w hw =>
   ycbe hi (hm w (List.mem_cons_of_mem _ hw)) (fun e=>hn.1 (e ▸ hw)) (ha w (List.mem_cons_of_mem _ hw) v List.mem_cons_self))
  have e:(fun x=>if x ∈ v :: vs then t x else p x)=fun x=>if x ∈ vs then t x else ygu p v (t v) x:=by
   funext x
   by_cases q:x ∈ vs
   ·rw[if_pos (List.mem_cons_of_mem _ q),if_pos q]
   ·rw[if_neg q]
    by_cases q2:x=v
    ·subst q2;rw[if_pos List.mem_cons_self,set_self]
    ·rw[if_neg (fun h=>by rcases List.mem_cons.1 h with h | h<;>contradiction),ycg q2]
  rw[e];refine⟨I',h1,?_⟩;unfold potN at *;simp only[List.length_cons];omega
theorem yhw{α:Type}(f:α->Nat)(k:Nat):∀ (l:List α),(∀ x ∈ l,f x<=k)->(l.map f).sum<=k * l.length
 | [],_=>Nat.zero_le _
 | x :: l,h=>by
  have h1:=h x List.mem_cons_self;have h2:=yhw f k l fun y hy=>h y (List.mem_cons_of_mem _ hy);simp only[List.map_cons,List.sum_cons,List.length_cons,Nat.mul_add,Nat.mul_one];omega
theorem ynj{α:Type}(f h:α->Nat)(k:Nat):∀ (l:List α),(∀ x ∈ l,f x<=k * h x)->(l.map f).sum<=k * (l.map h).sum
 | [],_=>Nat.zero_le _
 | x :: l,hl=>by
  have h1:=hl x List.mem_cons_self;have h2:=ynj f h k l fun y hy=>hl y (List.mem_cons_of_mem _ hy);simp only[List.map_cons,List.sum_cons,Nat.mul_add];omega
open Classical in
theorem ybsr(g:Gr)(p:Ptr)(I:Nat->Prop):potN g p I<=2 * g.ports.length+2 * yea g:=by
 have h1:oldN g p I<=1 * (List.range g.ports.length).length:=yhw _ 1 _ fun x _=>by
  show(if I x/\p x ≠ none then 1 else 0)<=1
  split<;>omega
 have h2:lftN g p I<=2 * ((List.range g.ports.length).map fun x=>(g.ports.getD x []).length).sum:=ynj _ _ 2 _ fun x _ =>
  yhw _ 2 _ fun l _=>ydad p I x l.1.toNat
 have e:(List.range g.ports.length).map (fun x=>(g.ports.getD x []).length)=g.ports.map List.length:=by
  refine List.ext_getElem (by simp) fun i a b=>?_
  have hi:i<g.ports.length:=by simpa using b
  simp[List.getD,hi]
 rw[e]at h2;rw[List.length_range]at h1;unfold potN yea;omega
end
end Go.Proofs.YtiejahgklcjhkaaGreatDoor

namespace Go.Proofs.YtiejahgklcjhkaaGreatDoor
structure TreeM(g:Gr):Prop where
 up:∀ a v u,a<g.ports.length->adj g v u->(ydo g a).getD u 0=(ydo g a).getD v 0 - 1\/(ydo g a).getD u 0=(ydo g a).getD v 0+1
 one:∀ a v u w,a<g.ports.length->adj g v u->adj g v w->(ydo g a).getD u 0=(ydo g a).getD v 0 - 1->(ydo g a).getD w 0=(ydo g a).getD v 0 - 1->u=w
end Go.Proofs.YtiejahgklcjhkaaGreatDoor

namespace Go.Proofs.YtiejahgklcjhkaaGreatDoor
def dP(g:Gr)(a v:Nat):Int:=(ydo g a).getD v 0
structure Tr(g:Gr):Prop where
 good:GoodG g
 conn:yow g=true
 m:TreeM g
section
variable {g:Gr} {a b u v w x:Nat}
theorem Tr.self(h:Tr g)(ha:a<g.ports.length):dP g a a=0:=ybvr h.good h.conn ha
theorem Tr.nonneg(h:Tr g)(ha:a<g.ports.length)(hv:v<g.ports.length):0<=dP g a v:=(ycst h.good h.conn ha hv).1
theorem Tr.pos(h:Tr g)(ha:a<g.ports.length)(hv:v<g.ports.length)(hne:v ≠ a):1<=dP g a v:=ybzv h.good h.conn ha hv hne
theorem Tr.up(h:Tr g)(ha:a<g.ports.length)(hu:adj g v u):dP g a u=dP g a v - 1\/dP g a u=dP g a v+1:=h.m.up a v u ha hu
theorem Tr.one(h:Tr g)(ha:a<g.ports.length)(hu:adj g v u)(hx:adj g v x)(e1:dP g a u=dP g a v - 1)(e2:dP g a x=dP g a v - 1):u=x:=h.m.one a v u x ha hu hx e1 e2
theorem Tr.back(h:Tr g)(ha:a<g.ports.length)(hv:v<g.ports.length)(hne:v ≠ a):∃ u,adj g v u/\dP g a u=dP g a v - 1:=ybqx h.good h.conn ha hv hne
theorem Tr.adj1(h:Tr g)(hu:adj g v u):dP g v u=1:=by
 obtain⟨hv,hu'⟩:=h.good.adj_lt hu;have h1:=h.up hv hu;have h2:=h.self hv;have h3:=h.nonneg hv hu';omega
theorem Tr.ne(h:Tr g)(hu:adj g v u):v ≠ u:=fun e=>by
 subst e;have:=h.adj1 hu;have:=h.self (h.good.adj_lt hu).1;omega
def rchP(g:Gr)(v u:Nat):Int:=(List.range g.ports.length).foldl (fun m w=>if dP g w u<dP g w v then max m (dP g w v)else m) 0
theorem yux(f:Nat->Int)(p:Nat->Prop)[DecidablePred p]:∀ (l:List Nat) (m:Int),m<=l.foldl (fun m w=>if p w then max m (f w)else m) m/\(∀ w ∈ l,p w->f w<=l.foldl (fun m w=>if p w then max m (f w)else m) m)/\(l.foldl (fun m w=>if p w then max m (f w)else m) m=m \/ ∃ w ∈ l,p w/\f w=l.foldl (fun m w=>if p w then max m (f w)else m) m)
 | [],m=>⟨Int.le_refl _,fun w hw=>absurd hw List.not_mem_nil,.inl rfl⟩
 | x :: l,m=>by
  obtain⟨h1,h2,h3⟩:=yux f p l (if p x then max m (f x)else m)
  simp only[List.foldl_cons];refine⟨?_,fun w hw hp=>?_,?_⟩
  ·clear h2 h3
   have:m<=if p x then max m (f x)else m:=by split<;>omega
   omega
  ·rcases List.mem_cons.1 hw with rfl | hw
   ·rw[if_pos hp]at h1 ⊢;omega
   ·exact h2 w hw hp
  ·clear h2
   rcases h3 with h3 | ⟨w,hw,hp,e⟩
   ·by_cases hp:p x
    ·rw[if_pos hp]at h3 ⊢;rcases Int.le_total (f x) m with q | q
     ·left;rw[h3];omega
     ·right;exact⟨x,List.mem_cons_self,hp,by rw[h3];omega⟩
    ·rw[if_neg hp]at h3 ⊢;exact .inl h3
   ·exact .inr ⟨w,List.mem_cons_of_mem _ hw,hp,e⟩
theorem ybaj(hw:w<g.ports.length)(h:dP g w u<dP g w v):dP g w v<=rchP g v u :=
 (yux (fun w=>dP g w v) (fun w=>dP g w u<dP g w v) (List.range g.ports.length) 0).2.1 w (List.mem_range.2 hw) h
theorem Tr.rch_pos(h:Tr g)(hu:adj g v u):1<=rchP g v u:=by
 obtain⟨hv,hu'⟩:=h.good.adj_lt hu;have h1:=h.adj1 (h.good.adj_symm hu);have h2:=h.self hu';have:=ybaj (g:=g) (w:=u) (u:=u) (v:=v) hu' (by omega)
 omega
theorem Tr.rch_ex(h:Tr g)(hu:adj g v u):∃ w,w<g.ports.length/\dP g w u<dP g w v/\dP g w v=rchP g v u:=by
 rcases(yux (fun w=>dP g w v) (fun w=>dP g w u<dP g w v) (List.range g.ports.length) 0).2.2 with e | ⟨w,hw,hp,e⟩
 ·have:=h.rch_pos hu;have e:rchP g v u=0:=e;omega
 ·exact⟨w,List.mem_range.1 hw,hp,e⟩
theorem Tr.into(h:Tr g)(hu:adj g v u)(hx:adj g u x)(hne:x ≠ v)(hw:w<g.ports.length)(hs:dP g w x<dP g w u):dP g w u<dP g w v/\dP g w v=dP g w u+1:=by
 have h1:=h.up hw hx;have h2:=h.up hw (h.good.adj_symm hu);rcases h2 with h2 | h2
 ·exact absurd (h.one hw hx (h.good.adj_symm hu) (by omega) h2) hne
 ·omega
theorem Tr.rch_step(h:Tr g)(hu:adj g v u)(hx:adj g u x)(hne:x ≠ v):1+rchP g u x<=rchP g v u:=by
 obtain⟨w,hw,h1,h2⟩:=h.rch_ex hx;obtain⟨h3,h4⟩:=h.into hu hx hne hw h1;have:=ybaj hw h3;omega
theorem Tr.rch_from(h:Tr g)(hu:adj g v u)(h2:2<=rchP g v u):∃ x,adj g u x/\x ≠ v/\rchP g v u=1+rchP g u x:=by
 obtain⟨hv,hu'⟩:=h.good.adj_lt hu;obtain⟨w,hw,h3,h4⟩:=h.rch_ex hu;have h5:=h.up hw (h.good.adj_symm hu)
 have hne:w ≠ u:=fun e=>by
  subst e;have:=h.self hw;omega
 obtain⟨x,hx,h6⟩:=h.back hw hu' (fun e=>hne e.symm);have hxv:x ≠ v:=fun e=>by subst e;omega
 refine⟨x,hx,hxv,?_⟩;have a:=h.rch_step hu hx hxv;have b:=ybaj (g:=g) (u:=x) (v:=u) hw (by omega)
 omega
def step2(p:Int × Int)(a:Int):Int × Int:=if a > p.1 then(a,p.1)else(p.1,max p.2 a)
def top2(b:Int)(l:List Int):Int × Int:=l.foldl step2 (b,b)
theorem ybnu(b:Int)(l:List Int)(a:Int):top2 b (l ++ [a])=step2 (top2 b l) a:=by unfold top2;rw[List.foldl_append];rfl
theorem ybam(b:Int)(l:List Int):∀ k,k<=l.length->b<=(top2 b (l.take k)).2/\(top2 b (l.take k)).2<=(top2 b (l.take k)).1 /\ ∀ m,b<m->(m<=(top2 b (l.take k)).1 ↔ 1<=(l.take k).countP fun x=>decide (m<=x))/\(m<=(top2 b (l.take k)).2 ↔ 2<=(l.take k).countP fun x=>decide (m<=x))
 | 0,_=>by
  refine⟨Int.le_refl _,Int.le_refl _,fun m hm=>?_⟩;have e:(top2 b (l.take 0))=(b,b):=rfl;rw[e];simp only[List.take_zero,List.countP_nil];omega
 | k+1,hk=>by
  obtain⟨h1,h2,h3⟩:=ybam b l k (by omega)
  rw[List.take_succ_eq_append_getElem (show k<l.length by omega),ybnu]
  generalize l[k]=a
  have hc:∀ m,(l.take k ++ [a]).countP (fun x=>decide (m<=x))=(l.take k).countP (fun x=>decide (m<=x))+if m<=a then 1 else 0:=fun m=>by
   rw[List.countP_append,List.countP_cons,List.countP_nil];simp
  generalize top2 b (l.take k)=P at *
  unfold step2;split
  ·refine⟨by simp only;omega,by simp only;omega,fun m hm=>?_⟩
   obtain⟨h4,h5⟩:=h3 m hm;rw[hc];simp only;constructor
   ·split<;>omega
   ·split<;>omega
  ·refine⟨by simp only;omega,by simp only;omega,fun m hm=>?_⟩
   obtain⟨h4,h5⟩:=h3 m hm;rw[hc];simp only;constructor
   ·split<;>omega
   ·split<;>omega
theorem ybhn(b:Int)(l:List Int):b<=(top2 b l).2/\(top2 b l).2<=(top2 b l).1 /\ ∀ m,b<m->(m<=(top2 b l).1 ↔ 1<=l.countP fun x=>decide (m<=x))/\(m<=(top2 b l).2 ↔ 2<=l.countP fun x=>decide (m<=x)):=by
 have h:=ybam b l l.length (Nat.le_refl _)
 rwa [List.take_length]at h
theorem yxg{p:Int × Int->Bool}:∀ {ls:List (Int × Int)},(ls.map (·.1)).Nodup->(2<=ls.countP p ↔ ∃ a ∈ ls,∃ b ∈ ls,a.1 ≠ b.1/\p a=true/\p b=true)
 | [],_=>by simp
 | l :: ls,hn=>by
  have hn:=List.nodup_cons.1 hn;have ih:=yxg (p:=p) hn.2
  have one:1<=ls.countP p ↔ ∃ a ∈ ls,p a=true:=by
   rw[Nat.one_le_iff_ne_zero,Nat.ne_zero_iff_zero_lt,List.countP_pos_iff]
  have hno:∀ a ∈ ls,l.1 ≠ a.1:=fun a ha e=>hn.1 (List.mem_map.2 ⟨a,ha,e.symm⟩);rw[List.countP_cons];constructor
  ·intro h
   by_cases hp:p l=true
   ·rw[if_pos hp]at h;obtain⟨a,ha,hpa⟩:=one.1 (by omega)
    exact⟨l,List.mem_cons_self,a,List.mem_cons_of_mem _ ha,hno a ha,hp,hpa⟩
   ·rw[if_neg hp]at h;obtain⟨a,ha,b,hb,q⟩:=ih.1 (by omega)
    exact⟨a,List.mem_cons_of_mem _ ha,b,List.mem_cons_of_mem _ hb,q⟩
  ·rintro⟨a,ha,b,hb,hab,hpa,hpb⟩;rcases List.mem_cons.1 ha with ea | ha
   ·rcases List.mem_cons.1 hb with eb | hb
    ·exact absurd (by rw[ea,eb]) hab
    ·have:=one.2 ⟨b,hb,hpb⟩;rw[<- ea,if_pos hpa];omega
   ·rcases List.mem_cons.1 hb with eb | hb
    ·have:=one.2 ⟨a,ha,hpa⟩;rw[<- eb,if_pos hpb];omega
    ·have:=ih.2 ⟨a,ha,b,hb,hab,hpa,hpb⟩;omega
theorem yqr(hg:GoodG g)(hv:v<g.ports.length):((g.ports.getD v []).map (·.1)).Nodup:=by
 have h:=(hg.2.2.2.2.2.1 ⟨v,hv⟩).2;have e0:g.ports[v]=g.ports.getD v []:=by rw[Sh.getD_at hv]
 have h:((g.ports[v]).map (·.1)).Nodup:=h
 rwa [e0]at h
theorem ydhm(hg:GoodG g)(hv:v<g.ports.length){f:Nat->Int}{m:Int}:2<=((g.ports.getD v []).map fun l=>f l.1.toNat).countP (fun x=>decide (m<=x)) ↔ ∃ a b,adj g v a/\adj g v b/\a ≠ b/\m<=f a/\m<=f b:=by
 rw[List.countP_map,yxg (yqr hg hv)];constructor
 ·rintro⟨a,ha,b,hb,hne,hpa,hpb⟩;obtain⟨a1,_,a3,_⟩:=mem_adj hg hv ha;obtain⟨b1,_,b3,_⟩:=mem_adj hg hv hb;exact⟨_,_,a3,b3,by omega,of_decide_eq_true hpa,of_decide_eq_true hpb⟩
 ·rintro⟨a,b,ha,hb,hne,hpa,hpb⟩;obtain⟨la,hla,ea⟩:=yhz ha;obtain⟨lb,hlb,eb⟩:=yhz hb;exact⟨la,hla,lb,hlb,fun e=>hne (by rw[<- ea,<- eb,e]),decide_eq_true (by show m<=f la.1.toNat;rw[ea];exact hpa),decide_eq_true (by show m<=f lb.1.toNat;rw[eb];exact hpb)⟩
def htP(g:Gr)(v:Nat):Int:=(top2 0 ((g.ports.getD v []).map fun l=>rchP g v l.1.toNat)).2
theorem ybtx(g:Gr)(v:Nat):0<=htP g v:=(ybhn 0 _).1
theorem ybto(hg:GoodG g)(hv:v<g.ports.length){m:Int}(hm:1<=m):m<=htP g v ↔ ∃ a b,adj g v a/\adj g v b/\a ≠ b/\m<=rchP g v a/\m<=rchP g v b:=by
 rw[<- ydhm hg hv (f:=fun u=>rchP g v u)];exact((ybhn 0 _).2.2 m (by omega)).2
theorem Tr.thru(h:Tr g)(hw:w<g.ports.length):∀ (k:Nat) (v u x:Nat),adj g v u->dP g w u=dP g w v+1->x<g.ports.length->dP g x u<dP g x v->(dP g x u).toNat<k->dP g w x=dP g w u+dP g x u
 | 0,v,u,x,_,_,_,_,hk=>by omega
 | k+1,v,u,x,hu,hwu,hx,hs,hk=>by
  obtain⟨hv,hu'⟩:=h.good.adj_lt hu
  by_cases e:x=u
  ·subst e;rw[h.self hx];omega
  ·obtain⟨y,hy,h1⟩:=h.back hx hu' (fun q=>e q.symm);have hyv:y ≠ v:=fun q=>by subst q;omega
   have h2:=h.up hw hy
   have hw1:dP g w y=dP g w u+1:=by
    rcases h2 with h2 | h2
    ·exact absurd (h.one hw hy (h.good.adj_symm hu) h2 (by omega)) hyv
    ·exact h2
   have:=h.nonneg hx (h.good.adj_lt hy).2;have ih:=Tr.thru h hw k u y x hy hw1 hx (by omega) (by omega)
   omega
theorem Tr.apart(h:Tr g)(ha:adj g v a)(hb:adj g v b)(hne:a ≠ b)(hw:w<g.ports.length)(hx:x<g.ports.length)(h1:dP g w a<dP g w v)(h2:dP g x b<dP g x v):dP g w x=dP g w v+dP g x v:=by
 have a1:=h.up hw ha;have b1:=h.up hw hb;have b2:=h.up hx hb
 have hwb:dP g w b=dP g w v+1:=by
  rcases b1 with q | q
  ·exact absurd (h.one hw ha hb (by omega) q) hne
  ·exact q
 have:=h.thru hw _ v b x hb hwb hx h2 (Nat.lt_succ_self _);omega
end
end Go.Proofs.YtiejahgklcjhkaaGreatDoor

namespace Go.Proofs.YtiejahgklcjhkaaGreatDoor
def yki:Ex:=.bin 35 (eQ 0) (.leaf 17 0)
def ylc:Ex:=.bin 35 (eQ 0) yzo
def yzl:Ex:=.bin 41 (.bin 41 (.bin 35 (.leaf 11 0) (eVar 0)) (.bin 36 (eQ 0) yzo)) (.bin 36 (eQ 0) (.leaf 17 0))
def ybd(nm p a b w:ByteArray):ProgT:=⟨nm,[⟨p,3,0,0,0,0⟩],[⟨a,.bin 41 (.bin 35 (eVar 0) yzo) (.agg 21 yki),[(0,.agg 23 yki)]⟩,⟨b,.bin 41 (.bin 35 (eVar 0) yzo) (.agg 21 ylc),[(0,.agg 23 ylc)]⟩,⟨w,.agg 21 yzl,[(0,yzo)]⟩]⟩
theorem yws{α:Type}(f:α->Bool)(ls:List α):countP (ls.map fun l=>ybf (f l))=((ls.filter f).length:Int):=by
 unfold countP
 induction ls with
 | nil=>rfl
 | cons l ls ih =>
  cases h:f l with
  | false =>
   rw[List.map_cons,List.filter_cons,List.filter_cons,h];have e:((ybf false != 0)=true)=False:=by simp[ybf]
   simp only[e,if_false,Bool.false_eq_true];exact ih
  | true =>
   rw[List.map_cons,List.filter_cons,List.filter_cons,h];have e:((ybf true != 0)=true)=True:=by simp[ybf]
   simp only[e,if_true,List.length_cons];omega
theorem ysv{α:Type}(f:α->Bool)(ls:List α):yfl 21 (ls.map fun l=>ybf (f l))=ybf (ls.any f):=by
 show ybf (decide (countP _ > 0))=_;rw[yws];congr 1;rw[Bool.eq_iff_iff,decide_eq_true_iff,List.any_eq_true];constructor
 ·intro h;obtain⟨l,hl⟩:=List.exists_mem_of_length_pos (show 0<(ls.filter f).length by omega)
  exact⟨l,(List.mem_filter.1 hl).1,(List.mem_filter.1 hl).2⟩
 ·rintro⟨l,hl,hf⟩;have:=List.length_pos_of_mem (List.mem_filter.2 ⟨hl,hf⟩);omega
def pAt(c:Conf)(v:Nat):Int:=(c.getD v []).getD 0 0
def toP(g:Gr)(c:Conf):Ptr:=fun v=>if v<g.ports.length/\0<=pAt c v then some ((g.ports.getD v []).getD (pAt c v).toNat (0,0)).1.toNat else none
def ynx(g:Gr)(c:Conf)(v:Nat)(l:Int × Int):Bool:=endP c 0 l == yeb (g.ports.getD l.1.toNat []) v
def ynv(c:Conf)(l:Int × Int):Bool:=endP c 0 l == -1
structure MtC(g:Gr)(c:Conf):Prop where
 len:c.length=g.ids.length
 row:∀ v,v<g.ids.length->(c.getD v []).length=1/\(-1<=pAt c v/\pAt c v<(g.ports.getD v []).length)
section
variable {nm np na nb nw:ByteArray} {g:Gr} {c:Conf} {u v s:Nat}
theorem ylv(hc:ydw (ybd nm np na nb nw) g c=true):MtC g c:=by
 have h:=(ydy _ _ _).1 hc;refine⟨h.1,fun v hv=>?_⟩;have hlt:v<c.length:=by rw[h.1];exact hv
 have e:c.getD v []=c[v]:=by simp[List.getD,hlt]
 have h2:=h.2 v _ (List.getElem?_eq_getElem hlt);unfold pAt;rw[e];have hl:c[v].length=1:=h2.1;have a0:(yu g v ⟨np,3,0,0,0,0⟩).1<=c[v][0]/\c[v][0]<=(yu g v ⟨np,3,0,0,0,0⟩).2:=h2.2 0 _ _ rfl (List.getElem?_eq_getElem (by omega))
 have e0:c[v].getD 0 0=c[v][0]:=by simp[List.getD,hl]
 rw[e0];rw[bT3]at a0;simp only at a0;exact⟨hl,by omega,by omega⟩
theorem ypt(hg:GoodG g)(h:MtC g c)(hv:v<g.ports.length){l:Int × Int}(hl:l ∈ g.ports.getD v []):ynx g c v l=true ↔ toP g c l.1.toNat=some v:=by
 obtain⟨h1,h2,_⟩:=mem_adj hg hv hl;have hpl:=hg.2.2.1;have hn:=yqr hg h2
 have hb:((v:Int),l.2) ∈ g.ports.getD l.1.toNat []:=by
  have:=hg.2.2.2.2.2.2 ⟨v,hv⟩ l (by show l ∈ g.ports[v];rw[<- Sh.getD_at hv (d:=[])];exact hl)
  exact this
 obtain⟨k,e1,e2⟩:=yjx hn hb;obtain⟨hk,ek⟩:=List.getElem?_eq_some_iff.1 e2;have hrow:=(h.row l.1.toNat (by omega)).2
 unfold ynx toP;rw[beq_iff_eq,e1];have hp:endP c 0 l=pAt c l.1.toNat:=rfl;rw[hp];constructor
 ·intro q;rw[q,if_pos (by omega),Int.toNat_natCast,Sh.getD_at hk,ek]
  simp
 ·intro q
  by_cases q0:0<=pAt c l.1.toNat
  ·rw[if_pos ⟨h2,q0⟩]at q;obtain⟨j,hj⟩:∃ j:Nat,pAt c l.1.toNat=j:=Int.eq_ofNat_of_zero_le q0;rw[hj,Int.toNat_natCast]at q;have hjl:j<(g.ports.getD l.1.toNat []).length:=by omega
   rw[Sh.getD_at hjl]at q;have q:=Option.some.inj q;obtain⟨m1,_⟩:=mem_adj hg h2 (List.getElem_mem hjl);have hj':j<((g.ports.getD l.1.toNat []).map (·.1)).length:=by rw[List.length_map];exact hjl
   have hk':k<((g.ports.getD l.1.toNat []).map (·.1)).length:=by rw[List.length_map];exact hk
   have:=(List.getElem_inj (h₀:=hj') (h₁:=hk') hn).1 (by rw[List.getElem_map,List.getElem_map,ek];simp only;omega)
   rw[hj,this]
  ·rw[if_neg (fun r=>q0 r.2)]at q;cases q
theorem ypm(hg:GoodG g)(h:MtC g c)(hv:v<g.ports.length){l:Int × Int}(hl:l ∈ g.ports.getD v []):ynv c l=true ↔ toP g c l.1.toNat=none:=by
 obtain⟨h1,h2,_⟩:=mem_adj hg hv hl;have hrow:=(h.row l.1.toNat (by have:=hg.2.2.1;omega)).2
 unfold ynv toP;have hp:endP c 0 l=pAt c l.1.toNat:=rfl;rw[beq_iff_eq,hp];constructor
 ·intro q;rw[if_neg (by omega)]
 ·intro q
  by_cases q0:0<=pAt c l.1.toNat
  ·rw[if_pos ⟨h2,q0⟩]at q;cases q
  ·omega
theorem ybma(hv:v<g.ports.length){q:Nat}(hq:q<(g.ports.getD v []).length):ycd g c v (.leaf 17 0) q=yeb (g.ports.getD (yx g v q).1.toNat []) v:=by
 show(ygn g v).getD (q:Int).toNat 0=_;unfold ygn yx;rw[Int.toNat_natCast,List.getD_eq_getElem?_getD,List.getElem?_map,List.getElem?_eq_getElem hq,Sh.getD_at hq];rfl
theorem yyq(hv:v<g.ports.length){q:Nat}(hq:q<(g.ports.getD v []).length):ycd g c v yki q=ybf (ynx g c v (yx g v q)):=by
 show ybf (cmpP 35 (ycd g c v (eQ 0) q) (ycd g c v (.leaf 17 0) q))=_;rw[ybma hv hq];rfl
end
end Go.Proofs.YtiejahgklcjhkaaGreatDoor

namespace Go.Proofs.YtiejahgklcjhkaaGreatDoor
theorem yqn{α:Type}[DecidableEq α]:∀ {l1 l2:List α},l1.Nodup->(∀ x ∈ l1,x ∈ l2)->l1.length<=l2.length
 | [],_,_,_=>Nat.zero_le _
 | a :: t,l2,hn,hs=>by
  have hn:=List.nodup_cons.1 hn;have h1:=hs a List.mem_cons_self;have:=yqn (l1:=t) (l2:=l2.erase a) hn.2 fun y hy=>(List.mem_erase_of_ne fun e=>hn.1 (by rw[<- e];exact hy)).2 (hs y (List.mem_cons_of_mem _ hy))
  rw[List.length_erase_of_mem h1]at this;have:=List.length_pos_of_mem h1;simp only[List.length_cons];omega
def kcEx:Ex:=.agg 21 (.bin 35 (eQ 0) (eVar 0))
def ybqw(nm c r:ByteArray):ProgT:=⟨nm,[⟨c,1,0,0,1,0⟩],[⟨r,kcEx,[(0,.agg 27 (eQ 0))]⟩]⟩
def ybwx(c:Conf)(v:Nat):Int:=(c.getD v []).getD 0 0
def ydjr(g:Gr)(c:Conf)(v:Nat):Prop:=∃ u,adj g v u/\ybwx c u=ybwx c v
structure KcC(g:Gr)(c:Conf):Prop where
 len:c.length=g.ids.length
 row:∀ v,v<g.ids.length->(c.getD v []).length=1/\(0<=ybwx c v/\ybwx c v<=g.ids.length)
section
variable {nm nc nr:ByteArray} {g:Gr} {c:Conf} {u v s:Nat}
def kcR(g:Gr)(r v:Nat)(c:Conf):Prop:=1<=r -> ¬ ydjr g c v
structure KcJ(nm nc nr:ByteArray)(g:Gr)(c:Conf)(k:Cnt):Prop where
 inv:RInvC (ybc (ybqw nm nc nr) g) (fun c=>ydw (ybqw nm nc nr) g c=true) (kcR g) c k
 moves:k.moves+popP (yw (ybqw nm nc nr) g c)<=g.ids.length
end
end Go.Proofs.YtiejahgklcjhkaaGreatDoor

namespace Go.Proofs.YtiejahgklcjhkaaGreatDoor
open Go.RowKit

end Go.Proofs.YtiejahgklcjhkaaGreatDoor

namespace Go.Proofs.YtiejahgklcjhkaaGreatDoor
open Go.RowKit

end Go.Proofs.YtiejahgklcjhkaaGreatDoor

namespace Go.Proofs.YtiejahgklcjhkaaGreatDoor
open Go
namespace Sh
open Ev Go.RowKit
set_option maxRecDepth 8000
theorem ybhu{n nv:Nat}{c:Conf}(h:ConfIn n nv c):RowsI c:=fun s hs x hx=>by
 have:=(h.row s hs).2 x hx;unfold InB at this;exact yfc (by omega)
end Sh
end Go.Proofs.YtiejahgklcjhkaaGreatDoor

