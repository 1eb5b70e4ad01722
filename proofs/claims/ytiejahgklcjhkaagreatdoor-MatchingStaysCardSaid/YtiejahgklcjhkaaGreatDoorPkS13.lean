/- Joined. -/
import Derived.Test.YtiejahgklcjhkaaGreatDoorPkS12
set_option linter.unusedSimpArgs false
set_option linter.unusedVariables false
set_option maxRecDepth 8000
open Nat renaming reduceEqDiff→zA,reduceAdd→zB,reduceLeDiff→zC,reduceLT→zD,zero_le→zJ,pow_le_pow_right→zN,lt_of_lt_of_le→zQ,testBit_lt_two_pow→zS,le_refl→zW,lt_succ_self→zX,mod_eq_of_lt→zY,testBit_eq_decide_div_mod_eq→zZ,testBit_and→zAB,not_lt_zero→zAC,lt_pow_two_of_testBit→zAE,shiftRight_eq_div_pow→zAG,mul_div_cancel_left→zAH,eq_of_testBit_eq→zAK,pow_lt_pow_right→zAM,reduceBEq→zAN,reduceMul→zAO,lt_of_le_of_lt→zAP,pow_succ→zAQ,and_le_left→zAU,two_pow_pos→zAV,testBit→zAW
open Bool renaming and_eq_true→zF
open Int renaming natCast_zero→zG,toNat_natCast→zV,reduceToNat→zAJ
open Go.Proofs.Tryz renaming prog→zH
open BitVec renaming ofInt→zI,ofInt_natCast→zL,toNat_ofNat→zU,getLsbD_ofNat→zAL
open List renaming getElem_mem→zK,getD→zM,getElem?_eq_getElem→zO,mem_of_getElem?→zT,take_succ_eq_append_getElem→zAA,append_assoc→zAD,length_map→zAI,length→zAR,take_length→zAS,range→zAT
open Classical renaming byContradiction→zAF
open Go
namespace Go.Proofs.YtiejahgklcjhkaaGreatDoor
section
namespace Sh
open Go Ev
theorem ycgl(p:ProgR){g:Gr}(hg:yw g)(op:Int){v:Nat}(hv:v<g.ports.length)(port:Int)(hp:op=6\/op=7\/op=8\/op=9\/op=10\/op=11\/(0<=port/\port<(g.ports.getD v []).length)) :
 Returns zH 255 [.rf (yft p g),.i .i64 op,.i .i64 v,.i .i64 port] (.i .i64 (ymw g op v port)):=by
 refine Returns.of (ycxz _ _ ?_);have hlen:=hg.2.2.1;simp only[c255,ycqb,ycri,ycqe,ycsk,ycki,ycos,ycqn,ycxf,ycxg,ycrs,ybqy,ybug,ybyu,ybxf,ybvh,ybym,ybwr,ybqt,ybxg,ybtp,ybyj,ybys,ycac,ybsx,ybtf,yft,yu,ybb,ybc,ydy,yba,go_sem,zA,zB,zC,zD,↓reduceIte,reduceCtorEq];refine⟨fun h6=>?_,fun h6=>⟨fun h7=>?_,fun h7=>⟨fun h8=>⟨by omega,?_⟩,fun h8=>⟨fun h9=>⟨by omega,?_⟩,fun h9=>⟨fun h10=>(yei _).use ?_,fun h10=>⟨fun h11=>?_,fun h11=>?_⟩⟩⟩⟩⟩⟩
 ·simp[ymw,h6]
 ·simp[ymw,h7]
 ·simp[ymw,h8]
 ·simp[ymw,h9]
 ·simp only[ybf,yba,go_sem,zA,zB,↓reduceIte,reduceCtorEq];simp[ymw,h10]
 ·simp[ymw,h11]
 ·have hp:0<=port/\port<(g.ports.getD v []).length:=by omega
  have hpn:port.toNat<(g.ports.getD v []).length:=by omega
  have hl:=hg.ybm hv hpn;unfold ybm at hl;refine⟨by omega,by omega,fun h13=>⟨by omega,?_⟩,fun h13=>⟨fun h14=>⟨by omega,?_⟩,fun h14=>⟨fun h15=>(yei _).use ?_,fun h15=>⟨fun h16=>?_,fun h16=>⟨by omega,?_⟩⟩⟩⟩⟩
  ·simp[ymw,h13,ybm]
  ·simp[ymw,h14,ybm]
  ·simp only[ybf,yba,go_sem,zA,zB,↓reduceIte,reduceCtorEq];simp[ymw,h15,ybm]
  ·simp[ymw,h16,ybm]
  ·refine⟨by rw[show(yie g v).length=(g.ports.getD v []).length from zAI _];omega,?_⟩
   simp[ymw,h6,h7,h8,h9,h10,h11,h13,h14,h15,h16]
theorem ycbe(p:ProgR){g:Gr}(hg:yw g){nv:Nat}{c:Conf}(hc:ConfIn g.ports.length nv c){v:Nat}(hv:v<g.ports.length)(e:List Tm){op arg:Int}{bnd:Bool}(ho:(Ex.leaf op arg).ok nv bnd=true)(port:Int)(hp:bnd=true->0<=port/\port<(g.ports.getD v []).length) :
 Returns zH 236 [.rf (yjd p g c v e),.ag [.i .i64 op,.i .i64 arg],.i .i64 port] (.i .i64 (yut g c op arg v port)):=by
 refine Returns.of (ydep _ _ ?_);simp only[Ex.ok,zF,decide_eq_true_eq]at ho;obtain⟨⟨ho1,ho2⟩,ho3⟩:=ho;have hlen:=hc.len;have hrow:=hc.at_ hv;have hF:=ycgl p hg op hv port;simp only[yft,yu,ybb,ybc,ydy]at hF;simp only[c236,ycjo,ycww,ycsh,ycth,yciw,ycwl,yckb,yclt,ychs,ycnh,ybwd,ybsz,ybyq,ybzs,ybzg,yjd,ybk,yft,yu,ybb,ybc,ydy,yba,go_sem,zA,zB,zC,zD,↓reduceIte,reduceCtorEq];refine⟨fun h1=>?_,fun h1=>⟨fun h2=>?_,fun h2=>⟨fun h3=>?_,fun h3=>⟨fun h4=>?_,fun h4=>⟨fun h5=>?_,fun h5=>⟨fun h12=>?_,fun h12=>(hF ?_).use ?_⟩⟩⟩⟩⟩⟩
 ·simp[yut,h1]
 ·simp[yut,h2]
 ·simp[yut,h3]
 ·simp[yut,h4]
 ·rw[if_neg (by omega),if_pos (by omega)]at ho2
  have ho2:=of_decide_eq_true ho2;refine⟨by omega,by omega,?_⟩
  simp[yut,h5]
 ·rw[if_neg (by omega),if_pos (by omega)]at ho2
  have ho2:=of_decide_eq_true ho2;rw[if_pos (by omega)]at ho3
  have hp:=hp ho3;have hpn:port.toNat<(g.ports.getD v []).length:=by omega
  have hl:=hg.ybm hv hpn;have hr2:=hc.at_ (v:=(ybm g v port.toNat).1.toNat) (by omega)
  unfold ybm at hl hr2;refine⟨by omega,by omega,by omega,by omega,?_⟩
  simp[yut,h12,ybm]
 ·by_cases q:11<=op
  ·rw[if_pos q]at ho3;have:=hp ho3;omega
  ·omega
 ·simp only[ybf,yba,go_sem,zA,zB,↓reduceIte,reduceCtorEq];simp[yut,h1,h2,h3,h4,h5,h12]
theorem yse{e:List Tm}{at_:Nat}{a b:List Tm}(h:e.drop at_=a++b):e.drop (at_+a.length)=b:=by
 rw[<-List.drop_drop,h,List.drop_left]
theorem ycbv{n:Nat}{gg:Nat->List SV}{l:List Int}(hn:n=l.length)(h:∀k,k<n->gg k=[.i .i64 (l.getD k 0)]):Sim (.sl 1 n gg) (yu l):=by
 subst hn;exact ylf h
def ybyi(p:ProgR)(g:Gr)(nv:Nat)(c:Conf)(v:Nat)(e:List Tm)(x:Ex):Prop :=
 ∀ (bnd:Bool) (port:Int) (at_:Nat) (rest:List Tm),x.ok nv bnd=true->(bnd=true->0<=port/\port<(g.ports.getD v []).length)->InB port->e.drop at_=x.ser++rest ->
   Returns zH 220 [.rf (yjd p g c v e),.i .i64 at_,.i .i64 port] (.tp [.i .i64 (ydh g c v x port),.i .i64 ((at_+x.ser.length:Nat):Int)])
theorem yyg(p:ProgR){g:Gr}(hg:yw g){nv:Nat}{c:Conf}(hc:ConfIn g.ports.length nv c){v:Nat}(hv:v<g.ports.length)(e:List Tm)(hl:e.length<=1000){op:Int}{a:Ex}(ho:(Ex.agg op a).ok nv true=true)(ih:ybyi p g nv c v e a)(at_:Nat)(rest:List Tm)(he:e.drop at_=(Ex.agg op a).ser++rest) :
 Returns zH 238 [.rf (yjd p g c v e),.i .i64 op,.i .i64 at_] (.tp [.i .i64 (ydh g c v (.agg op a) 0),.i .i64 ((at_+(Ex.agg op a).ser.length:Nat):Int)]):=by
 have ho':=ho;simp only[Ex.ok,zF,decide_eq_true_eq]at ho;have hd:=hg.deg_lt (v:=v);obtain⟨deg,hdeg⟩:∃d,(g.ports.getD v []).length=d:=⟨_,rfl⟩;rw[hdeg]at hd;have hin:∀q:Nat,q<deg->InB (ydh g c v a q):=fun q hq=>yhg hg rfl hc hv a ho.2 (fun _=>by omega) (by unfold InB;omega)
 have hsh:=Ex.ok_shp _ ho';have hdrop:e.drop (at_+1)=a.ser++rest:=(yfd (show e.drop at_=(op,0)::(a.ser++rest)from he)).2.2
 have hat:=(yfd (show e.drop at_=(op,0)::(a.ser++rest)from he)).1
 have hfit:at_+1+a.ser.length<=e.length:=by
  have:=congrArg zAR hdrop;simp at this;omega
 refine Returns.of (yczx _ _ ?_);simp only[c238,ycug,ycng,ycob,ycls,yjd,ybk,yft,yu,ybb,ybc,ydy,hdeg,go_sem,zA,zB,zC,zD,↓reduceIte,reduceCtorEq];refine⟨by omega,?_⟩
 let val:Nat->Int:=fun q=>ydh g c v a q
 refine ybj (σ:=Nat) (fun k=>⟨[(27,.i .i64 k),(26,.i .i64 deg),(9,.i .i64 deg),(0,.rf (yjd p g c v e)),(1,.i .i64 op),(2,.i .i64 at_),(8,.pt (8,0) 0 0),(7,.i .i64 (if k=0 then 0 else((at_+1+a.ser.length:Nat):Int)))],
  [(8,.one (some ⟨256,true,1,24,fun i=>[.i .i64 (if i<k then val i else 0)]⟩))]⟩) (fun k=>k<=deg) (fun k=>deg-k) 0 (zJ _) ?_ ?_
 ·refine yh [] [] [] ?_;simp only[yjd,ybk,yft,yu,ybb,ybc,ydy,allQ,live,yc,yba,zG,go_sem,zA,↓reduceIte,reduceCtorEq];intro i _;rw[if_neg (by omega)]
 ·intro k hk;simp only[ycho,ychr,ycvl,ycsz,yclw,ycie,ycab,go_sem,zA,zB,zC,↓reduceIte,reduceCtorEq];refine⟨fun hlt=>⟨ikw (by omega) (by omega),?_⟩,fun hlt=>?_⟩
  ·have hk':k<deg:=by omega
   have hv1:=ih true (k:Int) (at_+1) rest ho.2 (fun _=>by rw[hdeg];omega) (by unfold InB;omega) hdrop
   rw[show((at_+1:Nat):Int)=(at_:Int)+1 by omega]at hv1
   refine hv1.use ?_;simp only[ybf,splice,go_sem,zA,zB,↓reduceIte,reduceCtorEq];refine⟨by omega,by omega,ikw (by omega) (by omega),?_⟩
   refine yj (k+1) (by omega) (by omega) ?_
   refine yh [] [] [] ?_;simp only[allQ,live,yc,yba,go_sem,zA,↓reduceIte,reduceCtorEq];refine⟨by omega,?_⟩
   intro i hi
   by_cases q:i=k
   ·rw[if_pos q,if_pos (by omega)]
    subst q;simp only[val,live,yc,go_sem,reduceCtorEq]
   ·rw[if_neg q]
    by_cases q2:i<k
    ·rw[if_pos q2,if_pos (by omega)]
     simp only[live,yc,go_sem,reduceCtorEq]
    ·rw[if_neg q2,if_neg (by omega)]
     simp only[live,yc,go_sem,reduceCtorEq]
  ·obtain rfl:k=deg:=by omega
   have hE:=ycyd e _ at_ rest hsh he hl
   have hF:=ycbp op ((zAT k).map val) (by simp;omega) (fun x hx=>by
    obtain⟨q,hq,rfl⟩:=List.mem_map.1 hx;exact hin q (List.mem_range.1 hq))
   have hres:ydh g c v (.agg op a) 0=yhd op ((zAT k).map val):=by
    show yhd op _=_;rw[hdeg]
   rw[hres];simp only[yjd,ybc,go_sem,zA,zB,↓reduceIte,reduceCtorEq];simp only[ybc]at hE
   have hsim:SimL [.i .i64 op,.sl 1 (k-0) fun i=>[.i .i64 (if i<k then val i else 0)]] [.i .i64 op,yu ((zAT k).map val)]:=by
    refine⟨Sim.refl _,ycbv (by simp) fun i hi=>?_,trivial⟩
    rw[if_pos (by omega)]
    simp[zM,show i<k by omega]
   refine⟨fun h0=>hE.use ?_,fun h0=>?_⟩
   ·simp only[ybf,go_sem,zA,zB,zC,↓reduceIte,reduceCtorEq];refine⟨by simp;omega,.inl ⟨by omega,hF.useS hsim ?_⟩⟩
    simp only[go_sem];exact Sim.refl _
   ·refine⟨by simp;omega,.inl ⟨by omega,hF.useS hsim ?_⟩⟩
    simp only[ybf,if_neg (show ¬k=0 by omega),go_sem,zA,zB,↓reduceIte,reduceCtorEq]
    rw[show at_+(Ex.agg op a).ser.length=at_+1+a.ser.length by simp[Ex.ser];omega]
    exact Sim.refl _
end Sh
end
section
namespace Sh
open Go Ev
theorem ybne(g:Gr)(v:Nat)(hv:v<g.ports.length)(u:Int)(hl:(g.ports.getD v []).length<=100000):Returns zH 170 [grV g,.i .i64 v,.i .i64 u] (.i .i64 (yfh (g.ports.getD v []) u)):=by
 refine Returns.of (ydce _ _ ?_);simp only[c170,ycwj,ycip,grV,ybb,ybc,yu,go_sem,zA,zB,zD,↓reduceIte,reduceCtorEq];refine⟨by omega,?_⟩
 obtain⟨ls,hls⟩:∃ls,g.ports.getD v []=ls:=⟨_,rfl⟩;rw[hls]at hl ⊢;refine ybj (σ:=Nat) (fun k=>⟨[(15,.i .i64 k),(13,ybc ls),(14,.i .i64 ls.length),(2,.i .i64 u)],[]⟩) (fun k=>k<=ls.length/\(ls.take k).findIdx? (fun l=>l.1==u)=none) (fun k=>ls.length-k) 0 ⟨zJ _,by simp⟩ ?_ ?_
 ·refine yh [] [] [] ?_;simp only[ybc,allQ,live,yc,zG,go_sem,zA,↓reduceIte,reduceCtorEq]
 ·intro k ⟨hk,hno⟩;simp only[yche,ycjx,ycia,yciv,ychk,ycog,ybc,yba,splice,go_sem,zA,zB,zC,zD,↓reduceIte,reduceCtorEq];refine⟨fun hlt=>⟨by omega,fun he=>?_,fun he=>⟨ikw (by omega) (by omega),?_⟩⟩,fun hlt=>?_⟩
  ·have hlt:k<ls.length:=by omega
   rw[getD_at hlt]at he;rw[yon ls u k hlt he hno]
  ·have hlt:k<ls.length:=by omega
   rw[getD_at hlt]at he;refine yj (k+1) ⟨by omega,yqc ls u k hlt he hno⟩ (by omega) ?_
   refine yh [] [] [] ?_;simp only[allQ,live,yc,yba,go_sem,zA,↓reduceIte,reduceCtorEq];simp
  ·obtain rfl:k=ls.length:=by omega
   rw[ysp ls u hno]
theorem ybol{ids:List Int}{k:Nat}(h:k<ids.length):(ids.take (k+1)).foldl max 0=max ((ids.take k).foldl max 0) (ids.getD k 0):=by
 rw[ybmf ids k h,getD_at h]
theorem ybca(p:ProgR){g:Gr}(hg:yw g):Returns zH 143 [.ag (ynu p),grV g] (.rf (yft p g)):=by
 refine Returns.of (ydad _ _ ?_);have h24:=hg.2.1;have hid:=hg.2.2.1;obtain⟨n,hn⟩:∃n,g.ports.length=n:=⟨_,rfl⟩;rw[hn]at h24 hid;simp only[c143,ycqm,ycpw,ycnc,grV,ybb,ybc,yu,ynu,splice,hn,go_sem,zA,zB,zC,zD,↓reduceIte,reduceCtorEq];refine⟨by omega,?_⟩
 refine ybj (σ:=Nat) (fun k=>⟨[(21,.i .i64 k),(19,ybb g.ports),(20,.i .i64 n),(3,.pt (3,0) 0 0),(5,.pt (17,0) 0 0)],
  [(3,.one (some ⟨27,true,2,1,fun _=>[yu g.ids,ybb g.ports]⟩)),(17,.one (some ⟨170,true,7,1,fun _=>[.a (.string p.name),ydl p.vars,ycy p.rules,yu g.ids,ybb g.ports,.i .i64 ((g.ids.take k).foldl max 0),.os (15,0) 0 n true]⟩)),
   (15,.one (some ⟨22,false,1,n,fun i=>[if i<k then yu (yie g i)else .a (.slice none 0 0)]⟩))]⟩) (fun k=>k<=n) (fun k=>n-k) 0 (zJ _) ?_ ?_
 ·refine yh [] [] [] ?_;simp only[ybb,ybc,yu,hn,allQ,live,yc,yba,zG,go_sem,zA,↓reduceIte,reduceCtorEq];refine⟨fun i _=>by simp,fun i _=>?_⟩
  rw[if_neg (by omega)]
  simp only[yc,go_sem]
 ·intro k hk;simp only[ycvq,yciu,ycre,ycrb,ybb,ybc,yu,splice,hn,go_sem,zA,zB,zC,↓reduceIte,reduceCtorEq];refine⟨fun hlt=>⟨by omega,by omega,by decide,?_⟩,fun hlt=>?_⟩
  ·have hk':k<n:=by omega
   obtain⟨ls,hls⟩:∃ls,g.ports.getD k []=ls:=⟨_,rfl⟩;have hdeg:=hg.deg_lt (v:=k);rw[hls]at hdeg;rw[hls]
   have hback:∀j,j<ls.length->(yie g k).getD j 0=yfh (g.ports.getD (ls.getD j (0,0)).1.toNat []) k:=fun j hj=>by
    unfold yie;rw[hls];simp[zM,hj]
   have hbl:(yie g k).length=ls.length:=by unfold yie;rw[hls,zAI]
   refine ybj (σ:=Nat) (fun j=>⟨[(41,.i .i64 j),(39,ybc ls),(40,.i .i64 ls.length),(6,.i .i64 k),(21,.i .i64 k),(19,ybb g.ports),(20,.i .i64 n),(3,.pt (3,0) 0 0),(5,.pt (17,0) 0 0)],
    [(3,.one (some ⟨27,true,2,1,fun _=>[yu g.ids,ybb g.ports]⟩)),(17,.one (some ⟨170,true,7,1,fun _=>[.a (.string p.name),ydl p.vars,ycy p.rules,yu g.ids,ybb g.ports,.i .i64 ((g.ids.take (k+1)).foldl max 0),.os (15,0) 0 n true]⟩)),
     (15,.one (some ⟨22,false,1,n,fun i=>[if i<k then yu (yie g i)else if i=k then .os (100,0) 0 j true else .a (.slice none 0 0)]⟩)),
     (100,.one (some ⟨3,false,1,j,fun q=>[.i .i64 ((yie g k).getD q 0)]⟩))]⟩) (fun j=>j<=ls.length) (fun j=>ls.length-j) 0 (zJ _) ?_ ?_
   ·refine yh [] [100] [] ?_;simp only[ybb,ybc,yu,hn,ybol (show k<g.ids.length by omega),allQ,live,yc,zG,go_sem,zA,zAN,↓reduceIte,reduceCtorEq]
    intro i hi
    by_cases q1:i<k
    ·simp only[if_pos q1];simp only[yc,go_sem,reduceCtorEq]
    ·by_cases q2:i=k
     ·simp only[if_neg q1,if_pos q2];simp only[live,go_sem,zA,↓reduceIte];simp
     ·simp only[if_neg q1,if_neg q2];simp only[yc,go_sem,reduceCtorEq]
   ·intro j hj;simp only[ycim,ycpf,ycrn,ybxj,ybqj,ybb,ybc,yu,splice,hn,go_sem,zA,zB,zC,zD,↓reduceIte,reduceCtorEq]
    have hP:=fun hlt:j<ls.length=>ybne g (ls.getD j (0,0)).1.toNat (by
     have:=hg.ybm (v:=k) (p:=j) (by omega) (by rw[hls];omega)
     unfold ybm at this;rw[hls]at this;omega) (k:Int) (by have:=hg.deg_lt (v:=(ls.getD j (0,0)).1.toNat);omega)
    have hto:j<ls.length->((ls.getD j (0,0)).1.toNat:Int)=(ls.getD j (0,0)).1:=fun hlt=>by
     have:=hg.ybm (v:=k) (p:=j) (by omega) (by rw[hls];omega)
     unfold ybm at this;rw[hls]at this;omega
    refine⟨fun hlt=>⟨by omega,by omega,by omega,?_⟩,fun hlt=>?_⟩
    ·have hj':j<ls.length:=by omega
     have hP:=hP hj';rw[hto hj']at hP;simp only[grV,ybb,ybc,yu,hn]at hP;refine hP.use ?_;simp only[ybf,splice,go_sem,zA,zB,zC,zD,↓reduceIte,reduceCtorEq];refine⟨by decide,by omega,by decide,by omega,by omega,by decide,ikw (by omega) (by omega),?_⟩
     refine yj (j+1) (by omega) (by omega) ?_
     refine yh [(100,fun _=>(63,0))] [] [] ?_;simp only[allQ,live,yc,yba,go_sem,zA,↓reduceIte,reduceCtorEq];refine⟨by omega,fun i hi=>?_,fun i hi=>?_⟩
     ·by_cases q2:i=k
      ·simp only[if_pos q2,if_neg (show ¬i<k by omega)]
       simp only[live,yc,go_sem,zA,↓reduceIte,reduceCtorEq]
      ·simp only[if_neg q2]
       by_cases q1:i<k
       ·simp only[if_pos q1];simp only[live,yc,go_sem,reduceCtorEq]
       ·simp only[if_neg q1];simp only[live,yc,go_sem,reduceCtorEq]
     ·by_cases q2:i<j
      ·simp only[if_pos q2];simp only[live,yc,go_sem,reduceCtorEq]
      ·obtain rfl:i=j:=by omega
       simp only[if_neg q2,Nat.sub_self,Nat.zero_mul];simp only[live,yba,go_sem,reduceCtorEq];rw[hback i hj']
    ·obtain rfl:j=ls.length:=by omega
     refine⟨ikw (by omega) (by omega),?_⟩
     refine yj (k+1) (by omega) (by omega) ?_
     refine yh [] [] [(100,0)] ?_;simp only[allQ,live,yc,yba,go_sem,zA,zC,↓reduceIte,reduceCtorEq];refine⟨by omega,fun i hi=>?_⟩
     by_cases q1:i<k
     ·simp only[if_pos q1,if_pos (show i<k+1 by omega)]
      simp only[yc,go_sem]
     ·by_cases q2:i=k
      ·simp only[if_neg q1,if_pos q2,if_pos (show i<k+1 by omega)]
       subst q2;simp only[hbl,yc,go_sem,zA,↓reduceIte]
      ·simp only[if_neg q1,if_neg q2,if_neg (show ¬i<k+1 by omega)]
       simp only[yc,go_sem]
  ·obtain rfl:k=n:=by omega
   simp only[ybru,go_sem,zA,zB,zC,↓reduceIte,reduceCtorEq];refine⟨fun q hq=>by simp only[if_pos hq];simp only[go_sem],?_⟩
   refine ydno ?_ (by simp only[yft,go_sem])
   simp only[SimL,yft,yu,ybb,ybc,ydy,hn,yc,true_and,and_true];refine⟨?_,?_⟩
   ·rw[yba];refine⟨rfl,?_⟩;unfold ybez;rw[List.take_of_length_le (by omega)]
   ·refine yhc fun q hq=>?_;simp only[if_pos hq];simp only[SimL,yc,go_sem]
end Sh
end
section
def ygh(f:Nat->Bool):Nat->Nat
 |0=>0
 |n+1=>if f n then ygh f n|||2^n else ygh f n
theorem ygw(f:Nat->Bool):∀(n i:Nat),(ygh f n).testBit i=(decide (i<n)&&f i)
 |0,i=>by simp[ygh]
 | n + 1,i=>by
   unfold ygh;have ih:=ygw f n i
   by_cases h:f n=true
   ·rw[if_pos h,Nat.testBit_or,ih,Nat.testBit_two_pow]
    by_cases e:n=i
    ·subst e;simp[h]
    ·have:(i<n+1)=(i<n):=propext (by omega)
     simp[e,this]
   ·rw[if_neg h,ih]
    by_cases e:n=i
    ·subst e;simp[h]
    ·have:(i<n+1)=(i<n):=propext (by omega)
     simp[this]
theorem yrw(f:Nat->Bool)(n:Nat):ygh f n<2^n:=by
 refine zAE _ fun i hi=>?_;rw[ygw];simp;omega
def difB(a b:Nat):Nat:=a ^^^ (a&&&b)
theorem yhj(a b i:Nat):(difB a b).testBit i=(a.testBit i && !(b.testBit i)):=by
 unfold difB;rw[Nat.testBit_xor,zAB];cases a.testBit i<;>cases b.testBit i<;>rfl
theorem ycb(a:Nat):a=0↔∀i,a.testBit i=false:=by
 constructor
 ·rintro rfl i;simp
 ·intro h;exact zAK fun i=>by rw[h i];simp
theorem ydkf{a b n:Nat}(h:a<2^n):a&&&b<2^n:=by
 have:=zAU (n:=a) (m:=b);omega
theorem yyn{a b n:Nat}(h:a<2^n):difB a b<2^n:=by
 refine zAE _ fun i hi=>?_;rw[yhj,zS (zQ h (zN (by omega) hi))]
 rfl
structure Cnt where
 steps:Nat
 moves:Nat
 rounds:Nat
 begun:Nat
 pend:Nat
def yfb(s:Nat):Nat->Nat
 |0=>0
 |n+1=>yfb s n+(s.testBit n).toNat
def popP(s:Nat):Nat:=yfb s 32
def ydw(e:Nat):Cnt:=⟨0,0,0,0,e⟩
def addP(k:Cnt)(chosen after:Nat):Cnt :=
 let p:=difB k.pend chosen&&&after
 ⟨k.steps+1,k.moves+popP chosen,if p=0 then k.rounds+1 else k.rounds,k.rounds+1,if p=0 then after else p⟩
def Cnt.ok(k:Cnt):Prop:=k.rounds<=k.begun/\k.begun<=k.rounds+1/\k.begun<=k.steps/\k.steps<=k.moves/\k.moves<=24*k.steps/\k.pend<2^24
theorem yko(s:Nat):∀n,yfb s n<=n
 |0=>zW _
 | n+1=>by
   have:=yko s n;unfold yfb;cases s.testBit n<;>simp[Bool.toNat]<;>omega
theorem yvz(s:Nat)(h:s<2^24):∀k,yfb s (24+k)=yfb s 24
 |0=>rfl
 | k+1=>by
   have e:s.testBit (24+k)=false:=zS (zQ h (zN (by omega) (by omega)))
   show yfb s (24+k)+(s.testBit (24+k)).toNat=_;rw[yvz s h k,e];rfl
theorem ybwt(s:Nat)(h:s<2^24):popP s<=24:=by
 have:=yvz s h 8;unfold popP;rw[this];exact yko s 24
theorem ybbd{s i:Nat}(hs:s.testBit i=true):∀n,i<n->1<=yfb s n
 |0,h=>by omega
 | n+1,h=>by
   unfold yfb
   by_cases e:i=n
   ·subst e;rw[hs];simp
   ·have:=ybbd hs n (by omega);omega
theorem ycgw(s:Nat)(h:s<2^32)(h0:s≠0):1<=popP s:=by
 refine zAF fun hc=>h0 ?_;rw[ycb];intro i;cases hb:s.testBit i with
 |false=>rfl
 | true =>
   exfalso
   have hi:i<32:=by
    refine zAF fun hi=>?_;rw[zS (zQ h (zN (by omega) (by omega)))]at hb
    cases hb
   exact hc (ybbd hb 32 hi)
theorem ybuw{e:Nat}(h:e<2^24):(ydw e).ok:=⟨zW _,by simp[ydw],zW _,zW _,by simp[ydw],h⟩
theorem ydde{k:Cnt}{s e:Nat}(hk:k.ok)(hs:s<2^24)(h0:s≠0)(he:e<2^24):(addP k s e).ok:=by
 obtain⟨h1,h2,h3,h4,h5,h6⟩:=hk;have p1:=ybwt s hs;have p2:=ycgw s (by omega) h0
 have hp:difB k.pend s&&&e<2^24:=ydkf (yyn h6);unfold addP Cnt.ok;simp only;refine⟨by split<;>omega,by split<;>omega,by omega,by omega,by omega,by split<;>omega⟩
structure Sys where
 n:Nat
 en:Conf->Nat
 mv:Conf->Nat->Conf
def Sys.run(S:Sys)(res:Nat->Nat->Nat):List Nat->Conf->Cnt->List (Conf×Cnt)
 |[],_,_=>[]
 | w::ws,c,k=>if S.en c=0 then[]else(let s:=res (S.en c) w
   let d:=S.mv c s
   (d,addP k s (S.en d))::S.run res ws d (addP k s (S.en d)))
def Sys.runs(S:Sys)(res:Nat->Nat->Nat)(ws:List Nat)(c:Conf):List (Conf×Cnt):=(c,ydw (S.en c))::S.run res ws c (ydw (S.en c))
def subB(a b:Nat):Prop:=∀i,a.testBit i=true->b.testBit i=true
def ycbb(res:Nat->Nat->Nat):Prop:=∀e w,e≠0->res e w≠0/\subB (res e w) e
theorem Sys.run_all{S:Sys}{res:Nat->Nat->Nat}(hr:ycbb res){J:Conf->Cnt->Prop}(hstep:∀c k s,J c k->s≠0->subB s (S.en c)->J (S.mv c s) (addP k s (S.en (S.mv c s)))) :
 ∀(ws:List Nat) (c:Conf) (k:Cnt),J c k->∀p∈S.run res ws c k,J p.1 p.2
 |[],_,_,_,p,hp=>by cases hp
 | w :: ws,c,k,hJ,p,hp=>by
   unfold Sys.run at hp;split at hp
   ·cases hp
   ·rename_i h0
    obtain⟨r1,r2⟩:=hr _ w h0;have hJ':=hstep c k _ hJ r1 r2;rcases List.mem_cons.1 hp with e|e
    ·rw[e];exact hJ'
    ·exact Sys.run_all hr hstep ws _ _ hJ' p e
theorem Sys.runs_all{S:Sys}{res:Nat->Nat->Nat}(hr:ycbb res){J:Conf->Cnt->Prop}(hstep:∀c k s,J c k->s≠0->subB s (S.en c)->J (S.mv c s) (addP k s (S.en (S.mv c s)))){ws:List Nat}{c:Conf}(h:J c (ydw (S.en c))):∀p∈S.runs res ws c,J p.1 p.2:=fun p hp=>by
 rcases List.mem_cons.1 hp with e|e
 ·rw[e];exact h
 ·exact Sys.run_all hr hstep ws _ _ h p e
structure ByRounds(S:Sys)(V:Conf->Prop)(P:Nat->Nat->List Int->Prop):Prop where
 valid:∀c s,V c->s≠0->subB s (S.en c)->V (S.mv c s)
 stay:∀c s v,V c->v<S.n->s.testBit v=false->(S.mv c s).getD v []=c.getD v []
 move:∀c s v r,V c->v<S.n->s.testBit v=true->subB s (S.en c)->(∀u,u<S.n->P r u (c.getD u []))->P (r+1) v ((S.mv c s).getD v [])
 rest:∀c v r,V c->v<S.n->(S.en c).testBit v=false->(∀u,u<S.n->P r u (c.getD u []))->P (r+1) v (c.getD v [])
 less:∀r v s,P (r+1) v s->P r v s
structure RInv(S:Sys)(V:Conf->Prop)(P:Nat->Nat->List Int->Prop)(c:Conf)(k:Cnt):Prop where
 valid:V c
 all:∀v,v<S.n->P k.rounds v (c.getD v [])
 done:∀v,v<S.n->k.pend.testBit v=false->P (k.rounds+1) v (c.getD v [])
 begun:k.begun<=k.rounds+1
theorem ByRounds.start{S:Sys}{V:Conf->Prop}{P:Nat->Nat->List Int->Prop}(h:ByRounds S V P){c:Conf}(hv:V c)(h0:∀v,v<S.n->P 0 v (c.getD v [])):RInv S V P c (ydw (S.en c)) :=
 ⟨hv,h0,fun v hn hb=>h.rest c v 0 hv hn hb h0,by simp[ydw]⟩
theorem ByRounds.step{S:Sys}{V:Conf->Prop}{P:Nat->Nat->List Int->Prop}(h:ByRounds S V P)(c:Conf)(k:Cnt)(s:Nat)(hi:RInv S V P c k)(h0:s≠0)(hs:subB s (S.en c)):RInv S V P (S.mv c s) (addP k s (S.en (S.mv c s))):=by
 obtain⟨i1,i2,i3,i4⟩:=hi;have hv:=h.valid c s i1 h0 hs
 have hall:∀v,v<S.n->P k.rounds v ((S.mv c s).getD v []):=fun v hn=>by
  cases hb:s.testBit v with
  |true=>exact h.less _ _ _ (h.move c s v _ i1 hn hb hs i2)
  |false=>rw[h.stay c s v i1 hn hb];exact i2 v hn
 have hnext:∀v,v<S.n->(difB k.pend s&&&S.en (S.mv c s)).testBit v=false->P (k.rounds+1) v ((S.mv c s).getD v []):=fun v hn hb=>by
  rw[zAB,yhj]at hb;cases hb1:s.testBit v with
  |true=>exact h.move c s v _ i1 hn hb1 hs i2
  | false =>
    cases hb2:k.pend.testBit v with
    |false=>rw[h.stay c s v i1 hn hb1];exact i3 v hn hb2
    | true =>
      rw[hb1,hb2]at hb;exact h.rest _ v _ hv hn (by simpa using hb) hall
 unfold addP;simp only
 by_cases hp:difB k.pend s&&&S.en (S.mv c s)=0
 ·simp only[if_pos hp];have hall':∀v,v<S.n->P (k.rounds+1) v ((S.mv c s).getD v []):=fun v hn=>hnext v hn (by rw[hp];simp)
  exact⟨hv,hall',fun v hn hb=>h.rest _ v _ hv hn hb hall',by show k.rounds+1<=_;simp⟩
 ·simp only[if_neg hp];exact⟨hv,hall,hnext,zW _⟩
theorem ByRounds.runs{S:Sys}{V:Conf->Prop}{P:Nat->Nat->List Int->Prop}(h:ByRounds S V P){res:Nat->Nat->Nat}(hr:ycbb res){ws:List Nat}{c:Conf}(hv:V c)(h0:∀v,v<S.n->P 0 v (c.getD v [])):∀p∈S.runs res ws c,RInv S V P p.1 p.2 :=
 Sys.runs_all hr h.step (h.start hv h0)
end
section
structure RuleT where
 name:ByteArray
 guard:Ex
 sets:List (Int×Ex)
structure ProgT where
 name:ByteArray
 vars:List VarR
 rules:List RuleT
instance:Inhabited Ex:=⟨.leaf 0 0⟩
instance:Inhabited RuleT:=⟨⟨.empty,default,[]⟩⟩
def RuleT.raw(r:RuleT):RuleR:=⟨r.name,r.guard.ser,r.sets.map fun s=>⟨s.1,s.2.ser⟩⟩
def ProgT.raw(p:ProgT):ProgR:=⟨p.name,p.vars,p.rules.map RuleT.raw⟩
def RuleT.ok(nv:Nat)(r:RuleT):Bool:=r.guard.ok nv false&&decide (r.guard.ser.length<=1000)&&decide (r.sets.length<=100)&&r.sets.all fun s=>decide (0<=s.1/\s.1<nv)&&s.2.ok nv false&&decide (s.2.ser.length<=1000)
def VarR.ok(x:VarR):Bool:=decide (x.kind=1\/x.kind=2\/x.kind=3)&&decide (0<=x.lo/\x.lo<=4096)&&decide (-4096<=x.hi/\x.hi<=4096)&&decide (0<=x.perNode/\x.perNode<=255)&&decide (0<=x.perID/\x.perID<=255)
def ProgT.ok(p:ProgT):Bool:=decide (1<=p.vars.length/\p.vars.length<=6)&&p.vars.all VarR.ok&&decide (p.rules.length<=12)&&p.rules.all (RuleT.ok p.vars.length)
def yjh(g:Gr)(c:Conf)(v:Nat)(r:RuleT):Bool:=ydh g c v r.guard (-1)!=0
def ygd(p:ProgT)(g:Gr)(c:Conf)(v:Nat):Int:=match p.rules.findIdx? (yjh g c v)with|some i=>i|none=>-1
def ybh(g:Gr)(v:Nat)(x:VarR):Int×Int :=
 if x.kind=1 then(x.lo,x.hi+x.perNode*(g.ids.length:Int)+x.perID*maxI g.ids)else if x.kind=2 then(0,1)else if x.kind=3 then(-1,((g.ports.getD v []).length:Int)-1)else(0,-1)
def yik(kind:Int)(b:Int×Int)(x:Int):Int:=if x>=b.1/\x<=b.2 then x else if kind=3 then -1 else if x<b.1 then b.1 else b.2
def yln(p:ProgT)(g:Gr)(c:Conf)(v:Nat)(s0:List Int)(sets:List (Int×Ex)):List Int :=
 sets.foldl (fun s a=>s.set a.1.toNat (yik (p.vars.getD a.1.toNat default).kind (ybh g v (p.vars.getD a.1.toNat default)) (ydh g c v a.2 (-1)))) s0
def yzn(p:ProgT)(g:Gr)(c:Conf)(v:Nat)(r:Nat):List Int:=yln p g c v (c.getD v []) (p.rules.getD r default).sets
def ybp(p:ProgT)(g:Gr)(c:Conf):Nat:=ygh (fun v=>decide (ygd p g c v>=0)) g.ids.length
def yex(p:ProgT)(g:Gr)(c:Conf)(s:Nat):Conf:=c.zipIdx.map fun q=>if s.testBit q.2 then yzn p g c q.2 (ygd p g c q.2).toNat else q.1
def yca(p:ProgT)(g:Gr):Sys:=⟨g.ids.length,ybp p g,yex p g⟩
def yga(p:ProgT)(g:Gr)(c:Conf):Bool:=yrh g.ids.length (fun v=>p.vars.map (ybh g v)) c
end
section
namespace Sh
open Go Ev
theorem ydfc{g:Gr}(hg:yw g):0<=maxI g.ids/\maxI g.ids<=255:=by
 have h1:=hg.1;have h2:=hg.2.2.1;rw[ybkn (by omega) fun x hx=>(hg.2.2.2.1 x hx).1]
 exact ytp hg
theorem ybij{x:VarR}(h:x.ok=true):(x.kind=1\/x.kind=2\/x.kind=3)/\(0<=x.lo/\x.lo<=4096)/\(-4096<=x.hi/\x.hi<=4096)/\(0<=x.perNode/\x.perNode<=255)/\(0<=x.perID/\x.perID<=255):=by
 unfold VarR.ok at h;simp only[zF,decide_eq_true_eq]at h;obtain⟨⟨⟨⟨a,b⟩,c⟩,d⟩,e⟩:=h;exact⟨a,b,c,d,e⟩
theorem mulN{a b A B:Int}(h1:0<=a)(h2:a<=A)(h3:0<=b)(h4:b<=B):0<=a*b/\a*b<=A*B:=⟨Int.mul_nonneg h1 h3,Int.mul_le_mul h2 h4 h3 (by omega)⟩
theorem ynk{g:Gr}(hg:yw g){x:VarR}(hx:x.ok=true):(0<=x.perNode*(g.ids.length:Int)/\x.perNode*(g.ids.length:Int)<=255*24)/\(0<=x.perID*maxI g.ids/\x.perID*maxI g.ids<=255*255):=by
 obtain⟨_,_,_,h4,h5⟩:=ybij hx;have h6:=ydfc hg;have h7:=hg.2.1;have h8:=hg.2.2.1;exact⟨mulN h4.1 h4.2 (by omega) (by omega),mulN h5.1 h5.2 h6.1 h6.2⟩
theorem ybgu{g:Gr}(hg:yw g){x:VarR}(hx:x.ok=true)(v:Int):Returns zH 198 [.ag (varC x),grV g,.i .i64 v] (.tp [.i .i64 x.lo,.i .i64 (x.hi+x.perNode*(g.ids.length:Int)+x.perID*maxI g.ids)]):=by
 refine Returns.of (yddv _ _ ?_);have h1:=hg.1;have h7:=hg.2.1;have h8:=hg.2.2.1;have hM:=ycyr g.ids (by omega) (by omega)
 obtain⟨hb1,hb2⟩:=ynk hg hx;obtain⟨_,_,hv3,_,_⟩:=ybij hx;simp only[yu]at hM;simp only[c198,ycry,ycve,grV,varC,yu,go_sem,zA,zB,zC,zD,↓reduceIte,reduceCtorEq];refine⟨ikw (by omega) (by omega),ikw (by omega) (by omega),hM.use ?_⟩
 simp only[ybf,go_sem,zA,zB,↓reduceIte,reduceCtorEq];refine⟨ikw (by omega) (by omega),ikw (by omega) (by omega),?_⟩
 exact Sim.refl _
theorem ybex(g:Gr)(x:VarR)(v:Int):Returns zH 199 [.ag (varC x),grV g,.i .i64 v] (.tp [.i .i64 0,.i .i64 1]):=by
 refine Returns.of (ydff _ _ ?_);simp only[c199,ycna,ycnp,grV,varC,go_sem,zA,zB,zD,↓reduceIte,reduceCtorEq];exact Sim.refl _
theorem ybiq{g:Gr}(hg:yw g)(x:VarR){v:Nat}(hv:v<g.ports.length):Returns zH 200 [.ag (varC x),grV g,.i .i64 v] (.tp [.i .i64 (-1),.i .i64 (((g.ports.getD v []).length:Int)-1)]):=by
 refine Returns.of (ycxo _ _ ?_);have hd:=hg.deg_lt (v:=v);simp only[c200,ycli,ycol,grV,ybb,ybc,varC,go_sem,zA,zB,zD,↓reduceIte,reduceCtorEq];refine⟨by omega,ikw (by omega) (by omega),?_⟩
 exact Sim.refl _
theorem ybzt(kind:Int)(b:Int×Int)(x:Int):Returns zH 194 [.i .i64 kind,.ag [.i .i64 b.1,.i .i64 b.2],.i .i64 x] (.i .i64 (yik kind b x)):=by
 refine Returns.of (ycyl _ _ ?_);simp only[c194,ycot,ycuh,ycuu,ycsr,ycmz,ycsp,ycmt,ycpo,yba,yik,go_sem,zAJ,zA,zB,zC,zD,zAO,↓reduceIte,reduceCtorEq];refine⟨by omega,fun h1=>⟨by omega,fun h2=>by rw[if_pos ⟨h1,h2⟩],fun h2=>⟨fun h3=>by rw[if_neg (fun q=>h2 q.2),if_pos h3],fun h3=>⟨by omega,fun h4=>⟨by omega,by rw[if_neg (fun q=>h2 q.2),if_neg h3,if_pos h4]⟩,fun h4=>⟨by omega,by rw[if_neg (fun q=>h2 q.2),if_neg h3,if_neg h4]⟩⟩⟩⟩,fun h1=>⟨fun h3=>by rw[if_neg (fun q=>h1 q.1),if_pos h3],fun h3=>⟨by omega,fun h4=>⟨by omega,by rw[if_neg (fun q=>h1 q.1),if_neg h3,if_pos h4]⟩,fun h4=>⟨by omega,by rw[if_neg (fun q=>h1 q.1),if_neg h3,if_neg h4]⟩⟩⟩⟩
theorem ywa{g:Gr}(hg:yw g){x:VarR}(hx:x.ok=true){v:Nat}(hv:v<g.ports.length):Returns zH 171 [.ag (varC x),grV g,.i .i64 v] (.tp [.i .i64 (ybh g v x).1,.i .i64 (ybh g v x).2]):=by
 refine Returns.of (ycxs _ _ ?_);have h1:=ybgu hg hx v;have h2:=ybex g x v;have h3:=ybiq hg x hv;obtain⟨hk,_⟩:=ybij hx;simp only[varC,grV]at h1 h2 h3;simp only[c171,yckx,ycin,ycly,varC,grV,splice,go_sem,zA,zB,zC,zD,↓reduceIte,reduceCtorEq]
 refine ybj (σ:=Nat) (fun k=>⟨[(17,.i .i64 k),(15,.os (14,0) 0 3 true),(16,.i .i64 3),(2,.i .i64 v),(3,.pt (3,0) 0 0),(4,.pt (4,0) 0 0)],
  [(3,.one (some ⟨87,true,6,1,fun _=>varC x⟩)),(4,.one (some ⟨27,true,2,1,fun _=>[yu g.ids,ybb g.ports]⟩)),
   (14,.one (some ⟨209,false,2,3,fun k=>if k=0 then[.i .i64 1,.fn 198 [] []]else if k=1 then[.i .i64 2,.fn 199 [] []]else[.i .i64 3,.fn 200 [] []]⟩))]⟩)
  (fun k=>k<=2/\(1<=k->x.kind≠1)/\(2<=k->x.kind≠2)) (fun k=>3-k) 0 ⟨by omega,by omega,by omega⟩ ?_ ?_
 ·refine yh [] [] [] ?_;simp only[varC,allQ,live,yc,yba,zG,go_sem,zA,↓reduceIte,reduceCtorEq];refine⟨rfl,fun i hi=>?_⟩;rcases(show i=0\/i=1\/i=2 by omega)with rfl|rfl|rfl
  ·simp only[live,yc,go_sem,↓reduceIte,reduceCtorEq]
  ·simp only[if_neg (show ¬(1:Nat)=0 by omega),live,yc,go_sem,↓reduceIte,reduceCtorEq]
  ·simp only[if_neg (show ¬(2:Nat)=0 by omega),if_neg (show ¬(2:Nat)=1 by omega),live,yc,go_sem,zA,↓reduceIte,reduceCtorEq]
 ·rintro k ⟨hk2,hk3,hk4⟩;rcases(show k=0\/k=1\/k=2 by omega)with rfl|rfl|rfl
  ·simp only[yblf,ybis,ybjt,ybkc,ybkz,ybll,varC,splice,go_sem,zA,zB,zC,zD,↓reduceIte,reduceCtorEq];refine⟨fun _=>⟨by omega,fun he=>h1.use ?_,fun he=>⟨ikw (by omega) (by omega),?_⟩⟩,fun h=>by omega⟩
   ·simp only[ybf,go_sem,zA,zB,↓reduceIte,reduceCtorEq];have e:ybh g v x=(x.lo,x.hi+x.perNode*(g.ids.length:Int)+x.perID*maxI g.ids):=by unfold ybh;rw[if_pos he.symm]
    rw[e];exact Sim.refl _
   ·refine yj 1 ⟨by omega,fun _ q=>he q.symm,by omega⟩ (by omega) ?_
    refine yh [] [] [] ?_;simp only[allQ,live,yc,yba,zG,go_sem,zA,↓reduceIte,reduceCtorEq];refine⟨by omega,fun i hi=>?_⟩
    rcases(show i=0\/i=1\/i=2 by omega)with rfl|rfl|rfl
    ·simp only[live,yc,go_sem,↓reduceIte,reduceCtorEq]
    ·simp only[if_neg (show ¬(1:Nat)=0 by omega),live,yc,go_sem,↓reduceIte,reduceCtorEq]
    ·simp only[if_neg (show ¬(2:Nat)=0 by omega),if_neg (show ¬(2:Nat)=1 by omega),live,yc,go_sem,zA,↓reduceIte,reduceCtorEq]
  ·simp only[yblf,ybis,ybjt,ybkc,ybkz,ybll,varC,splice,go_sem,zA,zB,zC,zD,↓reduceIte,reduceCtorEq];refine⟨fun _=>⟨by omega,fun he=>h2.use ?_,fun he=>⟨ikw (by omega) (by omega),?_⟩⟩,fun h=>by omega⟩
   ·simp only[ybf,go_sem,zA,zB,↓reduceIte,reduceCtorEq];have e:ybh g v x=(0,1):=by unfold ybh;rw[if_neg (by omega),if_pos he.symm]
    rw[e];exact Sim.refl _
   ·refine yj 2 ⟨by omega,fun _=>by omega,fun _ q=>he q.symm⟩ (by omega) ?_
    refine yh [] [] [] ?_;simp only[allQ,live,yc,yba,go_sem,zA,↓reduceIte,reduceCtorEq];refine⟨by omega,fun i hi=>?_⟩
    rcases(show i=0\/i=1\/i=2 by omega)with rfl|rfl|rfl
    ·simp only[live,yc,go_sem,↓reduceIte,reduceCtorEq]
    ·simp only[if_neg (show ¬(1:Nat)=0 by omega),live,yc,go_sem,↓reduceIte,reduceCtorEq]
    ·simp only[if_neg (show ¬(2:Nat)=0 by omega),if_neg (show ¬(2:Nat)=1 by omega),live,yc,go_sem,zA,↓reduceIte,reduceCtorEq]
  ·simp only[yblf,ybis,ybjt,ybkc,ybkz,ybll,varC,splice,go_sem,zA,zB,zC,zD,↓reduceIte,reduceCtorEq];refine⟨fun _=>⟨by omega,fun he=>h3.use ?_,fun he=>by omega⟩,fun h=>by omega⟩
   simp only[ybf,go_sem,zA,zB,↓reduceIte,reduceCtorEq];have e:ybh g v x=(-1,((g.ports.getD v []).length:Int)-1):=by unfold ybh;rw[if_neg (by omega),if_neg (by omega),if_pos he.symm]
   rw[e];exact Sim.refl _
def yjf(n:Nat)(vars:List VarR)(b:Nat->VarR->Int×Int):SV:=.sl 1 n (fun v=>[.sl 2 vars.length (fun i=>[.i .i64 (b v (vars.getD i default)).1,.i .i64 (b v (vars.getD i default)).2])])
def rowT(vars:List VarR)(b:VarR->Int×Int):SV:=.sl 2 vars.length (fun i=>[.i .i64 (b (vars.getD i default)).1,.i .i64 (b (vars.getD i default)).2])
theorem ybdp(p:ProgR){g:Gr}(hg:yw g)(hp:p.vars.all VarR.ok=true)(hl:p.vars.length<=6):Returns zH 144 [.ag (ynu p),grV g] (yjf g.ids.length p.vars (ybh g)):=by
 refine Returns.of (yday _ _ ?_);have h24:=hg.2.1;have hid:=hg.2.2.1;obtain⟨n,hn⟩:∃n,g.ids.length=n:=⟨_,rfl⟩;obtain⟨nv,hnv⟩:∃k,p.vars.length=k:=⟨_,rfl⟩;rw[hn];rw[hnv]at hl;simp only[c144,ycjl,ycvt,ycqa,grV,yu,ynu,hn,go_sem,zA,zB,zC,zD,↓reduceIte,reduceCtorEq];refine⟨by omega,?_⟩
 refine ybj (σ:=Nat) (fun k=>⟨[(15,.i .i64 k),(14,.i .i64 n),(5,.os (12,0) 0 n true),(2,.pt (2,0) 0 0),(3,.pt (3,0) 0 0)],
  [(2,.one (some ⟨58,true,3,1,fun _=>ynu p⟩)),(3,.one (some ⟨27,true,2,1,fun _=>[yu g.ids,ybb g.ports]⟩)),
   (12,.one (some ⟨73,false,1,n,fun i=>[if i<k then rowT p.vars (ybh g i)else .a (.slice none 0 0)]⟩))]⟩) (fun k=>k<=n) (fun k=>n-k) 0 (zJ _) ?_ ?_
 ·refine yh [] [] [] ?_;simp only[ynu,yu,hn,allQ,live,yc,zG,go_sem,zA,↓reduceIte,reduceCtorEq];intro i _;rw[if_neg (by omega)]
  simp only[yc,go_sem]
 ·intro k hk;simp only[ycqx,yckh,ycks,yciq,ynu,ydl,splice,hnv,go_sem,zA,zB,zC,zD,↓reduceIte,reduceCtorEq];refine⟨fun hlt=>⟨by omega,by omega,by omega,?_⟩,fun hlt=>?_⟩
  ·have hk':k<n:=by omega
   let b:Nat->Int×Int:=fun i=>ybh g k (p.vars.getD i default)
   refine ybj (σ:=Nat) (fun j=>⟨[(28,.i .i64 j),(26,ydl p.vars),(27,.i .i64 nv),(6,.i .i64 k),(15,.i .i64 k),(14,.i .i64 n),(5,.os (12,0) 0 n true),(2,.pt (2,0) 0 0),(3,.pt (3,0) 0 0)],
    [(2,.one (some ⟨58,true,3,1,fun _=>ynu p⟩)),(3,.one (some ⟨27,true,2,1,fun _=>[yu g.ids,ybb g.ports]⟩)),
     (12,.one (some ⟨73,false,1,n,fun i=>[if i<k then rowT p.vars (ybh g i)else if i=k then .os (23,0) 0 nv true else .a (.slice none 0 0)]⟩)),
     (23,.one (some ⟨75,false,2,nv,fun i=>[.i .i64 (if i<j then(b i).1 else 0),.i .i64 (if i<j then(b i).2 else 0)]⟩))]⟩) (fun j=>j<=nv) (fun j=>nv-j) 0 (zJ _) ?_ ?_
   ·refine yh [] [] [] ?_;simp only[ynu,ydl,hnv,allQ,live,yc,yba,zG,go_sem,zA,↓reduceIte,reduceCtorEq];refine⟨fun i hi=>?_,fun i hi=>?_⟩
    ·by_cases q2:i=k
     ·simp only[if_pos q2,if_neg (show ¬i<k by omega)]
      simp only[live,yc,go_sem,zA,↓reduceIte,reduceCtorEq]
     ·simp only[if_neg q2]
      by_cases q1:i<k
      ·simp only[if_pos q1];simp only[rowT,live,yc,go_sem,reduceCtorEq]
      ·simp only[if_neg q1];simp only[live,yc,go_sem,reduceCtorEq]
    ·simp only[if_neg (zAC i),and_self]
   ·intro j hj;simp only[ycoi,ycvr,ycvh,ybyl,ybrx,ynu,ydl,varC,splice,hnv,go_sem,zA,zB,zD,↓reduceIte,reduceCtorEq];refine⟨fun hlt=>?_,fun hlt=>?_⟩
    ·have hj':j<nv:=by omega
     have hB:=ywa hg (x:=p.vars.getD j default) (by
      rw[getD_at (by omega)]
      exact List.all_eq_true.1 hp _ (zK _)) (v:=k) (by omega)
     simp only[varC,grV]at hB;refine⟨by omega,by omega,by omega,by omega,by omega,hB.use ?_⟩
     simp only[ybf,splice,go_sem,zAJ,zA,zB,zC,zAO,↓reduceIte,reduceCtorEq];refine⟨by omega,by omega,by omega,by decide,by omega,by omega,by omega,by decide,ikw (by omega) (by omega),?_⟩
     refine yj (j+1) (by omega) (by omega) ?_
     refine yh [] [] [] ?_;simp only[allQ,live,yc,yba,go_sem,zA,↓reduceIte,reduceCtorEq];refine⟨by omega,fun i hi=>?_,fun i hi=>?_⟩
     ·by_cases q1:i<k
      ·simp only[if_pos q1];simp only[rowT,yc,go_sem]
      ·simp only[if_neg q1]
       by_cases q2:i=k
       ·simp only[if_pos q2];simp only[live,yc,go_sem,zA,↓reduceIte]
       ·simp only[if_neg q2];simp only[yc,go_sem]
     ·by_cases q2:i=j
      ·subst q2;simp only[if_pos (zX i),↓reduceIte];simp only[live,yba,go_sem,reduceCtorEq];exact⟨rfl,rfl⟩
      ·simp only[if_neg q2]
       by_cases q1:i<j
       ·simp only[if_pos q1,if_pos (show i<j+1 by omega)]
        simp only[live,yc,go_sem,reduceCtorEq]
       ·simp only[if_neg q1,if_neg (show ¬i<j+1 by omega)]
        simp only[live,yc,go_sem,reduceCtorEq]
    ·obtain rfl:j=nv:=by omega
     refine⟨ikw (by omega) (by omega),?_⟩
     refine yj (k+1) (by omega) (by omega) ?_
     refine yh [] [] [(23,0)] ?_;simp only[allQ,live,yc,yba,go_sem,zA,zC,↓reduceIte,reduceCtorEq];refine⟨by omega,fun i hi=>?_⟩
     by_cases q1:i<k
     ·simp only[if_pos q1,if_pos (show i<k+1 by omega)]
      simp only[rowT,yc,go_sem]
     ·by_cases q2:i=k
      ·simp only[if_neg q1,if_pos q2,if_pos (show i<k+1 by omega)]
       subst q2;simp only[rowT,hnv,go_sem,zA,↓reduceIte];refine yhc fun q hq=>?_;simp only[if_pos hq];simp only[SimL,go_sem];exact⟨Sim.refl _,Sim.refl _⟩
      ·simp only[if_neg q1,if_neg q2,if_neg (show ¬i<k+1 by omega)]
       simp only[yc,go_sem]
  ·obtain rfl:k=n:=by omega
   simp only[ybre,go_sem,zA,zB,↓reduceIte,reduceCtorEq];refine⟨fun q hq=>by simp only[if_pos hq];simp only[rowT,go_sem],?_⟩
   refine yhc fun q hq=>?_;simp only[if_pos hq];simp only[SimL,yc,rowT,hnv,go_sem]
end Sh
end
section
namespace Sh
open Go Ev
theorem ybvx(bs:Bounds)(s:List Int)(hl:bs.length<=1000):Returns zH 192 [ybc bs,yu s] (.b (yus bs s)):=by
 refine Returns.of (ydau _ _ ?_);simp only[c192,ycph,ycwd,ycmn,ycvw,ybc,yu,ykz,go_sem,zA,zB,↓reduceIte,reduceCtorEq];refine⟨fun h=>?_,fun h=>?_⟩
 ·have:¬yus bs s=true:=fun q=>h (by rw[((yfj bs s).1 q).1])
  simpa using this
 have hlen:s.length=bs.length:=by omega
 refine ybj (σ:=Nat) (fun k=>⟨[(14,.i .i64 k),(13,.i .i64 s.length),(12,yu s),(0,ybc bs)],[]⟩) (fun k=>k<=s.length/\∀i,i<k->(bs.getD i (0,0)).1<=s.getD i 0/\s.getD i 0<=(bs.getD i (0,0)).2) (fun k=>s.length-k) 0 ⟨zJ _,fun i h=>absurd h (zAC _)⟩ ?_ ?_
 ·refine yh [] [] [] ?_;simp only[ybc,yu,allQ,live,yc,zG,go_sem,zA,↓reduceIte,reduceCtorEq]
 ·intro k ⟨hk,hall⟩;simp only[ychn,ycte,ycjv,ycjr,ycvu,ycvp,ybc,yu,ykz,go_sem,zAJ,zA,zB,zC,zAO,↓reduceIte,reduceCtorEq]
  have hno:k<s.length->¬((bs.getD k (0,0)).1<=s.getD k 0/\s.getD k 0<=(bs.getD k (0,0)).2)->yus bs s=false:=fun hlt hn=>by
   have:¬yus bs s=true:=fun q=>hn (by
    have hb:k<bs.length:=by omega
    have:=((yfj bs s).1 q).2 k bs[k] s[k] (zO hb) (zO hlt);rw[getD_at hlt,getD_at hb];exact this)
   simpa using this
  refine⟨fun hlt=>⟨by omega,by omega,by omega,fun h1=>⟨by omega,by omega,fun h2=>?_,fun h2=>⟨ikw (by omega) (by omega),?_⟩⟩,fun h1=>?_⟩,fun hlt=>?_⟩
  ·rw[hno (by omega) (by omega)]
  ·refine yj (k+1) ⟨by omega,fun i hi=>?_⟩ (by omega) ?_
   ·by_cases q:i<k
    ·exact hall i q
    ·obtain rfl:i=k:=by omega
     omega
   ·refine yh [] [] [] ?_;simp only[allQ,live,yc,yba,go_sem,zA,↓reduceIte,reduceCtorEq];simp
  ·rw[hno (by omega) (by omega)]
  ·obtain rfl:k=s.length:=by omega
   rw[(yfj bs s).2 ⟨hlen,fun i b x hb hx=>by
    have h1:=(List.getElem?_eq_some_iff.1 hx).1;have:=hall i h1;simp only[zM,hb,hx,Option.getD_some]at this;exact this⟩]
theorem ybms{n:Nat}(vars:List VarR)(hv:vars.length<=1000)(b:Nat->VarR->Int×Int)(c:Conf)(hn:n<=1000):Returns zH 156 [yjf n vars b,ybk c] (.b (yrh n (fun v=>vars.map (b v)) c)):=by
 refine Returns.of (ydci _ _ ?_);simp only[c156,ycoh,ycji,ycwe,yclk,yjf,ybk,ykz,go_sem,zA,zB,↓reduceIte,reduceCtorEq];refine⟨fun h=>?_,fun h=>?_⟩
 ·rw[yiw fun q=>h (by rw[q.1])]
 have hlen:c.length=n:=by omega
 refine ybj (σ:=Nat) (fun k=>⟨[(14,.i .i64 k),(13,.i .i64 n),(12,yjf n vars b),(1,ybk c)],[]⟩) (fun k=>k<=n/\∀(i:Nat) s,i<k->c[i]?=some s->yer (vars.map (b i)) s) (fun k=>n-k) 0 ⟨zJ _,fun i s h=>absurd h (zAC _)⟩ ?_ ?_
 ·refine yh [] [] [] ?_;simp only[yjf,ybk,allQ,live,yc,zG,go_sem,zA,↓reduceIte,reduceCtorEq]
 ·intro k ⟨hk,hall⟩;simp only[ycqd,yckz,ycvf,yctt,ycxk,ycny,yjf,ybk,yu,ykz,go_sem,zA,zB,↓reduceIte,reduceCtorEq];refine⟨fun hlt=>⟨by omega,by omega,?_⟩,fun hlt=>?_⟩
  ·have hS := ybvx (vars.map (b k)) (c.getD k []) (by simpa using hv)
   refine hS.useS ⟨?_,Sim.refl _,trivial⟩ ?_
   ·show Sim (.sl 2 vars.length _) (ybc (vars.map (b k)));unfold ybc;rw[zAI];refine ylf fun i hi=>?_;simp[zM,hi]
   ·simp only[ybf,ykz,go_sem,zA,zB,↓reduceIte,reduceCtorEq];have hk':k<c.length:=by omega
    rw[getD_at hk'];refine⟨fun h1=>?_,fun h1=>⟨ikw (by omega) (by omega),?_⟩⟩
    ·rw[yiw fun q=>by
      have:=(yfj _ _).2 (q.2 k c[k] (zO hk'));rw[this]at h1;cases h1]
    ·refine yj (k+1) ⟨by omega,fun i s hi hs=>?_⟩ (by omega) ?_
     ·by_cases q:i<k
      ·exact hall i s q hs
      ·obtain rfl:i=k:=by omega
       rw[zO hk']at hs;cases hs
       exact(yfj _ _).1 h1
     ·refine yh [] [] [] ?_;simp only[allQ,live,yc,yba,go_sem,zA,↓reduceIte,reduceCtorEq];simp
  ·obtain rfl:k=n:=by omega
   rw[yxg ⟨hlen,fun v s hs=>hall v s (by have:=(List.getElem?_eq_some_iff.1 hs).1;omega) hs⟩]
theorem yzl(c:Conf)(hc:∀s∈c,0<s.length/\s.length<=1000)(hl:c.length<=1000):Returns zH 132 [ybk c] (ybk c):=by
 refine Returns.of (yczh _ _ ?_);obtain⟨n,hn⟩:∃n,c.length=n:=⟨_,rfl⟩;rw[hn]at hl;simp only[c132,ybwo,ybrl,ybuz,ybk,hn,go_sem,zA,zB,zD,↓reduceIte,reduceCtorEq];refine⟨by omega,?_⟩
 refine ybj (σ:=Nat) (fun k=>⟨[(11,.i .i64 k),(10,.i .i64 n),(9,ybk c),(3,.os (8,0) 0 n true)],[(8,.one (some ⟨22,false,1,n,fun i=>[if i<k then yu (c.getD i [])else .a (.slice none 0 0)]⟩))]⟩) (fun k=>k<=n) (fun k=>n-k) 0 (zJ _) ?_ ?_
 ·refine yh [] [] [] ?_;simp only[ybk,hn,allQ,live,yc,zG,go_sem,zA,↓reduceIte,reduceCtorEq];intro i _;rw[if_neg (by omega)]
  simp only[yc,go_sem]
 ·intro k hk
  have hrow:k<n->0<(c.getD k []).length/\(c.getD k []).length<=1000:=fun h=>by
   have:=hc (c.getD k []) (by rw[getD_at (show k<c.length by omega)];exact zK _)
   exact this
  by_cases hlt:k<n
  ·have hr:=hrow (by omega)
   have hr0:¬(c.getD k []).length=0:=by omega
   have ht:decide ((k:Int)<(n:Int))=true:=decide_eq_true (by omega)
   simp only[ybeo,ybct,ybdo,ybbk,ybbx,ybk,yu,splice,hn,hr0,ht,go_sem,zA,zB,zD,↓reduceIte,reduceCtorEq];refine⟨by omega,by omega,by omega,by omega,ikw (by omega) (by omega),?_⟩
   refine yj (k+1) (by omega) (by omega) ?_
   refine yh [] [] [(19,0)] ?_;simp only[allQ,live,yc,yba,go_sem,zA,↓reduceIte,reduceCtorEq];refine⟨by omega,fun i hi=>?_⟩
   by_cases q2:i=k
   ·subst q2;simp only[if_pos (zX i),↓reduceIte];simp only[live,yc,go_sem,zA,↓reduceIte,reduceCtorEq]
   ·simp only[if_neg q2]
    by_cases q1:i<k
    ·simp only[if_pos q1,if_pos (show i<k+1 by omega)]
     simp only[live,yc,go_sem,reduceCtorEq]
    ·simp only[if_neg q1,if_neg (show ¬i<k+1 by omega)]
     simp only[live,yc,go_sem,reduceCtorEq]
  ·obtain rfl:k=n:=by omega
   have ht:decide ((k:Int)<(k:Int))=false:=decide_eq_false (by omega)
   simp only[ybeo,ybct,ybdo,ybbk,ybbx,ybk,yu,hn,ht,go_sem,zA,zB,↓reduceIte,reduceCtorEq];refine⟨fun q hq=>by simp only[if_pos hq];simp only[go_sem],?_⟩
   refine yhc fun q hq=>?_;simp only[if_pos hq];simp only[SimL,yc,go_sem]
theorem yceu(c:Conf)(hc:∀s∈c,0<s.length/\s.length<=1000)(hl:c.length<=1000):Cm zH 132 [] [] [ybk c] fun r o=>r = .os (8,0) 0 c.length true/\o=[(8,.one (some ⟨22,false,1,c.length,fun i=>[yu (c.getD i [])]⟩))]:=by
 refine ycff [] [] _ _ _ ?_;obtain⟨n,hn⟩:∃n,c.length=n:=⟨_,rfl⟩;rw[hn]at hl ⊢;simp only[c132,ybwo,ybrl,ybuz,ybk,hn,go_sem,zA,zB,zD,↓reduceIte,reduceCtorEq];refine⟨by omega,?_⟩
 refine ybj (σ:=Nat) (fun k=>⟨[(11,.i .i64 k),(10,.i .i64 n),(9,ybk c),(3,.os (8,0) 0 n true)],[(8,.one (some ⟨22,false,1,n,fun i=>[if i<k then yu (c.getD i [])else .a (.slice none 0 0)]⟩))]⟩) (fun k=>k<=n) (fun k=>n-k) 0 (zJ _) ?_ ?_
 ·refine yh [] [] [] ?_;simp only[ybk,hn,allQ,live,yc,zG,go_sem,zA,↓reduceIte,reduceCtorEq];intro i _;rw[if_neg (by omega)]
  simp only[yc,go_sem]
 ·intro k hk
  have hrow:k<n->0<(c.getD k []).length/\(c.getD k []).length<=1000:=fun h=>by
   have:=hc (c.getD k []) (by rw[getD_at (show k<c.length by omega)];exact zK _)
   exact this
  by_cases hlt:k<n
  ·have hr:=hrow (by omega)
   have hr0:¬(c.getD k []).length=0:=by omega
   have ht:decide ((k:Int)<(n:Int))=true:=decide_eq_true (by omega)
   simp only[ybeo,ybct,ybdo,ybbk,ybbx,ybk,yu,splice,hn,hr0,ht,go_sem,zA,zB,zD,↓reduceIte,reduceCtorEq];refine⟨by omega,by omega,by omega,by omega,ikw (by omega) (by omega),?_⟩
   refine yj (k+1) (by omega) (by omega) ?_
   refine yh [] [] [(19,0)] ?_;simp only[allQ,live,yc,yba,go_sem,zA,↓reduceIte,reduceCtorEq];refine⟨by omega,fun i hi=>?_⟩
   by_cases q2:i=k
   ·subst q2;simp only[if_pos (zX i),↓reduceIte];simp only[live,yc,go_sem,zA,↓reduceIte,reduceCtorEq]
   ·simp only[if_neg q2]
    by_cases q1:i<k
    ·simp only[if_pos q1,if_pos (show i<k+1 by omega)]
     simp only[live,yc,go_sem,reduceCtorEq]
    ·simp only[if_neg q1,if_neg (show ¬i<k+1 by omega)]
     simp only[live,yc,go_sem,reduceCtorEq]
  ·obtain rfl:k=n:=by omega
   have ht:decide ((k:Int)<(k:Int))=false:=decide_eq_false (by omega)
   simp only[ybeo,ybct,ybdo,ybbk,ybbx,ybk,yu,hn,ht,ygi,go_sem,zA,zB,↓reduceIte,reduceCtorEq];refine⟨.os (8,0) 0 k true,[(8,.one (some ⟨22,false,1,k,fun i=>[yu (c.getD i [])]⟩))],?_,?_,rfl,rfl⟩
   ·refine yh [] [] [] ?_;simp only[yu,allQ,live,yc,go_sem,↓reduceIte,reduceCtorEq];intro i hi;simp only[if_pos hi];simp only[yc,go_sem]
   ·simp only[ybx,yed,allQ,live,go_sem,↓reduceIte]
end Sh
end
section
namespace Sh
open Go Ev
theorem yhn(p:ProgR){g:Gr}(hg:yw g){nv:Nat}{c:Conf}(hc:ConfIn g.ports.length nv c){v:Nat}(hv:v<g.ports.length)(e:List Tm)(hl:e.length<=1000):∀x:Ex,ybyi p g nv c v e x
 | .leaf op arg=>by
   intro bnd port at_ rest ho hp hpi he;obtain⟨d1,d2,d3⟩:=yfd (show e.drop at_=(op,arg)::rest from he)
   have hL:=ycbe p hg hc hv e ho port hp;have hr:=ho;simp only[Ex.ok,zF,decide_eq_true_eq]at hr;simp only[yjd,ybc]at hL;refine Returns.of (yub _ _ ?_);simp only[c220,yxw,yvr,yxn,yxt,ywz,yxo,ywo,yws,yxx,ywr,yoo,ypn,yot,yop,yoy,yos,ypm,ypr,ypi,yjd,ybc,d2,splice,go_sem,zA,zB,zC,zD,↓reduceIte,reduceCtorEq];refine⟨by omega,fun h=>hL.use ?_,fun h=>by omega⟩
   simp only[ybf,go_sem,zA,zB,↓reduceIte,reduceCtorEq];refine⟨ikw (by omega) (by omega),?_⟩
   exact Sim.refl _
 | .un op a=>by
   intro bnd port at_ rest ho hp hpi he;obtain⟨d1,d2,d3⟩:=yfd (show e.drop at_=(op,0)::(a.ser++rest)from he)
   have hr:=ho;simp only[Ex.ok,zF,decide_eq_true_eq]at hr;have hV:=yhn p hg hc hv e hl a bnd port (at_+1) rest hr.2 hp hpi d3;rw[show((at_+1:Nat):Int)=(at_:Int)+1 by omega]at hV
   have hU:=ybsr op (ydh g c v a port) (yhg hg rfl hc hv a hr.2 hp hpi);simp only[yjd,ybc]at hV;refine Returns.of (yub _ _ ?_);simp only[c220,yxw,yvr,yxn,yxt,ywz,yxo,ywo,yws,yxx,ywr,yoo,ypn,yot,yop,yoy,yos,ypm,ypr,ypi,yjd,ybc,d2,splice,go_sem,zA,zB,zC,zD,↓reduceIte,reduceCtorEq];refine⟨by omega,fun h=>by omega,fun h=>⟨fun h=>⟨ikw (by omega) (by omega),hV.use ?_⟩,fun h=>by omega⟩⟩
   simp only[ybf,go_sem,zA,zB,zC,↓reduceIte,reduceCtorEq];refine hU.use ?_;simp only[go_sem];rw[show at_+(Ex.un op a).ser.length=at_+1+a.ser.length by simp[Ex.ser];omega]
   exact Sim.refl _
 | .agg op a=>by
   intro bnd port at_ rest ho hp hpi he;obtain⟨d1,d2,d3⟩:=yfd (show e.drop at_=(op,0)::(a.ser++rest)from he)
   have hr:=ho;simp only[Ex.ok,zF,decide_eq_true_eq]at hr;have ho2:(Ex.agg op a).ok nv true=true:=by simp only[Ex.ok,zF,decide_eq_true_eq];exact hr
   have hA:=yyg p hg hc hv e hl ho2 (yhn p hg hc hv e hl a) at_ rest he;simp only[yjd,ybc]at hA;refine Returns.of (yub _ _ ?_);simp only[c220,yxw,yvr,yxn,yxt,ywz,yxo,ywo,yws,yxx,ywr,yoo,ypn,yot,yop,yoy,yos,ypm,ypr,ypi,yjd,ybc,d2,splice,go_sem,zA,zB,zC,zD,↓reduceIte,reduceCtorEq];refine⟨by omega,fun h=>by omega,fun h=>⟨fun h=>by omega,fun h=>⟨fun h=>hA.use ?_,fun h=>by omega⟩⟩⟩
   simp only[ybf,go_sem,zA,zB,↓reduceIte,reduceCtorEq];exact Sim.refl _
 | .bin op a b=>by
   intro bnd port at_ rest ho hp hpi he;obtain⟨d1,d2,d3⟩:=yfd (show e.drop at_=(op,0)::((a.ser++b.ser)++rest)from he)
   have hr:=ho;simp only[Ex.ok,zF,decide_eq_true_eq]at hr;rw[zAD]at d3
   have hfit:at_+1+a.ser.length<=e.length:=by
    have:=congrArg zAR d3;simp at this;omega
   have hV1:=yhn p hg hc hv e hl a bnd port (at_+1) _ hr.1.2 hp hpi d3;have hV2:=yhn p hg hc hv e hl b bnd port (at_+1+a.ser.length) _ hr.2 hp hpi (yse d3);rw[show((at_+1:Nat):Int)=(at_:Int)+1 by omega]at hV1
   have hB:=ybmh op (ydh g c v a port) (ydh g c v b port) (yhg hg rfl hc hv a hr.1.2 hp hpi) (yhg hg rfl hc hv b hr.2 hp hpi);simp only[yjd,ybc]at hV1 hV2;refine Returns.of (yub _ _ ?_);simp only[c220,yxw,yvr,yxn,yxt,ywz,yxo,ywo,yws,yxx,ywr,yoo,ypn,yot,yop,yoy,yos,ypm,ypr,ypi,yjd,ybc,d2,splice,go_sem,zA,zB,zC,zD,↓reduceIte,reduceCtorEq];refine⟨by omega,fun h=>by omega,fun h=>⟨fun h=>by omega,fun h=>⟨fun h=>by omega,fun h=>⟨fun h=>⟨ikw (by omega) (by omega),hV1.use ?_⟩,fun h=>by omega⟩⟩⟩⟩
   simp only[ybf,go_sem,zA,zB,↓reduceIte,reduceCtorEq];refine hV2.use ?_;simp only[go_sem,zA,zB,zC,↓reduceIte];refine hB.use ?_;simp only[go_sem];rw[show at_+(Ex.bin op a b).ser.length=at_+1+a.ser.length+b.ser.length by simp[Ex.ser];omega]
   exact Sim.refl _
 | .ite x a b=>by
   intro bnd port at_ rest ho hp hpi he;obtain⟨d1,d2,d3⟩:=yfd (show e.drop at_=(43,0)::((x.ser++(a.ser++b.ser))++rest)from he)
   have hr:=ho;simp only[Ex.ok,zF]at hr;rw[zAD,zAD]at d3
   have hfit:at_+1+x.ser.length+a.ser.length<=e.length:=by
    have:=congrArg zAR d3;simp at this;omega
   have hV1:=yhn p hg hc hv e hl x bnd port (at_+1) _ hr.1.1 hp hpi d3;have hV2:=yhn p hg hc hv e hl a bnd port (at_+1+x.ser.length) _ hr.1.2 hp hpi (yse d3);have hV3:=yhn p hg hc hv e hl b bnd port (at_+1+x.ser.length+a.ser.length) _ hr.2 hp hpi (yse (yse d3));rw[show((at_+1:Nat):Int)=(at_:Int)+1 by omega]at hV1
   simp only[yjd,ybc]at hV1 hV2 hV3;refine Returns.of (yub _ _ ?_);simp only[c220,yxw,yvr,yxn,yxt,ywz,yxo,ywo,yws,yxx,ywr,yoo,ypn,yot,yop,yoy,yos,ypm,ypr,ypi,yjd,ybc,d2,splice,go_sem,zA,zB,zC,zD,↓reduceIte,reduceCtorEq];refine⟨by omega,fun h=>by omega,fun h=>⟨fun h=>by omega,fun h=>⟨fun h=>by omega,fun h=>⟨fun h=>by omega,fun h=>⟨ikw (by omega) (by omega),hV1.use ?_⟩⟩⟩⟩⟩
   simp only[ybf,go_sem,zA,zB,↓reduceIte,reduceCtorEq];refine hV2.use ?_;simp only[go_sem,zA,↓reduceIte,reduceCtorEq];refine hV3.use ?_;simp only[go_sem,zA,zB,↓reduceIte,reduceCtorEq];rw[show at_+(Ex.ite x a b).ser.length=at_+1+x.ser.length+a.ser.length+b.ser.length by simp[Ex.ser];omega]
   refine⟨fun h0=>?_,fun h0=>?_⟩
   ·show Sim _ (.tp [.i .i64 (if _ then _ else _),_])
    rw[if_pos h0];exact Sim.refl _
   ·show Sim _ (.tp [.i .i64 (if _ then _ else _),_])
    rw[if_neg (not_not_intro h0)];exact Sim.refl _
theorem ybel(p:ProgR){g:Gr}(hg:yw g){nv:Nat}{c:Conf}(hc:ConfIn g.ports.length nv c){v:Nat}(hv:v<g.ports.length)(x:Ex)(hx:x.ok nv false=true)(hl:x.ser.length<=1000) :
 Returns zH 193 [.rf (yft p g),ybk c,.i .i64 v,ybc x.ser] (.i .i64 (ydh g c v x (-1))):=by
 have hV:=yhn p hg hc hv x.ser hl x false (-1) 0 [] hx (fun q=>by cases q) (by unfold InB;omega) (by simp)
 refine Returns.of (ydeh _ _ ?_);simp only[yjd,yft,ybk,yu,ybc,ybb,ydy,zG]at hV;simp only[c193,ychf,ycus,ycpc,ycso,yft,ybk,yu,ybc,ybb,ydy,splice,go_sem,zA,zB,zC,zD,↓reduceIte,reduceCtorEq];refine .inl (hV.use ?_);simp only[ybf,yba,go_sem,zA,zB,↓reduceIte,reduceCtorEq]
end Sh
end
section
theorem ykr{a:Nat}(h:a<2^32):IntKind.wrap .u32 (a:Int)=a:=by
 unfold IntKind.wrap;simp[IntKind.bits,IntKind.signed];omega
theorem u32_and{a b:Nat}(ha:a<2^32)(hb:b<2^32):IntKind.wrap .u32 (((zI (IntKind.bits .u32) (a:Int))&&&zI (IntKind.bits .u32) (b:Int)).toNat:Int)=((a&&&b:Nat):Int):=by
 show IntKind.wrap .u32 (((zI 32 (a:Int))&&&zI 32 (b:Int)).toNat:Int)=_;rw[zL,zL,BitVec.toNat_and,zU,zU,zY ha,zY hb];exact ykr (zAP zAU ha)
theorem u32_or{a b:Nat}(ha:a<2^32)(hb:b<2^32):IntKind.wrap .u32 (((zI (IntKind.bits .u32) (a:Int))|||zI (IntKind.bits .u32) (b:Int)).toNat:Int)=((a|||b:Nat):Int):=by
 show IntKind.wrap .u32 (((zI 32 (a:Int))|||zI 32 (b:Int)).toNat:Int)=_;rw[zL,zL,BitVec.toNat_or,zU,zU,zY ha,zY hb];exact ykr (Nat.or_lt_two_pow ha hb)
theorem u32_andNot{a b:Nat}(ha:a<2^32)(hb:b<2^32):IntKind.wrap .u32 (((zI (IntKind.bits .u32) (a:Int)) &&& ~~~zI (IntKind.bits .u32) (b:Int)).toNat:Int)=((difB a b:Nat):Int):=by
 show IntKind.wrap .u32 (((zI 32 (a:Int)) &&& ~~~zI 32 (b:Int)).toNat:Int)=_
 have e:((zI 32 (a:Int)) &&& ~~~zI 32 (b:Int)).toNat=difB a b:=by
  rw[zL,zL];refine zAK fun i=>?_;rw[yhj,BitVec.testBit_toNat,BitVec.getLsbD_and,BitVec.getLsbD_not,zAL,zAL]
  by_cases hi:i<32
  ·simp[hi]
  ·rw[zS (zQ ha (zN (by omega) (by omega)))]
   simp
 rw[e];exact ykr (yyn ha)
theorem u32_neg{a:Nat}(h0:0<a)(ha:a<2^32):IntKind.wrap .u32 (0-(a:Int))=((2^32-a:Nat):Int):=by
 unfold IntKind.wrap;simp[IntKind.bits,IntKind.signed];omega
theorem yhf{v:Nat}(hv:v<32):IntKind.wrap .u32 (1*2^(v:Int).toNat)=((2^v:Nat):Int):=by
 have h:2^v<2^32:=zAM (by omega) hv
 have:=ykr h;rw[zV,Int.one_mul];rw[<-this]
 norm_cast
theorem ybqa{a v:Nat}:(a:Int).fdiv (2^(v:Int).toNat)=((a>>>v:Nat):Int):=by
 rw[zV,zAG];rw[Int.fdiv_eq_ediv_of_nonneg _ (Int.pow_nonneg (by omega))]
 simp
theorem ycxm(a v:Nat):((a>>>v)&&&1=1)↔a.testBit v=true:=by
 rw[zAW,bne_iff_ne];rw[Nat.and_comm 1 (a>>>v)];rw[Nat.and_one_is_mod];omega
theorem yxz{s v:Nat}(hs:s<2^32):IntKind.wrap .u32 (((zI (IntKind.bits .u32) ((s:Int).fdiv (2^v)))&&&zI (IntKind.bits .u32) 1).toNat:Int)=(((s>>>v)&&&1:Nat):Int):=by
 have h:=ybqa (a:=s) (v:=v);rw[zV]at h;rw[h];have h2:s>>>v<2^32:=by rw[zAG];exact zAP (Nat.div_le_self _ _) hs
 exact u32_and (a:=s>>>v) (b:=1) h2 (by decide)
theorem ymb{s v:Nat}:((((s>>>v)&&&1:Nat):Int)=1)↔s.testBit v=true:=by
 rw[<-ycxm s v];omega
def lowB(e:Nat):Nat:=e&&&(2^32-e)
theorem ybjr(e:Nat):subB (lowB e) e:=fun i h=>by
 unfold lowB at h;rw[zAB,zF]at h;exact h.1
theorem ybcf:∀(n e:Nat),0<e->e<2^n->∃i q,i<n/\e=2^i*(2*q+1)
 |0,e,h,h2=>by simp at h2;omega
 | n + 1,e,h,h2=>by
   by_cases hp:e%2=1
   ·exact⟨0,e/2,by omega,by omega⟩
   ·obtain⟨i,q,h3,h4⟩:=ybcf n (e/2) (by omega) (by rw[zAQ]at h2;omega)
    exact⟨i+1,q,by omega,by rw[zAQ,Nat.mul_assoc,Nat.mul_left_comm,<-h4];omega⟩
theorem yczb{e:Nat}(h0:e≠0)(he:e<2^32):lowB e≠0:=by
 obtain⟨i,q,hi,hq⟩:=ybcf 32 e (by omega) he
 have h1:e.testBit i=true:=by
  rw[hq,zZ,zAH _ (zAV i)];simp
 have h2:(2^32-e).testBit i=true:=by
  obtain⟨j,hj⟩:∃j,32=i+(j+1):=⟨31-i,by omega⟩
  have e1:2^32=2^i*(2*2^j):=by
   have:(2:Nat)^32=2^(i+(j+1)):=by rw[<-hj]
   rw[this,Nat.pow_add,zAQ,Nat.mul_comm (2^j) 2]
  have hlt:2*q+1<2*2^j:=by
   rw[e1,hq]at he;exact Nat.lt_of_mul_lt_mul_left he
  have e2:2^32-e=2^i*(2*2^j-(2*q+1)):=by rw[e1,hq,Nat.mul_sub]
  rw[e2,zZ,zAH _ (zAV i)];simp;try omega
 intro hz;have:(lowB e).testBit i=true:=by unfold lowB;rw[zAB,h1,h2];rfl
 rw[hz]at this;simp at this
def resD(e w:Nat):Nat:=if w&&&e=0 then lowB e else w&&&e
end
section
namespace Sh
open Go Ev
def yel(p:ProgR)(g:Gr):List SV:=[.a (.string p.name),ydl p.vars,ycy p.rules,.rf (yft p g),yjf g.ids.length p.vars (ybh g)]
theorem ybdy(p:ProgR){g:Gr}(hg:yw g)(hp:p.vars.all VarR.ok=true)(hl:p.vars.length<=6):Returns zH 93 [.ag (ynu p),grV g] (.rf (yel p g)):=by
 refine Returns.of (ydkr _ _ ?_);have hS:=ybca p hg;have hT:=ybdp p hg hp hl;simp only[ynu,grV]at hS hT;simp only[c93,ydnp,ydhi,ynu,grV,go_sem,zA,zB,zD,↓reduceIte,reduceCtorEq];refine hS.use ?_;simp only[ybf,go_sem,zA,zB,zC,zD,↓reduceIte,reduceCtorEq];refine hT.use ?_;simp only[yjf,yel,go_sem,zA,zB,zC,↓reduceIte];refine⟨by decide,by decide,Sim.refl _⟩
theorem ybzr(p:ProgT){g:Gr}(hg:yw g)(hp:p.ok=true){c:Conf}(hc:ConfIn g.ports.length p.vars.length c){v:Nat}(hv:v<g.ports.length){r:Nat}(hr:r<p.rules.length) :
 Returns zH 172 [.rf (yft p.raw g),ybk c,.i .i64 v,.i .i64 r] (.b (yjh g c v (p.rules.getD r default))):=by
 refine Returns.of (ydeo _ _ ?_);obtain⟨R,hR⟩:∃R,p.rules.getD r default=R:=⟨_,rfl⟩
 have hok:R.ok p.vars.length=true:=by
  unfold ProgT.ok at hp;simp only[zF]at hp;rw[<-hR,getD_at hr];exact List.all_eq_true.1 hp.2 _ (zK _)
 unfold RuleT.ok at hok;simp only[zF,decide_eq_true_eq]at hok;have hV:=ybel p.raw hg hc hv R.guard hok.1.1.1 hok.1.1.2
 have hraw:p.raw.rules.getD r default=R.raw:=by
  rw[<-hR];simp[ProgT.raw,zM,hr]
 have hlen:p.raw.rules.length=p.rules.length:=by simp[ProgT.raw]
 simp only[yft,ycy,hlen]at hV;rw[hR];simp only[c172,ychy,ycqt,yft,ycy,hraw,hlen,go_sem,zA,zB,zC,↓reduceIte,reduceCtorEq];refine⟨by omega,hV.use ?_⟩
 simp only[ybf,ykz,yjh,go_sem,zA,zB,↓reduceIte,reduceCtorEq]
theorem ydha{p:ProgT}{g:Gr}{c:Conf}{v k:Nat}(hk:k<p.rules.length)(hn:(p.rules.take k).findIdx? (yjh g c v)=none)(h:yjh g c v (p.rules.getD k default)=true):ygd p g c v=k:=by
 unfold ygd
 have:p.rules.findIdx? (yjh g c v)=some k:=by
  rw[List.findIdx?_eq_some_iff_getElem];refine⟨hk,by rwa [getD_at hk]at h,fun j hj=>?_⟩
  rw[List.findIdx?_eq_none_iff]at hn;have:=hn p.rules[j] (List.mem_take_iff_getElem.2 ⟨j,by omega,rfl⟩)
  simpa using this
 rw[this]
theorem ybof{p:ProgT}{g:Gr}{c:Conf}{v:Nat}(hn:(p.rules.take p.rules.length).findIdx? (yjh g c v)=none):ygd p g c v = -1:=by
 unfold ygd;rw[zAS]at hn;rw[hn]
theorem ycfg(p:ProgT)(g:Gr)(c:Conf)(v:Nat):-1<=ygd p g c v/\ygd p g c v<p.rules.length:=by
 unfold ygd;split
 ·rename_i i hi
  obtain⟨h,_⟩:=List.findIdx?_eq_some_iff_getElem.1 hi;omega
 ·omega
theorem ybjq(p:ProgT){g:Gr}(hg:yw g)(hp:p.ok=true){c:Conf}(hc:ConfIn g.ports.length p.vars.length c){v:Nat}(hv:v<g.ports.length) :
 Returns zH 147 [.rf (yel p.raw g),ybk c,.i .i64 v] (.i .i64 (ygd p g c v)):=by
 refine Returns.of (ydas _ _ ?_);have hlen:p.raw.rules.length=p.rules.length:=by simp[ProgT.raw]
 have h12:p.rules.length<=12:=by
  unfold ProgT.ok at hp;simp only[zF,decide_eq_true_eq]at hp;exact hp.1.2
 simp only[c147,ycmm,ycxb,yel,ycy,hlen,go_sem,zA,zB,zC,↓reduceIte,reduceCtorEq];refine ybj (σ:=Nat) (fun k=>⟨[(14,.i .i64 k),(13,.i .i64 p.rules.length),(0,.rf (yel p.raw g)),(1,ybk c),(2,.i .i64 v)],[]⟩) (fun k=>k<=p.rules.length/\(p.rules.take k).findIdx? (yjh g c v)=none) (fun k=>p.rules.length-k) 0 ⟨zJ _,by simp⟩ ?_ ?_
 ·refine yh [] [] [] ?_;simp only[yel,ycy,hlen,allQ,live,yc,zG,go_sem,zA,↓reduceIte,reduceCtorEq]
 ·intro k ⟨hk,hno⟩;simp only[ychj,ycoe,ycow,ycpu,ycnw,ycke,yel,yba,go_sem,zA,zB,zC,↓reduceIte,reduceCtorEq];refine⟨fun hlt=>?_,fun hlt=>?_⟩
  ·have hk':k<p.rules.length:=by omega
   refine(ybzr p hg hp hc hv hk').use ?_;simp only[ybf,yba,go_sem,zA,zB,↓reduceIte,reduceCtorEq];refine⟨fun h=>by rw[ydha hk' hno h],fun h=>⟨ikw (by omega) (by omega),?_⟩⟩
   refine yj (k+1) ⟨by omega,?_⟩ (by omega) ?_
   ·rw[zAA hk',List.findIdx?_append,hno];rw[getD_at hk']at h;simp[h]
   ·refine yh [] [] [] ?_;simp only[allQ,live,yc,yba,go_sem,zA,↓reduceIte,reduceCtorEq];simp
  ·obtain rfl:k=p.rules.length:=by omega
   rw[ybof hno]
theorem ybrz(n:Nat)(hn:n<=32)(h:FuncId)(cp:List SV)(f:Nat->Bool)(hcp4:cp.any (owned 4)=false)(hf:∀v,v<n->Returns zH h (.i .i64 v::cp) (.b (f v))):Returns zH 145 [.i .i64 n,.fn h [] cp] (.i .u32 (ygh f n)):=by
 refine Returns.of (ydcw _ _ ?_);have hcp:=yvf hcp4;simp only[c145,ycil,ycqs,ycjj,go_sem,zB,↓reduceIte,reduceCtorEq];refine ybj (σ:=Nat) (fun k=>⟨[(8,.i .i64 k),(7,.i .i64 n),(1,.fn h [] cp),(5,.i .u32 (ygh f k))],[]⟩) (fun k=>k<=n) (fun k=>n-k) 0 (zJ _) ?_ ?_
 ·refine yh [] [] [] ?_;simp only[yil _ hcp4,yiu _ hcp4,ygh,allQ,live,yc,zG,go_sem,zA,↓reduceIte,reduceCtorEq]
 ·intro k hk;simp only[ychm,ycnk,yctw,ycwf,ycsw,yctl,yba,hcp,List.any_cons,go_sem,zA,zB,↓reduceIte,reduceCtorEq];refine⟨fun hlt=>(hf k (by omega)).use ?_,fun hlt=>?_⟩
  ·have hk':k<n:=by omega
   have hb1:ygh f k<2^32:=zQ (yrw f k) (zN (by omega) (by omega))
   have hb2:2^k<2^32:=zAM (by omega) (by omega)
   simp only[ybf,IntKind.bits,go_sem,zA,zB,↓reduceIte,reduceCtorEq];refine⟨fun h1=>⟨by omega,ikw (by omega) (by omega),?_⟩,fun h1=>⟨ikw (by omega) (by omega),?_⟩⟩
   ·refine yj (k+1) (by omega) (by omega) ?_
    refine yh [] [] [] ?_;have e1:=yhf (v:=k) (by omega)
    have e2:=u32_or hb1 hb2;rw[zV]at e1;simp only[yil _ hcp4,yiu _ hcp4,e1,allQ,live,yc,yba,go_sem,zA,↓reduceIte,reduceCtorEq];refine⟨by omega,?_⟩
    rw[show ygh f (k+1)=ygh f k|||2^k by show(if f k then _ else _)=_;rw[if_pos h1]]
    exact e2
   ·refine yj (k+1) (by omega) (by omega) ?_
    refine yh [] [] [] ?_;simp only[yil _ hcp4,yiu _ hcp4,allQ,live,yc,yba,go_sem,zA,↓reduceIte,reduceCtorEq];rw[show ygh f (k+1)=ygh f k by show(if f k then _ else _)=_;rw[if_neg (by rw[h1];simp)]]
    simp
  ·obtain rfl:k=n:=by omega
   rfl
theorem ybco(p:ProgT){g:Gr}(hg:yw g)(hp:p.ok=true){c:Conf}(hc:ConfIn g.ports.length p.vars.length c){v:Nat}(hv:v<g.ports.length) :
 Returns zH 146 [.i .i64 v,.rf [.rf (yel p.raw g)],.rf [ybk c]] (.b (decide (ygd p g c v>=0))):=by
 refine Returns.of (ydbv _ _ ?_);have hR:=ybjq p hg hp hc hv;simp only[c146,ycst,ycms,go_sem,zA,zB,↓reduceIte,reduceCtorEq];refine hR.use ?_;simp only[ybf,ykz,go_sem,zA,zB,↓reduceIte,reduceCtorEq]
theorem yqm(p:ProgT){g:Gr}(hg:yw g)(hp:p.ok=true){c:Conf}(hc:ConfIn g.ports.length p.vars.length c) :
 Returns zH 94 [.rf (yel p.raw g),ybk c] (.i .u32 (ybp p g c)):=by
 refine Returns.of (ydjc _ _ ?_);have hid:=hg.2.2.1;have h24:=hg.2.1;have hN:=ybrz g.ids.length (by omega) 146 [.rf [.rf (yel p.raw g)],.rf [ybk c]] (fun v=>decide (ygd p g c v>=0)) rfl (fun v hv=>ybco p hg hp hc (by omega))
 simp only[yel]at hN;simp only[c94,ydfz,ydoc,yel,yjf,go_sem,zA,zB,zC,zD,↓reduceIte,reduceCtorEq];simp only[yjf]at hN;refine .inl (hN.use ?_);simp only[ybf,yba,go_sem,zA,zB,↓reduceIte,reduceCtorEq];rfl
theorem yqa(p:ProgT)(g:Gr)(c:Conf)(v:Nat):∀(sets:List (Int×Ex)) (s0:List Int),(yln p g c v s0 sets).length=s0.length
 |[],_=>rfl
 | a::sets,s0=>by
   show(yln p g c v (s0.set _ _) sets).length=_;rw[yqa p g c v sets];simp
theorem ybpf(p:ProgT)(g:Gr)(c:Conf)(v:Nat)(s0:List Int)(sets:List (Int×Ex))(k:Nat)(h:k<sets.length) :
 yln p g c v s0 (sets.take (k+1))=(yln p g c v s0 (sets.take k)).set (sets.getD k default).1.toNat (yik (p.vars.getD (sets.getD k default).1.toNat default).kind (ybh g v (p.vars.getD (sets.getD k default).1.toNat default)) (ydh g c v (sets.getD k default).2 (-1))):=by
 unfold yln;rw[zAA h,List.foldl_append,getD_at h];rfl
theorem yces(p:ProgT){g:Gr}(hg:yw g)(hp:p.ok=true){c:Conf}(hc:ConfIn g.ports.length p.vars.length c){v:Nat}(hv:v<g.ports.length){r:Nat}(hr:r<p.rules.length) :
 Returns zH 157 [.rf (yel p.raw g),ybk c,.i .i64 v,.i .i64 r] (yu (yzn p g c v r)):=by
 refine Returns.of (ydby _ _ ?_);obtain⟨R,hR⟩:∃R,p.rules.getD r default=R:=⟨_,rfl⟩;have hp':=hp;unfold ProgT.ok at hp';simp only[zF,decide_eq_true_eq]at hp'
 have hok:R.ok p.vars.length=true:=by
  rw[<-hR,getD_at hr];exact List.all_eq_true.1 hp'.2 _ (zK _)
 unfold RuleT.ok at hok;simp only[zF,decide_eq_true_eq]at hok
 have hraw:p.raw.rules.getD r default=R.raw:=by
  rw[<-hR];simp[ProgT.raw,zM,hr]
 have hlen:p.raw.rules.length=p.rules.length:=by simp[ProgT.raw]
 have hsl:R.raw.sets.length=R.sets.length:=by simp[RuleT.raw]
 have hid:=hg.2.2.1;have hcl:=hc.len;have hrow:=hc.at_ hv;have hne:¬(c.getD v []).length=0:=by omega
 simp only[c157,ychx,ycuq,ychl,hne,yel,ycy,yij,hraw,hlen,hsl,ybk,yu,go_sem,zA,zB,zC,zD,↓reduceIte,reduceCtorEq];obtain⟨nv,hnv⟩:∃k,p.vars.length=k:=⟨_,rfl⟩;have hrl:=hrow.1;rw[hnv]at hrl hok hc;rw[hnv]at hp';have hmv:yzn p g c v r=yln p g c v (c.getD v []) R.sets:=by unfold yzn;rw[hR]
 have hml:∀k,(yln p g c v (c.getD v []) (R.sets.take k)).length=nv:=fun k=>(yqa p g c v _ _).trans hrl;refine⟨by omega,by omega,by omega,?_⟩
 refine ybj (σ:=Nat) (fun k=>⟨[(28,.i .i64 k),(27,.i .i64 R.sets.length),(26,yij R.raw.sets),(0,.rf (yel p.raw g)),(1,ybk c),(2,.i .i64 v),(9,.os (17,0) 0 nv true)],
  [(17,.one (some ⟨3,false,1,nv,fun i=>[.i .i64 ((yln p g c v (c.getD v []) (R.sets.take k)).getD i 0)]⟩))]⟩) (fun k=>k<=R.sets.length) (fun k=>R.sets.length-k) 0 (zJ _) ?_ ?_
 ·refine yh [] [] [] ?_;simp only[yel,ycy,yij,hlen,hsl,hrl,ybk,yu,allQ,live,yc,yba,zG,go_sem,zA,↓reduceIte,reduceCtorEq];simp[yln]
 ·intro k hk;simp only[ycqf,yciz,ycqw,yel,yij,hsl,splice,go_sem,zA,zB,zC,zD,↓reduceIte,reduceCtorEq];refine⟨fun hlt=>?_,fun hlt=>?_⟩
  ·have hk':k<R.sets.length:=by omega
   obtain⟨S,hS⟩:∃S,R.sets.getD k default=S:=⟨_,rfl⟩
   have hset:R.raw.sets.getD k default=⟨S.1,S.2.ser⟩:=by
    rw[<-hS];simp[RuleT.raw,zM,hk']
   have hSok:=List.all_eq_true.1 hok.2 S (by rw[<-hS,getD_at hk'];exact zK _)
   simp only[zF,decide_eq_true_eq]at hSok;have hV:=ybel p.raw hg hc hv S.2 hSok.1.2 hSok.2;refine⟨by omega,?_⟩
   rw[hset];refine hV.use ?_;have hB:=ybzt (p.vars.getD S.1.toNat default).kind (ybh g v (p.vars.getD S.1.toNat default)) (ydh g c v S.2 (-1));have hvars:p.raw.vars=p.vars:=rfl;simp only[ycxe,ybf,yjf,ydl,varC,splice,hvars,hnv,go_sem,zA,zB,zC,↓reduceIte,reduceCtorEq];refine⟨by omega,by omega,by omega,hB.use ?_⟩
   simp only[go_sem,zA,↓reduceIte];have hb2:zAW 134217727 25=true:=by decide
   simp only[ycid,hb2,go_sem,zA,zB,↓reduceIte,reduceCtorEq];refine⟨by omega,by omega,ikw (by omega) (by omega),?_⟩
   refine yj (k+1) (by omega) (by omega) ?_
   refine yh [] [] [] ?_;simp only[ybpf p g c v _ _ k hk',hS,allQ,live,yc,yba,go_sem,zA,↓reduceIte,reduceCtorEq];refine⟨by omega,fun i hi=>?_⟩
   rw[ycgs (by rw[hml];omega)]
   by_cases q:i=S.1.toNat
   ·simp only[if_pos q];simp only[live,yc,go_sem,reduceCtorEq]
   ·simp only[if_neg q];simp only[live,yc,go_sem,reduceCtorEq]
  ·obtain rfl:k=R.sets.length:=by omega
   simp only[ycwm,go_sem,zA,zB,↓reduceIte,reduceCtorEq];have hl:=hml R.sets.length;rw[zAS]at hl ⊢;rw[hmv,hl];exact Sim.refl _
theorem ymy(p:ProgT)(g:Gr)(c:Conf)(s:Nat){v:Nat}(hv:v<c.length):(yex p g c s).getD v []=if s.testBit v then yzn p g c v (ygd p g c v).toNat else c.getD v []:=by
 unfold yex;simp[zM,hv]
theorem yjz(p:ProgT)(g:Gr)(c:Conf)(s:Nat):(yex p g c s).length=c.length:=by simp[yex]
theorem ycgh(p:ProgT){g:Gr}(hg:yw g)(hp:p.ok=true){c:Conf}(hc:ConfIn g.ports.length p.vars.length c){s:Nat}(hs:s<2^32)(hen:subB s (ybp p g c)) :
 Returns zH 113 [.rf (yel p.raw g),ybk c,.i .u32 s] (ybk (yex p g c s)):=by
 refine Returns.of (yccg [132] _ _ ?_);have h24:=hg.2.1;have hcl:=hc.len;have hp':=hp;unfold ProgT.ok at hp';simp only[zF,decide_eq_true_eq]at hp';have hC:=yceu c (fun x hx=>by have:=(hc.row x hx).1;omega) (by omega)
 simp only[c113,ycuk,ycma,go_sem,zA,zB,↓reduceIte,reduceCtorEq];refine ydd hC [] 100 [0,1,2] [] ?_ ?_
 ·simp only[go_sem,ybx,yed,ydf,ycu,allQ,live,yc,go_sem,zA,↓reduceIte,reduceCtorEq]
 ·rintro r o' ⟨rfl,rfl⟩;simp only[ycwi,ybk,yu,yjp,yip,nuF,nu,difN,ydf,ycu,Fam.ren,OB.ren,dim,ybam,yic,go_sem,zA,zB,↓reduceIte,reduceCtorEq];obtain⟨n,hn⟩:∃n,c.length=n:=⟨_,rfl⟩
  let row:Nat->Nat->List Int:=fun k i=>if i<k then(yex p g c s).getD i []else c.getD i []
  refine ybj (σ:=Nat) (fun k=>⟨[(13,.i .i64 k),(12,.i .i64 n),(7,.os (108,0) 0 n true),(0,.rf (yel p.raw g)),(1,ybk c),(2,.i .u32 s)],
   [(108,.one (some ⟨22,false,1,n,fun i=>[yu (row k i)]⟩))]⟩) (fun k=>k<=n) (fun k=>n-k) 0 (zJ _) ?_ ?_
  ·refine yh [] [] [] ?_;simp only[ybk,hn,allQ,live,yc,zG,go_sem,zA,↓reduceIte,reduceCtorEq];refine⟨Sim.refl _,fun i hi=>?_⟩;simp only[row,if_neg (zAC i)];exact Sim.refl _
  ·intro k hk;have ht:=yxz (s:=s) (v:=k) hs;simp only[IntKind.bits]at ht;simp only[ycwy,ycuw,ycwc,yckw,yckd,ycps,IntKind.bits,ht,ymb,go_sem,zA,zB,zAN,↓reduceIte,reduceCtorEq];refine⟨fun hlt=>⟨by omega,fun h1=>?_,fun h1=>?_⟩,fun hlt=>?_⟩
   ·have hk':k<c.length:=by omega
    have hkg:k<g.ports.length:=by omega
    have hr0:0<=ygd p g c k:=by
     have:=hen k h1;unfold ybp at this;rw[ygw]at this;simp only[zF,decide_eq_true_eq]at this;exact this.2
    have hrl:=(ycfg p g c k).2;have hr1:ygd p g c k=((ygd p g c k).toNat:Int):=by omega
    refine(ybjq p hg hp hc hkg).use ?_;simp only[ybf,splice,go_sem,zA,zB,zAN,↓reduceIte,reduceCtorEq];have hM:=yces p hg hp hc hkg (r:=(ygd p g c k).toNat) (by omega)
    rw[<-hr1]at hM;refine hM.use ?_;simp only[go_sem,zA,↓reduceIte];refine⟨by omega,by omega,ikw (by omega) (by omega),?_⟩
    refine yj (k+1) (by omega) (by omega) ?_
    refine yh [] [] [] ?_;simp only[allQ,live,yc,yba,go_sem,zA,↓reduceIte,reduceCtorEq];refine⟨by omega,fun i hi=>?_⟩
    by_cases q:i=k
    ·simp only[if_pos q];subst q;simp only[go_sem,live,go_sem];simp only[row,if_pos (zX i),ymy p g c s hk',h1,↓reduceIte];exact Sim.refl _
    ·simp only[if_neg q];simp only[go_sem,live,go_sem]
     have:row (k+1) i=row k i:=by
      simp only[row]
      by_cases q1:i<k
      ·rw[if_pos q1,if_pos (by omega)]
      ·rw[if_neg q1,if_neg (by omega)]
     rw[this];exact Sim.refl _
   ·have hk':k<c.length:=by omega
    refine⟨ikw (by omega) (by omega),?_⟩
    refine yj (k+1) (by omega) (by omega) ?_
    refine yh [] [] [] ?_;simp only[allQ,live,yc,yba,go_sem,zA,↓reduceIte,reduceCtorEq];refine⟨by omega,fun i hi=>?_⟩
    have:row (k+1) i=row k i:=by
     simp only[row]
     by_cases q1:i<k
     ·rw[if_pos q1,if_pos (by omega)]
     ·by_cases q:i=k
      ·subst q;rw[if_neg q1,if_pos (by omega),ymy p g c s hk',if_neg (fun q=>h1 (ymb.2 q))]
      ·rw[if_neg q1,if_neg (by omega)]
    rw[this];exact Sim.refl _
   ·obtain rfl:k=n:=by omega
    rw[yjz,hn];refine yhc fun q hq=>⟨⟨?_,trivial⟩,rfl⟩;simp only[row,if_pos hq];exact Sim.refl _
end Sh
end
section
namespace Sh
open Go Ev
def yve(p:ProgT)(g:Gr):Bool:=p.vars.all fun x=>decide (x.kind=1)==false||(decide ((ybh g 0 x).1<=(ybh g 0 x).2)&&decide ((ybh g 0 x).2-(ybh g 0 x).1+1<=4096))
def ygz(Q1 Q2:(Nat->Option ABlk)->Value->Prop)(p:ProgR):List SV:=[.a (.string p.name),.ex Q1 (ydl p.vars),.ex Q2 (ycy p.rules)]
theorem yccc{Q1 Q2:(Nat->Option ABlk)->Value->Prop}(p:ProgT){g:Gr}(hg:yw g)(hp:p.ok=true)(hf:yve p g=true)(hV:Returns zH 191 [.ag (ygz Q1 Q2 p.raw)] (.b true))(hG:Returns zH 96 [grV g] (.b true)) :
 Returns zH 155 [.ag (ygz Q1 Q2 p.raw),grV g] (.i .i64 0):=by
 refine Returns.of (ydds _ _ ?_);have hp':=hp;unfold ProgT.ok at hp';simp only[zF,decide_eq_true_eq]at hp';have hvars:p.raw.vars=p.vars:=rfl;simp only[ygz,grV]at hV hG;simp only[c155,yctq,ycqk,ycpx,ycud,yctf,ycnl,ygz,grV,go_sem,zA,zB,zD,↓reduceIte,reduceCtorEq];refine hV.use ?_;simp only[ybf,go_sem,zA,zB,↓reduceIte];refine hG.use ?_;simp only[ydl,hvars,go_sem,zA,zB,zC,↓reduceIte,reduceCtorEq]
 have hall:∀k,k<p.vars.length->(p.vars.getD k default).ok=true/\((p.vars.getD k default).kind=1->(ybh g 0 (p.vars.getD k default)).1<=(ybh g 0 (p.vars.getD k default)).2/\(ybh g 0 (p.vars.getD k default)).2-(ybh g 0 (p.vars.getD k default)).1+1<=4096):=fun k hk=>by
  rw[getD_at hk];refine⟨List.all_eq_true.1 hp'.1.1.2 _ (zK _),fun h1=>?_⟩;have:=List.all_eq_true.1 hf _ (zK hk)
  simpa[h1]using this
 refine ybj (σ:=Nat) (fun k=>⟨[(18,.i .i64 k),(17,.i .i64 p.vars.length),(16,.ex Q1 (ydl p.vars)),(3,.pt (3,0) 0 0)],[(3,.one (some ⟨27,true,2,1,fun _=>[yu g.ids,ybb g.ports]⟩))]⟩) (fun k=>k<=p.vars.length) (fun k=>p.vars.length-k) 0 (zJ _) ?_ ?_
 ·refine yh [] [] [] ?_;simp only[ydl,allQ,live,yc,zG,go_sem,zA,↓reduceIte,reduceCtorEq]
 ·intro k hk;obtain⟨x,hx⟩:∃x,p.vars.getD k default=x:=⟨_,rfl⟩;simp only[ycnd,ycjw,ycnr,yckf,ybwz,ybpx,ybsd,ybur,ydl,varC,splice,yba,hx,go_sem,zA,zB,zC,zD,↓reduceIte,reduceCtorEq];intro hlt;have hk':k<p.vars.length:=by omega
  obtain⟨hxo,hxb⟩:=hall k hk';rw[hx]at hxo hxb;have hB:=ywa hg hxo (v:=0) (by have:=hg.1;omega)
  simp only[varC,grV,zG]at hB;obtain⟨hb1,hb2⟩:=ynk hg hxo;have hvo:=ybij hxo;refine⟨by omega,fun h1=>⟨ikw (by omega) (by omega),?_⟩,fun h1=>hB.use ?_⟩
  ·refine yj (k+1) (by omega) (by omega) ?_
   refine yh [] [] [] ?_;simp only[allQ,live,yc,yba,go_sem,zA,↓reduceIte,reduceCtorEq];omega
  ·obtain⟨hb3,hb4⟩:=hxb h1;obtain⟨b1,hb1'⟩:∃b,(ybh g 0 x).1=b:=⟨_,rfl⟩;obtain⟨b2,hb2'⟩:∃b,(ybh g 0 x).2=b:=⟨_,rfl⟩;have e:ybh g 0 x=(x.lo,x.hi+x.perNode*(g.ids.length:Int)+x.perID*maxI g.ids):=by unfold ybh;rw[if_pos h1]
   rw[e]at hb1' hb2';simp only[]at hb1' hb2';simp only[e]at hb3 hb4;rw[e];simp only[ybf,yba,go_sem,zA,zB,↓reduceIte,reduceCtorEq];simp only[hb1',hb2']at hb3 hb4 ⊢;refine⟨fun _=>⟨ikw (by omega) (by omega),ikw (by omega) (by omega),fun hgt=>absurd hb4 (by omega),fun _=>⟨ikw (by omega) (by omega),?_⟩⟩,fun hlt2=>absurd hb3 (by omega)⟩
   refine yj (k+1) (by omega) (by omega) ?_
   refine yh [] [] [] ?_;simp only[allQ,live,yc,yba,go_sem,zA,↓reduceIte,reduceCtorEq];omega
end Sh
end
section
namespace Sh
open Go Ev Go.RowKit
def GrI(g:Gr):Prop:=(∀x∈g.ids,I64 x)/\∀ls∈g.ports,∀l∈ls,I64 l.1/\I64 l.2
def yboz(c:List (List Int)):Prop:=∀s∈c,∀x∈s,I64 x
section
variable {G:AM}{m:Mem}{φ:Phi}{M:AM}{w:World}{u u':Value}
theorem ycen {α:Type}{z n:Nat}{gg:Nat->List SV}{xs:List α}{E:Elem α}(hG:Le G m.b.get) (hr:RV G om0 (.sl z n gg) u) (hv:VR φ u u') (hR:Rel φ M w) (hs:Sub m M) (hn:xs.length=n)
 (hE:∀k x b o L L',xs[k]?=some x->RVL G om0 (gg k) L->VRL φ L L'->(∀j v,L'[j]?=some v->w.cell? ⟨b,o+j,none⟩=some v)->E w b o x):SlAt z E w u' xs:=by
 rcases hr.sl_inv with⟨rfl,h0⟩|⟨bk,p,cp,T,N,e,zz,L,rfl,g1,g2,g3,g4,g5,g6,g7⟩
 ·have:xs=[]:=List.eq_nil_of_length_eq_zero hn;subst this;rcases h0 with rfl|⟨b,o,c,rfl⟩
  ·have e:=hv.eq_simple rfl;subst e;exact SlAt.nil w
  ·obtain⟨lc,A,c',k1,k2,k3,k4,k5,k6,k7⟩:=hv.slice_inv;subst k3;exact⟨some A,c',rfl,zJ _,k6,fun q=>absurd q (by simp)⟩
 ·obtain⟨lc,A,c',k1,k2,k3,k4,k5,k6,k7⟩:=hv.slice_inv;subst k3;subst hn;refine⟨some A,c',rfl,k4,k6,fun hpos=>?_⟩;rcases k7 with⟨rfl,_⟩|k7
  ·obtain⟨lc',h1,h2⟩:=hR.blk _ _ (hs _ _ (hG _ _ g1));have k1':φ bk=some lc:=k1;rw[k1']at h1;cases h1
   obtain⟨h3,h4,cs,e2,fz2,h0,h5,h6,h7⟩:=h2;refine⟨lc.blk,lc.base+p,rfl,(Array.getElem?_eq_some_iff.1 h5).1,fun k x hx=>?_⟩;have hk:k<xs.length:=(List.getElem?_eq_some_iff.1 hx).1;have hin:=yji (z:=z) hk;have hcells:∀j v,j<z->(L k)[j]?=some v->∃v',cs[lc.base+(p+k*z+j)]?=some v'/\VR φ v v':=fun j v hj hv=>h7 _ v (by omega) (by rw[g5 k hk j hj];exact hv)
   have hex:∀(l:List Value) (q:Nat),(∀j v,l[j]?=some v->∃v',cs[q+j]?=some v'/\VR φ v v')->∃l',VRL φ l l'/\∀j v,l'[j]?=some v->cs[q+j]?=some v:=by
    intro l
    induction l with
    |nil=>intro q _;exact⟨[],.nil,fun j v h=>by simp at h⟩
    | cons a l ih =>
      intro q h;obtain⟨v',e1,e2⟩:=h 0 a rfl;obtain⟨l',e3,e4⟩:=ih (q+1) (fun j v hv=>by have:=h (j+1) v (by simpa using hv);rw[show q+1+j=q+(j+1)by omega];exact this)
      refine⟨v'::l',.cons e2 e3,fun j v hv=>?_⟩;cases j with
      |zero=>simp at hv;subst hv;exact e1
      |succ j=>have:=e4 j v (by simpa using hv);rw[show q+(j+1)=q+1+j by omega];exact this
   obtain⟨L',r1,r2⟩:=hex (L k) (lc.base+p+k*z) (fun j v hv=>by
    have hj:j<z:=by rw[<-g4 k hk];exact(List.getElem?_eq_some_iff.1 hv).1
    have:=hcells j v hj hv;rw[show lc.base+p+k*z+j=lc.base+(p+k*z+j)by omega]
    exact this)
   exact hE k x _ _ (L k) L' hx (g6 k hk) r1 fun j v hv=>cell_of h5 (by have:=r2 j v hv;exact this)
  ·omega
theorem ints_at{l:List Int}(hG:Le G m.b.get)(hr:RV G om0 (yu l) u)(hv:VR φ u u')(hR:Rel φ M w)(hs:Sub m M)(hI:∀x∈l,I64 x):ymo w u' l:=by
 refine ycen hG hr hv hR hs rfl fun k x b o L L' hx hL hL' hc=>?_;have hk:k<l.length:=(List.getElem?_eq_some_iff.1 hx).1;have hxe:l.getD k 0=x:=by simp[zM,hx]
 rw[hxe]at hL;cases hL with
 | cons a b =>
   cases b
   cases a.int_inv
   obtain⟨v',rfl,hvv⟩:=yfy hL';have:=hvv.eq_simple rfl;subst this;exact⟨hc 0 _ rfl,hI x (zT hx)⟩
theorem ycgr{ls:List (Int×Int)}(hG:Le G m.b.get)(hr:RV G om0 (ybc ls) u)(hv:VR φ u u')(hR:Rel φ M w)(hs:Sub m M)(hI:∀l∈ls,I64 l.1/\I64 l.2):ybgl w u' ls:=by
 refine ycen hG hr hv hR hs rfl fun k x b o L L' hx hL hL' hc=>?_;have hxe:ls.getD k (0,0)=x:=by simp[zM,hx]
 rw[hxe]at hL;cases hL with
 | cons a b =>
   cases b with
   | cons a2 b2 =>
     cases b2
     cases a.int_inv
     cases a2.int_inv
     obtain⟨v1,v2,rfl,h1,h2⟩:=yzw hL';have:=h1.eq_simple rfl;subst this;have:=h2.eq_simple rfl;subst this;exact⟨hc 0 _ rfl,hc 1 _ rfl,hI x (zT hx)⟩
theorem yccw{ps:List (List (Int×Int))}(hG:Le G m.b.get)(hr:RV G om0 (ybb ps) u)(hv:VR φ u u')(hR:Rel φ M w)(hs:Sub m M)(hI:∀ls∈ps,∀l∈ls,I64 l.1/\I64 l.2):yzv w u' ps:=by
 refine ycen hG hr hv hR hs rfl fun k x b o L L' hx hL hL' hc=>?_;have hxe:ps.getD k []=x:=by simp[zM,hx]
 rw[hxe]at hL;cases hL with
 | cons a b =>
   cases b
   obtain⟨v',rfl,hvv⟩:=yfy hL';exact⟨v',hc 0 _ rfl,ycgr hG a hvv hR hs (hI x (zT hx))⟩
theorem yddb{c:List (List Int)}(hG:Le G m.b.get)(hr:RV G om0 (ybk c) u)(hv:VR φ u u')(hR:Rel φ M w)(hs:Sub m M)(hI:yboz c):ycky w u' c:=by
 refine ycen hG hr hv hR hs rfl fun k x b o L L' hx hL hL' hc=>?_;have hxe:c.getD k []=x:=by simp[zM,hx]
 rw[hxe]at hL;cases hL with
 | cons a b =>
   cases b
   obtain⟨v',rfl,hvv⟩:=yfy hL';exact⟨v',hc 0 _ rfl,ints_at hG a hvv hR hs (hI x (zT hx))⟩
theorem ycyc{g:Gr}(hG:Le G m.b.get)(hr:RV G om0 (grV g) u)(hv:VR φ u u')(hR:Rel φ M w)(hs:Sub m M)(hI:GrI g):GrAt w u' g:=by
 obtain⟨L,rfl,hL⟩:=hr.ag_inv;cases hL with
 | cons a b =>
   cases b with
   | cons a2 b2 =>
     cases b2
     obtain⟨L',rfl,hL'⟩:=hv.agg_inv;obtain⟨v1,v2,rfl,h1,h2⟩:=yzw hL';exact⟨v1,v2,rfl,ints_at hG a h1 hR hs hI.1,yccw hG a2 h2 hR hs hI.2⟩
end
theorem ybjh {g:FuncId}{args:List SV}{r:SV}{v:Value}(hg:∃fn c,Tryz.prog.funcs[g]?=some fn/\fn.body=some c) (hrv:∀F,RV F om0 r v) (hvr:∀φ,VR φ v v)
 (h:∀(G:AM) (m:Mem) (us:List Value),Le G m.b.get->RVL G om0 args us->∀φ M w us',Rel φ M w->Sub m M->VRL φ us us'->Calls zH g us'.toArray w fun e w'=>e = .returned v/\Below w.heap.size w w'):Returns zH g args r:=by
 intro G m us hw hle hr;refine⟨v,enterM m,r,ylj yoh hg fun φ M w us' hR hs hv=>(h G m us hle hr φ M w us' hR hs hv).mono ?_,zW _,Le.refl _,rfl,hrv _⟩;rintro e w' ⟨rfl,hb⟩;exact⟨v,rfl,hvr φ,hb⟩
theorem rvl1{F:AM}{ω:Om}{a:SV}{us:List Value}(h:RVL F ω [a] us):∃u,us=[u]/\RV F ω a u:=by
 cases h with|cons x y=>cases y;exact⟨_,rfl,x⟩
theorem rvl2{F:AM}{ω:Om}{a b:SV}{us:List Value}(h:RVL F ω [a,b] us):∃u v,us=[u,v]/\RV F ω a u/\RV F ω b v:=by
 cases h with|cons x y=>obtain⟨v,rfl,q⟩:=rvl1 y;exact⟨_,v,rfl,x,q⟩
end Sh
end
section
open Go.RowKit
end
end Go.Proofs.YtiejahgklcjhkaaGreatDoor
