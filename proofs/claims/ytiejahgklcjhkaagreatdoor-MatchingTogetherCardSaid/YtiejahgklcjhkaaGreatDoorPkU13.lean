/- Joined. -/
import Derived.Test.YtiejahgklcjhkaaGreatDoorPkU12
set_option linter.unusedSimpArgs false
set_option linter.unusedVariables false
set_option maxRecDepth 8000
open Nat renaming reduceEqDiff→zA,reduceAdd→zB,reduceLeDiff→zC,reduceLT→zD,reduceMul→zJ,reduceBEq→zK,reduceBNe→zL,zero_le→zN,le_refl→zS,pow_le_pow_right→zU,lt_of_lt_of_le→zW,testBit_lt_two_pow→zX,lt_succ_self→zAB,mod_eq_of_lt→zAC,not_lt_zero→zAE,lt_pow_two_of_testBit→zAH,shiftRight_eq_div_pow→zAJ,eq_of_testBit_eq→zAN,pow_lt_pow_right→zAP,lt_of_le_of_lt→zAQ,testBit_and→zAU,and_le_left→zAV,testBit→zAW
open Int renaming reduceToNat→zF,natCast_zero→zG,toNat_natCast→zAA
open Go.Proofs.Tryz renaming prog→zH,func96→zAF,ntmps96→zAL,zeroCells195→zAR
open Bool renaming and_eq_true→zI
open BitVec renaming ofInt→zM,ofInt_natCast→zT,toNat_ofNat→zZ,getLsbD_ofNat→zAO
open Go.Lib renaming hid→zO
open List renaming getElem_mem→zQ,getElem?_eq_getElem→zV,getD→zY,take_succ_eq_append_getElem→zAD,append_assoc→zAG,take_length→zAK,length_map→zAM,length→zAS,range→zAT
open Classical renaming byContradiction→zAI
open Go
namespace Go.Proofs.YtiejahgklcjhkaaGreatDoor
section
namespace Sh
open Go Ev
theorem ybwq(p:ProgR){g:Gr}(hg:ybb g)(op:Int){v:Nat}(hv:v<g.ports.length)(port:Int)(hp:op=6\/op=7\/op=8\/op=9\/op=10\/op=11\/(0<=port/\port<(g.ports.getD v []).length)) :
 Returns zH 255 [.rf (yeu p g),.i .i64 op,.i .i64 v,.i .i64 port] (.i .i64 (ylp g op v port)):=by
 refine Returns.of (ycvw _ _ ?_);have hlen:=hg.2.2.1;simp only[c255,ycpe,ycks,ycog,ycnj,ycci,ycfx,ycgy,ycme,ychg,ycgv,yblq,ybsg,ybmy,ybrn,yboe,ybpa,ybnd,ybmv,ybrq,ybop,yblb,ybqs,ybsu,ybpr,ybsx,yeu,yw,ybe,ybc,ydi,yu,go_sem,zA,zB,zC,zD,↓reduceIte,reduceCtorEq];refine⟨fun h6=>?_,fun h6=>⟨fun h7=>?_,fun h7=>⟨fun h8=>⟨by omega,?_⟩,fun h8=>⟨fun h9=>⟨by omega,?_⟩,fun h9=>⟨fun h10=>(ydq _).use ?_,fun h10=>⟨fun h11=>?_,fun h11=>?_⟩⟩⟩⟩⟩⟩
 ·simp[ylp,h6]
 ·simp[ylp,h7]
 ·simp[ylp,h8]
 ·simp[ylp,h9]
 ·simp only[ybf,yu,go_sem,zA,zB,↓reduceIte,reduceCtorEq];simp[ylp,h10]
 ·simp[ylp,h11]
 ·have hp:0<=port/\port<(g.ports.getD v []).length:=by omega
  have hpn:port.toNat<(g.ports.getD v []).length:=by omega
  have hl:=hg.ybn hv hpn;unfold ybn at hl;refine⟨by omega,by omega,fun h13=>⟨by omega,?_⟩,fun h13=>⟨fun h14=>⟨by omega,?_⟩,fun h14=>⟨fun h15=>(ydq _).use ?_,fun h15=>⟨fun h16=>?_,fun h16=>⟨by omega,?_⟩⟩⟩⟩⟩
  ·simp[ylp,h13,ybn]
  ·simp[ylp,h14,ybn]
  ·simp only[ybf,yu,go_sem,zA,zB,↓reduceIte,reduceCtorEq];simp[ylp,h15,ybn]
  ·simp[ylp,h16,ybn]
  ·refine⟨by rw[show(ygx g v).length=(g.ports.getD v []).length from zAM _];omega,?_⟩
   simp[ylp,h6,h7,h8,h9,h10,h11,h13,h14,h15,h16]
theorem ybxk(p:ProgR){g:Gr}(hg:ybb g){nv:Nat}{c:Conf}(hc:ConfIn g.ports.length nv c){v:Nat}(hv:v<g.ports.length)(e:List Tm){op arg:Int}{bnd:Bool}(ho:(Ex.leaf op arg).ok nv bnd=true)(port:Int)(hp:bnd=true->0<=port/\port<(g.ports.getD v []).length) :
 Returns zH 236 [.rf (yhg p g c v e),.ag [.i .i64 op,.i .i64 arg],.i .i64 port] (.i .i64 (yqw g c op arg v port)):=by
 refine Returns.of (ycrp _ _ ?_);simp only[Ex.ok,zI,decide_eq_true_eq]at ho;obtain⟨⟨ho1,ho2⟩,ho3⟩:=ho;have hlen:=hc.len;have hrow:=hc.at_ hv;have hF:=ybwq p hg op hv port;simp only[yeu,yw,ybe,ybc,ydi]at hF;simp only[c236,ycca,ycno,ycjc,ycdp,ycgj,ycoe,ycnp,ycjb,ycnu,ycpo,ybrs,ybss,ybps,ybtx,yblz,yhg,ybj,yeu,yw,ybe,ybc,ydi,yu,go_sem,zA,zB,zC,zD,↓reduceIte,reduceCtorEq];refine⟨fun h1=>?_,fun h1=>⟨fun h2=>?_,fun h2=>⟨fun h3=>?_,fun h3=>⟨fun h4=>?_,fun h4=>⟨fun h5=>?_,fun h5=>⟨fun h12=>?_,fun h12=>(hF ?_).use ?_⟩⟩⟩⟩⟩⟩
 ·simp[yqw,h1]
 ·simp[yqw,h2]
 ·simp[yqw,h3]
 ·simp[yqw,h4]
 ·rw[if_neg (by omega),if_pos (by omega)]at ho2
  have ho2:=of_decide_eq_true ho2;refine⟨by omega,by omega,?_⟩
  simp[yqw,h5]
 ·rw[if_neg (by omega),if_pos (by omega)]at ho2
  have ho2:=of_decide_eq_true ho2;rw[if_pos (by omega)]at ho3
  have hp:=hp ho3;have hpn:port.toNat<(g.ports.getD v []).length:=by omega
  have hl:=hg.ybn hv hpn;have hr2:=hc.at_ (v:=(ybn g v port.toNat).1.toNat) (by omega)
  unfold ybn at hl hr2;refine⟨by omega,by omega,by omega,by omega,?_⟩
  simp[yqw,h12,ybn]
 ·by_cases q:11<=op
  ·rw[if_pos q]at ho3;have:=hp ho3;omega
  ·omega
 ·simp only[ybf,yu,go_sem,zA,zB,↓reduceIte,reduceCtorEq];simp[yqw,h1,h2,h3,h4,h5,h12]
theorem yoz{e:List Tm}{at_:Nat}{a b:List Tm}(h:e.drop at_=a++b):e.drop (at_+a.length)=b:=by
 rw[<-List.drop_drop,h,List.drop_left]
theorem ybyv{n:Nat}{gg:Nat->List SV}{l:List Int}(hn:n=l.length)(h:∀k,k<n->gg k=[.i .i64 (l.getD k 0)]):Sim (.sl 1 n gg) (yw l):=by
 subst hn;exact yid h
def ybls(p:ProgR)(g:Gr)(nv:Nat)(c:Conf)(v:Nat)(e:List Tm)(x:Ex):Prop :=
 ∀ (bnd:Bool) (port:Int) (at_:Nat) (rest:List Tm),x.ok nv bnd=true->(bnd=true->0<=port/\port<(g.ports.getD v []).length)->InB port->e.drop at_=x.ser++rest ->
   Returns zH 220 [.rf (yhg p g c v e),.i .i64 at_,.i .i64 port] (.tp [.i .i64 (ycu g c v x port),.i .i64 ((at_+x.ser.length:Nat):Int)])
theorem ywo(p:ProgR){g:Gr}(hg:ybb g){nv:Nat}{c:Conf}(hc:ConfIn g.ports.length nv c){v:Nat}(hv:v<g.ports.length)(e:List Tm)(hl:e.length<=1000){op:Int}{a:Ex}(ho:(Ex.agg op a).ok nv true=true)(ih:ybls p g nv c v e a)(at_:Nat)(rest:List Tm)(he:e.drop at_=(Ex.agg op a).ser++rest) :
 Returns zH 238 [.rf (yhg p g c v e),.i .i64 op,.i .i64 at_] (.tp [.i .i64 (ycu g c v (.agg op a) 0),.i .i64 ((at_+(Ex.agg op a).ser.length:Nat):Int)]):=by
 have ho':=ho;simp only[Ex.ok,zI,decide_eq_true_eq]at ho;have hd:=hg.deg_lt (v:=v);obtain⟨deg,hdeg⟩:∃d,(g.ports.getD v []).length=d:=⟨_,rfl⟩;rw[hdeg]at hd;have hin:∀q:Nat,q<deg->InB (ycu g c v a q):=fun q hq=>ygf hg rfl hc hv a ho.2 (fun _=>by omega) (by unfold InB;omega)
 have hsh:=Ex.ok_shp _ ho';have hdrop:e.drop (at_+1)=a.ser++rest:=(yei (show e.drop at_=(op,0)::(a.ser++rest)from he)).2.2
 have hat:=(yei (show e.drop at_=(op,0)::(a.ser++rest)from he)).1
 have hfit:at_+1+a.ser.length<=e.length:=by
  have:=congrArg zAS hdrop;simp at this;omega
 refine Returns.of (yctr _ _ ?_);simp only[c238,ycnd,ycit,ycoa,ycei,yhg,ybj,yeu,yw,ybe,ybc,ydi,hdeg,go_sem,zA,zB,zC,zD,↓reduceIte,reduceCtorEq];refine⟨by omega,?_⟩
 let val:Nat->Int:=fun q=>ycu g c v a q
 refine ybl (σ:=Nat) (fun k=>⟨[(27,.i .i64 k),(26,.i .i64 deg),(9,.i .i64 deg),(0,.rf (yhg p g c v e)),(1,.i .i64 op),(2,.i .i64 at_),(8,.pt (8,0) 0 0),(7,.i .i64 (if k=0 then 0 else((at_+1+a.ser.length:Nat):Int)))],
  [(8,.one (some ⟨256,true,1,24,fun i=>[.i .i64 (if i<k then val i else 0)]⟩))]⟩) (fun k=>k<=deg) (fun k=>deg-k) 0 (zN _) ?_ ?_
 ·refine yh [] [] [] ?_;simp only[yhg,ybj,yeu,yw,ybe,ybc,ydi,allQ,live,yc,yu,zG,go_sem,zA,↓reduceIte,reduceCtorEq];intro i _;rw[if_neg (by omega)]
 ·intro k hk;simp only[ycox,ycpd,yclu,ycqb,ycfd,ycpn,ybqr,go_sem,zA,zB,zC,↓reduceIte,reduceCtorEq];refine⟨fun hlt=>⟨ikw (by omega) (by omega),?_⟩,fun hlt=>?_⟩
  ·have hk':k<deg:=by omega
   have hv1:=ih true (k:Int) (at_+1) rest ho.2 (fun _=>by rw[hdeg];omega) (by unfold InB;omega) hdrop
   rw[show((at_+1:Nat):Int)=(at_:Int)+1 by omega]at hv1
   refine hv1.use ?_;simp only[ybf,splice,go_sem,zA,zB,↓reduceIte,reduceCtorEq];refine⟨by omega,by omega,ikw (by omega) (by omega),?_⟩
   refine yj (k+1) (by omega) (by omega) ?_
   refine yh [] [] [] ?_;simp only[allQ,live,yc,yu,go_sem,zA,↓reduceIte,reduceCtorEq];refine⟨by omega,?_⟩
   intro i hi
   by_cases q:i=k
   ·rw[if_pos q,if_pos (by omega)]
    subst q;simp only[val,live,yc,go_sem,reduceCtorEq]
   ·rw[if_neg q]
    by_cases q2:i<k
    ·rw[if_pos q2,if_pos (by omega)]
     simp only[live,yc,go_sem,reduceCtorEq]
    ·rw[if_neg q2,if_neg (by omega)]
     simp only[live,yc,go_sem,reduceCtorEq]
  ·obtain rfl:k=deg:=by omega
   have hE:=yctj e _ at_ rest hsh he hl
   have hF:=ybwz op ((zAT k).map val) (by simp;omega) (fun x hx=>by
    obtain⟨q,hq,rfl⟩:=List.mem_map.1 hx;exact hin q (List.mem_range.1 hq))
   have hres:ycu g c v (.agg op a) 0=ygc op ((zAT k).map val):=by
    show ygc op _=_;rw[hdeg]
   rw[hres];simp only[yhg,ybc,go_sem,zA,zB,↓reduceIte,reduceCtorEq];simp only[ybc]at hE
   have hsim:SimL [.i .i64 op,.sl 1 (k-0) fun i=>[.i .i64 (if i<k then val i else 0)]] [.i .i64 op,yw ((zAT k).map val)]:=by
    refine⟨Sim.refl _,ybyv (by simp) fun i hi=>?_,trivial⟩
    rw[if_pos (by omega)]
    simp[zY,show i<k by omega]
   refine⟨fun h0=>hE.use ?_,fun h0=>?_⟩
   ·simp only[ybf,go_sem,zA,zB,zC,↓reduceIte,reduceCtorEq];refine⟨by simp;omega,.inl ⟨by omega,hF.useS hsim ?_⟩⟩
    simp only[go_sem];exact Sim.refl _
   ·refine⟨by simp;omega,.inl ⟨by omega,hF.useS hsim ?_⟩⟩
    simp only[ybf,if_neg (show ¬k=0 by omega),go_sem,zA,zB,↓reduceIte,reduceCtorEq]
    rw[show at_+(Ex.agg op a).ser.length=at_+1+a.ser.length by simp[Ex.ser];omega]
    exact Sim.refl _
end Sh
end
section
namespace Sh
open Go Ev
theorem ybiw(g:Gr)(v:Nat)(hv:v<g.ports.length)(u:Int)(hl:(g.ports.getD v []).length<=100000):Returns zH 170 [grV g,.i .i64 v,.i .i64 u] (.i .i64 (yer (g.ports.getD v []) u)):=by
 refine Returns.of (ycrs _ _ ?_);simp only[c170,ycgw,ycgl,grV,ybe,ybc,yw,go_sem,zA,zB,zD,↓reduceIte,reduceCtorEq];refine⟨by omega,?_⟩
 obtain⟨ls,hls⟩:∃ls,g.ports.getD v []=ls:=⟨_,rfl⟩;rw[hls]at hl ⊢;refine ybl (σ:=Nat) (fun k=>⟨[(15,.i .i64 k),(13,ybc ls),(14,.i .i64 ls.length),(2,.i .i64 u)],[]⟩) (fun k=>k<=ls.length/\(ls.take k).findIdx? (fun l=>l.1==u)=none) (fun k=>ls.length-k) 0 ⟨zN _,by simp⟩ ?_ ?_
 ·refine yh [] [] [] ?_;simp only[ybc,allQ,live,yc,zG,go_sem,zA,↓reduceIte,reduceCtorEq]
 ·intro k ⟨hk,hno⟩;simp only[ycbj,yckb,yciw,ycoy,ycpp,ycfb,ybc,yu,splice,go_sem,zA,zB,zC,zD,↓reduceIte,reduceCtorEq];refine⟨fun hlt=>⟨by omega,fun he=>?_,fun he=>⟨ikw (by omega) (by omega),?_⟩⟩,fun hlt=>?_⟩
  ·have hlt:k<ls.length:=by omega
   rw[getD_at hlt]at he;rw[ytf ls u k hlt he hno]
  ·have hlt:k<ls.length:=by omega
   rw[getD_at hlt]at he;refine yj (k+1) ⟨by omega,yzi ls u k hlt he hno⟩ (by omega) ?_
   refine yh [] [] [] ?_;simp only[allQ,live,yc,yu,go_sem,zA,↓reduceIte,reduceCtorEq];simp
  ·obtain rfl:k=ls.length:=by omega
   rw[ybbq ls u hno]
theorem ybix{ids:List Int}{k:Nat}(h:k<ids.length):(ids.take (k+1)).foldl max 0=max ((ids.take k).foldl max 0) (ids.getD k 0):=by
 rw[ybhq ids k h,getD_at h]
theorem ywu(p:ProgR){g:Gr}(hg:ybb g):Returns zH 143 [.ag (ylu p),grV g] (.rf (yeu p g)):=by
 refine Returns.of (yctu _ _ ?_);have h24:=hg.2.1;have hid:=hg.2.2.1;obtain⟨n,hn⟩:∃n,g.ports.length=n:=⟨_,rfl⟩;rw[hn]at h24 hid;simp only[c143,ycem,ychk,ycja,grV,ybe,ybc,yw,ylu,splice,hn,go_sem,zF,zA,zB,zC,zD,zK,zL,zJ,↓reduceIte,reduceCtorEq];refine⟨by omega,?_⟩
 refine ybl (σ:=Nat) (fun k=>⟨[(21,.i .i64 k),(19,ybe g.ports),(20,.i .i64 n),(3,.pt (3,0) 0 0),(5,.pt (17,0) 0 0)],
  [(3,.one (some ⟨27,true,2,1,fun _=>[yw g.ids,ybe g.ports]⟩)),(17,.one (some ⟨170,true,7,1,fun _=>[.a (.string p.name),ycd p.vars,ycl p.rules,yw g.ids,ybe g.ports,.i .i64 ((g.ids.take k).foldl max 0),.os (15,0) 0 n true]⟩)),
   (15,.one (some ⟨22,false,1,n,fun i=>[if i<k then yw (ygx g i)else .a (.slice none 0 0)]⟩))]⟩) (fun k=>k<=n) (fun k=>n-k) 0 (zN _) ?_ ?_
 ·refine yh [] [] [] ?_;simp only[ybe,ybc,yw,hn,allQ,live,yc,yu,zG,go_sem,zA,↓reduceIte,reduceCtorEq];refine⟨fun i _=>by simp,fun i _=>?_⟩
  rw[if_neg (by omega)]
  simp only[yc,go_sem]
 ·intro k hk;simp only[ycpw,yckj,yccx,ycjj,grV,ybe,ybc,yw,splice,hn,go_sem,zF,zA,zB,zC,zD,zK,zL,zJ,↓reduceIte,reduceCtorEq];refine⟨fun hlt=>⟨by omega,by omega,by decide,?_⟩,fun hlt=>?_⟩
  ·have hk':k<n:=by omega
   obtain⟨ls,hls⟩:∃ls,g.ports.getD k []=ls:=⟨_,rfl⟩;have hdeg:=hg.deg_lt (v:=k);rw[hls]at hdeg;rw[hls]
   have hback:∀j,j<ls.length->(ygx g k).getD j 0=yer (g.ports.getD (ls.getD j (0,0)).1.toNat []) k:=fun j hj=>by
    unfold ygx;rw[hls];simp[zY,hj]
   have hbl:(ygx g k).length=ls.length:=by unfold ygx;rw[hls,zAM]
   refine ybl (σ:=Nat) (fun j=>⟨[(41,.i .i64 j),(39,ybc ls),(40,.i .i64 ls.length),(6,.i .i64 k),(21,.i .i64 k),(19,ybe g.ports),(20,.i .i64 n),(3,.pt (3,0) 0 0),(5,.pt (17,0) 0 0)],
    [(3,.one (some ⟨27,true,2,1,fun _=>[yw g.ids,ybe g.ports]⟩)),(17,.one (some ⟨170,true,7,1,fun _=>[.a (.string p.name),ycd p.vars,ycl p.rules,yw g.ids,ybe g.ports,.i .i64 ((g.ids.take (k+1)).foldl max 0),.os (15,0) 0 n true]⟩)),
     (15,.one (some ⟨22,false,1,n,fun i=>[if i<k then yw (ygx g i)else if i=k then .os (100,0) 0 j true else .a (.slice none 0 0)]⟩)),
     (100,.one (some ⟨3,false,1,j,fun q=>[.i .i64 ((ygx g k).getD q 0)]⟩))]⟩) (fun j=>j<=ls.length) (fun j=>ls.length-j) 0 (zN _) ?_ ?_
   ·refine yh [] [100] [] ?_;simp only[ybe,ybc,yw,hn,ybix (show k<g.ids.length by omega),allQ,live,yc,zG,go_sem,zA,zK,↓reduceIte,reduceCtorEq]
    intro i hi
    by_cases q1:i<k
    ·simp only[if_pos q1];simp only[yc,go_sem,reduceCtorEq]
    ·by_cases q2:i=k
     ·simp only[if_neg q1,if_pos q2];simp only[live,go_sem,zA,↓reduceIte];simp
     ·simp only[if_neg q1,if_neg q2];simp only[yc,go_sem,reduceCtorEq]
   ·intro j hj;simp only[ycig,ycka,ycfo,yboq,ybmd,grV,ybe,ybc,yw,splice,hn,go_sem,zF,zA,zB,zC,zD,zK,zL,zJ,↓reduceIte,reduceCtorEq]
    have hP:=fun hlt:j<ls.length=>ybiw g (ls.getD j (0,0)).1.toNat (by
     have:=hg.ybn (v:=k) (p:=j) (by omega) (by rw[hls];omega)
     unfold ybn at this;rw[hls]at this;omega) (k:Int) (by have:=hg.deg_lt (v:=(ls.getD j (0,0)).1.toNat);omega)
    have hto:j<ls.length->((ls.getD j (0,0)).1.toNat:Int)=(ls.getD j (0,0)).1:=fun hlt=>by
     have:=hg.ybn (v:=k) (p:=j) (by omega) (by rw[hls];omega)
     unfold ybn at this;rw[hls]at this;omega
    refine⟨fun hlt=>⟨by omega,by omega,by omega,?_⟩,fun hlt=>?_⟩
    ·have hj':j<ls.length:=by omega
     have hP:=hP hj';rw[hto hj']at hP;simp only[grV,ybe,ybc,yw,hn]at hP;refine hP.use ?_;simp only[ybf,splice,go_sem,zA,zB,zC,zD,↓reduceIte,reduceCtorEq];refine⟨by decide,by omega,by decide,by omega,by omega,by decide,ikw (by omega) (by omega),?_⟩
     refine yj (j+1) (by omega) (by omega) ?_
     refine yh [(100,fun _=>(63,0))] [] [] ?_;simp only[allQ,live,yc,yu,go_sem,zA,↓reduceIte,reduceCtorEq];refine⟨by omega,fun i hi=>?_,fun i hi=>?_⟩
     ·by_cases q2:i=k
      ·simp only[if_pos q2,if_neg (show ¬i<k by omega)]
       simp only[live,yc,go_sem,zA,↓reduceIte,reduceCtorEq]
      ·simp only[if_neg q2]
       by_cases q1:i<k
       ·simp only[if_pos q1];simp only[live,yc,go_sem,reduceCtorEq]
       ·simp only[if_neg q1];simp only[live,yc,go_sem,reduceCtorEq]
     ·by_cases q2:i<j
      ·simp only[if_pos q2];simp only[live,yc,go_sem,reduceCtorEq]
      ·obtain rfl:i=j:=by omega
       simp only[if_neg q2,Nat.sub_self,Nat.zero_mul];simp only[live,yu,go_sem,reduceCtorEq];rw[hback i hj']
    ·obtain rfl:j=ls.length:=by omega
     refine⟨ikw (by omega) (by omega),?_⟩
     refine yj (k+1) (by omega) (by omega) ?_
     refine yh [] [] [(100,0)] ?_;simp only[allQ,live,yc,yu,go_sem,zA,zC,↓reduceIte,reduceCtorEq];refine⟨by omega,fun i hi=>?_⟩
     by_cases q1:i<k
     ·simp only[if_pos q1,if_pos (show i<k+1 by omega)]
      simp only[yc,go_sem]
     ·by_cases q2:i=k
      ·simp only[if_neg q1,if_pos q2,if_pos (show i<k+1 by omega)]
       subst q2;simp only[hbl,yc,go_sem,zA,↓reduceIte]
      ·simp only[if_neg q1,if_neg q2,if_neg (show ¬i<k+1 by omega)]
       simp only[yc,go_sem]
  ·obtain rfl:k=n:=by omega
   simp only[ybnw,go_sem,zF,zA,zB,zC,zD,zK,zL,zJ,↓reduceIte,reduceCtorEq];refine⟨fun q hq=>by simp only[if_pos hq];simp only[go_sem],?_⟩
   refine yddl ?_ (by simp only[yeu,go_sem])
   simp only[SimL,yeu,yw,ybe,ybc,ydi,hn,yc,true_and,and_true];refine⟨?_,?_⟩
   ·rw[yu];refine⟨rfl,?_⟩;unfold ybek;rw[List.take_of_length_le (by omega)]
   ·refine yke fun q hq=>?_;simp only[if_pos hq];simp only[SimL,yc,go_sem]
end Sh
end
section
def yka(f:Nat->Bool):Nat->Nat
 |0=>0
 |n+1=>if f n then yka f n|||2^n else yka f n
theorem ykr(f:Nat->Bool):∀(n i:Nat),(yka f n).testBit i=(decide (i<n)&&f i)
 |0,i=>by simp[yka]
 | n + 1,i=>by
   unfold yka;have ih:=ykr f n i
   by_cases h:f n=true
   ·rw[if_pos h,Nat.testBit_or,ih,Nat.testBit_two_pow]
    by_cases e:n=i
    ·subst e;simp[h]
    ·have:(i<n+1)=(i<n):=propext (by omega)
     simp[e,this]
   ·rw[if_neg h,ih]
    by_cases e:n=i
    ·subst e;simp[h]
    ·have:(i<n+1)=(i<n):=propext (by omega)
     simp[this]
theorem ybhe(f:Nat->Bool)(n:Nat):yka f n<2^n:=by
 refine zAH _ fun i hi=>?_;rw[ykr];simp;omega
def difB(a b:Nat):Nat:=a ^^^ (a&&&b)
theorem ylb(a b i:Nat):(difB a b).testBit i=(a.testBit i && !(b.testBit i)):=by
 unfold difB;rw[Nat.testBit_xor,zAU];cases a.testBit i<;>cases b.testBit i<;>rfl
theorem yib(a:Nat):a=0↔∀i,a.testBit i=false:=by
 constructor
 ·rintro rfl i;simp
 ·intro h;exact zAN fun i=>by rw[h i];simp
theorem yczc{a b n:Nat}(h:a<2^n):a&&&b<2^n:=by
 have:=zAV (n:=a) (m:=b);omega
theorem ybcu{a b n:Nat}(h:a<2^n):difB a b<2^n:=by
 refine zAH _ fun i hi=>?_;rw[ylb,zX (zW h (zU (by omega) hi))]
 rfl
structure Cnt where
 steps:Nat
 moves:Nat
 rounds:Nat
 begun:Nat
 pend:Nat
def yfd(s:Nat):Nat->Nat
 |0=>0
 |n+1=>yfd s n+(s.testBit n).toNat
def popP(s:Nat):Nat:=yfd s 32
def ydg(e:Nat):Cnt:=⟨0,0,0,0,e⟩
def addP(k:Cnt)(chosen after:Nat):Cnt :=
 let p:=difB k.pend chosen&&&after
 ⟨k.steps+1,k.moves+popP chosen,if p=0 then k.rounds+1 else k.rounds,k.rounds+1,if p=0 then after else p⟩
def Cnt.ok(k:Cnt):Prop:=k.rounds<=k.begun/\k.begun<=k.rounds+1/\k.begun<=k.steps/\k.steps<=k.moves/\k.moves<=24*k.steps/\k.pend<2^24
theorem yiz(s:Nat):∀n,yfd s n<=n
 |0=>zS _
 | n+1=>by
   have:=yiz s n;unfold yfd;cases s.testBit n<;>simp[Bool.toNat]<;>omega
theorem yub(s:Nat)(h:s<2^24):∀k,yfd s (24+k)=yfd s 24
 |0=>rfl
 | k+1=>by
   have e:s.testBit (24+k)=false:=zX (zW h (zU (by omega) (by omega)))
   show yfd s (24+k)+(s.testBit (24+k)).toNat=_;rw[yub s h k,e];rfl
theorem ybpk(s:Nat)(h:s<2^24):popP s<=24:=by
 have:=yub s h 8;unfold popP;rw[this];exact yiz s 24
theorem yyl{s i:Nat}(hs:s.testBit i=true):∀n,i<n->1<=yfd s n
 |0,h=>by omega
 | n+1,h=>by
   unfold yfd
   by_cases e:i=n
   ·subst e;rw[hs];simp
   ·have:=yyl hs n (by omega);omega
theorem ybwj(s:Nat)(h:s<2^32)(h0:s≠0):1<=popP s:=by
 refine zAI fun hc=>h0 ?_;rw[yib];intro i;cases hb:s.testBit i with
 |false=>rfl
 | true =>
   exfalso
   have hi:i<32:=by
    refine zAI fun hi=>?_;rw[zX (zW h (zU (by omega) (by omega)))]at hb
    cases hb
   exact hc (yyl hb 32 hi)
theorem ybon{e:Nat}(h:e<2^24):(ydg e).ok:=⟨zS _,by simp[ydg],zS _,zS _,by simp[ydg],h⟩
theorem ycqy{k:Cnt}{s e:Nat}(hk:k.ok)(hs:s<2^24)(h0:s≠0)(he:e<2^24):(addP k s e).ok:=by
 obtain⟨h1,h2,h3,h4,h5,h6⟩:=hk;have p1:=ybpk s hs;have p2:=ybwj s (by omega) h0
 have hp:difB k.pend s&&&e<2^24:=yczc (ybcu h6);unfold addP Cnt.ok;simp only;refine⟨by split<;>omega,by split<;>omega,by omega,by omega,by omega,by split<;>omega⟩
structure Sys where
 n:Nat
 en:Conf->Nat
 mv:Conf->Nat->Conf
def Sys.run(S:Sys)(res:Nat->Nat->Nat):List Nat->Conf->Cnt->List (Conf×Cnt)
 |[],_,_=>[]
 | w::ws,c,k=>if S.en c=0 then[]else(let s:=res (S.en c) w
   let d:=S.mv c s
   (d,addP k s (S.en d))::S.run res ws d (addP k s (S.en d)))
def Sys.runs(S:Sys)(res:Nat->Nat->Nat)(ws:List Nat)(c:Conf):List (Conf×Cnt):=(c,ydg (S.en c))::S.run res ws c (ydg (S.en c))
def subB(a b:Nat):Prop:=∀i,a.testBit i=true->b.testBit i=true
def ybzi(res:Nat->Nat->Nat):Prop:=∀e w,e≠0->res e w≠0/\subB (res e w) e
theorem Sys.run_all{S:Sys}{res:Nat->Nat->Nat}(hr:ybzi res){J:Conf->Cnt->Prop}(hstep:∀c k s,J c k->s≠0->subB s (S.en c)->J (S.mv c s) (addP k s (S.en (S.mv c s)))) :
 ∀(ws:List Nat) (c:Conf) (k:Cnt),J c k->∀p∈S.run res ws c k,J p.1 p.2
 |[],_,_,_,p,hp=>by cases hp
 | w :: ws,c,k,hJ,p,hp=>by
   unfold Sys.run at hp;split at hp
   ·cases hp
   ·rename_i h0
    obtain⟨r1,r2⟩:=hr _ w h0;have hJ':=hstep c k _ hJ r1 r2;rcases List.mem_cons.1 hp with e|e
    ·rw[e];exact hJ'
    ·exact Sys.run_all hr hstep ws _ _ hJ' p e
theorem Sys.runs_all{S:Sys}{res:Nat->Nat->Nat}(hr:ybzi res){J:Conf->Cnt->Prop}(hstep:∀c k s,J c k->s≠0->subB s (S.en c)->J (S.mv c s) (addP k s (S.en (S.mv c s)))){ws:List Nat}{c:Conf}(h:J c (ydg (S.en c))):∀p∈S.runs res ws c,J p.1 p.2:=fun p hp=>by
 rcases List.mem_cons.1 hp with e|e
 ·rw[e];exact h
 ·exact Sys.run_all hr hstep ws _ _ h p e
structure ByRounds(S:Sys)(V:Conf->Prop)(P:Nat->Nat->List Int->Prop):Prop where
 valid:∀c s,V c->s≠0->subB s (S.en c)->V (S.mv c s)
 stay:∀c s v,V c->v<S.n->s.testBit v=false->(S.mv c s).getD v []=c.getD v []
 move:∀c s v r,V c->v<S.n->s.testBit v=true->subB s (S.en c)->(∀u,u<S.n->P r u (c.getD u []))->P (r+1) v ((S.mv c s).getD v [])
 rest:∀c v r,V c->v<S.n->(S.en c).testBit v=false->(∀u,u<S.n->P r u (c.getD u []))->P (r+1) v (c.getD v [])
 less:∀r v s,P (r+1) v s->P r v s
structure RInv(S:Sys)(V:Conf->Prop)(P:Nat->Nat->List Int->Prop)(c:Conf)(k:Cnt):Prop where
 valid:V c
 all:∀v,v<S.n->P k.rounds v (c.getD v [])
 done:∀v,v<S.n->k.pend.testBit v=false->P (k.rounds+1) v (c.getD v [])
 begun:k.begun<=k.rounds+1
theorem ByRounds.start{S:Sys}{V:Conf->Prop}{P:Nat->Nat->List Int->Prop}(h:ByRounds S V P){c:Conf}(hv:V c)(h0:∀v,v<S.n->P 0 v (c.getD v [])):RInv S V P c (ydg (S.en c)) :=
 ⟨hv,h0,fun v hn hb=>h.rest c v 0 hv hn hb h0,by simp[ydg]⟩
theorem ByRounds.step{S:Sys}{V:Conf->Prop}{P:Nat->Nat->List Int->Prop}(h:ByRounds S V P)(c:Conf)(k:Cnt)(s:Nat)(hi:RInv S V P c k)(h0:s≠0)(hs:subB s (S.en c)):RInv S V P (S.mv c s) (addP k s (S.en (S.mv c s))):=by
 obtain⟨i1,i2,i3,i4⟩:=hi;have hv:=h.valid c s i1 h0 hs
 have hall:∀v,v<S.n->P k.rounds v ((S.mv c s).getD v []):=fun v hn=>by
  cases hb:s.testBit v with
  |true=>exact h.less _ _ _ (h.move c s v _ i1 hn hb hs i2)
  |false=>rw[h.stay c s v i1 hn hb];exact i2 v hn
 have hnext:∀v,v<S.n->(difB k.pend s&&&S.en (S.mv c s)).testBit v=false->P (k.rounds+1) v ((S.mv c s).getD v []):=fun v hn hb=>by
  rw[zAU,ylb]at hb;cases hb1:s.testBit v with
  |true=>exact h.move c s v _ i1 hn hb1 hs i2
  | false =>
    cases hb2:k.pend.testBit v with
    |false=>rw[h.stay c s v i1 hn hb1];exact i3 v hn hb2
    | true =>
      rw[hb1,hb2]at hb;exact h.rest _ v _ hv hn (by simpa using hb) hall
 unfold addP;simp only
 by_cases hp:difB k.pend s&&&S.en (S.mv c s)=0
 ·simp only[if_pos hp];have hall':∀v,v<S.n->P (k.rounds+1) v ((S.mv c s).getD v []):=fun v hn=>hnext v hn (by rw[hp];simp)
  exact⟨hv,hall',fun v hn hb=>h.rest _ v _ hv hn hb hall',by show k.rounds+1<=_;simp⟩
 ·simp only[if_neg hp];exact⟨hv,hall,hnext,zS _⟩
theorem ByRounds.runs{S:Sys}{V:Conf->Prop}{P:Nat->Nat->List Int->Prop}(h:ByRounds S V P){res:Nat->Nat->Nat}(hr:ybzi res){ws:List Nat}{c:Conf}(hv:V c)(h0:∀v,v<S.n->P 0 v (c.getD v [])):∀p∈S.runs res ws c,RInv S V P p.1 p.2 :=
 Sys.runs_all hr h.step (h.start hv h0)
end
section
structure RuleT where
 name:ByteArray
 guard:Ex
 sets:List (Int×Ex)
structure ProgT where
 name:ByteArray
 vars:List VarR
 rules:List RuleT
instance:Inhabited Ex:=⟨.leaf 0 0⟩
instance:Inhabited RuleT:=⟨⟨.empty,default,[]⟩⟩
def RuleT.raw(r:RuleT):RuleR:=⟨r.name,r.guard.ser,r.sets.map fun s=>⟨s.1,s.2.ser⟩⟩
def ProgT.raw(p:ProgT):ProgR:=⟨p.name,p.vars,p.rules.map RuleT.raw⟩
def RuleT.ok(nv:Nat)(r:RuleT):Bool:=r.guard.ok nv false&&decide (r.guard.ser.length<=1000)&&decide (r.sets.length<=100)&&r.sets.all fun s=>decide (0<=s.1/\s.1<nv)&&s.2.ok nv false&&decide (s.2.ser.length<=1000)
def VarR.ok(x:VarR):Bool:=decide (x.kind=1\/x.kind=2\/x.kind=3)&&decide (0<=x.lo/\x.lo<=4096)&&decide (-4096<=x.hi/\x.hi<=4096)&&decide (0<=x.perNode/\x.perNode<=255)&&decide (0<=x.perID/\x.perID<=255)
def ProgT.ok(p:ProgT):Bool:=decide (1<=p.vars.length/\p.vars.length<=6)&&p.vars.all VarR.ok&&decide (p.rules.length<=12)&&p.rules.all (RuleT.ok p.vars.length)
def yhy(g:Gr)(c:Conf)(v:Nat)(r:RuleT):Bool:=ycu g c v r.guard (-1)!=0
def yfg(p:ProgT)(g:Gr)(c:Conf)(v:Nat):Int:=match p.rules.findIdx? (yhy g c v)with|some i=>i|none=>-1
def ybh(g:Gr)(v:Nat)(x:VarR):Int×Int :=
 if x.kind=1 then(x.lo,x.hi+x.perNode*(g.ids.length:Int)+x.perID*maxI g.ids)else if x.kind=2 then(0,1)else if x.kind=3 then(-1,((g.ports.getD v []).length:Int)-1)else(0,-1)
def yic(kind:Int)(b:Int×Int)(x:Int):Int:=if x>=b.1/\x<=b.2 then x else if kind=3 then -1 else if x<b.1 then b.1 else b.2
def ylm(p:ProgT)(g:Gr)(c:Conf)(v:Nat)(s0:List Int)(sets:List (Int×Ex)):List Int :=
 sets.foldl (fun s a=>s.set a.1.toNat (yic (p.vars.getD a.1.toNat default).kind (ybh g v (p.vars.getD a.1.toNat default)) (ycu g c v a.2 (-1)))) s0
def yxx(p:ProgT)(g:Gr)(c:Conf)(v:Nat)(r:Nat):List Int:=ylm p g c v (c.getD v []) (p.rules.getD r default).sets
def ybs(p:ProgT)(g:Gr)(c:Conf):Nat:=yka (fun v=>decide (yfg p g c v>=0)) g.ids.length
def yit(p:ProgT)(g:Gr)(c:Conf)(s:Nat):Conf:=c.zipIdx.map fun q=>if s.testBit q.2 then yxx p g c q.2 (yfg p g c q.2).toNat else q.1
def ybu(p:ProgT)(g:Gr):Sys:=⟨g.ids.length,ybs p g,yit p g⟩
def yhb(p:ProgT)(g:Gr)(c:Conf):Bool:=yoo g.ids.length (fun v=>p.vars.map (ybh g v)) c
end
section
namespace Sh
open Go Ev
theorem ycsi{g:Gr}(hg:ybb g):0<=maxI g.ids/\maxI g.ids<=255:=by
 have h1:=hg.1;have h2:=hg.2.2.1;rw[ybfu (by omega) fun x hx=>(hg.2.2.2.1 x hx).1]
 exact ypw hg
theorem ybax{x:VarR}(h:x.ok=true):(x.kind=1\/x.kind=2\/x.kind=3)/\(0<=x.lo/\x.lo<=4096)/\(-4096<=x.hi/\x.hi<=4096)/\(0<=x.perNode/\x.perNode<=255)/\(0<=x.perID/\x.perID<=255):=by
 unfold VarR.ok at h;simp only[zI,decide_eq_true_eq]at h;obtain⟨⟨⟨⟨a,b⟩,c⟩,d⟩,e⟩:=h;exact⟨a,b,c,d,e⟩
theorem mulN{a b A B:Int}(h1:0<=a)(h2:a<=A)(h3:0<=b)(h4:b<=B):0<=a*b/\a*b<=A*B:=⟨Int.mul_nonneg h1 h3,Int.mul_le_mul h2 h4 h3 (by omega)⟩
theorem ylo{g:Gr}(hg:ybb g){x:VarR}(hx:x.ok=true):(0<=x.perNode*(g.ids.length:Int)/\x.perNode*(g.ids.length:Int)<=255*24)/\(0<=x.perID*maxI g.ids/\x.perID*maxI g.ids<=255*255):=by
 obtain⟨_,_,_,h4,h5⟩:=ybax hx;have h6:=ycsi hg;have h7:=hg.2.1;have h8:=hg.2.2.1;exact⟨mulN h4.1 h4.2 (by omega) (by omega),mulN h5.1 h5.2 h6.1 h6.2⟩
theorem ybdu{g:Gr}(hg:ybb g){x:VarR}(hx:x.ok=true)(v:Int):Returns zH 198 [.ag (varC x),grV g,.i .i64 v] (.tp [.i .i64 x.lo,.i .i64 (x.hi+x.perNode*(g.ids.length:Int)+x.perID*maxI g.ids)]):=by
 refine Returns.of (ycvt _ _ ?_);have h1:=hg.1;have h7:=hg.2.1;have h8:=hg.2.2.1;have hM:=ycsd g.ids (by omega) (by omega)
 obtain⟨hb1,hb2⟩:=ylo hg hx;obtain⟨_,_,hv3,_,_⟩:=ybax hx;simp only[yw]at hM;simp only[c198,ycbe,yckk,grV,varC,yw,go_sem,zA,zB,zC,zD,↓reduceIte,reduceCtorEq];refine⟨ikw (by omega) (by omega),ikw (by omega) (by omega),hM.use ?_⟩
 simp only[ybf,go_sem,zA,zB,↓reduceIte,reduceCtorEq];refine⟨ikw (by omega) (by omega),ikw (by omega) (by omega),?_⟩
 exact Sim.refl _
theorem ybdt(g:Gr)(x:VarR)(v:Int):Returns zH 199 [.ag (varC x),grV g,.i .i64 v] (.tp [.i .i64 0,.i .i64 1]):=by
 refine Returns.of (ycsp _ _ ?_);simp only[c199,ycku,ycgr,grV,varC,go_sem,zA,zB,zD,↓reduceIte,reduceCtorEq];exact Sim.refl _
theorem ybcr{g:Gr}(hg:ybb g)(x:VarR){v:Nat}(hv:v<g.ports.length):Returns zH 200 [.ag (varC x),grV g,.i .i64 v] (.tp [.i .i64 (-1),.i .i64 (((g.ports.getD v []).length:Int)-1)]):=by
 refine Returns.of (ycxe _ _ ?_);have hd:=hg.deg_lt (v:=v);simp only[c200,ycga,ycgq,grV,ybe,ybc,varC,go_sem,zA,zB,zD,↓reduceIte,reduceCtorEq];refine⟨by omega,ikw (by omega) (by omega),?_⟩
 exact Sim.refl _
theorem ybks(kind:Int)(b:Int×Int)(x:Int):Returns zH 194 [.i .i64 kind,.ag [.i .i64 b.1,.i .i64 b.2],.i .i64 x] (.i .i64 (yic kind b x)):=by
 refine Returns.of (ycro _ _ ?_);simp only[c194,yckx,ycen,ycpk,ycnl,yccw,ycdv,ychc,ycfq,yu,yic,go_sem,zF,zA,zB,zC,zD,zJ,↓reduceIte,reduceCtorEq];refine⟨by omega,fun h1=>⟨by omega,fun h2=>by rw[if_pos ⟨h1,h2⟩],fun h2=>⟨fun h3=>by rw[if_neg (fun q=>h2 q.2),if_pos h3],fun h3=>⟨by omega,fun h4=>⟨by omega,by rw[if_neg (fun q=>h2 q.2),if_neg h3,if_pos h4]⟩,fun h4=>⟨by omega,by rw[if_neg (fun q=>h2 q.2),if_neg h3,if_neg h4]⟩⟩⟩⟩,fun h1=>⟨fun h3=>by rw[if_neg (fun q=>h1 q.1),if_pos h3],fun h3=>⟨by omega,fun h4=>⟨by omega,by rw[if_neg (fun q=>h1 q.1),if_neg h3,if_pos h4]⟩,fun h4=>⟨by omega,by rw[if_neg (fun q=>h1 q.1),if_neg h3,if_neg h4]⟩⟩⟩⟩
theorem ytw{g:Gr}(hg:ybb g){x:VarR}(hx:x.ok=true){v:Nat}(hv:v<g.ports.length):Returns zH 171 [.ag (varC x),grV g,.i .i64 v] (.tp [.i .i64 (ybh g v x).1,.i .i64 (ybh g v x).2]):=by
 refine Returns.of (yctn _ _ ?_);have h1:=ybdu hg hx v;have h2:=ybdt g x v;have h3:=ybcr hg x hv;obtain⟨hk,_⟩:=ybax hx;simp only[varC,grV]at h1 h2 h3;simp only[c171,ycip,ycgs,ycbu,varC,grV,splice,go_sem,zA,zB,zC,zD,↓reduceIte,reduceCtorEq]
 refine ybl (σ:=Nat) (fun k=>⟨[(17,.i .i64 k),(15,.os (14,0) 0 3 true),(16,.i .i64 3),(2,.i .i64 v),(3,.pt (3,0) 0 0),(4,.pt (4,0) 0 0)],
  [(3,.one (some ⟨87,true,6,1,fun _=>varC x⟩)),(4,.one (some ⟨27,true,2,1,fun _=>[yw g.ids,ybe g.ports]⟩)),
   (14,.one (some ⟨209,false,2,3,fun k=>if k=0 then[.i .i64 1,.fn 198 [] []]else if k=1 then[.i .i64 2,.fn 199 [] []]else[.i .i64 3,.fn 200 [] []]⟩))]⟩)
  (fun k=>k<=2/\(1<=k->x.kind≠1)/\(2<=k->x.kind≠2)) (fun k=>3-k) 0 ⟨by omega,by omega,by omega⟩ ?_ ?_
 ·refine yh [] [] [] ?_;simp only[varC,allQ,live,yc,yu,zG,go_sem,zA,↓reduceIte,reduceCtorEq];refine⟨rfl,fun i hi=>?_⟩;rcases(show i=0\/i=1\/i=2 by omega)with rfl|rfl|rfl
  ·simp only[live,yc,go_sem,↓reduceIte,reduceCtorEq]
  ·simp only[if_neg (show ¬(1:Nat)=0 by omega),live,yc,go_sem,↓reduceIte,reduceCtorEq]
  ·simp only[if_neg (show ¬(2:Nat)=0 by omega),if_neg (show ¬(2:Nat)=1 by omega),live,yc,go_sem,zA,↓reduceIte,reduceCtorEq]
 ·rintro k ⟨hk2,hk3,hk4⟩;rcases(show k=0\/k=1\/k=2 by omega)with rfl|rfl|rfl
  ·simp only[ybfk,ybft,ybfr,ybfv,ybge,ybgn,varC,splice,go_sem,zA,zB,zC,zD,↓reduceIte,reduceCtorEq];refine⟨fun _=>⟨by omega,fun he=>h1.use ?_,fun he=>⟨ikw (by omega) (by omega),?_⟩⟩,fun h=>by omega⟩
   ·simp only[ybf,go_sem,zA,zB,↓reduceIte,reduceCtorEq];have e:ybh g v x=(x.lo,x.hi+x.perNode*(g.ids.length:Int)+x.perID*maxI g.ids):=by unfold ybh;rw[if_pos he.symm]
    rw[e];exact Sim.refl _
   ·refine yj 1 ⟨by omega,fun _ q=>he q.symm,by omega⟩ (by omega) ?_
    refine yh [] [] [] ?_;simp only[allQ,live,yc,yu,zG,go_sem,zA,↓reduceIte,reduceCtorEq];refine⟨by omega,fun i hi=>?_⟩
    rcases(show i=0\/i=1\/i=2 by omega)with rfl|rfl|rfl
    ·simp only[live,yc,go_sem,↓reduceIte,reduceCtorEq]
    ·simp only[if_neg (show ¬(1:Nat)=0 by omega),live,yc,go_sem,↓reduceIte,reduceCtorEq]
    ·simp only[if_neg (show ¬(2:Nat)=0 by omega),if_neg (show ¬(2:Nat)=1 by omega),live,yc,go_sem,zA,↓reduceIte,reduceCtorEq]
  ·simp only[ybfk,ybft,ybfr,ybfv,ybge,ybgn,varC,splice,go_sem,zA,zB,zC,zD,↓reduceIte,reduceCtorEq];refine⟨fun _=>⟨by omega,fun he=>h2.use ?_,fun he=>⟨ikw (by omega) (by omega),?_⟩⟩,fun h=>by omega⟩
   ·simp only[ybf,go_sem,zA,zB,↓reduceIte,reduceCtorEq];have e:ybh g v x=(0,1):=by unfold ybh;rw[if_neg (by omega),if_pos he.symm]
    rw[e];exact Sim.refl _
   ·refine yj 2 ⟨by omega,fun _=>by omega,fun _ q=>he q.symm⟩ (by omega) ?_
    refine yh [] [] [] ?_;simp only[allQ,live,yc,yu,go_sem,zA,↓reduceIte,reduceCtorEq];refine⟨by omega,fun i hi=>?_⟩
    rcases(show i=0\/i=1\/i=2 by omega)with rfl|rfl|rfl
    ·simp only[live,yc,go_sem,↓reduceIte,reduceCtorEq]
    ·simp only[if_neg (show ¬(1:Nat)=0 by omega),live,yc,go_sem,↓reduceIte,reduceCtorEq]
    ·simp only[if_neg (show ¬(2:Nat)=0 by omega),if_neg (show ¬(2:Nat)=1 by omega),live,yc,go_sem,zA,↓reduceIte,reduceCtorEq]
  ·simp only[ybfk,ybft,ybfr,ybfv,ybge,ybgn,varC,splice,go_sem,zA,zB,zC,zD,↓reduceIte,reduceCtorEq];refine⟨fun _=>⟨by omega,fun he=>h3.use ?_,fun he=>by omega⟩,fun h=>by omega⟩
   simp only[ybf,go_sem,zA,zB,↓reduceIte,reduceCtorEq];have e:ybh g v x=(-1,((g.ports.getD v []).length:Int)-1):=by unfold ybh;rw[if_neg (by omega),if_neg (by omega),if_pos he.symm]
   rw[e];exact Sim.refl _
def yie(n:Nat)(vars:List VarR)(b:Nat->VarR->Int×Int):SV:=.sl 1 n (fun v=>[.sl 2 vars.length (fun i=>[.i .i64 (b v (vars.getD i default)).1,.i .i64 (b v (vars.getD i default)).2])])
def rowT(vars:List VarR)(b:VarR->Int×Int):SV:=.sl 2 vars.length (fun i=>[.i .i64 (b (vars.getD i default)).1,.i .i64 (b (vars.getD i default)).2])
theorem yww(p:ProgR){g:Gr}(hg:ybb g)(hp:p.vars.all VarR.ok=true)(hl:p.vars.length<=6):Returns zH 144 [.ag (ylu p),grV g] (yie g.ids.length p.vars (ybh g)):=by
 refine Returns.of (ycvv _ _ ?_);have h24:=hg.2.1;have hid:=hg.2.2.1;obtain⟨n,hn⟩:∃n,g.ids.length=n:=⟨_,rfl⟩;obtain⟨nv,hnv⟩:∃k,p.vars.length=k:=⟨_,rfl⟩;rw[hn];rw[hnv]at hl;simp only[c144,ycom,ycff,yckl,grV,yw,ylu,splice,hn,go_sem,zF,zA,zB,zC,zD,zK,zL,zJ,↓reduceIte,reduceCtorEq];refine⟨by omega,?_⟩
 refine ybl (σ:=Nat) (fun k=>⟨[(15,.i .i64 k),(14,.i .i64 n),(5,.os (12,0) 0 n true),(2,.pt (2,0) 0 0),(3,.pt (3,0) 0 0)],
  [(2,.one (some ⟨58,true,3,1,fun _=>ylu p⟩)),(3,.one (some ⟨27,true,2,1,fun _=>[yw g.ids,ybe g.ports]⟩)),
   (12,.one (some ⟨73,false,1,n,fun i=>[if i<k then rowT p.vars (ybh g i)else .a (.slice none 0 0)]⟩))]⟩) (fun k=>k<=n) (fun k=>n-k) 0 (zN _) ?_ ?_
 ·refine yh [] [] [] ?_;simp only[ylu,yw,hn,allQ,live,yc,zG,go_sem,zA,↓reduceIte,reduceCtorEq];intro i _;rw[if_neg (by omega)]
  simp only[yc,go_sem]
 ·intro k hk;simp only[ycpb,ycdq,ycjl,ycmr,ylu,ycd,splice,hnv,go_sem,zF,zA,zB,zC,zD,zK,zL,zJ,↓reduceIte,reduceCtorEq];refine⟨fun hlt=>⟨by omega,by omega,by omega,?_⟩,fun hlt=>?_⟩
  ·have hk':k<n:=by omega
   let b:Nat->Int×Int:=fun i=>ybh g k (p.vars.getD i default)
   refine ybl (σ:=Nat) (fun j=>⟨[(28,.i .i64 j),(26,ycd p.vars),(27,.i .i64 nv),(6,.i .i64 k),(15,.i .i64 k),(14,.i .i64 n),(5,.os (12,0) 0 n true),(2,.pt (2,0) 0 0),(3,.pt (3,0) 0 0)],
    [(2,.one (some ⟨58,true,3,1,fun _=>ylu p⟩)),(3,.one (some ⟨27,true,2,1,fun _=>[yw g.ids,ybe g.ports]⟩)),
     (12,.one (some ⟨73,false,1,n,fun i=>[if i<k then rowT p.vars (ybh g i)else if i=k then .os (23,0) 0 nv true else .a (.slice none 0 0)]⟩)),
     (23,.one (some ⟨75,false,2,nv,fun i=>[.i .i64 (if i<j then(b i).1 else 0),.i .i64 (if i<j then(b i).2 else 0)]⟩))]⟩) (fun j=>j<=nv) (fun j=>nv-j) 0 (zN _) ?_ ?_
   ·refine yh [] [] [] ?_;simp only[ylu,ycd,hnv,allQ,live,yc,yu,zG,go_sem,zA,↓reduceIte,reduceCtorEq];refine⟨fun i hi=>?_,fun i hi=>?_⟩
    ·by_cases q2:i=k
     ·simp only[if_pos q2,if_neg (show ¬i<k by omega)]
      simp only[live,yc,go_sem,zA,↓reduceIte,reduceCtorEq]
     ·simp only[if_neg q2]
      by_cases q1:i<k
      ·simp only[if_pos q1];simp only[rowT,live,yc,go_sem,reduceCtorEq]
      ·simp only[if_neg q1];simp only[live,yc,go_sem,reduceCtorEq]
    ·simp only[if_neg (zAE i),and_self]
   ·intro j hj;simp only[ycgo,ycbo,ycmz,ybou,ybpd,ylu,ycd,varC,splice,hnv,go_sem,zF,zA,zB,zC,zD,zK,zL,zJ,↓reduceIte,reduceCtorEq];refine⟨fun hlt=>?_,fun hlt=>?_⟩
    ·have hj':j<nv:=by omega
     have hB:=ytw hg (x:=p.vars.getD j default) (by
      rw[getD_at (by omega)]
      exact List.all_eq_true.1 hp _ (zQ _)) (v:=k) (by omega)
     simp only[varC,grV]at hB;refine⟨by omega,by omega,by omega,by omega,by omega,hB.use ?_⟩
     simp only[ybf,splice,go_sem,zF,zA,zB,zC,zJ,↓reduceIte,reduceCtorEq];refine⟨by omega,by omega,by omega,by decide,by omega,by omega,by omega,by decide,ikw (by omega) (by omega),?_⟩
     refine yj (j+1) (by omega) (by omega) ?_
     refine yh [] [] [] ?_;simp only[allQ,live,yc,yu,go_sem,zA,↓reduceIte,reduceCtorEq];refine⟨by omega,fun i hi=>?_,fun i hi=>?_⟩
     ·by_cases q1:i<k
      ·simp only[if_pos q1];simp only[rowT,yc,go_sem]
      ·simp only[if_neg q1]
       by_cases q2:i=k
       ·simp only[if_pos q2];simp only[live,yc,go_sem,zA,↓reduceIte]
       ·simp only[if_neg q2];simp only[yc,go_sem]
     ·by_cases q2:i=j
      ·subst q2;simp only[if_pos (zAB i),↓reduceIte];simp only[live,yu,go_sem,reduceCtorEq];exact⟨rfl,rfl⟩
      ·simp only[if_neg q2]
       by_cases q1:i<j
       ·simp only[if_pos q1,if_pos (show i<j+1 by omega)]
        simp only[live,yc,go_sem,reduceCtorEq]
       ·simp only[if_neg q1,if_neg (show ¬i<j+1 by omega)]
        simp only[live,yc,go_sem,reduceCtorEq]
    ·obtain rfl:j=nv:=by omega
     refine⟨ikw (by omega) (by omega),?_⟩
     refine yj (k+1) (by omega) (by omega) ?_
     refine yh [] [] [(23,0)] ?_;simp only[allQ,live,yc,yu,go_sem,zA,zC,↓reduceIte,reduceCtorEq];refine⟨by omega,fun i hi=>?_⟩
     by_cases q1:i<k
     ·simp only[if_pos q1,if_pos (show i<k+1 by omega)]
      simp only[rowT,yc,go_sem]
     ·by_cases q2:i=k
      ·simp only[if_neg q1,if_pos q2,if_pos (show i<k+1 by omega)]
       subst q2;simp only[rowT,hnv,go_sem,zA,↓reduceIte];refine yke fun q hq=>?_;simp only[if_pos hq];simp only[SimL,go_sem];exact⟨Sim.refl _,Sim.refl _⟩
      ·simp only[if_neg q1,if_neg q2,if_neg (show ¬i<k+1 by omega)]
       simp only[yc,go_sem]
  ·obtain rfl:k=n:=by omega
   simp only[ybnt,go_sem,zF,zA,zB,zC,zD,zK,zL,zJ,↓reduceIte,reduceCtorEq];refine⟨fun q hq=>by simp only[if_pos hq];simp only[rowT,go_sem],?_⟩
   refine yke fun q hq=>?_;simp only[if_pos hq];simp only[SimL,yc,rowT,hnv,go_sem]
end Sh
end
section
namespace Sh
open Go Ev
theorem ybqn(bs:Bounds)(s:List Int)(hl:bs.length<=1000):Returns zH 192 [ybc bs,yw s] (.b (yql bs s)):=by
 refine Returns.of (ycxf _ _ ?_);simp only[c192,ycnz,ycnn,yche,ycpy,ybc,yw,ybi,go_sem,zA,zB,↓reduceIte,reduceCtorEq];refine⟨fun h=>?_,fun h=>?_⟩
 ·have:¬yql bs s=true:=fun q=>h (by rw[((yep bs s).1 q).1])
  simpa using this
 have hlen:s.length=bs.length:=by omega
 refine ybl (σ:=Nat) (fun k=>⟨[(14,.i .i64 k),(13,.i .i64 s.length),(12,yw s),(0,ybc bs)],[]⟩) (fun k=>k<=s.length/\∀i,i<k->(bs.getD i (0,0)).1<=s.getD i 0/\s.getD i 0<=(bs.getD i (0,0)).2) (fun k=>s.length-k) 0 ⟨zN _,fun i h=>absurd h (zAE _)⟩ ?_ ?_
 ·refine yh [] [] [] ?_;simp only[ybc,yw,allQ,live,yc,zG,go_sem,zA,↓reduceIte,reduceCtorEq]
 ·intro k ⟨hk,hall⟩;simp only[ycfe,yccz,ycoi,ycfk,ycbt,ycgc,ybc,yw,ybi,go_sem,zF,zA,zB,zC,zJ,↓reduceIte,reduceCtorEq]
  have hno:k<s.length->¬((bs.getD k (0,0)).1<=s.getD k 0/\s.getD k 0<=(bs.getD k (0,0)).2)->yql bs s=false:=fun hlt hn=>by
   have:¬yql bs s=true:=fun q=>hn (by
    have hb:k<bs.length:=by omega
    have:=((yep bs s).1 q).2 k bs[k] s[k] (zV hb) (zV hlt);rw[getD_at hlt,getD_at hb];exact this)
   simpa using this
  refine⟨fun hlt=>⟨by omega,by omega,by omega,fun h1=>⟨by omega,by omega,fun h2=>?_,fun h2=>⟨ikw (by omega) (by omega),?_⟩⟩,fun h1=>?_⟩,fun hlt=>?_⟩
  ·rw[hno (by omega) (by omega)]
  ·refine yj (k+1) ⟨by omega,fun i hi=>?_⟩ (by omega) ?_
   ·by_cases q:i<k
    ·exact hall i q
    ·obtain rfl:i=k:=by omega
     omega
   ·refine yh [] [] [] ?_;simp only[allQ,live,yc,yu,go_sem,zA,↓reduceIte,reduceCtorEq];simp
  ·rw[hno (by omega) (by omega)]
  ·obtain rfl:k=s.length:=by omega
   rw[(yep bs s).2 ⟨hlen,fun i b x hb hx=>by
    have h1:=(List.getElem?_eq_some_iff.1 hx).1;have:=hall i h1;simp only[zY,hb,hx,Option.getD_some]at this;exact this⟩]
theorem ybhr{n:Nat}(vars:List VarR)(hv:vars.length<=1000)(b:Nat->VarR->Int×Int)(c:Conf)(hn:n<=1000):Returns zH 156 [yie n vars b,ybj c] (.b (yoo n (fun v=>vars.map (b v)) c)):=by
 refine Returns.of (ycvs _ _ ?_);simp only[c156,ycoc,ycfp,ycpx,ycns,yie,ybj,ybi,go_sem,zF,zA,zB,zC,zD,zK,zL,zJ,↓reduceIte,reduceCtorEq];refine⟨fun h=>?_,fun h=>?_⟩
 ·rw[yhs fun q=>h (by rw[q.1])]
 have hlen:c.length=n:=by omega
 refine ybl (σ:=Nat) (fun k=>⟨[(14,.i .i64 k),(13,.i .i64 n),(12,yie n vars b),(1,ybj c)],[]⟩) (fun k=>k<=n/\∀(i:Nat) s,i<k->c[i]?=some s->yec (vars.map (b i)) s) (fun k=>n-k) 0 ⟨zN _,fun i s h=>absurd h (zAE _)⟩ ?_ ?_
 ·refine yh [] [] [] ?_;simp only[yie,ybj,allQ,live,yc,zG,go_sem,zA,↓reduceIte,reduceCtorEq]
 ·intro k ⟨hk,hall⟩;simp only[ycml,ycmh,ycgz,ycdr,ycpc,ycjr,yie,ybj,yw,ybi,go_sem,zF,zA,zB,zC,zD,zK,zL,zJ,↓reduceIte,reduceCtorEq];refine⟨fun hlt=>⟨by omega,by omega,?_⟩,fun hlt=>?_⟩
  ·have hS := ybqn (vars.map (b k)) (c.getD k []) (by simpa using hv)
   refine hS.useS ⟨?_,Sim.refl _,trivial⟩ ?_
   ·show Sim (.sl 2 vars.length _) (ybc (vars.map (b k)));unfold ybc;rw[zAM];refine yid fun i hi=>?_;simp[zY,hi]
   ·simp only[ybf,ybi,go_sem,zA,zB,↓reduceIte,reduceCtorEq];have hk':k<c.length:=by omega
    rw[getD_at hk'];refine⟨fun h1=>?_,fun h1=>⟨ikw (by omega) (by omega),?_⟩⟩
    ·rw[yhs fun q=>by
      have:=(yep _ _).2 (q.2 k c[k] (zV hk'));rw[this]at h1;cases h1]
    ·refine yj (k+1) ⟨by omega,fun i s hi hs=>?_⟩ (by omega) ?_
     ·by_cases q:i<k
      ·exact hall i s q hs
      ·obtain rfl:i=k:=by omega
       rw[zV hk']at hs;cases hs
       exact(yep _ _).1 h1
     ·refine yh [] [] [] ?_;simp only[allQ,live,yc,yu,go_sem,zA,↓reduceIte,reduceCtorEq];simp
  ·obtain rfl:k=n:=by omega
   rw[yso ⟨hlen,fun v s hs=>hall v s (by have:=(List.getElem?_eq_some_iff.1 hs).1;omega) hs⟩]
theorem yvi(c:Conf)(hc:∀s∈c,0<s.length/\s.length<=1000)(hl:c.length<=1000):Returns zH 132 [ybj c] (ybj c):=by
 refine Returns.of (ycwo _ _ ?_);obtain⟨n,hn⟩:∃n,c.length=n:=⟨_,rfl⟩;rw[hn]at hl;simp only[c132,ybox,ybow,ybmx,ybj,hn,go_sem,zA,zB,zD,↓reduceIte,reduceCtorEq];refine⟨by omega,?_⟩
 refine ybl (σ:=Nat) (fun k=>⟨[(11,.i .i64 k),(10,.i .i64 n),(9,ybj c),(3,.os (8,0) 0 n true)],[(8,.one (some ⟨22,false,1,n,fun i=>[if i<k then yw (c.getD i [])else .a (.slice none 0 0)]⟩))]⟩) (fun k=>k<=n) (fun k=>n-k) 0 (zN _) ?_ ?_
 ·refine yh [] [] [] ?_;simp only[ybj,hn,allQ,live,yc,zG,go_sem,zA,↓reduceIte,reduceCtorEq];intro i _;rw[if_neg (by omega)]
  simp only[yc,go_sem]
 ·intro k hk
  have hrow:k<n->0<(c.getD k []).length/\(c.getD k []).length<=1000:=fun h=>by
   have:=hc (c.getD k []) (by rw[getD_at (show k<c.length by omega)];exact zQ _)
   exact this
  by_cases hlt:k<n
  ·have hr:=hrow (by omega)
   have hr0:¬(c.getD k []).length=0:=by omega
   have ht:decide ((k:Int)<(n:Int))=true:=decide_eq_true (by omega)
   simp only[yzc,yzp,yzw,ybag,yxt,ybj,yw,splice,hn,hr0,ht,go_sem,zA,zB,zD,↓reduceIte,reduceCtorEq];refine⟨by omega,by omega,by omega,by omega,ikw (by omega) (by omega),?_⟩
   refine yj (k+1) (by omega) (by omega) ?_
   refine yh [] [] [(19,0)] ?_;simp only[allQ,live,yc,yu,go_sem,zA,↓reduceIte,reduceCtorEq];refine⟨by omega,fun i hi=>?_⟩
   by_cases q2:i=k
   ·subst q2;simp only[if_pos (zAB i),↓reduceIte];simp only[live,yc,go_sem,zA,↓reduceIte,reduceCtorEq]
   ·simp only[if_neg q2]
    by_cases q1:i<k
    ·simp only[if_pos q1,if_pos (show i<k+1 by omega)]
     simp only[live,yc,go_sem,reduceCtorEq]
    ·simp only[if_neg q1,if_neg (show ¬i<k+1 by omega)]
     simp only[live,yc,go_sem,reduceCtorEq]
  ·obtain rfl:k=n:=by omega
   have ht:decide ((k:Int)<(k:Int))=false:=decide_eq_false (by omega)
   simp only[yzc,yzp,yzw,ybag,yxt,ybj,yw,hn,ht,go_sem,zA,zB,↓reduceIte,reduceCtorEq];refine⟨fun q hq=>by simp only[if_pos hq];simp only[go_sem],?_⟩
   refine yke fun q hq=>?_;simp only[if_pos hq];simp only[SimL,yc,go_sem]
theorem ybvq(c:Conf)(hc:∀s∈c,0<s.length/\s.length<=1000)(hl:c.length<=1000):Cm zH 132 [] [] [ybj c] fun r o=>r = .os (8,0) 0 c.length true/\o=[(8,.one (some ⟨22,false,1,c.length,fun i=>[yw (c.getD i [])]⟩))]:=by
 refine ybxa [] [] _ _ _ ?_;obtain⟨n,hn⟩:∃n,c.length=n:=⟨_,rfl⟩;rw[hn]at hl ⊢;simp only[c132,ybox,ybow,ybmx,ybj,hn,go_sem,zA,zB,zD,↓reduceIte,reduceCtorEq];refine⟨by omega,?_⟩
 refine ybl (σ:=Nat) (fun k=>⟨[(11,.i .i64 k),(10,.i .i64 n),(9,ybj c),(3,.os (8,0) 0 n true)],[(8,.one (some ⟨22,false,1,n,fun i=>[if i<k then yw (c.getD i [])else .a (.slice none 0 0)]⟩))]⟩) (fun k=>k<=n) (fun k=>n-k) 0 (zN _) ?_ ?_
 ·refine yh [] [] [] ?_;simp only[ybj,hn,allQ,live,yc,zG,go_sem,zA,↓reduceIte,reduceCtorEq];intro i _;rw[if_neg (by omega)]
  simp only[yc,go_sem]
 ·intro k hk
  have hrow:k<n->0<(c.getD k []).length/\(c.getD k []).length<=1000:=fun h=>by
   have:=hc (c.getD k []) (by rw[getD_at (show k<c.length by omega)];exact zQ _)
   exact this
  by_cases hlt:k<n
  ·have hr:=hrow (by omega)
   have hr0:¬(c.getD k []).length=0:=by omega
   have ht:decide ((k:Int)<(n:Int))=true:=decide_eq_true (by omega)
   simp only[yzc,yzp,yzw,ybag,yxt,ybj,yw,splice,hn,hr0,ht,go_sem,zA,zB,zD,↓reduceIte,reduceCtorEq];refine⟨by omega,by omega,by omega,by omega,ikw (by omega) (by omega),?_⟩
   refine yj (k+1) (by omega) (by omega) ?_
   refine yh [] [] [(19,0)] ?_;simp only[allQ,live,yc,yu,go_sem,zA,↓reduceIte,reduceCtorEq];refine⟨by omega,fun i hi=>?_⟩
   by_cases q2:i=k
   ·subst q2;simp only[if_pos (zAB i),↓reduceIte];simp only[live,yc,go_sem,zA,↓reduceIte,reduceCtorEq]
   ·simp only[if_neg q2]
    by_cases q1:i<k
    ·simp only[if_pos q1,if_pos (show i<k+1 by omega)]
     simp only[live,yc,go_sem,reduceCtorEq]
    ·simp only[if_neg q1,if_neg (show ¬i<k+1 by omega)]
     simp only[live,yc,go_sem,reduceCtorEq]
  ·obtain rfl:k=n:=by omega
   have ht:decide ((k:Int)<(k:Int))=false:=decide_eq_false (by omega)
   simp only[yzc,yzp,yzw,ybag,yxt,ybj,yw,hn,ht,ymp,go_sem,zA,zB,↓reduceIte,reduceCtorEq];refine⟨.os (8,0) 0 k true,[(8,.one (some ⟨22,false,1,k,fun i=>[yw (c.getD i [])]⟩))],?_,?_,rfl,rfl⟩
   ·refine yh [] [] [] ?_;simp only[yw,allQ,live,yc,go_sem,↓reduceIte,reduceCtorEq];intro i hi;simp only[if_pos hi];simp only[yc,go_sem]
   ·simp only[ydt,yhw,allQ,live,go_sem,↓reduceIte]
end Sh
end
section
namespace Sh
open Go Ev
theorem ygi(p:ProgR){g:Gr}(hg:ybb g){nv:Nat}{c:Conf}(hc:ConfIn g.ports.length nv c){v:Nat}(hv:v<g.ports.length)(e:List Tm)(hl:e.length<=1000):∀x:Ex,ybls p g nv c v e x
 | .leaf op arg=>by
   intro bnd port at_ rest ho hp hpi he;obtain⟨d1,d2,d3⟩:=yei (show e.drop at_=(op,arg)::rest from he)
   have hL:=ybxk p hg hc hv e ho port hp;have hr:=ho;simp only[Ex.ok,zI,decide_eq_true_eq]at hr;simp only[yhg,ybc]at hL;refine Returns.of (yrl _ _ ?_);simp only[c220,yti,yte,ytx,ytt,yuj,yuc,yth,ytq,ytb,ytv,yma,ynf,ymr,yml,ymn,yni,ync,yms,ynd,yhg,ybc,d2,splice,go_sem,zA,zB,zC,zD,↓reduceIte,reduceCtorEq];refine⟨by omega,fun h=>hL.use ?_,fun h=>by omega⟩
   simp only[ybf,go_sem,zA,zB,↓reduceIte,reduceCtorEq];refine⟨ikw (by omega) (by omega),?_⟩
   exact Sim.refl _
 | .un op a=>by
   intro bnd port at_ rest ho hp hpi he;obtain⟨d1,d2,d3⟩:=yei (show e.drop at_=(op,0)::(a.ser++rest)from he)
   have hr:=ho;simp only[Ex.ok,zI,decide_eq_true_eq]at hr;have hV:=ygi p hg hc hv e hl a bnd port (at_+1) rest hr.2 hp hpi d3;rw[show((at_+1:Nat):Int)=(at_:Int)+1 by omega]at hV
   have hU:=ybmr op (ycu g c v a port) (ygf hg rfl hc hv a hr.2 hp hpi);simp only[yhg,ybc]at hV;refine Returns.of (yrl _ _ ?_);simp only[c220,yti,yte,ytx,ytt,yuj,yuc,yth,ytq,ytb,ytv,yma,ynf,ymr,yml,ymn,yni,ync,yms,ynd,yhg,ybc,d2,splice,go_sem,zA,zB,zC,zD,↓reduceIte,reduceCtorEq];refine⟨by omega,fun h=>by omega,fun h=>⟨fun h=>⟨ikw (by omega) (by omega),hV.use ?_⟩,fun h=>by omega⟩⟩
   simp only[ybf,go_sem,zA,zB,zC,↓reduceIte,reduceCtorEq];refine hU.use ?_;simp only[go_sem];rw[show at_+(Ex.un op a).ser.length=at_+1+a.ser.length by simp[Ex.ser];omega]
   exact Sim.refl _
 | .agg op a=>by
   intro bnd port at_ rest ho hp hpi he;obtain⟨d1,d2,d3⟩:=yei (show e.drop at_=(op,0)::(a.ser++rest)from he)
   have hr:=ho;simp only[Ex.ok,zI,decide_eq_true_eq]at hr;have ho2:(Ex.agg op a).ok nv true=true:=by simp only[Ex.ok,zI,decide_eq_true_eq];exact hr
   have hA:=ywo p hg hc hv e hl ho2 (ygi p hg hc hv e hl a) at_ rest he;simp only[yhg,ybc]at hA;refine Returns.of (yrl _ _ ?_);simp only[c220,yti,yte,ytx,ytt,yuj,yuc,yth,ytq,ytb,ytv,yma,ynf,ymr,yml,ymn,yni,ync,yms,ynd,yhg,ybc,d2,splice,go_sem,zA,zB,zC,zD,↓reduceIte,reduceCtorEq];refine⟨by omega,fun h=>by omega,fun h=>⟨fun h=>by omega,fun h=>⟨fun h=>hA.use ?_,fun h=>by omega⟩⟩⟩
   simp only[ybf,go_sem,zA,zB,↓reduceIte,reduceCtorEq];exact Sim.refl _
 | .bin op a b=>by
   intro bnd port at_ rest ho hp hpi he;obtain⟨d1,d2,d3⟩:=yei (show e.drop at_=(op,0)::((a.ser++b.ser)++rest)from he)
   have hr:=ho;simp only[Ex.ok,zI,decide_eq_true_eq]at hr;rw[zAG]at d3
   have hfit:at_+1+a.ser.length<=e.length:=by
    have:=congrArg zAS d3;simp at this;omega
   have hV1:=ygi p hg hc hv e hl a bnd port (at_+1) _ hr.1.2 hp hpi d3;have hV2:=ygi p hg hc hv e hl b bnd port (at_+1+a.ser.length) _ hr.2 hp hpi (yoz d3);rw[show((at_+1:Nat):Int)=(at_:Int)+1 by omega]at hV1
   have hB:=ybjn op (ycu g c v a port) (ycu g c v b port) (ygf hg rfl hc hv a hr.1.2 hp hpi) (ygf hg rfl hc hv b hr.2 hp hpi);simp only[yhg,ybc]at hV1 hV2;refine Returns.of (yrl _ _ ?_);simp only[c220,yti,yte,ytx,ytt,yuj,yuc,yth,ytq,ytb,ytv,yma,ynf,ymr,yml,ymn,yni,ync,yms,ynd,yhg,ybc,d2,splice,go_sem,zA,zB,zC,zD,↓reduceIte,reduceCtorEq];refine⟨by omega,fun h=>by omega,fun h=>⟨fun h=>by omega,fun h=>⟨fun h=>by omega,fun h=>⟨fun h=>⟨ikw (by omega) (by omega),hV1.use ?_⟩,fun h=>by omega⟩⟩⟩⟩
   simp only[ybf,go_sem,zA,zB,↓reduceIte,reduceCtorEq];refine hV2.use ?_;simp only[go_sem,zA,zB,zC,↓reduceIte];refine hB.use ?_;simp only[go_sem];rw[show at_+(Ex.bin op a b).ser.length=at_+1+a.ser.length+b.ser.length by simp[Ex.ser];omega]
   exact Sim.refl _
 | .ite x a b=>by
   intro bnd port at_ rest ho hp hpi he;obtain⟨d1,d2,d3⟩:=yei (show e.drop at_=(43,0)::((x.ser++(a.ser++b.ser))++rest)from he)
   have hr:=ho;simp only[Ex.ok,zI]at hr;rw[zAG,zAG]at d3
   have hfit:at_+1+x.ser.length+a.ser.length<=e.length:=by
    have:=congrArg zAS d3;simp at this;omega
   have hV1:=ygi p hg hc hv e hl x bnd port (at_+1) _ hr.1.1 hp hpi d3;have hV2:=ygi p hg hc hv e hl a bnd port (at_+1+x.ser.length) _ hr.1.2 hp hpi (yoz d3);have hV3:=ygi p hg hc hv e hl b bnd port (at_+1+x.ser.length+a.ser.length) _ hr.2 hp hpi (yoz (yoz d3));rw[show((at_+1:Nat):Int)=(at_:Int)+1 by omega]at hV1
   simp only[yhg,ybc]at hV1 hV2 hV3;refine Returns.of (yrl _ _ ?_);simp only[c220,yti,yte,ytx,ytt,yuj,yuc,yth,ytq,ytb,ytv,yma,ynf,ymr,yml,ymn,yni,ync,yms,ynd,yhg,ybc,d2,splice,go_sem,zA,zB,zC,zD,↓reduceIte,reduceCtorEq];refine⟨by omega,fun h=>by omega,fun h=>⟨fun h=>by omega,fun h=>⟨fun h=>by omega,fun h=>⟨fun h=>by omega,fun h=>⟨ikw (by omega) (by omega),hV1.use ?_⟩⟩⟩⟩⟩
   simp only[ybf,go_sem,zA,zB,↓reduceIte,reduceCtorEq];refine hV2.use ?_;simp only[go_sem,zA,↓reduceIte,reduceCtorEq];refine hV3.use ?_;simp only[go_sem,zA,zB,↓reduceIte,reduceCtorEq];rw[show at_+(Ex.ite x a b).ser.length=at_+1+x.ser.length+a.ser.length+b.ser.length by simp[Ex.ser];omega]
   refine⟨fun h0=>?_,fun h0=>?_⟩
   ·show Sim _ (.tp [.i .i64 (if _ then _ else _),_])
    rw[if_pos h0];exact Sim.refl _
   ·show Sim _ (.tp [.i .i64 (if _ then _ else _),_])
    rw[if_neg (not_not_intro h0)];exact Sim.refl _
theorem yyr(p:ProgR){g:Gr}(hg:ybb g){nv:Nat}{c:Conf}(hc:ConfIn g.ports.length nv c){v:Nat}(hv:v<g.ports.length)(x:Ex)(hx:x.ok nv false=true)(hl:x.ser.length<=1000) :
 Returns zH 193 [.rf (yeu p g),ybj c,.i .i64 v,ybc x.ser] (.i .i64 (ycu g c v x (-1))):=by
 have hV:=ygi p hg hc hv x.ser hl x false (-1) 0 [] hx (fun q=>by cases q) (by unfold InB;omega) (by simp)
 refine Returns.of (ycwj _ _ ?_);simp only[yhg,yeu,ybj,yw,ybc,ybe,ydi,zG]at hV;simp only[c193,ycfy,ycee,ycjs,ycpz,yeu,ybj,yw,ybc,ybe,ydi,splice,go_sem,zA,zB,zC,zD,↓reduceIte,reduceCtorEq];refine .inl (hV.use ?_);simp only[ybf,yu,go_sem,zA,zB,↓reduceIte,reduceCtorEq]
end Sh
end
section
theorem yph{a:Nat}(h:a<2^32):IntKind.wrap .u32 (a:Int)=a:=by
 unfold IntKind.wrap;simp[IntKind.bits,IntKind.signed];omega
theorem u32_and{a b:Nat}(ha:a<2^32)(hb:b<2^32):IntKind.wrap .u32 (((zM (IntKind.bits .u32) (a:Int))&&&zM (IntKind.bits .u32) (b:Int)).toNat:Int)=((a&&&b:Nat):Int):=by
 show IntKind.wrap .u32 (((zM 32 (a:Int))&&&zM 32 (b:Int)).toNat:Int)=_;rw[zT,zT,BitVec.toNat_and,zZ,zZ,zAC ha,zAC hb];exact yph (zAQ zAV ha)
theorem u32_or{a b:Nat}(ha:a<2^32)(hb:b<2^32):IntKind.wrap .u32 (((zM (IntKind.bits .u32) (a:Int))|||zM (IntKind.bits .u32) (b:Int)).toNat:Int)=((a|||b:Nat):Int):=by
 show IntKind.wrap .u32 (((zM 32 (a:Int))|||zM 32 (b:Int)).toNat:Int)=_;rw[zT,zT,BitVec.toNat_or,zZ,zZ,zAC ha,zAC hb];exact yph (Nat.or_lt_two_pow ha hb)
theorem u32_andNot{a b:Nat}(ha:a<2^32)(hb:b<2^32):IntKind.wrap .u32 (((zM (IntKind.bits .u32) (a:Int)) &&& ~~~zM (IntKind.bits .u32) (b:Int)).toNat:Int)=((difB a b:Nat):Int):=by
 show IntKind.wrap .u32 (((zM 32 (a:Int)) &&& ~~~zM 32 (b:Int)).toNat:Int)=_
 have e:((zM 32 (a:Int)) &&& ~~~zM 32 (b:Int)).toNat=difB a b:=by
  rw[zT,zT];refine zAN fun i=>?_;rw[ylb,BitVec.testBit_toNat,BitVec.getLsbD_and,BitVec.getLsbD_not,zAO,zAO]
  by_cases hi:i<32
  ·simp[hi]
  ·rw[zX (zW ha (zU (by omega) (by omega)))]
   simp
 rw[e];exact yph (ybcu ha)
theorem u32_neg{a:Nat}(h0:0<a)(ha:a<2^32):IntKind.wrap .u32 (0-(a:Int))=((2^32-a:Nat):Int):=by
 unfold IntKind.wrap;simp[IntKind.bits,IntKind.signed];omega
theorem ywa{v:Nat}(hv:v<32):IntKind.wrap .u32 (1*2^(v:Int).toNat)=((2^v:Nat):Int):=by
 have h:2^v<2^32:=zAP (by omega) hv
 have:=yph h;rw[zAA,Int.one_mul];rw[<-this]
 norm_cast
theorem ybnr{a v:Nat}:(a:Int).fdiv (2^(v:Int).toNat)=((a>>>v:Nat):Int):=by
 rw[zAA,zAJ];rw[Int.fdiv_eq_ediv_of_nonneg _ (Int.pow_nonneg (by omega))]
 simp
theorem ycta(a v:Nat):((a>>>v)&&&1=1)↔a.testBit v=true:=by
 rw[zAW,bne_iff_ne];rw[Nat.and_comm 1 (a>>>v)];rw[Nat.and_one_is_mod];omega
theorem ycao{s v:Nat}(hs:s<2^32):IntKind.wrap .u32 (((zM (IntKind.bits .u32) ((s:Int).fdiv (2^v)))&&&zM (IntKind.bits .u32) 1).toNat:Int)=(((s>>>v)&&&1:Nat):Int):=by
 have h:=ybnr (a:=s) (v:=v);rw[zAA]at h;rw[h];have h2:s>>>v<2^32:=by rw[zAJ];exact zAQ (Nat.div_le_self _ _) hs
 exact u32_and (a:=s>>>v) (b:=1) h2 (by decide)
theorem yzu{s v:Nat}:((((s>>>v)&&&1:Nat):Int)=1)↔s.testBit v=true:=by
 rw[<-ycta s v];omega
def resS(e _w:Nat):Nat:=e
end
section
namespace Sh
open Go Ev
def ydr(p:ProgR)(g:Gr):List SV:=[.a (.string p.name),ycd p.vars,ycl p.rules,.rf (yeu p g),yie g.ids.length p.vars (ybh g)]
theorem yxv(p:ProgR){g:Gr}(hg:ybb g)(hp:p.vars.all VarR.ok=true)(hl:p.vars.length<=6):Returns zH 93 [.ag (ylu p),grV g] (.rf (ydr p g)):=by
 refine Returns.of (ydbq _ _ ?_);have hS:=ywu p hg;have hT:=yww p hg hp hl;simp only[ylu,grV]at hS hT;simp only[c93,ydbe,ycyr,ylu,grV,go_sem,zA,zB,zD,↓reduceIte,reduceCtorEq];refine hS.use ?_;simp only[ybf,go_sem,zA,zB,zC,zD,↓reduceIte,reduceCtorEq];refine hT.use ?_;simp only[yie,ydr,go_sem,zA,zB,zC,↓reduceIte];refine⟨by decide,by decide,Sim.refl _⟩
theorem ybsq(p:ProgT){g:Gr}(hg:ybb g)(hp:p.ok=true){c:Conf}(hc:ConfIn g.ports.length p.vars.length c){v:Nat}(hv:v<g.ports.length){r:Nat}(hr:r<p.rules.length) :
 Returns zH 172 [.rf (yeu p.raw g),ybj c,.i .i64 v,.i .i64 r] (.b (yhy g c v (p.rules.getD r default))):=by
 refine Returns.of (ycrx _ _ ?_);obtain⟨R,hR⟩:∃R,p.rules.getD r default=R:=⟨_,rfl⟩
 have hok:R.ok p.vars.length=true:=by
  unfold ProgT.ok at hp;simp only[zI]at hp;rw[<-hR,getD_at hr];exact List.all_eq_true.1 hp.2 _ (zQ _)
 unfold RuleT.ok at hok;simp only[zI,decide_eq_true_eq]at hok;have hV:=yyr p.raw hg hc hv R.guard hok.1.1.1 hok.1.1.2
 have hraw:p.raw.rules.getD r default=R.raw:=by
  rw[<-hR];simp[ProgT.raw,zY,hr]
 have hlen:p.raw.rules.length=p.rules.length:=by simp[ProgT.raw]
 simp only[yeu,ycl,hlen]at hV;rw[hR];simp only[c172,ycok,ycqc,yeu,ycl,hraw,hlen,go_sem,zA,zB,zC,↓reduceIte,reduceCtorEq];refine⟨by omega,hV.use ?_⟩
 simp only[ybf,ybi,yhy,go_sem,zA,zB,↓reduceIte,reduceCtorEq]
theorem ycyk{p:ProgT}{g:Gr}{c:Conf}{v k:Nat}(hk:k<p.rules.length)(hn:(p.rules.take k).findIdx? (yhy g c v)=none)(h:yhy g c v (p.rules.getD k default)=true):yfg p g c v=k:=by
 unfold yfg
 have:p.rules.findIdx? (yhy g c v)=some k:=by
  rw[List.findIdx?_eq_some_iff_getElem];refine⟨hk,by rwa [getD_at hk]at h,fun j hj=>?_⟩
  rw[List.findIdx?_eq_none_iff]at hn;have:=hn p.rules[j] (List.mem_take_iff_getElem.2 ⟨j,by omega,rfl⟩)
  simpa using this
 rw[this]
theorem ybjb{p:ProgT}{g:Gr}{c:Conf}{v:Nat}(hn:(p.rules.take p.rules.length).findIdx? (yhy g c v)=none):yfg p g c v = -1:=by
 unfold yfg;rw[zAK]at hn;rw[hn]
theorem ybxq(p:ProgT)(g:Gr)(c:Conf)(v:Nat):-1<=yfg p g c v/\yfg p g c v<p.rules.length:=by
 unfold yfg;split
 ·rename_i i hi
  obtain⟨h,_⟩:=List.findIdx?_eq_some_iff_getElem.1 hi;omega
 ·omega
theorem ybhd(p:ProgT){g:Gr}(hg:ybb g)(hp:p.ok=true){c:Conf}(hc:ConfIn g.ports.length p.vars.length c){v:Nat}(hv:v<g.ports.length) :
 Returns zH 147 [.rf (ydr p.raw g),ybj c,.i .i64 v] (.i .i64 (yfg p g c v)):=by
 refine Returns.of (ycrt _ _ ?_);have hlen:p.raw.rules.length=p.rules.length:=by simp[ProgT.raw]
 have h12:p.rules.length<=12:=by
  unfold ProgT.ok at hp;simp only[zI,decide_eq_true_eq]at hp;exact hp.1.2
 simp only[c147,ycin,yceh,ydr,ycl,hlen,go_sem,zA,zB,zC,↓reduceIte,reduceCtorEq];refine ybl (σ:=Nat) (fun k=>⟨[(14,.i .i64 k),(13,.i .i64 p.rules.length),(0,.rf (ydr p.raw g)),(1,ybj c),(2,.i .i64 v)],[]⟩) (fun k=>k<=p.rules.length/\(p.rules.take k).findIdx? (yhy g c v)=none) (fun k=>p.rules.length-k) 0 ⟨zN _,by simp⟩ ?_ ?_
 ·refine yh [] [] [] ?_;simp only[ydr,ycl,hlen,allQ,live,yc,zG,go_sem,zA,↓reduceIte,reduceCtorEq]
 ·intro k ⟨hk,hno⟩;simp only[ycbi,yccs,ycmw,yccd,ycko,yccy,ydr,yu,go_sem,zA,zB,zC,↓reduceIte,reduceCtorEq];refine⟨fun hlt=>?_,fun hlt=>?_⟩
  ·have hk':k<p.rules.length:=by omega
   refine(ybsq p hg hp hc hv hk').use ?_;simp only[ybf,yu,go_sem,zA,zB,↓reduceIte,reduceCtorEq];refine⟨fun h=>by rw[ycyk hk' hno h],fun h=>⟨ikw (by omega) (by omega),?_⟩⟩
   refine yj (k+1) ⟨by omega,?_⟩ (by omega) ?_
   ·rw[zAD hk',List.findIdx?_append,hno];rw[getD_at hk']at h;simp[h]
   ·refine yh [] [] [] ?_;simp only[allQ,live,yc,yu,go_sem,zA,↓reduceIte,reduceCtorEq];simp
  ·obtain rfl:k=p.rules.length:=by omega
   rw[ybjb hno]
theorem ybql(n:Nat)(hn:n<=32)(h:FuncId)(cp:List SV)(f:Nat->Bool)(hcp4:cp.any (owned 4)=false)(hf:∀v,v<n->Returns zH h (.i .i64 v::cp) (.b (f v))):Returns zH 145 [.i .i64 n,.fn h [] cp] (.i .u32 (yka f n)):=by
 refine Returns.of (ycud _ _ ?_);have hcp:=ysc hcp4;simp only[c145,ycbs,ycdy,yclz,go_sem,zF,zA,zB,zC,zD,zK,zL,zJ,↓reduceIte,reduceCtorEq];refine ybl (σ:=Nat) (fun k=>⟨[(8,.i .i64 k),(7,.i .i64 n),(1,.fn h [] cp),(5,.i .u32 (yka f k))],[]⟩) (fun k=>k<=n) (fun k=>n-k) 0 (zN _) ?_ ?_
 ·refine yh [] [] [] ?_;simp only[yhu _ hcp4,yhl _ hcp4,yka,allQ,live,yc,zG,go_sem,zA,↓reduceIte,reduceCtorEq]
 ·intro k hk;simp only[ycha,ycnb,ychf,ychb,yccj,ycfh,yu,hcp,List.any_append,List.any_cons,List.any_nil,go_sem,zF,zA,zB,zC,zD,zK,zL,zJ,↓reduceIte,reduceCtorEq];refine⟨fun hlt=>(hf k (by omega)).use ?_,fun hlt=>?_⟩
  ·have hk':k<n:=by omega
   have hb1:yka f k<2^32:=zW (ybhe f k) (zU (by omega) (by omega))
   have hb2:2^k<2^32:=zAP (by omega) (by omega)
   simp only[ybf,IntKind.bits,go_sem,zA,zB,↓reduceIte,reduceCtorEq];refine⟨fun h1=>⟨by omega,ikw (by omega) (by omega),?_⟩,fun h1=>⟨ikw (by omega) (by omega),?_⟩⟩
   ·refine yj (k+1) (by omega) (by omega) ?_
    refine yh [] [] [] ?_;have e1:=ywa (v:=k) (by omega)
    have e2:=u32_or hb1 hb2;rw[zAA]at e1;simp only[yhu _ hcp4,yhl _ hcp4,e1,allQ,live,yc,yu,go_sem,zA,↓reduceIte,reduceCtorEq];refine⟨by omega,?_⟩
    rw[show yka f (k+1)=yka f k|||2^k by show(if f k then _ else _)=_;rw[if_pos h1]]
    exact e2
   ·refine yj (k+1) (by omega) (by omega) ?_
    refine yh [] [] [] ?_;simp only[yhu _ hcp4,yhl _ hcp4,allQ,live,yc,yu,go_sem,zA,↓reduceIte,reduceCtorEq];rw[show yka f (k+1)=yka f k by show(if f k then _ else _)=_;rw[if_neg (by rw[h1];simp)]]
    simp
  ·obtain rfl:k=n:=by omega
   rfl
theorem ybar(p:ProgT){g:Gr}(hg:ybb g)(hp:p.ok=true){c:Conf}(hc:ConfIn g.ports.length p.vars.length c){v:Nat}(hv:v<g.ports.length) :
 Returns zH 146 [.i .i64 v,.rf [.rf (ydr p.raw g)],.rf [ybj c]] (.b (decide (yfg p g c v>=0))):=by
 refine Returns.of (ycvy _ _ ?_);have hR:=ybhd p hg hp hc hv;simp only[c146,ycpg,ycmg,ybi,go_sem,zF,zA,zB,zC,zD,zK,zL,zJ,↓reduceIte,reduceCtorEq];refine hR.use ?_;simp only[ybf,ybi,go_sem,zA,zB,↓reduceIte,reduceCtorEq]
theorem yog(p:ProgT){g:Gr}(hg:ybb g)(hp:p.ok=true){c:Conf}(hc:ConfIn g.ports.length p.vars.length c) :
 Returns zH 94 [.rf (ydr p.raw g),ybj c] (.i .u32 (ybs p g c)):=by
 refine Returns.of (ycza _ _ ?_);have hid:=hg.2.2.1;have h24:=hg.2.1;have hN:=ybql g.ids.length (by omega) 146 [.rf [.rf (ydr p.raw g)],.rf [ybj c]] (fun v=>decide (yfg p g c v>=0)) rfl (fun v hv=>ybar p hg hp hc (by omega))
 simp only[ydr]at hN;simp only[c94,ydar,ydaf,ydr,yie,go_sem,zA,zB,zC,zD,↓reduceIte,reduceCtorEq];simp only[yie]at hN;refine .inl (hN.use ?_);simp only[ybf,yu,go_sem,zA,zB,↓reduceIte,reduceCtorEq];rfl
theorem ynz(p:ProgT)(g:Gr)(c:Conf)(v:Nat):∀(sets:List (Int×Ex)) (s0:List Int),(ylm p g c v s0 sets).length=s0.length
 |[],_=>rfl
 | a::sets,s0=>by
   show(ylm p g c v (s0.set _ _) sets).length=_;rw[ynz p g c v sets];simp
theorem ybkm(p:ProgT)(g:Gr)(c:Conf)(v:Nat)(s0:List Int)(sets:List (Int×Ex))(k:Nat)(h:k<sets.length) :
 ylm p g c v s0 (sets.take (k+1))=(ylm p g c v s0 (sets.take k)).set (sets.getD k default).1.toNat (yic (p.vars.getD (sets.getD k default).1.toNat default).kind (ybh g v (p.vars.getD (sets.getD k default).1.toNat default)) (ycu g c v (sets.getD k default).2 (-1))):=by
 unfold ylm;rw[zAD h,List.foldl_append,getD_at h];rfl
theorem ybxj(p:ProgT){g:Gr}(hg:ybb g)(hp:p.ok=true){c:Conf}(hc:ConfIn g.ports.length p.vars.length c){v:Nat}(hv:v<g.ports.length){r:Nat}(hr:r<p.rules.length) :
 Returns zH 157 [.rf (ydr p.raw g),ybj c,.i .i64 v,.i .i64 r] (yw (yxx p g c v r)):=by
 refine Returns.of (ycqn _ _ ?_);obtain⟨R,hR⟩:∃R,p.rules.getD r default=R:=⟨_,rfl⟩;have hp':=hp;unfold ProgT.ok at hp';simp only[zI,decide_eq_true_eq]at hp'
 have hok:R.ok p.vars.length=true:=by
  rw[<-hR,getD_at hr];exact List.all_eq_true.1 hp'.2 _ (zQ _)
 unfold RuleT.ok at hok;simp only[zI,decide_eq_true_eq]at hok
 have hraw:p.raw.rules.getD r default=R.raw:=by
  rw[<-hR];simp[ProgT.raw,zY,hr]
 have hlen:p.raw.rules.length=p.rules.length:=by simp[ProgT.raw]
 have hsl:R.raw.sets.length=R.sets.length:=by simp[RuleT.raw]
 have hid:=hg.2.2.1;have hcl:=hc.len;have hrow:=hc.at_ hv;have hne:¬(c.getD v []).length=0:=by omega
 simp only[c157,ycoh,ycod,ycos,hne,ydr,ycl,ygq,hraw,hlen,hsl,ybj,yw,go_sem,zA,zB,zC,zD,↓reduceIte,reduceCtorEq];obtain⟨nv,hnv⟩:∃k,p.vars.length=k:=⟨_,rfl⟩;have hrl:=hrow.1;rw[hnv]at hrl hok hc;rw[hnv]at hp';have hmv:yxx p g c v r=ylm p g c v (c.getD v []) R.sets:=by unfold yxx;rw[hR]
 have hml:∀k,(ylm p g c v (c.getD v []) (R.sets.take k)).length=nv:=fun k=>(ynz p g c v _ _).trans hrl;refine⟨by omega,by omega,by omega,?_⟩
 refine ybl (σ:=Nat) (fun k=>⟨[(28,.i .i64 k),(27,.i .i64 R.sets.length),(26,ygq R.raw.sets),(0,.rf (ydr p.raw g)),(1,ybj c),(2,.i .i64 v),(9,.os (17,0) 0 nv true)],
  [(17,.one (some ⟨3,false,1,nv,fun i=>[.i .i64 ((ylm p g c v (c.getD v []) (R.sets.take k)).getD i 0)]⟩))]⟩) (fun k=>k<=R.sets.length) (fun k=>R.sets.length-k) 0 (zN _) ?_ ?_
 ·refine yh [] [] [] ?_;simp only[ydr,ycl,ygq,hlen,hsl,hrl,ybj,yw,allQ,live,yc,yu,zG,go_sem,zA,↓reduceIte,reduceCtorEq];simp[ylm]
 ·intro k hk;simp only[ycly,ycje,ychq,ydr,ygq,hsl,splice,go_sem,zA,zB,zC,zD,↓reduceIte,reduceCtorEq];refine⟨fun hlt=>?_,fun hlt=>?_⟩
  ·have hk':k<R.sets.length:=by omega
   obtain⟨S,hS⟩:∃S,R.sets.getD k default=S:=⟨_,rfl⟩
   have hset:R.raw.sets.getD k default=⟨S.1,S.2.ser⟩:=by
    rw[<-hS];simp[RuleT.raw,zY,hk']
   have hSok:=List.all_eq_true.1 hok.2 S (by rw[<-hS,getD_at hk'];exact zQ _)
   simp only[zI,decide_eq_true_eq]at hSok;have hV:=yyr p.raw hg hc hv S.2 hSok.1.2 hSok.2;refine⟨by omega,?_⟩
   rw[hset];refine hV.use ?_;have hB:=ybks (p.vars.getD S.1.toNat default).kind (ybh g v (p.vars.getD S.1.toNat default)) (ycu g c v S.2 (-1));have hvars:p.raw.vars=p.vars:=rfl;simp only[ycmm,ybf,yie,ycd,varC,splice,hvars,hnv,go_sem,zA,zB,zC,↓reduceIte,reduceCtorEq];refine⟨by omega,by omega,by omega,hB.use ?_⟩
   simp only[go_sem,zA,↓reduceIte];have hb2:zAW 134217727 25=true:=by decide
   simp only[ycew,hb2,go_sem,zA,zB,↓reduceIte,reduceCtorEq];refine⟨by omega,by omega,ikw (by omega) (by omega),?_⟩
   refine yj (k+1) (by omega) (by omega) ?_
   refine yh [] [] [] ?_;simp only[ybkm p g c v _ _ k hk',hS,allQ,live,yc,yu,go_sem,zA,↓reduceIte,reduceCtorEq];refine⟨by omega,fun i hi=>?_⟩
   rw[ycaj (by rw[hml];omega)]
   by_cases q:i=S.1.toNat
   ·simp only[if_pos q];simp only[live,yc,go_sem,reduceCtorEq]
   ·simp only[if_neg q];simp only[live,yc,go_sem,reduceCtorEq]
  ·obtain rfl:k=R.sets.length:=by omega
   simp only[ycea,go_sem,zA,zB,↓reduceIte,reduceCtorEq];have hl:=hml R.sets.length;rw[zAK]at hl ⊢;rw[hmv,hl];exact Sim.refl _
theorem ylc(p:ProgT)(g:Gr)(c:Conf)(s:Nat){v:Nat}(hv:v<c.length):(yit p g c s).getD v []=if s.testBit v then yxx p g c v (yfg p g c v).toNat else c.getD v []:=by
 unfold yit;simp[zY,hv]
theorem ydh(p:ProgT)(g:Gr)(c:Conf)(s:Nat):(yit p g c s).length=c.length:=by simp[yit]
theorem ybwk(p:ProgT){g:Gr}(hg:ybb g)(hp:p.ok=true){c:Conf}(hc:ConfIn g.ports.length p.vars.length c){s:Nat}(hs:s<2^32)(hen:subB s (ybs p g c)) :
 Returns zH 113 [.rf (ydr p.raw g),ybj c,.i .u32 s] (ybj (yit p g c s)):=by
 refine Returns.of (ybyi [132] _ _ ?_);have h24:=hg.2.1;have hcl:=hc.len;have hp':=hp;unfold ProgT.ok at hp';simp only[zI,decide_eq_true_eq]at hp';have hC:=ybvq c (fun x hx=>by have:=(hc.row x hx).1;omega) (by omega)
 simp only[c113,ycjn,ycpf,go_sem,zF,zA,zB,zC,zD,zK,zL,zJ,↓reduceIte,reduceCtorEq];refine yhm hC [] 100 [0,1,2] [] ?_ ?_
 ·simp only[go_sem,ydt,yhw,yfp,yex,allQ,live,yc,go_sem,zA,↓reduceIte,reduceCtorEq]
 ·rintro r o' ⟨rfl,rfl⟩;simp only[ycpa,ybj,yw,ywi,yqi,nuF,nu,difN,yfp,yex,Fam.ren,OB.ren,dim,yfo,yzv,yxh,ynl,ynj,yiq,yny,ynm,yoc,yob,ynp,yoj,go_sem,zF,zA,zB,zC,zD,zK,zL,zJ,↓reduceIte,reduceCtorEq];obtain⟨n,hn⟩:∃n,c.length=n:=⟨_,rfl⟩
  let row:Nat->Nat->List Int:=fun k i=>if i<k then(yit p g c s).getD i []else c.getD i []
  refine ybl (σ:=Nat) (fun k=>⟨[(13,.i .i64 k),(12,.i .i64 n),(7,.os (108,0) 0 n true),(0,.rf (ydr p.raw g)),(1,ybj c),(2,.i .u32 s)],
   [(108,.one (some ⟨22,false,1,n,fun i=>[yw (row k i)]⟩))]⟩) (fun k=>k<=n) (fun k=>n-k) 0 (zN _) ?_ ?_
  ·refine yh [] [] [] ?_;simp only[ybj,hn,allQ,live,yc,zG,go_sem,zA,↓reduceIte,reduceCtorEq];refine⟨Sim.refl _,fun i hi=>?_⟩;simp only[row,if_neg (zAE i)];exact Sim.refl _
  ·intro k hk;have ht:=ycao (s:=s) (v:=k) hs;simp only[IntKind.bits]at ht;simp only[ycid,ycmx,ycmy,ycbp,ycou,ycmu,hn,IntKind.bits,ht,yzu,go_sem,zF,zA,zB,zC,zD,zK,zL,zJ,↓reduceIte,reduceCtorEq];refine⟨fun hlt=>⟨by omega,fun h1=>?_,fun h1=>?_⟩,fun hlt=>?_⟩
   ·have hk':k<c.length:=by omega
    have hkg:k<g.ports.length:=by omega
    have hr0:0<=yfg p g c k:=by
     have:=hen k h1;unfold ybs at this;rw[ykr]at this;simp only[zI,decide_eq_true_eq]at this;exact this.2
    have hrl:=(ybxq p g c k).2;have hr1:yfg p g c k=((yfg p g c k).toNat:Int):=by omega
    refine(ybhd p hg hp hc hkg).use ?_;simp only[ybf,splice,go_sem,zA,zB,zK,↓reduceIte,reduceCtorEq];have hM:=ybxj p hg hp hc hkg (r:=(yfg p g c k).toNat) (by omega)
    rw[<-hr1]at hM;refine hM.use ?_;simp only[go_sem,zA,↓reduceIte];refine⟨by omega,by omega,ikw (by omega) (by omega),?_⟩
    refine yj (k+1) (by omega) (by omega) ?_
    refine yh [] [] [] ?_;simp only[allQ,live,yc,yu,go_sem,zA,↓reduceIte,reduceCtorEq];refine⟨by omega,fun i hi=>?_⟩
    by_cases q:i=k
    ·simp only[if_pos q];subst q;simp only[go_sem,live,go_sem];simp only[row,if_pos (zAB i),ylc p g c s hk',h1,↓reduceIte];exact Sim.refl _
    ·simp only[if_neg q];simp only[go_sem,live,go_sem]
     have:row (k+1) i=row k i:=by
      simp only[row]
      by_cases q1:i<k
      ·rw[if_pos q1,if_pos (by omega)]
      ·rw[if_neg q1,if_neg (by omega)]
     rw[this];exact Sim.refl _
   ·have hk':k<c.length:=by omega
    refine⟨ikw (by omega) (by omega),?_⟩
    refine yj (k+1) (by omega) (by omega) ?_
    refine yh [] [] [] ?_;simp only[allQ,live,yc,yu,go_sem,zA,↓reduceIte,reduceCtorEq];refine⟨by omega,fun i hi=>?_⟩
    have:row (k+1) i=row k i:=by
     simp only[row]
     by_cases q1:i<k
     ·rw[if_pos q1,if_pos (by omega)]
     ·by_cases q:i=k
      ·subst q;rw[if_neg q1,if_pos (by omega),ylc p g c s hk',if_neg (fun q=>h1 (yzu.2 q))]
      ·rw[if_neg q1,if_neg (by omega)]
    rw[this];exact Sim.refl _
   ·obtain rfl:k=n:=by omega
    rw[ydh,hn];refine yke fun q hq=>⟨⟨?_,trivial⟩,rfl⟩;simp only[row,if_pos hq];exact Sim.refl _
end Sh
end
section
namespace Sh
open Go Ev
def yvt(p:ProgT)(g:Gr):Bool:=p.vars.all fun x=>decide (x.kind=1)==false||(decide ((ybh g 0 x).1<=(ybh g 0 x).2)&&decide ((ybh g 0 x).2-(ybh g 0 x).1+1<=4096))
def yff(Q1 Q2:(Nat->Option ABlk)->Value->Prop)(p:ProgR):List SV:=[.a (.string p.name),.ex Q1 (ycd p.vars),.ex Q2 (ycl p.rules)]
theorem ybvv{Q1 Q2:(Nat->Option ABlk)->Value->Prop}(p:ProgT){g:Gr}(hg:ybb g)(hp:p.ok=true)(hf:yvt p g=true)(hV:Returns zH 191 [.ag (yff Q1 Q2 p.raw)] (.b true))(hG:Returns zH 96 [grV g] (.b true)) :
 Returns zH 155 [.ag (yff Q1 Q2 p.raw),grV g] (.i .i64 0):=by
 refine Returns.of (ycsw _ _ ?_);have hp':=hp;unfold ProgT.ok at hp';simp only[zI,decide_eq_true_eq]at hp';have hvars:p.raw.vars=p.vars:=rfl;simp only[yff,grV]at hV hG;simp only[c155,ycnt,ycjw,ycoo,ycnv,ycnx,yckq,yff,grV,go_sem,zF,zA,zB,zC,zD,zK,zL,zJ,↓reduceIte,reduceCtorEq];refine hV.use ?_;simp only[ybf,go_sem,zA,zB,↓reduceIte];refine hG.use ?_;simp only[ycd,hvars,go_sem,zA,zB,zC,↓reduceIte,reduceCtorEq]
 have hall:∀k,k<p.vars.length->(p.vars.getD k default).ok=true/\((p.vars.getD k default).kind=1->(ybh g 0 (p.vars.getD k default)).1<=(ybh g 0 (p.vars.getD k default)).2/\(ybh g 0 (p.vars.getD k default)).2-(ybh g 0 (p.vars.getD k default)).1+1<=4096):=fun k hk=>by
  rw[getD_at hk];refine⟨List.all_eq_true.1 hp'.1.1.2 _ (zQ _),fun h1=>?_⟩;have:=List.all_eq_true.1 hf _ (zQ hk)
  simpa[h1]using this
 refine ybl (σ:=Nat) (fun k=>⟨[(18,.i .i64 k),(17,.i .i64 p.vars.length),(16,.ex Q1 (ycd p.vars)),(3,.pt (3,0) 0 0)],[(3,.one (some ⟨27,true,2,1,fun _=>[yw g.ids,ybe g.ports]⟩))]⟩) (fun k=>k<=p.vars.length) (fun k=>p.vars.length-k) 0 (zN _) ?_ ?_
 ·refine yh [] [] [] ?_;simp only[ycd,allQ,live,yc,zG,go_sem,zA,↓reduceIte,reduceCtorEq]
 ·intro k hk;obtain⟨x,hx⟩:∃x,p.vars.getD k default=x:=⟨_,rfl⟩;simp only[ycer,ycbn,ycmb,ycbv,ybti,yboz,ybkz,ybuz,ycd,varC,splice,yu,hx,go_sem,zF,zA,zB,zC,zD,zK,zL,zJ,↓reduceIte,reduceCtorEq];intro hlt;have hk':k<p.vars.length:=by omega
  obtain⟨hxo,hxb⟩:=hall k hk';rw[hx]at hxo hxb;have hB:=ytw hg hxo (v:=0) (by have:=hg.1;omega)
  simp only[varC,grV,zG]at hB;obtain⟨hb1,hb2⟩:=ylo hg hxo;have hvo:=ybax hxo;refine⟨by omega,fun h1=>⟨ikw (by omega) (by omega),?_⟩,fun h1=>hB.use ?_⟩
  ·refine yj (k+1) (by omega) (by omega) ?_
   refine yh [] [] [] ?_;simp only[allQ,live,yc,yu,go_sem,zA,↓reduceIte,reduceCtorEq];omega
  ·obtain⟨hb3,hb4⟩:=hxb h1;obtain⟨b1,hb1'⟩:∃b,(ybh g 0 x).1=b:=⟨_,rfl⟩;obtain⟨b2,hb2'⟩:∃b,(ybh g 0 x).2=b:=⟨_,rfl⟩;have e:ybh g 0 x=(x.lo,x.hi+x.perNode*(g.ids.length:Int)+x.perID*maxI g.ids):=by unfold ybh;rw[if_pos h1]
   rw[e]at hb1' hb2';simp only[]at hb1' hb2';simp only[e]at hb3 hb4;rw[e];simp only[ybf,yu,go_sem,zA,zB,↓reduceIte,reduceCtorEq];simp only[hb1',hb2']at hb3 hb4 ⊢;refine⟨fun _=>⟨ikw (by omega) (by omega),ikw (by omega) (by omega),fun hgt=>absurd hb4 (by omega),fun _=>⟨ikw (by omega) (by omega),?_⟩⟩,fun hlt2=>absurd hb3 (by omega)⟩
   refine yj (k+1) (by omega) (by omega) ?_
   refine yh [] [] [] ?_;simp only[allQ,live,yc,yu,go_sem,zA,↓reduceIte,reduceCtorEq];omega
end Sh
end
section
open Go.RowKit
end
section
open Go.RowKit
theorem yxg:zAR=Array.replicate 256 (.bool false):=by kernel_rfl
def Seen(w:World)(g:Nat)(S:List Int):Prop:=∃cur,w.heap[g]?=some (.cells cur 195 (0,0))/\cur.size=256/\∀i:Nat,i<256->cur[i]?=some (.bool (decide ((i:Int)∈S)))
theorem Seen.cell{w:World}{g:Nat}{S:List Int}(h:Seen w g S){i:Nat}(hi:i<256):w.cell? ⟨g,i,none⟩=some (.bool (decide ((i:Int)∈S))):=by
 obtain⟨cur,h1,h2,h3⟩:=h;simp[World.cell?,h1,h3 i hi]
theorem Seen.frozen{w:World}{g:Nat}{S:List Int}(h:Seen w g S)(i:Nat):w.frozen? ⟨g,i,none⟩=false:=by
 obtain⟨cur,h1,h2,h3⟩:=h;simp[World.frozen?,h1]
theorem Seen.set_{w:World}{g:Nat}{S:List Int}(h:Seen w g S){i:Nat}:Seen (w.setCell ⟨g,i,none⟩ (.bool true)) g (S++[(i:Int)]):=by
 obtain⟨cur,h1,h2,h3⟩:=h;refine⟨cur.setIfInBounds i (.bool true),by simp[World.setCell,Array.getElem?_modify,h1],by simp[h2],fun j hj=>?_⟩
 rw[Array.getElem?_setIfInBounds];split
 ·subst_vars
  rw[if_pos (by omega)]
  simp
 ·rw[h3 j hj];congr 3;simp;omega
theorem Seen.start(w:World):Seen (w.alloc (.cells zAR 195)) w.heap.size []:=by
 refine⟨_,heap_alloc_new w _,by rw[yxg];simp,fun i hi=>?_⟩
 rw[yxg];simp[hi]
def ybcs(ids:List Int):Bool:=decide ((∀x∈ids,0<=x/\x<=255)/\ids.Nodup)
def yrh(ids:List Int)(k:Nat):Prop:=(∀x∈ids.take k,0<=x/\x<=255)/\(ids.take k).Nodup
theorem ybuh{ids:List Int}{k:Nat}(hk:k<ids.length):yrh ids (k+1)↔yrh ids k/\(0<=ids[k]/\ids[k]<=255)/\ids[k]∉ids.take k:=by
 unfold yrh;rw[take_snoc ids k hk,List.nodup_append];constructor
 ·rintro⟨h1,h2,_,h3⟩;exact⟨⟨fun x hx=>h1 x (List.mem_append_left _ hx),h2⟩,h1 _ (List.mem_append_right _ (by simp)),fun hm=>h3 _ hm _ (by simp) rfl⟩
 ·rintro⟨⟨h1,h2⟩,h3,h4⟩;refine⟨fun x hx=>?_,h2,by simp,fun a ha b hb e=>?_⟩
  ·rcases List.mem_append.1 hx with hx|hx
   ·exact h1 x hx
   ·simp at hx;subst hx;exact h3
  ·simp at hb;subst hb e;exact h4 ha
theorem ybcp{ids:List Int}{k:Nat}(h:¬yrh ids k):ybcs ids=false:=by
 unfold ybcs;rw[decide_eq_false_iff_not];exact fun hd=>h ⟨fun x hx=>hd.1 x (List.mem_of_mem_take hx),hd.2.sublist (List.take_sublist _ _)⟩
theorem ybjt{ids:List Int}(h:yrh ids ids.length):ybcs ids=true:=by
 unfold yrh at h;rw[zAK]at h;exact decide_eq_true h
set_option maxRecDepth 100000 in
set_option maxHeartbeats 1000000 in
theorem yoq(iv:Value)(ids:List Int)(w:World)(hi:yko w iv ids) :
 Calls zH 152 #[iv] w fun e w'=>e = .returned (.bool (ybcs ids))/\Below w.heap.size w w':=by
 obtain⟨A,c,rfl,hA1,hA2⟩:=ycm hi;have Hi:=zO hi
 clear hi
 go_enter Tryz.func152,Tryz.ntmps152
 go_wp2
 go_loopg [8] ids.length (fun q t wr=>∃k:Nat,q+k=ids.length/\t = .int .i64 k/\Hid (Below w.heap.size w wr)/\Hid (Seen wr w.heap.size (ids.take k))/\Hid (yrh ids k))
 case atStart=>exact⟨0,by omega,rfl,zO ((Below.refl _ _).alloc (zS _) _),zO (Seen.start w),zO ⟨by simp,by simp⟩⟩
 case round =>
  obtain⟨k,hq,rfl,hbel,hseen,hok⟩:=hrel
  by_cases hlt:k<ids.length
  ·obtain⟨b,off,rfl,hb,hcid,hr⟩:=yqq (Hi.out.below Stable.int hbel.out) hlt;obtain⟨x,hx⟩:∃x,ids[k]=x:=⟨_,rfl⟩;have Hsn:=zO (ybuh hlt);rw[hx]at hcid hr Hsn;obtain⟨hr1,hr2⟩:=hr;have Hbad:=zO (fun h=>ybcp (ids:=ids) (k:=k+1) h);have Hts:=zO (take_snoc ids k hlt);rw[hx]at Hts
   clear hx
   by_cases c1:0<=x/\x<=255
   ·obtain⟨c1a,c1b⟩:=c1;obtain⟨n,rfl⟩:=Int.eq_ofNat_of_zero_le c1a;have hcs:=hseen.out.cell (i:=n) (by omega)
    have hfs:=hseen.out.frozen n
    by_cases c2:(n:Int)∈ids.take k
    ·rw[decide_eq_true c2]at hcs;have Hf:=zO (Hbad.out (fun h=>(Hsn.out.1 h).2.2 c2))
     clear c2
     go_wp2
     go_ret
     exact⟨ybr Hf.out.symm,hbel.out⟩
    ·rw[decide_eq_false c2]at hcs;have Hn:=zO (Hsn.out.2 ⟨hok.out,⟨by omega,by omega⟩,c2⟩)
     clear c2
     go_wp2
     go_roundg (gk-1)
     case measure=>omega
     case rel =>
      refine⟨k+1,by omega,by go_num,zO (hbel.out.setCell (zS _) _),zO ?_,Hn⟩
      rw[Hts.out];exact hseen.out.set_
   ·have Hf:=zO (Hbad.out (fun h=>c1 (Hsn.out.1 h).2.1))
    by_cases c3:x<0
    ·clear c1
     go_wp2
     go_ret
     exact⟨ybr Hf.out.symm,hbel.out⟩
    ·have c4:255<x:=by omega
     clear c1
     go_wp2
     go_ret
     exact⟨ybr Hf.out.symm,hbel.out⟩
  ·obtain rfl:k=ids.length:=by omega
   have Ht:=zO (ybjt hok.out)
   go_wp2
   go_ret
   exact⟨ybr Ht.out.symm,hbel.out⟩
theorem ybnl(g:Gr)(h1:1<=g.ids.length)(h2:g.ids.length<=24)(h3:g.ports.length=g.ids.length):ygd g=(ybcs g.ids&&symB g.ports):=by
 unfold ygd ybcs symB;rw[<-Bool.decide_and];congr 1;apply propext;unfold ybb ybym;constructor
 ·rintro⟨_,_,_,h4,h5,h6,h7⟩;exact⟨⟨h4,h5⟩,h6,h7⟩
 ·rintro⟨⟨h4,h5⟩,h6,h7⟩;exact⟨by omega,by omega,by omega,h4,h5,h6,h7⟩
set_option maxHeartbeats 1000000 in
theorem ybll(gv:Value)(g:Gr)(w:World)(hg:GrAt w gv g) :
 Calls zH 96 #[gv] w fun e w'=>e = .returned (.bool (ygd g))/\Below w.heap.size w w':=by
 obtain⟨i,p,rfl,hi,hp⟩:=hg;obtain⟨A,c,rfl,hA1,hA2⟩:=ycm hi;obtain⟨A2,c2,rfl,hB1,hB2⟩:=ycm hp;have Hi:=zO hi;have Hp:=zO hp
 clear hi hp
 by_cases n1:1<=g.ids.length
 ·by_cases n2:g.ids.length<=24
  ·by_cases n3:g.ports.length=g.ids.length
   ·have n3':((g.ports.length:Int)!=(g.ids.length:Int))=false:=by simp[n3]
    have He:=zO (ybnl g n1 n2 n3);have n3a:g.ports.length<=24:=by omega
    clear n3
    go_enter zAF,zAL
    go_wp2_with fail
    refine(yoq _ g.ids _ (Hi.out.below Stable.int ((Below.refl _ _).alloc (zS _) _))).mono ?_;rintro e w1 ⟨rfl,hb1⟩;have Hb1:=zO (ycyl hb1);obtain⟨q0,q1⟩:=ydew hb1
    clear hb1
    cases hd:ybcs g.ids with
    | false =>
      have Hv:=zO (show ygd g=false by rw[He.out,hd];rfl)
      go_wp2_with fail
      go_ret
      exact⟨ybr Hv.out.symm,Hb1.out⟩
    | true =>
      have Hv:=zO (show ygd g=symB g.ports by rw[He.out,hd];rfl)
      go_wp2_with fail
      refine(ylk _ g.ports _ (Hp.out.below (Stable.sl Stable.link) Hb1.out) (by omega)).mono ?_
      rintro e w2 ⟨rfl,hb2⟩
      go_wp2_with fail
      go_ret
      exact⟨ybr Hv.out.symm,Hb1.out.trans (hb2.mono Hb1.out.size)⟩
   ·have n3':((g.ports.length:Int)!=(g.ids.length:Int))=true:=by simp;omega
    have Hf:=zO (ygo (g:=g) (fun h=>n3 h.2.2.symm))
    clear n3
    go_enter zAF,zAL
    go_wp2
    go_ret
    exact⟨ybr Hf.out.symm,(Below.refl _ _).alloc (zS _) _⟩
  ·have Hf:=zO (ygo (g:=g) (fun h=>n2 (by omega)))
   go_enter zAF,zAL
   go_wp2
   go_ret
   exact⟨ybr Hf.out.symm,(Below.refl _ _).alloc (zS _) _⟩
 ·have Hf:=zO (ygo (g:=g) (fun h=>n1 (by omega)))
  go_enter zAF,zAL
  go_wp2
  go_ret
  exact⟨ybr Hf.out.symm,(Below.refl _ _).alloc (zS _) _⟩
end
section
namespace Sh
open Go Ev Go.RowKit
theorem ygv{x:Int}(h:-4611686018427387904<=x/\x<=4611686018427387904):I64 x:=by
 unfold I64;omega
theorem ycre{g:Gr}(hg:ybb g):GrI g:=by
 obtain⟨h1,h2,h3,h4,h5,h6,h7⟩:=hg;refine⟨fun x hx=>ygv (by have:=h4 x hx;omega),fun ls hls l hl=>?_⟩
 obtain⟨v,hv,rfl⟩:=List.getElem_of_mem hls;obtain⟨a1,a2,a3,a4,a5⟩:=(h6 ⟨v,hv⟩).1 l hl;exact⟨ygv (by omega),ygv (by omega)⟩
theorem yss{g:Gr}(hI:GrI g):Returns zH 96 [grV g] (.b (ygd g)):=by
 refine yblf ⟨_,_,zAF,rfl⟩ (fun _=>.b) (fun _=>.simple rfl) fun G m us hG hr φ M w us' hR hs hv=>?_;obtain⟨u,rfl,h1⟩:=rvl1 hr;obtain⟨u',rfl,h2⟩:=ygm hv;exact ybll u' g w (ydeb hG h1 h2 hR hs hI)
end Sh
end
end Go.Proofs.YtiejahgklcjhkaaGreatDoor
