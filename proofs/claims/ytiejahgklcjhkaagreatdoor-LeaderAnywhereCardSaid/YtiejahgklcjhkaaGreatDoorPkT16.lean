/- Joined. -/
import Derived.Test.YtiejahgklcjhkaaGreatDoorPkT15
set_option linter.unusedSimpArgs false
set_option linter.unusedVariables false
set_option maxRecDepth 8000
open Nat renaming reduceEqDiff→zA,reduceAdd→zB,reduceLeDiff→zC,reduceLT→zD,reduceBEq→zF,add_comm→zJ,sub_self→zL,zero_add→zN,zero_le→zQ,not_lt_zero→zV,zero_mul→zW,le_refl→zY,reduceMul→zAK,lt_of_lt_of_le→zAM,lt_of_lt_of_eq→zAN,mod_lt→zBE
open Go.Proofs.Tryz renaming prog→zG
open List renaming length_append→zH,getD→zM,length_singleton→zS,getD_eq_getElem?_getD→zT,range→zX,getElem_mem→zZ,not_mem_nil→zAA,getElem?_eq_none→zAB,length_map→zAC,getElem?_append_left→zAE,getElem?_take_of_lt→zAF,getElem?_eq_getElem→zAG,getElem?_set_self→zAH,getElem?_set_ne→zAI,getElem_of_mem→zAL,getElem?_map→zAP,nodup_append→zAQ,length→zAR,take_length→zAT,getElem_map→zAU,map_append→zAV,replicate→zAX,nodup_nil→zAY,take→zAZ,drop→zBA,map_cons→zBC
open Int renaming natCast_zero→zI,eq_ofNat_of_zero_le→zK,emod_lt_of_pos→zO,emod_nonneg→zU,toNat_natCast→zAD,reduceBNe→zAJ,ofNat_tmod→zAW,reduceBEq→zBB
open And renaming intro→zAO
open Bool renaming and_eq_true→zAS,true_and→zBD
open Go
namespace Go.Proofs.YtiejahgklcjhkaaGreatDoor
section
namespace Sh
open Ev Go.RowKit
theorem Returns.exT{P:Program}{g:FuncId}{args:List SV}{r:SV}(h:Returns P g args r):Returns P g args (.ex TT r):=fun G m us h1 h2 h3=>by
 obtain⟨v,m',x,a,b,c,d,e⟩:=h G m us h1 h2 h3;exact⟨v,m',.ex TT r,a,b,c,rfl,.ex trivial (fun _ _ _ _ _=>trivial) (d▸e)⟩
section
variable {Q1 Q2:(Nat->Option ABlk)->Value->Prop}{p:ProgT}{g:Gr}
theorem ybob(h:Checked Q1 Q2 p g){kind:Int}(hk:1<=kind/\kind<=4){c:Conf}(hc:yga p g c=true){len:Nat}(hl:len<=4096):Returns zG 129 [.ag (ygo Q1 Q2 p.raw),grV g,.i .i64 kind,ybl c,.i .i64 len] (.i .i64 0):=by
 refine Returns.of (ycxx _ _ ?_);have hC:=ybwj h c;rw[if_pos hc]at hC;have hD:=ybjs kind;rw[decide_eq_true hk.1,decide_eq_true hk.2]at hD;have f1:decide ((len:Int)>4096)=false:=by simp;omega
 simp only[ygo,grV]at hC;simp only[c129,ycpa,ycpr,ygo,grV,go_sem,zA,zB,zD,↓reduceIte,reduceCtorEq];refine hC.use ?_;simp only[ybi,ycrz,ycqq,zAJ,go_sem,zA,zB,↓reduceIte,reduceCtorEq];refine hD.use ?_;simp only[ycia,ycpc,f1,ybb,Bool.and_self,go_sem,zA,zB,↓reduceIte,reduceCtorEq]
theorem yblp(h:Checked Q1 Q2 p g):Returns zG 93 [.ag (yni p.raw),grV g] (yfr p g):=by
 have hp':=h.hp;unfold ProgT.ok at hp';simp only[zAS,decide_eq_true_eq]at hp';exact(yzi p.raw h.hg hp'.1.1.2 hp'.1.1.1.2).exT
theorem yzu(h:Checked Q1 Q2 p g)(kind:Int):Cm zG 130 [(201,0),(203,0)] ymf [.ag (ygo Q1 Q2 p.raw),grV g,.i .i64 kind,seeC] fun r o=>r = .ag (yea p g (g.ports.map netP) kind)/\o=ymf:=by
 refine ycfj [(201,0),(203,0)] [] _ _ _ ?_;have hM:=yblp h;have hN:=ybmz h.hg;have hA:=ycye h.hg;simp only[grV]at hM hN hA;simp only[c130,ycua,ycpk,ygo,grV,seeC,ymf,clash,go_sem,zA,zB,zD,↓reduceIte,reduceCtorEq];refine hM.useS ?_ ?_
 ·exact⟨yqy ⟨Sim.refl _,yso _ _,yso _ _,trivial⟩,Sim.refl _,trivial⟩
 simp only[usV,yfr]at hN ⊢;simp only[ybi,clash,go_sem,zA,zB,zC,↓reduceIte,reduceCtorEq];refine hN.use ?_;simp only[go_sem,zB,zC,↓reduceIte];refine⟨by decide,hA.use ?_⟩
 simp only[ygg,go_sem,zA,zB,↓reduceIte];refine⟨by decide,by decide,.ag (yea p g (g.ports.map netP) kind),ymf,?_,?_,rfl,rfl⟩
 ·refine yfs [] [] [] ?_;simp only[yea,yfr,usV,seeC,ymf,allQ,live,yg,go_sem,zA,↓reduceIte,reduceCtorEq]
 ·simp only[yea,yfr,usV,seeC,ymf,ycf,yfd,allQ,live,go_sem,zA,↓reduceIte]
theorem ybvw(h:Checked Q1 Q2 p g){kind:Int}{net:List Nat}(hnl:g.ids.length<=net.length){res:Nat->Nat->Nat}(hd:DaemonOk kind net res){c:Conf}(hc:yga p g c=true){ws:List Nat}(hw:∀k,ws.getD k 0<2^32)(hwl:ws.length<=4000) :
 Cm zG 133 [(201,0),(203,0)] ymf [.ag (yea p g net kind),ybl c,usV ws]
  fun r o=>(∃l1 l2 c' k',r = .tp [.ag (usV l1::usV l2::ybl c'::cntV k'),.i .i64 0])/\o=seeX ((yby p g).runs res ws c |>.map (·.1)) ((yby p g).runs res ws c |>.map (·.2)):=by
 refine ycew [(201,0),(203,0)] [168] _ _ _ ?_;have hX:=ybll h hnl hd hc hw hwl
 generalize ((yby p g).runs res ws c).map (·.1)=CS at hX ⊢
 generalize ((yby p g).runs res ws c).map (·.2)=KS at hX ⊢
 simp only[c133,yclk,ycka,ymf,yea,yfr,usV,seeC,go_sem,zA,zB,zD,↓reduceIte,reduceCtorEq];refine yem hX [(201,201),(203,203),(205,3),(206,5)] 0 [6,7] [6] ?_ ?_
 ·simp only[ymf,ybyn,yea,yfr,usV,seeC,List.cons_append,List.nil_append,to1,okN,ycf,yfd,ydy,ydm,allQ,live,yg,go_sem,zA,zB,zC,zF,↓reduceIte,reduceCtorEq]
 ·rintro r o' ⟨⟨l1,l2,c',k',rfl⟩,rfl⟩;simp only[seeX,usV,cntV,ymj,ykn,nuF,nu,difN,ydy,ydm,Fam.ren,OB.ren,dim,ygz,yzy,ypi,ysc,yjb,go_sem,zA,zB,zF,↓reduceIte,reduceCtorEq];simp only[ygg,go_sem];refine⟨.tp [.ag (usV l1::usV l2::ybl c'::cntV k'),.i .i64 0],seeX CS KS,?_,?_,⟨l1,l2,c',k',rfl⟩,rfl⟩
  ·refine yfs [] [] [] ?_;simp only[seeX,usV,cntV,allQ,live,yg,go_sem,zA,↓reduceIte,reduceCtorEq]
  ·simp only[seeX,usV,cntV,ycf,yfd,allQ,live,go_sem,zA,↓reduceIte]
def yed(l:List Conf):SV:=.sl 1 l.length (fun i=>[ybl (l.getD i [])])
def yht(l:List Cnt):SV:=.sl 5 l.length (fun i=>cntV (l.getD i default))
theorem ybnm(h:Checked Q1 Q2 p g){kind:Int}(hk:1<=kind/\kind<=4){res:Nat->Nat->Nat}(hd:DaemonOk kind (g.ports.map netP) res){c:Conf}(hc:yga p g c=true){ws:List Nat}(hw:∀k,ws.getD k 0<2^32)(hwl:ws.length<=4000) :
 Returns zG 78 [.ag (ygo Q1 Q2 p.raw),grV g,.i .i64 kind,ybl c,usV ws] (.tp [yed (((yby p g).runs res ws c).map (·.1)),yht (((yby p g).runs res ws c).map (·.2)),.i .i64 0]):=by
 refine Returns.of (ydav [130,133] _ _ ?_);have hC:=ybob h hk hc (len:=ws.length) (by omega)
 have hN:=yzu h kind;have hX:=ybvw h (by have:=h.hg.2.2.1;rw[zAC];omega) hd hc hw hwl
 generalize ((yby p g).runs res ws c).map (·.1)=CS at hX ⊢
 generalize ((yby p g).runs res ws c).map (·.2)=KS at hX ⊢
 simp only[ygo,grV]at hC;simp only[c78,ydip,ydls,ygo,grV,usV,go_sem,zA,zB,zD,zF,↓reduceIte,reduceCtorEq];refine hC.use ?_;simp only[ybi,ydhn,ydji,ydil,ydgo,zAJ,go_sem,zA,zB,zD,↓reduceIte,reduceCtorEq];refine yem hN [(201,14),(203,15)] 0 [3,4,14,15] [] ?_ ?_
 ·simp only[ymf,seeC,ygo,grV,to1,okN,ycf,yfd,ydy,ydm,allQ,live,yg,go_sem,zA,zB,↓reduceIte,reduceCtorEq]
 rintro r o' ⟨rfl,rfl⟩;simp only[ymf,yea,yfr,usV,seeC,ymj,ykn,nuF,nu,difN,ydy,ydm,Fam.ren,OB.ren,dim,ygz,ycbc,yzy,ycvv,ypi,ycjn,ycru,go_sem,zA,zB,zD,zF,↓reduceIte,reduceCtorEq];simp only[ydhe,go_sem,zA,zB,zF,↓reduceIte,reduceCtorEq];simp only[yea,yfr,usV,seeC]at hX;refine yem hX [(201,14),(203,15)] 0 [14,15] [] ?_ ?_
 ·simp only[ymf,to1,okN,ycf,yfd,ydy,ydm,allQ,live,yg,go_sem,zA,zB,↓reduceIte,reduceCtorEq]
 rintro r o' ⟨⟨l1,l2,c',k',rfl⟩,rfl⟩;simp only[seeX,cntV,ymj,ykn,nuF,nu,difN,ydy,ydm,Fam.ren,OB.ren,dim,ygz,yzy,ypi,ysc,yjb,go_sem,zA,zB,zD,zF,↓reduceIte,reduceCtorEq];simp only[ydkg,ycgn,clash,zAJ,yed,yht,go_sem,zA,zB,↓reduceIte,reduceCtorEq];exact Sim.refl _
end
end Sh
end
section
def yca(v m:Int):Int:=if m<1 then 0 else v%m
def atP(l:List Int)(i:Nat):Int:=l.getD i 0
theorem ycx{v m:Int}(h:1<=m):0<=yca v m/\yca v m<m:=by
 unfold yca;rw[if_neg (by omega)]
 exact⟨zU _ (by omega),zO _ (by omega)⟩
namespace Sh
open Ev Go.RowKit
theorem ybjj{v m:Int}(h:1<=m):(if v.tmod m<0 then v.tmod m+m else v.tmod m)=v%m:=by
 have h1:=Int.emod_add_mul_ediv v m;have h2:=zU v (show m≠0 by omega)
 have h3:=zO v (show 0<m by omega)
 have h4:=Int.tmod_eq_emod (a:=v) (b:=m);have h5:(m.natAbs:Int)=m:=by omega
 rw[h4]
 by_cases q:0<=v\/m ∣ v
 ·simp only[if_pos q,zI,Int.sub_zero];rw[if_neg (by omega)]
 ·simp only[if_neg q,h5];rw[if_pos (by omega)]
  omega
theorem yda(v m:Int)(hm:m<=4611686018427387904)(hv:inK .i64 v):Returns zG 39 [.i .i64 v,.i .i64 m] (.i .i64 (yca v m)):=by
 refine Returns.of (ydjz _ _ ?_);simp only[c39,ydgs,ydhb,ydlz,ydjl,ydno,ydjk,ydmy,ybb,go_sem,zA,zB,↓reduceIte,reduceCtorEq];unfold yca;refine⟨fun h=>by rw[if_pos h],fun h=>⟨by omega,fun h2=>?_,fun h2=>?_⟩⟩
 ·have h3:=ybjj (v:=v) (show 1<=m by omega)
  rw[if_pos h2]at h3;rw[if_neg h,h3];have h4:=zU v (show m≠0 by omega)
  have h5:=zO v (show 0<m by omega)
  exact⟨ikw (by omega) (by omega),rfl⟩
 ·have h3:=ybjj (v:=v) (show 1<=m by omega)
  rw[if_neg h2]at h3;rw[if_neg h,h3]
theorem at_ret(l:List Int)(i:Nat):Returns zG 77 [yx l,.i .i64 i] (.i .i64 (atP l i)):=by
 refine Returns.of (ydfh _ _ ?_);simp only[c77,ydna,ydjw,ydjt,ydhs,yx,ybb,go_sem,zA,zB,↓reduceIte,reduceCtorEq];exact⟨fun h=>⟨by omega,rfl⟩,fun h=>by unfold atP;rw[zM,zAB (by omega)];rfl⟩
theorem wrap32(z:Int):0<=IntKind.wrap .u32 z/\IntKind.wrap .u32 z<2^32:=by
 unfold IntKind.wrap;simp only[IntKind.signed,IntKind.bits];exact⟨zU _ (by decide),zO _ (by decide)⟩
theorem yst{α:Type}(l:List α)(x d:α)(i:Nat):(l++[x]).getD i d=if i<l.length then l.getD i d else if i=l.length then x else d:=by
 by_cases h:i<l.length
 ·simp[zM,zAE h,h]
 ·by_cases e:i=l.length
  ·subst e;simp[zM]
  ·rw[if_neg h,if_neg e,zM,zAB (by simp;omega)]
   rfl
theorem ybkn(l:List Nat)(hb:∀k,l.getD k 0<2^32)(n:Nat)(hn:n<=1000):Ct zG 26 [usV l,.i .i64 n] fun r=>∃ws:List Nat,ws.length=n/\(∀k,ws.getD k 0<2^32)/\Sim r (usV ws):=by
 refine ydga _ _ ?_;simp only[c26,ydgj,ydky,ydet,usV,go_sem,↓reduceIte];refine ybj (σ:=List Nat) (fun ws=>⟨[(6,.i .i64 ws.length),(1,.i .i64 n),(0,usV l),(5,.os (100,0) 0 ws.length true)],[(100,.one (some ⟨40,false,1,ws.length,fun k=>[.i .u32 (ws.getD k 0:Nat)]⟩))]⟩) (fun ws=>ws.length<=n/\∀k,ws.getD k 0<2^32) (fun ws=>n-ws.length) [] ⟨zQ _,fun k=>by simp⟩ ?_ ?_
 ·refine yj [] [100] [] ?_;simp only[usV,allQ,live,yg,zI,go_sem,zA,↓reduceIte,reduceCtorEq];exact⟨(100,0),rfl,rfl,rfl⟩
 ·rintro ws ⟨h1,h2⟩;simp only[ydgn,ydez,usV,go_sem,zA,zB,↓reduceIte,reduceCtorEq];refine⟨fun hlt=>⟨fun h0=>?_,fun h0=>?_⟩,fun hlt=>?_⟩
  ·simp only[ycza,ydjq,splice,go_sem,zA,zB,zC,zD,↓reduceIte,reduceCtorEq];refine⟨⟨by omega,by omega⟩,ikw (by omega) (by omega),?_⟩
   refine yw (ws++[4294967295]) ⟨by simp;omega,fun k=>?_⟩ (by simp;omega) ?_
   ·rw[yst];split
    ·exact h2 k
    ·split<;>decide
   refine yj [(100,fun i=>(19,i))] [] [] ?_;simp only[zH,allQ,live,yg,ybb,go_sem,zA,↓reduceIte,reduceCtorEq];refine⟨by omega,fun i hi=>?_⟩
   rw[yst]
   by_cases q:i<ws.length
   ·simp only[if_pos q];simp only[live,yg,go_sem,reduceCtorEq]
   ·obtain rfl:i=ws.length:=by omega
    simp only[if_neg q,zL,zW];simp only[live,ybb,go_sem,↓reduceIte,reduceCtorEq];rfl
  ·simp only[ydiz,ydew,clash,go_sem,zA,zB,↓reduceIte,reduceCtorEq];have hl0:0<l.length:=by omega
   have t1:(ws.length:Int).tmod (l.length:Int)=((ws.length%l.length:Nat):Int):=(zAW _ _).symm;have t2:(ws.length:Int).tdiv (l.length:Int)=((ws.length/l.length:Nat):Int):=(Int.ofNat_tdiv _ _).symm;have t3:((ws.length/l.length:Nat):Int).tmod 24=((ws.length/l.length%24:Nat):Int):=(zAW _ 24).symm;have hlt1:=zBE ws.length hl0;have hle1:=Nat.div_le_self ws.length l.length;obtain⟨D,hD⟩:∃D,ws.length/l.length=D:=⟨_,rfl⟩
   rw[hD]at t2 t3 hle1;obtain⟨K,hK⟩:∃K,D%24=K:=⟨_,rfl⟩;have hK24:K<24:=by rw[<-hK];exact zBE _ (by decide)
   have t4:IntKind.wrap .u64 (K:Int)=K:=by unfold IntKind.wrap;simp[IntKind.bits,IntKind.signed];omega
   simp only[t1,t2,t3,hK,t4]
   generalize IntKind.wrap .u32 _=A
   refine⟨by omega,⟨by omega,by omega⟩,⟨by omega,ikw (by omega) (by omega)⟩,by decide,?_⟩
   simp only[ycza,ydhz,splice,go_sem,zA,zB,zC,zD,↓reduceIte,reduceCtorEq]
   generalize hZ:IntKind.wrap .u32 ((BitVec.toNat _:Nat):Int)=Z
   have hz:0<=Z/\Z<2^32:=by rw[<-hZ];exact wrap32 _
   obtain⟨z,rfl⟩:∃z:Nat,Z=z:=⟨Z.toNat,by omega⟩
   refine⟨⟨by omega,by show _<((32:Nat):Int);omega⟩,⟨by simp[IntKind.min,IntKind.signed];omega,by simp[IntKind.max,IntKind.bits,IntKind.signed];omega⟩,⟨by omega,by show _<((32:Nat):Int);omega⟩,⟨by omega,by omega⟩,ikw (by omega) (by omega),?_⟩
   refine yw (ws++[z]) ⟨by simp;omega,fun k=>?_⟩ (by simp;omega) ?_
   ·rw[yst];split
    ·exact h2 k
    ·split<;>omega
   refine yj [(100,fun i=>(46,i))] [] [] ?_;simp only[zH,allQ,live,yg,ybb,go_sem,zA,↓reduceIte,reduceCtorEq];refine⟨by omega,fun i hi=>?_⟩
   rw[yst]
   by_cases q:i<ws.length
   ·simp only[if_pos q];simp only[live,yg,go_sem,reduceCtorEq]
   ·obtain rfl:i=ws.length:=by omega
    simp only[if_neg q,zL,zW];simp only[live,yg,go_sem,↓reduceIte,reduceCtorEq]
  ·simp only[ycmt,go_sem,zA,zB,↓reduceIte,reduceCtorEq];exact⟨ws,by omega,h2,Sim.refl _⟩
end Sh
end
section
namespace Sh
open Ev Go.RowKit
def yqc(l:List Int)(k:Nat):Int:=(l.take k).foldl max 0
theorem yccy{l:List Int}(h:∀x∈l,0<=x/\x<=255):∀k,0<=yqc l k/\yqc l k<=255:=by
 intro k;unfold yqc
 have:∀(l:List Int) (a:Int),(∀x∈l,0<=x/\x<=255)->0<=a/\a<=255->0<=l.foldl max a/\l.foldl max a<=255:=by
  intro l
  induction l with
  |nil=>intro a _ h;exact h
  |cons x l ih=>intro a hl ha;exact ih _ (fun y hy=>hl y (List.mem_cons_of_mem _ hy)) (by have:=hl x List.mem_cons_self;omega)
 exact this _ 0 (fun x hx=>h x (List.mem_of_mem_take hx)) (by omega)
theorem ybme{l:List Int}{k:Nat}(hk:k<l.length):yqc l (k+1)=max (yqc l k) (l.getD k 0):=by
 unfold yqc;rw[List.take_succ_eq_append_getElem hk,List.foldl_append,getD_at hk];rfl
theorem ysl{l:List Int}(h:∀x∈l,0<=x/\x<=255)(hl:0<l.length):yqc l l.length=maxI l:=by
 unfold yqc;rw[zAT];exact(yyg hl fun x hx=>(h x hx).1).symm
theorem ynq{vars:List VarR}{b:VarR->Int×Int}{L:List Int}(h:yev ((vars.take L.length).map b) L)(hl:L.length<vars.length){y:Int}(hy:(b (vars.getD L.length default)).1<=y/\y<=(b (vars.getD L.length default)).2):yev ((vars.take (L++[y]).length).map b) (L++[y]):=by
 refine⟨by simp;omega,fun i c x hb hx=>?_⟩
 rw[zH,zS,zAP]at hb;have hi:i<L.length+1:=by have:=(List.getElem?_eq_some_iff.1 hx).1;simpa using this
 rw[zAF hi]at hb
 by_cases q:i<L.length
 ·rw[zAE q]at hx;refine h.2 i c x ?_ hx;rw[zAP,zAF q];exact hb
 ·obtain rfl:i=L.length:=by omega
  rw[List.getElem?_append_right (zY _),zL]at hx;cases hx
  rw[zAG hl]at hb;cases hb
  rw[getD_at hl]at hy;exact hy
section
variable {p:ProgT}{g:Gr}
def cfgV(p:ProgT)(g:Gr)(raw:List Int)(v i:Nat):Int:=(ybh g v (p.vars.getD i default)).1+yca (atP raw (v*p.vars.length+i)) ((ybh g v (p.vars.getD i default)).2-(ybh g v (p.vars.getD i default)).1+1)
def ybst(p:ProgT)(g:Gr)(raw:List Int)(v:Nat):List Int:=(zX p.vars.length).map (cfgV p g raw v)
theorem yqq{α:Type}{f:Nat->α}{L:List α}{y:α}(h:L=(zX L.length).map f)(hy:y=f L.length):L++[y]=(zX (L++[y]).length).map f:=by
 rw[zH,zS,List.range_succ,zAV,<-h,hy];rfl
theorem ybfl(hg:ybc g)(hp:p.ok=true)(hf:ytq p g=true){raw:List Int}(hr:∀k,inK .i64 (raw.getD k 0)) :
 Ct zG 24 [grV g,ydd p.vars,yx raw] fun r=>∃c,(yga p g c=true/\c=(zX g.ports.length).map (ybst p g raw))/\Sim r (ybl c):=by
 refine ydjj _ _ ?_;have hid:=hg.2.2.1;have h24:=hg.2.1;have h1:=hg.1;have hids:=hg.2.2.2.1;simp only[c24,ydjh,ydmh,ydlb,grV,ybe,go_sem,zA,zB,zD,↓reduceIte,reduceCtorEq];obtain⟨n,hn⟩:∃n,g.ports.length=n:=⟨_,rfl⟩;refine ybj (σ:=Nat) (fun k=>⟨[(9,.i .i64 k),(8,.i .i64 (yqc g.ids k)),(7,.i .i64 n),(3,.pt (3,0) 0 0),(1,ydd p.vars),(2,yx raw)],[(3,.one (some ⟨27,true,2,1,fun _=>[yx g.ids,ybe g.ports]⟩))]⟩) (fun k=>k<=n) (fun k=>n-k) 0 (zQ _) ?_ ?_
 ·refine yj [] [] [] ?_;simp only[ybe,hn,allQ,live,yg,ybb,zI,go_sem,zA,↓reduceIte,reduceCtorEq];rfl
 ·intro k hk;have htop:=yccy hids k;simp only[ydku,ydme,ydmt,ydkx,ydfm,yx,go_sem,zA,zB,zC,↓reduceIte,reduceCtorEq];refine⟨fun hlt=>?_,fun hlt=>?_⟩
  ·have hs:=ybme (l:=g.ids) (k:=k) (by omega)
   refine⟨by omega,ikw (by omega) (by omega),?_⟩
   refine yw (k+1) (by omega) (by omega) ?_
   refine yj [] [] [] ?_;simp only[allQ,live,yg,ybb,go_sem,zA,↓reduceIte,reduceCtorEq];exact⟨by omega,hs.symm⟩
  ·obtain rfl:k=n:=by omega
   have htm:yqc g.ids k=maxI g.ids:=by rw[<-hn,<-hid];exact ysl hids (by omega)
   rw[htm]at htop ⊢;obtain⟨top,htp⟩:∃t,maxI g.ids=t:=⟨_,rfl⟩;rw[htp]at htop ⊢;obtain⟨nv,hnv⟩:∃k,p.vars.length=k:=⟨_,rfl⟩;have hp':=hp;unfold ProgT.ok at hp';simp only[zAS,decide_eq_true_eq]at hp'
   refine ybj (σ:=Conf) (fun C=>⟨[(11,.i .i64 C.length),(10,.os (300,0) 0 C.length true),(8,.i .i64 top),(7,.i .i64 k),(3,.pt (3,0) 0 0),(1,ydd p.vars),(2,yx raw)],
    [(3,.one (some ⟨27,true,2,1,fun _=>[yx g.ids,ybe g.ports]⟩)),(300,.one (some ⟨22,false,1,C.length,fun j=>[yx (C.getD j [])]⟩))]⟩)
    (fun C=>(C.length<=k/\∀v,v<C.length->yev (p.vars.map (ybh g v)) (C.getD v []))/\C=(zX C.length).map (ybst p g raw)) (fun C=>k-C.length) [] ⟨⟨zQ _,fun v hv=>absurd hv (zV v)⟩,rfl⟩ ?_ ?_
   ·refine yj [] [300] [] ?_;simp only[yx,ybe,allQ,live,yg,zI,go_sem,zA,zF,↓reduceIte,reduceCtorEq];exact⟨(300,0),rfl,rfl,rfl⟩
   ·rintro C ⟨⟨hC1,hC2⟩,hC3⟩;simp only[ydhl,yckb,ycpl,yx,go_sem,zA,zB,↓reduceIte,reduceCtorEq];refine⟨fun hlt=>?_,fun hlt=>?_⟩
    ·refine ybj (σ:=List Int) (fun L=>⟨[(13,.i .i64 L.length),(12,.os (301,0) 0 L.length true),(11,.i .i64 C.length),(10,.os (300,0) 0 C.length true),(8,.i .i64 top),(7,.i .i64 k),(3,.pt (3,0) 0 0),(1,ydd p.vars),(2,yx raw)],
      [(301,.one (some ⟨3,false,1,L.length,fun j=>[.i .i64 (L.getD j 0)]⟩)),(3,.one (some ⟨27,true,2,1,fun _=>[yx g.ids,ybe g.ports]⟩)),(300,.one (some ⟨22,false,1,C.length,fun j=>[yx (C.getD j [])]⟩))]⟩)
      (fun L=>(L.length<=nv/\yev ((p.vars.take L.length).map (ybh g C.length)) L)/\L=(zX L.length).map (cfgV p g raw C.length)) (fun L=>nv-L.length) [] ⟨⟨zQ _,rfl,fun i b x hb=>by simp at hb⟩,rfl⟩ ?_ ?_
     ·refine yj [] [301] [] ?_;simp only[yx,ybe,allQ,live,yg,zI,go_sem,zA,zF,↓reduceIte,reduceCtorEq];exact⟨(301,0),rfl,rfl,rfl⟩
     ·rintro L ⟨⟨hL1,hL2⟩,hL3⟩;obtain⟨x,hx⟩:∃x,p.vars.getD L.length default=x:=⟨_,rfl⟩;simp only[ycgz,ycwp,ycmy,yx,ydd,hnv,hx,varC,clash,go_sem,zA,zB,zC,↓reduceIte,reduceCtorEq];refine⟨fun hlt2=>?_,fun hlt2=>?_⟩
      ·have hLn:L.length<p.vars.length:=by omega
       have hxm:x∈p.vars:=by rw[<-hx,getD_at hLn];exact zZ _
       have hxo:=List.all_eq_true.1 hp'.1.1.2 x hxm;have hvo:=ybeo hxo;obtain⟨hb1,hb2⟩:=ynb hg hxo;rw[hid,hn]at hb1;rw[htp]at hb2;have hbn:=ybht hg hp hf hxm C.length;have hidx:(C.length:Int)*(nv:Int)+(L.length:Int)=((C.length*nv+L.length:Nat):Int):=by push_cast;rfl
       have hdeg:=hg.deg_lt (v:=C.length);have hmi:(C.length:Int)*(nv:Int)=((C.length*nv:Nat):Int):=by push_cast;rfl
       have hmul:C.length*nv<=24*6:=Nat.mul_le_mul (by omega) (by omega)
       have hAt:=at_ret raw (C.length*nv+L.length);have hav:inK .i64 (atP raw (C.length*nv+L.length)):=hr _;simp only[yx]at hAt;refine⟨by omega,by omega,by omega,ikw (by omega) (by omega),ikw (by omega) (by omega),by omega,ikw (by omega) (by omega),ikw (by omega) (by omega),by omega,?_⟩
       rcases hvo.1 with hkk|hkk|hkk
       ·have hbt:ybh g C.length x=(x.lo,x.hi+x.perNode*(k:Int)+x.perID*top):=by
         unfold ybh;rw[if_pos hkk,hid,hn,htp]
        rw[hbt]at hbn;simp only[]at hbn;simp only[hkk];simp only[ybgx,ybid,ybhc,ybhs,ybgp,clash,zBB,hidx,go_sem,zA,zB,↓reduceIte,reduceCtorEq];refine⟨by rw[hmi];exact ikw (by omega) (by omega),ikw (by omega) (by omega),hAt.use ?_⟩
        simp only[ybi,go_sem,zA,zB,zD,↓reduceIte,reduceCtorEq];have hW:=yda (atP raw (C.length*nv+L.length)) (x.hi+x.perNode*(k:Int)+x.perID*top-(x.lo)+1) (by omega) hav
        obtain⟨w1,w2⟩:=ycx (v:=atP raw (C.length*nv+L.length)) (m:=x.hi+x.perNode*(k:Int)+x.perID*top-(x.lo)+1) (by omega)
        generalize hWe:yca (atP raw (C.length*nv+L.length)) (x.hi+x.perNode*(k:Int)+x.perID*top-(x.lo)+1)=W at hW w1 w2
        refine⟨ikw (by omega) (by omega),ikw (by omega) (by omega),hW.use ?_⟩
        simp only[ybhj,go_sem,zA,zB,zC,↓reduceIte,reduceCtorEq];refine⟨ikw (by omega) (by omega),⟨by omega,by omega⟩,ikw (by omega) (by omega),?_⟩
        refine yw (L++[x.lo+W]) ⟨⟨by simp;omega,ynq hL2 hLn (by rw[hx,hbt];exact⟨by simp only[];omega,by simp only[];omega⟩)⟩,yqq hL3 (by unfold cfgV;rw[hx,hbt,hnv];simp only[];rw[hWe])⟩ (by simp;omega) ?_
        refine yj [(301,fun i=>(101,i))] [] [] ?_;simp only[ybe,ybd,hn,zH,allQ,live,yg,ybb,go_sem,zA,↓reduceIte,reduceCtorEq];refine⟨by omega,fun i hi=>?_⟩
        rw[yst]
        by_cases q:i<L.length
        ·simp only[if_pos q];simp only[live,yg,go_sem,reduceCtorEq]
        ·obtain rfl:i=L.length:=by omega
         simp only[if_neg q,zL,zW];simp only[live,yg,go_sem,↓reduceIte,reduceCtorEq]
       ·have hbt:ybh g C.length x=(0,1):=by
         unfold ybh;rw[if_neg (by omega),if_pos hkk]
        rw[hbt]at hbn;simp only[]at hbn;simp only[hkk];simp only[ybgx,ybid,ybhc,ybhs,ybgp,clash,hidx,go_sem,zA,zB,↓reduceIte,reduceCtorEq];refine⟨by rw[hmi];exact ikw (by omega) (by omega),ikw (by omega) (by omega),hAt.use ?_⟩
        simp only[ybi,go_sem,zA,zB,zD,↓reduceIte,reduceCtorEq];have hW:=yda (atP raw (C.length*nv+L.length)) (1-(0)+1) (by omega) hav
        obtain⟨w1,w2⟩:=ycx (v:=atP raw (C.length*nv+L.length)) (m:=1-(0)+1) (by omega)
        generalize hWe:yca (atP raw (C.length*nv+L.length)) (1-(0)+1)=W at hW w1 w2
        refine⟨ikw (by omega) (by omega),ikw (by omega) (by omega),hW.use ?_⟩
        simp only[ybhj,go_sem,zA,zB,zC,↓reduceIte,reduceCtorEq];refine⟨ikw (by omega) (by omega),⟨by omega,by omega⟩,ikw (by omega) (by omega),?_⟩
        refine yw (L++[0+W]) ⟨⟨by simp;omega,ynq hL2 hLn (by rw[hx,hbt];exact⟨by simp only[];omega,by simp only[];omega⟩)⟩,yqq hL3 (by unfold cfgV;rw[hx,hbt,hnv];simp only[];rw[hWe])⟩ (by simp;omega) ?_
        refine yj [(301,fun i=>(101,i))] [] [] ?_;simp only[ybe,ybd,hn,zH,allQ,live,yg,ybb,go_sem,zA,↓reduceIte,reduceCtorEq];refine⟨by omega,fun i hi=>?_⟩
        rw[yst]
        by_cases q:i<L.length
        ·simp only[if_pos q];simp only[live,yg,go_sem,reduceCtorEq]
        ·obtain rfl:i=L.length:=by omega
         simp only[if_neg q,zL,zW];simp only[live,yg,go_sem,↓reduceIte,reduceCtorEq]
       ·have hbt:ybh g C.length x=(-1,((g.ports.getD C.length []).length:Int)-1):=by
         unfold ybh;rw[if_neg (by omega),if_neg (by omega),if_pos hkk]
        rw[hbt]at hbn;simp only[]at hbn;simp only[hkk];simp only[ybgx,ybid,ybhc,ybhs,ybgp,clash,zBB,hidx,ybe,ybd,hn,go_sem,zA,zB,↓reduceIte,reduceCtorEq];refine⟨by omega,ikw (by omega) (by omega),by rw[hmi];exact ikw (by omega) (by omega),ikw (by omega) (by omega),hAt.use ?_⟩
        simp only[ybi,go_sem,zA,zB,zD,↓reduceIte,reduceCtorEq];have hW:=yda (atP raw (C.length*nv+L.length)) (((g.ports.getD C.length []).length:Int)-1-(-1)+1) (by omega) hav
        obtain⟨w1,w2⟩:=ycx (v:=atP raw (C.length*nv+L.length)) (m:=((g.ports.getD C.length []).length:Int)-1-(-1)+1) (by omega)
        generalize hWe:yca (atP raw (C.length*nv+L.length)) (((g.ports.getD C.length []).length:Int)-1-(-1)+1)=W at hW w1 w2
        refine⟨ikw (by omega) (by omega),ikw (by omega) (by omega),hW.use ?_⟩
        simp only[ybhj,go_sem,zA,zB,zC,↓reduceIte,reduceCtorEq];refine⟨ikw (by omega) (by omega),⟨by omega,by omega⟩,ikw (by omega) (by omega),?_⟩
        refine yw (L++[-1+W]) ⟨⟨by simp;omega,ynq hL2 hLn (by rw[hx,hbt];exact⟨by simp only[];omega,by simp only[];omega⟩)⟩,yqq hL3 (by unfold cfgV;rw[hx,hbt,hnv];simp only[];rw[hWe])⟩ (by simp;omega) ?_
        refine yj [(301,fun i=>(101,i))] [] [] ?_;simp only[zH,allQ,live,yg,ybb,go_sem,zA,↓reduceIte,reduceCtorEq];refine⟨by omega,fun i hi=>?_⟩
        rw[yst]
        by_cases q:i<L.length
        ·simp only[if_pos q];simp only[live,yg,go_sem,reduceCtorEq]
        ·obtain rfl:i=L.length:=by omega
         simp only[if_neg q,zL,zW];simp only[live,yg,go_sem,↓reduceIte,reduceCtorEq]
      ·have hLe:L.length=nv:=by omega
       rw[hLe,<-hnv,zAT]at hL2;simp only[ydfa,ycgj,splice,go_sem,zA,zB,zC,zD,↓reduceIte,reduceCtorEq];refine⟨⟨by omega,by omega⟩,ikw (by omega) (by omega),?_⟩
       refine yw (C++[L]) ⟨⟨by simp;omega,fun v hv=>?_⟩,yqq hC3 (by unfold ybst;rw[hnv,<-hLe];exact hL3)⟩ (by simp;omega) ?_
       ·rw[yst];split
        ·exact hC2 v (by assumption)
        ·have:v=C.length:=by simp at hv;omega
         subst this;rw[if_pos rfl];exact hL2
       refine yj [(300,fun i=>(105,i))] [] [(301,0)] ?_;simp only[ybe,ybd,hn,zH,allQ,live,yg,ybb,go_sem,zA,zC,↓reduceIte,reduceCtorEq];refine⟨by omega,fun i hi=>?_⟩
       have e:=yst C L [] i;rw[e]
       by_cases q:i<C.length
       ·simp only[if_pos q];simp only[go_sem,live,yg,go_sem,reduceCtorEq]
       ·obtain rfl:i=C.length:=by omega
        simp only[if_neg q,zL,zW,if_true];simp only[go_sem,live,yg,go_sem,zA,↓reduceIte,reduceCtorEq]
    ·simp only[ycjb,go_sem,zA,zB,↓reduceIte,reduceCtorEq];refine⟨C,⟨(yff _ _ _).2 ⟨by omega,fun v st hst=>?_⟩,?_⟩,Sim.refl _⟩
     rotate_left
     ·have e:=hC3;rw[show C.length=g.ports.length by omega]at e
      exact e
     have hv:=(List.getElem?_eq_some_iff.1 hst).1;have:=hC2 v hv
     rwa [zM,hst]at this
theorem yvk(hg:ybc g)(hp:p.ok=true)(hf:ytq p g=true){raw:List Int}(hr:∀k,inK .i64 (raw.getD k 0)) :
 Ct zG 24 [grV g,ydd p.vars,yx raw] fun r=>∃c,yga p g c=true/\Sim r (ybl c) :=
 (ybfl hg hp hf hr).mono fun _ ⟨c,h1,h2⟩=>⟨c,h1.1,h2⟩
end
end Sh
end
section
namespace Sh
open Ev Go.RowKit
def blV(l:List Bool):SV:=.sl 1 l.length (fun k=>[.b (l.getD k false)])
def ycdq(l:List Bool)(k:Nat):Bool:=(l.take k).any id
structure HeldOk(legit:List Bool)(ks:List Cnt)(rounds moves:Int)(ended:Bool):Prop where
 len:legit.length=ks.length
 pos:0<legit.length
 stays:∀i,i<legit.length->ycdq legit i=true->legit.getD i false=true
 rounds:∀i,i<legit.length->ycdq legit (i+1)=false->((ks.getD i default).begun:Int)<=rounds
 moves:∀i,i<legit.length->ycdq legit (i+1)=false->0<=moves->((ks.getD i default).moves:Int)<=moves
 ends:ycdq legit legit.length=true\/ended=false
theorem ybzr{Q1 Q2:(Nat->Option ABlk)->Value->Prop}{p:ProgT}{g:Gr}{t:ByteArray}(hpr:Returns zG 37 [.a (.string t)] (.ag (ygo Q1 Q2 p.raw)))(h:Checked Q1 Q2 p g){kind:Int}(hk:1<=kind/\kind<=4){res:Nat->Nat->Nat}(hd:DaemonOk kind (g.ports.map netP) res){c:Conf}(hc:yga p g c=true){ws:List Nat}(hw:∀k,ws.getD k 0<2^32)(hwl:ws.length<=4000) :
 Returns zG 22 [.a (.string t),grV g,.i .i64 kind,ybl c,usV ws] (.tp [yed (((yby p g).runs res ws c).map (·.1)),yht (((yby p g).runs res ws c).map (·.2)),.b true]):=by
 refine Returns.of (ydmm _ _ ?_);have hX:=ybnm h hk hd hc hw hwl;obtain⟨R,hR⟩:∃R,(yby p g).runs res ws c=R:=⟨_,rfl⟩;rw[hR]at hX ⊢;have hRl:0<R.length:=by rw[<-hR];simp[Sys.runs]
 obtain⟨m,hm⟩:∃m,R.length=m:=⟨_,rfl⟩;rw[hm]at hRl;have f1:((m:Int)==(m:Int))=true:=by simp
 have f2:decide ((m:Int)>0)=true:=by simp;omega
 simp only[ygo]at hpr hX;simp only[grV,usV,yed,yht,zAC,hm]at hX;simp only[c22,ydoa,ydir,grV,usV,clash,go_sem,zB,zD,↓reduceIte,reduceCtorEq];refine hpr.use ?_;simp only[ybi,clash,go_sem,zA,zB,↓reduceIte,reduceCtorEq];refine hX.use ?_;simp(maxSteps:=5000000) only [ydix,clash,f1,f2,go_sem,zA,zB,↓reduceIte,reduceCtorEq];refine⟨by decide,?_⟩
 unfold yed yht;rw[zAC,zAC,hm];exact Sim.refl _
end Sh
end
section
open Go.RowKit
end
section
open Go.RowKit
end
section
namespace Sh
open Ev Go.RowKit
theorem ybih{n nv:Nat}{c:Conf}(h:ConfIn n nv c):ybnn c:=fun s hs x hx=>by
 have:=(h.row s hs).2 x hx;unfold InB at this;exact yhu (by omega)
end Sh
end
section
def yll(ls:List (Int×Int))(b:Int):Bool:=ls.any fun l=>decide (l.1=b)
namespace Sh
open Ev Go.RowKit
theorem ybkx{ids:List Int}{ports:List (List (Int×Int))}{a b:Nat}(ha:a<ports.length)(hl:(ports.getD a []).length<=100000) :
 Returns zG 128 [.ag [yx ids,ybe ports],.i .i64 a,.i .i64 b] (.b (yll (ports.getD a []) b)):=by
 refine Returns.of (ycyo _ _ ?_);obtain⟨n,hn⟩:∃n,ports.length=n:=⟨_,rfl⟩;obtain⟨L,hL⟩:∃L,ports.getD a []=L:=⟨_,rfl⟩;rw[hL]at hl ⊢;obtain⟨m,hm⟩:∃m,L.length=m:=⟨_,rfl⟩;simp only[c128,ycou,ycpj,go_sem,zB,zD,↓reduceIte];refine ybj (σ:=Nat) (fun k=>⟨[(7,.i .i64 k),(3,.pt (3,0) 0 0),(1,.i .i64 a),(2,.i .i64 b)],[(3,.one (some ⟨27,true,2,1,fun _=>[yx ids,ybe ports]⟩))]⟩) (fun k=>k<=m/\∀j,j<k->(L.getD j (0,0)).1≠b) (fun k=>m-k) 0 ⟨zQ _,fun j hj=>absurd hj (zV j)⟩ ?_ ?_
 ·refine yj [] [] [] ?_;simp only[go_sem,allQ,live,yg,zI,go_sem,zA,↓reduceIte,reduceCtorEq]
 ·rintro k ⟨hk,hno⟩;simp only[ycta,ycqt,yctb,ycpf,ycrw,ybe,ybd,hn,hL,hm,go_sem,zA,zB,zC,↓reduceIte,reduceCtorEq];refine⟨⟨by omega,by omega⟩,fun hlt=>⟨⟨by omega,by omega⟩,⟨by omega,by omega⟩,fun he=>?_,fun hne=>⟨ikw (by omega) (by omega),?_⟩⟩,fun hge=>?_⟩
  ·have hk':k<L.length:=by omega
   have:yll L b=true:=List.any_eq_true.2 ⟨L[k],zZ _,by rw[getD_at hk']at he;exact decide_eq_true he⟩
   rw[this];exact Sim.refl _
  ·refine yw (k+1) ⟨by omega,fun j hj=>?_⟩ (by omega) ?_
   ·by_cases q:j=k
    ·rw[q];exact hne
    ·exact hno j (by omega)
   refine yj [] [] [] ?_;simp only[allQ,live,yg,ybb,go_sem,zA,↓reduceIte,reduceCtorEq];omega
  ·have:yll L b=false:=List.any_eq_false.2 fun l hl he=>by
    obtain⟨j,hj,rfl⟩:=zAL hl;have:=hno j (by omega)
    rw[getD_at hj]at this;exact this (of_decide_eq_true he)
   rw[this];exact Sim.refl _
end Sh
end
section
namespace Sh
open Go Ev
theorem Cm.ct{P:Program}{g:FuncId}{args:List SV}{Q:SV->Own->Prop}{R:SV->Prop}(h:Cm P g [] [] args Q)(hq:∀r o',Q r o'->vok o' 5 r/\R (view o' 5 r)):Ct P g args R:=by
 intro G m us hw hle hargs
 have hc0:Conc m.next G om0 ⟨[],[]⟩ ⟨0,.leaf⟩ (enterM m) :=
  ⟨hw,zY _,zY _,hle,fun β b h=>(by cases h),fun β _=>rfl,fun β γ k z k' z' h=>(by cases h),fun β k z h=>(by cases h),fun t v hv=>(by cases hv)⟩
 obtain⟨v,m1,r,o',F',ω',s0,t2,hrv,l1,l2,_,_,hQ⟩:=h m.next G om0 ⟨0,.leaf⟩ (enterM m) us hc0 hargs
 obtain⟨r3,r4⟩:=hq r o' hQ
 have hs0:ybq P (.call g us m) (.call v m1):=by
  obtain⟨n,b,l⟩:=m;exact ybq.relow s0
 have hm1:m.next<=m1.low:=t2.low
 have hold:∀{i x},m.b.get i=some x->i<m.next:=fun {i x} q=>hw i x q
 have hview:∀H:AM,Le F' H->(∀β k z,ω' β=some (some (k,z))->∀b,m1.b.get k=some b->H k=some b)->RV H om0 (view o' 5 r) v:=fun H h1 h2=>yiu t2 h1 h2 hrv r3
 have hs1:ybq P (.call g us m) (.call v ⟨m1.next,ygu m.b m1.b,m1.low⟩):=by
  intro hwm;obtain⟨ext,hcall⟩:=hs0 hwm
  have hget:∀{i x},(ygu m.b m1.b).get i=some x->m.b.get i=some x\/m1.b.get i=some x:=fun {i x} q=>by
   rw[ycz]at q;split at q
   ·rename_i y hy;cases q;exact .inl hy
   ·exact .inr q
  refine⟨⟨ext.next,fun i b hq=>?_,fun i b h1 h2 hq=>?_,fun i b hq=>?_⟩,fun φ M w args' hR hs ha hf=>?_⟩
  ·rcases hget hq with q|q
   ·exact .inl ⟨b,q⟩
   ·exact ext.dom i b q
  ·rcases hget hq with q|q
   ·exact q
   ·exact ext.old i b h1 h2 q
  ·rcases hget hq with q|q
   ·exact zAM (hold q) ext.next
   ·exact ext.wf i b q
  ·refine(hcall φ M w args' hR hs ha hf).mono ?_;rintro e' w' ⟨v',rfl,φ',M',hgd,hv⟩;refine⟨v',rfl,φ',M',⟨hgd.le,hgd.out,hgd.rel,fun i b hq=>?_,hgd.frame,hgd.wg⟩,hv⟩;rcases hget hq with q|q
   ·have hi:=hold q;rw[hgd.frame i (fun z=>by omega) (.inr (zAM hi hm1))]
    exact hs i b q
   ·exact hgd.sub i b q
 have hnone:∀{i},m.next<=i->m.b.get i=none:=fun {i} q=>by
  cases hh:m.b.get i with
  |none=>rfl
  |some x=>have:=hold hh;omega
 refine⟨_,_,view o' 5 r,hs1,hm1,fun i b hq=>?_,r4,hview _ (fun i b hq=>?_) (fun β k z hk b hq=>?_)⟩
 ·show(ygu m.b m1.b).get i=some b;rw[ycz,hq]
 ·unfold frsh;rcases l2 i b hq with q|q
  ·rw[if_neg (by have:=hold (hle i b q);omega)];exact q
  ·rw[if_pos q];show(ygu m.b m1.b).get i=some b;rw[ycz,hnone q];exact t2.sub i b hq
 ·unfold frsh;have:=(t2.apart β k z hk).2.1;rw[if_pos this];show(ygu m.b m1.b).get k=some b;rw[ycz,hnone this];exact hq
theorem Cm.weak {P:Program}{g:FuncId}{o:Own}{args:List SV}{Q R:SV->Own->Prop}(h:Cm P g [] o args Q)
 (hq:∀r o',Q r o'->∃r2 o2,Weak [] ⟨[(0,r)],o'⟩ ⟨[(0,r2)],o2⟩/\(cln (live o2) 5 r2=true/\allQ (fun p=>ycf (live o2) p.2) o2)/\R r2 o2):Cm P g [] o args R:=by
 intro lo G ω f m us hc hargs;obtain⟨v,m1,r,o',F',ω',s0,t2,hrv,l1,l2,_,_,hQ⟩:=h lo G ω f m us hc hargs;obtain⟨r2,o2,hw,hcl,hR⟩:=hq r o' hQ
 have t3:Conc lo F' ω' ⟨[(0,r)],o'⟩ ⟨1,tOf [v]⟩ m1:=⟨t2.wf,t2.low,t2.nxt,t2.sub,t2.own,t2.dom,t2.inj,t2.apart,fun t x hx=>by
  unfold look at hx;split at hx
  ·rename_i e
   cases hx
   exact⟨v,by rw[ycp];simp[<-e],hrv⟩
  ·cases hx⟩
 obtain⟨ω2,F2,k1,k2,k3,_⟩:=hw lo F' ω' _ m1 t3;obtain⟨u,q1,q2⟩:=k3.fr 0 r2 rfl
 have e:u=v:=by
  rw[ycp]at q1
  simpa using q1.symm
 subst e
 exact⟨u,m1,r2,o2,F2,ω2,s0,⟨k3.wf,k3.low,k3.nxt,k3.sub,k3.own,k3.dom,k3.inj,k3.apart,fun t x hx=>(by cases hx)⟩,q2,fun x b hx=>k1 x b (l1 x b hx),fun x b hx=>by
  rcases k2 x b hx with z|z
  ·exact l2 x b z
  ·exact .inr z,fun β hβ=>absurd hβ zAA,⟨hcl.1,hcl.2,trivial⟩,hR⟩
end Sh
end
section
def yvb(g:Gr):Nat:=(g.ports.map zAR).sum
def addL(back:Bool)(l:List (Int×Int))(x:Int×Int):List (Int×Int):=if back then x::l else l++[x]
theorem yep{back:Bool}{l:List (Int×Int)}{x y:Int×Int}:y∈addL back l x↔y=x\/y∈l:=by
 unfold addL;cases back<;>simp[or_comm]
def ycg(back:Bool)(g:Gr)(a b:Nat)(w:Int):Gr:=⟨g.ids,(g.ports.set a (addL back (g.ports.getD a []) (b,w))).set b (addL back (g.ports.getD b []) (a,w))⟩
theorem yds(back:Bool)(g:Gr){a b:Nat}(w:Int)(ha:a<g.ports.length)(hb:b<g.ports.length)(v:Nat) :
 (ycg back g a b w).ports.getD v []=if v=b then addL back (g.ports.getD b []) (a,w)else if v=a then addL back (g.ports.getD a []) (b,w)else g.ports.getD v []:=by
 unfold ycg;simp only[zM]
 by_cases h1:v=b
 ·subst h1;rw[if_pos rfl,zAH (by simpa using hb)]
  rfl
 ·rw[if_neg h1,zAI (fun q=>h1 q.symm)]
  by_cases h2:v=a
  ·subst h2;rw[if_pos rfl,zAH ha];rfl
  ·rw[if_neg h2,zAI (fun q=>h2 q.symm)]
theorem ypf{back:Bool}{l:List (Int×Int)}{v n:Int}{x:Int×Int}(h:ycl l v n)(hx:ykw v n x)(hno:∀y∈l,y.1≠x.1):ycl (addL back l x) v n:=by
 refine⟨fun y hy=>?_,?_⟩
 ·rcases yep.1 hy with rfl|hy
  ·exact hx
  ·exact h.1 y hy
 ·have hn:x.1∉l.map (·.1):=fun hm=>by
   obtain⟨y,hy,e⟩:=List.mem_map.1 hm;exact hno y hy e
  unfold addL;cases back
  ·simp only[Bool.false_eq_true,if_false,zAV,zBC,List.map_nil];rw[zAQ];refine⟨h.2,by simp,fun p hp q hq=>?_⟩
   rw[List.mem_singleton]at hq;subst hq;intro e;exact hn (e▸hp)
  ·simp only[if_true,zBC];exact List.nodup_cons.2 ⟨hn,h.2⟩
theorem ybay{back:Bool}{g:Gr}(hg:ybc g){a b:Nat}{w:Int}(ha:a<g.ports.length)(hb:b<g.ports.length)(hab:a≠b)(hw:1<=w/\w<=15)(hno:∀y∈g.ports.getD a [],y.1≠(b:Int)):ybc (ycg back g a b w):=by
 obtain⟨h1,h2,h3,h4,h5,h6,h7⟩:=hg;have hlen:(ycg back g a b w).ports.length=g.ports.length:=by simp[ycg]
 have gd:∀(v:Nat) (hv:v<g.ports.length),g.ports.getD v []=g.ports[v]:=fun v hv=>by simp[zM,hv]
 have hno2:∀y∈g.ports.getD b [],y.1≠(a:Int):=fun y hy e=>by
  rw[gd b hb]at hy;have:=h7 ⟨b,hb⟩ y hy;rw[e,zAD]at this;exact hno _ this rfl
 have at_:∀(v:Nat) (hv:v<g.ports.length),(ycg back g a b w).ports[v]'(by rw[hlen];exact hv)=if v=b then addL back (g.ports.getD b []) (a,w)else if v=a then addL back (g.ports.getD a []) (b,w)else g.ports.getD v []:=fun v hv=>by
  rw[<-yds back g w ha hb v];simp[zM,hlen,hv]
 refine⟨by rw[hlen];exact h1,by rw[hlen];exact h2,by rw[hlen];exact h3,h4,h5,fun v=>?_,fun v l hl=>?_⟩
 ·have hv:v.1<g.ports.length:=zAN v.isLt hlen;have hl':(((ycg back g a b w).ports.length:Nat):Int)=(g.ports.length:Int):=by rw[hlen]
  rw[hl'];show ycl ((ycg back g a b w).ports[v.1]) _ _;rw[at_ v.1 hv];split
  ·rename_i e
   rw[e];refine ypf ?_ ⟨by simp only[];omega,by simp only[];omega,by simp only[];omega,hw.1,hw.2⟩ hno2
   rw[gd b hb];exact h6 ⟨b,hb⟩
  ·split
   ·rename_i e
    rw[e];refine ypf ?_ ⟨by simp only[];omega,by simp only[];omega,by simp only[];omega,hw.1,hw.2⟩ hno
    rw[gd a ha];exact h6 ⟨a,ha⟩
   ·rw[gd v.1 hv];exact h6 ⟨v.1,hv⟩
 ·have hv:v.1<g.ports.length:=zAN v.isLt hlen
  change l∈(ycg back g a b w).ports[v.1]at hl
  rw[at_ v.1 hv]at hl
  have old:∀u x,x∈g.ports.getD u []->x∈(ycg back g a b w).ports.getD u []:=fun u x hx=>by
   rw[yds back g w ha hb u];split
   ·rename_i e;subst e;exact yep.2 (.inr hx)
   ·split
    ·rename_i e;subst e;exact yep.2 (.inr hx)
    ·exact hx
  have sym:∀(u:Nat) (hu:u<g.ports.length),l∈g.ports.getD u []->((u:Int),l.2)∈(ycg back g a b w).ports.getD l.1.toNat []:=fun u hu hx=>by
   rw[gd u hu]at hx;exact old _ _ (h7 ⟨u,hu⟩ l hx)
  split at hl
  ·rename_i e
   rcases yep.1 hl with rfl|hl
   ·rw[yds back g w ha hb,e];simp only[zAD];simp only[if_neg hab,if_true];exact yep.2 (.inl rfl)
   ·rw[e];exact sym b hb hl
  ·split at hl
   ·rename_i e
    rcases yep.1 hl with rfl|hl
    ·rw[yds back g w ha hb,e];simp only[zAD];simp only[if_true];exact yep.2 (.inl rfl)
    ·rw[e];exact sym a ha hl
   ·exact sym v.1 hv hl
end
section
def Tre(g:Gr)(m:Nat):Prop:=∀v,0<v->v<m->∃u,u<v/\adj g u v
theorem Tre.walk{g:Gr}{m:Nat}(h:Tre g m):∀v,v<m->∃k,Walk g 0 k v:=by
 intro v
 induction v using Nat.strongRecOn with
 | _ v ih =>
   intro hv
   by_cases h0:v=0
   ·subst h0;exact⟨0,rfl⟩
   ·obtain⟨u,hu,ha⟩:=h v (by omega) hv
    obtain⟨k,hk⟩:=ih u hu (by omega)
    exact⟨k+1,u,hk,ha⟩
theorem Tre.conn{g:Gr}(hg:ybc g)(h:Tre g g.ports.length):ydf g=true:=by
 unfold ydf;rw[(ydw g).2 hg,zBD,yrh hg (a:=0) (by have:=hg.1;omega)]
 exact h.walk
theorem yho{g:Gr}{u v:Nat}:adj g u v↔∃l,l∈g.ports.getD u []/\l.1=(v:Int):=by
 constructor
 ·rintro⟨ls,h,l,hl,e⟩;exact⟨l,by simpa[zM,h]using hl,e⟩
 ·rintro⟨l,hl,e⟩;cases h:g.ports[u]? with
  |none=>simp[zM,h]at hl
  |some ls=>exact⟨ls,h,l,by simpa[zM,h]using hl,e⟩
theorem ybee{back:Bool}{g:Gr}{a b:Nat}{w:Int}(ha:a<g.ports.length)(hb:b<g.ports.length){u v:Nat}(h:adj g u v):adj (ycg back g a b w) u v:=by
 obtain⟨l,hl,e⟩:=yho.1 h;refine yho.2 ⟨l,?_,e⟩;rw[yds back g w ha hb u];split
 ·rename_i q;subst q;exact yep.2 (.inr hl)
 ·split
  ·rename_i q;subst q;exact yep.2 (.inr hl)
  ·exact hl
theorem ybgn{back:Bool}{g:Gr}{a b:Nat}{w:Int}(ha:a<g.ports.length)(hb:b<g.ports.length)(hab:a≠b):adj (ycg back g a b w) a b:=by
 refine yho.2 ⟨((b:Int),w),?_,rfl⟩;rw[yds back g w ha hb a,if_neg hab,if_pos rfl];exact yep.2 (.inl rfl)
theorem Tre.add{back:Bool}{g:Gr}{a b:Nat}{w:Int}(ha:a<g.ports.length)(hb:b<g.ports.length){m:Nat}(h:Tre g m):Tre (ycg back g a b w) m:=fun v h0 hv=>by
 obtain⟨u,hu,hadj⟩:=h v h0 hv;exact⟨u,hu,ybee ha hb hadj⟩
def bare(ids:List Int):Gr:=⟨ids,zAX ids.length []⟩
theorem ybrx{ids:List Int}(h1:1<=ids.length)(h2:ids.length<=24)(h3:∀x∈ids,0<=x/\x<=255)(h4:ids.Nodup):ybc (bare ids):=by
 have e:∀v:Fin (bare ids).ports.length,(bare ids).ports[v]=[]:=fun v=>by
  have hv:v.1<ids.length:=by have:=v.isLt;simpa[bare]using this
  show(zAX ids.length ([]:List (Int×Int)))[v.1]'(by simpa using hv)=[]
  exact List.getElem_replicate ..
 refine⟨by simpa[bare]using h1,by simpa[bare]using h2,by simp[bare],h3,h4,fun v=>?_,fun v l hl=>?_⟩
 ·rw[e v];exact⟨fun l hl=>(nomatch hl),zAY⟩
 ·rw[e v]at hl;cases hl
end
section
structure NetR where
 n:Int
 links:List Int
 weights:List Int
 ids:List Int
 apart:Bool
 back:Bool
def NetR.ok(x:NetR):Prop:=Sh.inK .i64 x.n/\(∀k,Sh.inK .i64 (x.links.getD k 0))/\(∀k,Sh.inK .i64 (x.weights.getD k 0))/\(∀k,Sh.inK .i64 (x.ids.getD k 0))
theorem ybgj(a r:Nat)(hr:r<=256):((zX r).map fun i=>(((a+i)%256:Nat):Int)).Nodup:=by
 unfold List.Nodup;rw[List.pairwise_map];refine List.Pairwise.imp_of_mem (R:=(· < ·)) (fun {i j} hi hj h=>?_) List.pairwise_lt_range;have hi:=List.mem_range.1 hi;have hj:=List.mem_range.1 hj;intro e;omega
theorem ybhn{a r:Nat}{l:List Int}(hr:r<=256)(h:∀i,i<r->(((a+i)%256:Nat):Int)∈l):r<=l.length:=by
 have:=List.Nodup.length_le_of_subset (ybgj a r hr) (l₂:=l) fun x hx=>by
  obtain⟨i,hi,rfl⟩:=List.mem_map.1 hx;exact h i (List.mem_range.1 hi)
 simpa using this
namespace Sh
open Ev Go.RowKit
def netC(x:NetR):List SV:=[.i .i64 x.n,yx x.links,yx x.weights,yx x.ids,.b x.apart,.b x.back]
theorem wrap64_in(z:Int):inK .i64 (IntKind.wrap .i64 z):=by
 unfold inK;have e1:IntKind.i64.min = -9223372036854775808:=rfl;have e2:IntKind.i64.max=9223372036854775807:=rfl;have h1:=zU z (show(18446744073709551616:Int)≠0 by decide)
 have h2:=zO z (show(0:Int)<18446744073709551616 by decide)
 rw[e1,e2]
 have e:IntKind.wrap .i64 z=if z%18446744073709551616>=9223372036854775808 then z%18446744073709551616-18446744073709551616 else z%18446744073709551616:=by
  show(if (true&&decide (z%18446744073709551616>=9223372036854775808))=true then z%18446744073709551616-18446744073709551616 else z%18446744073709551616)=_
  simp only[zBD,decide_eq_true_eq]
 rw[e];split<;>omega
theorem ybrc{x:NetR}(hx:x.ok){most:Nat}(hm:1<=most/\most<=24) :
 Cm zG 75 [] [] [.ag (netC x),.i .i64 most] fun r o=>∃ids:List Int,(1<=ids.length/\ids.length<=most/\(ids.length:Int)=1+yca (IntKind.wrap .i64 (x.n-1)) most)/\(∀y∈ids,0<=y/\y<=255)/\ids.Nodup/\r = .ag [.os (148,0) 0 ids.length true,.os (17,0) 0 ids.length true] /\
  o=[(17,.one (some ⟨71,false,1,ids.length,fun _=>[.a (.slice none 0 0)]⟩)),(148,.one (some ⟨3,false,1,ids.length,fun k=>[.i .i64 (ids.getD k 0)]⟩))]:=by
 refine ydef [] [] _ _ _ ?_;obtain⟨hx1,hx2,hx3,hx4⟩:=hx;have hin:=ycx (v:=IntKind.wrap .i64 (x.n-1)) (m:=(most:Int)) (by omega)
 obtain⟨k,hk⟩:∃k:Nat,yca (IntKind.wrap .i64 (x.n-1)) most=k:=zK hin.1;have hW:=yda (IntKind.wrap .i64 (x.n-1)) most (by omega) (wrap64_in _)
 rw[hk]at hW hin;obtain⟨n,hn⟩:∃n:Nat,(1:Int)+(k:Int)=(n:Int):=⟨1+k,by omega⟩
 have hn1:1<=n/\n<=most/\(n:Int)=1+yca (IntKind.wrap .i64 (x.n-1)) most:=by omega
 simp only[c75,ydfw,ydfd,netC,go_sem,zA,zB,zC,zD,↓reduceIte,reduceCtorEq];refine hW.use ?_;simp only[ybi,ydfs,ydft,hn,clash,go_sem,zA,zB,zD,↓reduceIte,reduceCtorEq];refine⟨ikw (by omega) (by omega),⟨by omega,by omega,by omega⟩,?_⟩
 refine ybj (σ:=List Int) (fun l=>⟨[(7,.i .i64 l.length),(5,.i .i64 n),(2,.pt (2,0) 0 0),(6,.pt (6,0) 0 0),(4,.pt (4,0) 0 0)],
  [(2,.one (some ⟨24,true,6,1,fun _=>netC x⟩)),(4,.one (some ⟨27,true,2,1,fun _=>[.a (.slice none 0 0),.a (.slice none 0 0)]⟩)),
   (6,.one (some ⟨27,true,2,1,fun _=>[.os (148,0) 0 l.length true,.os (17,0) 0 n true]⟩)),(17,.one (some ⟨71,false,1,n,fun _=>[.a (.slice none 0 0)]⟩)),
   (148,.one (some ⟨3,false,1,l.length,fun k=>[.i .i64 (l.getD k 0)]⟩))]⟩)
  (fun l=>l.length<=n/\(∀y∈l,0<=y/\y<=255)/\l.Nodup) (fun l=>n-l.length) [] ⟨zQ _,fun y hy=>(zAA hy).elim,zAY⟩ ?_ ?_
 ·refine yj [] [148] [] ?_;simp only[netC,allQ,live,yg,zI,go_sem,zA,zF,↓reduceIte,reduceCtorEq];exact fun i _=>⟨(148,0),rfl,rfl,rfl⟩
 ·rintro l ⟨hl,hl2,hl3⟩;obtain⟨v,hv⟩:∃v,l.length=v:=⟨_,rfl⟩;rw[hv]at hl;have hA:=at_ret x.ids v;have hi2:=ycx (v:=atP x.ids v) (m:=256) (by omega)
  obtain⟨a,ha⟩:∃a:Nat,yca (atP x.ids v) 256=a:=zK hi2.1;have hW2:=yda (atP x.ids v) 256 (by omega) (hx4 v)
  rw[ha]at hW2 hi2;simp only[ydfl,ydnh,ydge,yciu,netC,hv,splice,clash,go_sem,zA,zB,zC,↓reduceIte,reduceCtorEq];refine⟨fun hlt=>?_,fun hge=>?_⟩
  ·refine hA.use ?_;simp only[ybi,clash,go_sem,zA,zB,↓reduceIte,reduceCtorEq];refine hW2.use ?_
   refine ybj (σ:=Nat×Nat) (fun q=>⟨[(9,.i .i64 q.2),(8,.i .i64 ((a+q.1)%256:Nat)),(7,.i .i64 v),(5,.i .i64 n),(2,.pt (2,0) 0 0),(6,.pt (6,0) 0 0),(4,.pt (4,0) 0 0)],
    [(2,.one (some ⟨24,true,6,1,fun _=>netC x⟩)),(4,.one (some ⟨27,true,2,1,fun _=>[.a (.slice none 0 0),.a (.slice none 0 0)]⟩)),
     (6,.one (some ⟨27,true,2,1,fun _=>[.os (148,0) 0 v true,.os (17,0) 0 n true]⟩)),(17,.one (some ⟨71,false,1,n,fun _=>[.a (.slice none 0 0)]⟩)),
     (148,.one (some ⟨3,false,1,v,fun k=>[.i .i64 (l.getD k 0)]⟩))]⟩)
    (fun q=>q.2<=v/\(∀i,i<q.1->(((a+i)%256:Nat):Int)∈l)/\q.1<=256/\∀j,j<q.2->l.getD j 0≠(((a+q.1)%256:Nat):Int)) (fun q=>(v-q.1)*(v+2)+(v-q.2)) (0,0) ⟨zQ _,fun i hi=>absurd hi (zV i),by omega,fun j hj=>absurd hj (zV j)⟩ ?_ ?_
   ·refine yj [] [] [] ?_;simp only[netC,allQ,live,yg,ybb,zI,go_sem,zA,↓reduceIte,reduceCtorEq];rw[Nat.mod_eq_of_lt (by omega)]
   ·rintro⟨r,u⟩ ⟨hu,hr,hr256,hno⟩;obtain⟨b,hb⟩:∃b,(a+r)%256=b:=⟨_,rfl⟩;have hb256:b<256:=by omega
    simp only[ydja,ydfx,ycwz,ycoe,ycgb,ydgi,netC,hb,splice,clash,go_sem,zA,zB,zC,zD,↓reduceIte,reduceCtorEq];have hu:u<=v:=hu;have hr:∀i,i<r->(((a+i)%256:Nat):Int)∈l:=hr;have hr256:r<=256:=hr256;have hno:∀j,j<u->l.getD j 0≠(b:Int):=fun j hj=>by rw[<-hb];exact hno j hj
    have hrv:r<=v:=by rw[<-hv];exact ybhn hr256 hr
    refine⟨fun hlt2=>⟨⟨by omega,by omega⟩,by omega,fun he=>⟨ikw (by omega) (by omega),by decide,ikw (by omega) (by omega),?_⟩,fun hne=>⟨ikw (by omega) (by omega),?_⟩⟩,fun hge2=>?_⟩
    ·have hmem:(b:Int)∈l:=by
      rw[<-he,getD_at (show u<l.length by omega)]
      exact zZ _
     have hr':∀i,i<r+1->(((a+i)%256:Nat):Int)∈l:=fun i hi=>by
      by_cases q:i=r
      ·rw[q,hb];exact hmem
      ·exact hr i (by omega)
     have hrv':r+1<=v:=by rw[<-hv];exact ybhn (by omega) hr'
     refine yw (r+1,0) ⟨zQ _,hr',by show r+1<=256;omega,fun j hj=>absurd hj (zV j)⟩ ?_ ?_
     ·show(v-(r+1))*(v+2)+(v-0)<(v-r)*(v+2)+(v-u);obtain⟨m,hm⟩:∃m,v-r=m+1:=⟨v-r-1,by omega⟩
      rw[show v-(r+1)=m by omega,hm,Nat.succ_mul]
      generalize m*(v+2)=z
      omega
     ·refine yj [] [] [] ?_;simp only[allQ,live,yg,ybb,zI,go_sem,zA,↓reduceIte,reduceCtorEq];refine⟨by omega,?_⟩
      rw[Int.tmod_eq_emod_of_nonneg (by omega)]
      omega
    ·refine yw (r,u+1) ⟨by show u+1<=v;omega,hr,hr256,fun j hj=>?_⟩ ?_ ?_
     ·show l.getD j 0≠(((a+r)%256:Nat):Int);rw[hb]
      by_cases q:j=u
      ·rw[q];exact hne
      ·exact hno j (by have:j<u+1:=hj;omega)
     ·show(v-r)*(v+2)+(v-(u+1))<(v-r)*(v+2)+(v-u)
      generalize (v-r)*(v+2)=z
      omega
     ·refine yj [] [] [] ?_;simp only[hb,allQ,live,yg,ybb,go_sem,zA,↓reduceIte,reduceCtorEq];omega
    ·obtain rfl:u=v:=by omega
     refine⟨⟨by omega,by omega⟩,ikw (by omega) (by omega),?_⟩
     have hno':(b:Int)∉l:=fun hm=>by
      obtain⟨j,hj,e⟩:=zAL hm;exact hno j (by omega) (by rw[getD_at hj,e])
     refine yw (l++[(b:Int)]) ⟨by rw[zH,zS];omega,fun y hy=>?_,?_⟩ (by rw[zH,zS];omega) ?_
     ·rcases List.mem_append.1 hy with hy|hy
      ·exact hl2 y hy
      ·rw[List.mem_singleton.1 hy];omega
     ·rw[zAQ];exact⟨hl3,by simp,fun y hy z hz=>by rw[List.mem_singleton.1 hz];exact fun e=>hno' (e▸hy)⟩
     refine yj [(148,fun i=>(48,i))] [] [] ?_;simp only[zH,hv,allQ,live,yg,ybb,go_sem,zA,↓reduceIte,reduceCtorEq];refine⟨by omega,fun i hi=>?_⟩
     rw[yst,hv]
     by_cases q:i<u
     ·simp only[if_pos q];simp only[live,yg,go_sem,reduceCtorEq]
     ·obtain rfl:i=u:=by omega
      simp only[if_neg q,zL];simp only[live,yg,go_sem,↓reduceIte,reduceCtorEq]
  ·obtain rfl:v=n:=by omega
   simp only[ygg,go_sem];refine⟨.ag [.os (148,0) 0 v true,.os (17,0) 0 v true],[(17,.one (some ⟨71,false,1,v,fun _=>[.a (.slice none 0 0)]⟩)),(148,.one (some ⟨3,false,1,v,fun k=>[.i .i64 (l.getD k 0)]⟩))],?_,?_,l,by rw[hv];exact hn1,hl2,hl3,by rw[hv],by rw[hv]⟩
   ·refine yj [] [] [] ?_;simp only[allQ,live,yg,go_sem,zA,↓reduceIte,reduceCtorEq]
   ·simp only[ycf,yfd,allQ,live,go_sem,zA,↓reduceIte]
theorem ycbv{x:NetR}(hx:x.ok){most:Nat}(hm:1<=most/\most<=24) :
 Cm zG 75 [] [] [.ag (netC x),.i .i64 most] fun r o=>∃ids:List Int,(1<=ids.length/\ids.length<=most/\(ids.length:Int)=1+yca (IntKind.wrap .i64 (x.n-1)) most)/\(∀y∈ids,0<=y/\y<=255)/\ids.Nodup/\r = .ag [yx ids,.os (17,0) 0 ids.length true] /\
  o=[(17,.one (some ⟨71,false,1,ids.length,fun _=>[.a (.slice none 0 0)]⟩))] :=
 (ybrc hx hm).weak fun r o' ⟨ids,h1,h2,h3,e1,e2⟩=>by
   subst e1 e2;obtain⟨v,hv⟩:∃v,ids.length=v:=⟨_,rfl⟩;refine⟨.ag [yx ids,.os (17,0) 0 ids.length true],[(17,.one (some ⟨71,false,1,ids.length,fun _=>[.a (.slice none 0 0)]⟩))],?_,?_,ids,h1,h2,h3,rfl,rfl⟩
   ·refine yj [] [] [(148,0)] ?_;simp only[yx,hv,allQ,live,yg,go_sem,zA,↓reduceIte,reduceCtorEq]
   ·simp only[ycf,yfd,allQ,live,go_sem,↓reduceIte]
end Sh
end
section
namespace Sh
open Go Ev Go.RowKit Go.ChangeShapes Go.WideShapes Go.ChangeAt Go.Joins
theorem ydhp{α:Type}{cs:Array α}(h:cs.size=6):∃c0 c1 c2 c3 c4 c5,cs = #[c0,c1,c2,c3,c4,c5]:=by
 obtain⟨l⟩:=cs
 match l,h with
 |[c0,c1,c2,c3,c4,c5],_=>exact⟨c0,c1,c2,c3,c4,c5,rfl⟩
section
variable {H:Type}{enc:TypeId×Value->H}{P:Program}{w:World}{base:Nat}{held:Bool}{spare:Nat->Bool}
theorem six{α:Type}{xs:List α}(h:xs.length=6):∃y0 y1 y2 y3 y4 y5,xs=[y0,y1,y2,y3,y4,y5]:=by
 match xs,h with
 |[y0,y1,y2,y3,y4,y5],_=>exact⟨y0,y1,y2,y3,y4,y5,rfl⟩
theorem ybtl {r:Reach}{b0:Nat}{t:TypeId}{f0 f1 f2 f3 f4 f5:Field}{v:Value}{d:DataW H}{p:List MemPlace}(hs:P.underlying t=some (.struct #[f0,f1,f2,f3,f4,f5])) (hone:Go.Deep.oneCellFields P #[f0,f1,f2,f3,f4,f5]=true) (hC:P.cellsOf t=6)
 (hv:Value.okWide P w r b0 t v) (h:DataW.Trod enc P w base spare held t v d p) :
 ∃ (v0 v1 v2 v3 v4 v5:Value) (y0 y1 y2 y3 y4 y5:DataW H×List MemPlace) (n:Nat),v = .agg #[v0,v1,v2,v3,v4,v5] /\
   DataW.trod enc P w base spare held n f0.type [v0]=some y0/\DataW.trod enc P w base spare held n f1.type [v1]=some y1/\DataW.trod enc P w base spare held n f2.type [v2]=some y2 /\
   DataW.trod enc P w base spare held n f3.type [v3]=some y3/\DataW.trod enc P w base spare held n f4.type [v4]=some y4/\DataW.trod enc P w base spare held n f5.type [v5]=some y5:=by
 obtain⟨cs,rfl,hsz⟩:=okWide_struct hs hv;obtain⟨c0,c1,c2,c3,c4,c5,rfl⟩:=ydhp (hsz.trans hC);obtain⟨fuel,hf⟩:=h;obtain⟨xs,n,_,_,_,hlen,hf⟩:=DataW.trod_struct hs hf;obtain⟨y0,y1,y2,y3,y4,y5,rfl⟩:=six hlen;obtain⟨o0,k0⟩:=Go.Deep.hone_of hone 0 f0 rfl;obtain⟨o1,k1⟩:=Go.Deep.hone_of hone 1 f1 rfl;obtain⟨o2,k2⟩:=Go.Deep.hone_of hone 2 f2 rfl;obtain⟨o3,k3⟩:=Go.Deep.hone_of hone 3 f3 rfl;obtain⟨o4,k4⟩:=Go.Deep.hone_of hone 4 f4 rfl
 obtain⟨o5,k5⟩:=Go.Deep.hone_of hone 5 f5 rfl;have h0:=hf 0 f0 rfl;have h1:=hf 1 f1 rfl;have h2:=hf 2 f2 rfl;have h3:=hf 3 f3 rfl;have h4:=hf 4 f4 rfl;have h5:=hf 5 f5 rfl;rw[o0,k0]at h0;rw[o1,k1]at h1;rw[o2,k2]at h2;rw[o3,k3]at h3;rw[o4,k4]at h4;rw[o5,k5]at h5;exact⟨c0,c1,c2,c3,c4,c5,y0,y1,y2,y3,y4,y5,n,rfl,h0,h1,h2,h3,h4,h5⟩
end
section
variable {H:Type}{enc:TypeId×Value->H}{w:World}{base:Nat}{held:Bool}{n:Nat}{v:Value}{x:DataW H×List MemPlace}
theorem ybum(w:World)(b:Bool):yti w (.b b) (.bool b):=⟨.bool b,rfl,.b⟩
theorem ybis{l:List Int}(h:∀x∈l,I64 x)(k:Nat):inK .i64 (l.getD k 0):=by
 have:I64 (l.getD k 0):=by
  rcases Nat.lt_or_ge k l.length with q|q
  ·rw[zT,zAG q];exact h _ (zZ q)
  ·rw[zT,zAB q];exact yhu (by decide)
 exact this
theorem ybaw{v:Value}{x:DataW H×List MemPlace}(h:DataW.trod enc zG w base (fun _=>true) held n 3 [v]=some x):∃k,inK .i64 k/\yti w (.i .i64 k) v:=by
 obtain⟨k,e,_,hw⟩:=DataW.trod_int Tryz.underlying3 h;simp at e;subst e;exact⟨k,wf_i64 hw,ybje w .i64 k⟩
theorem yuy{v:Value}{x:DataW H×List MemPlace}(h:DataW.trod enc zG w base (fun _=>true) held n 4 [v]=some x):∃b,yti w (.b b) v:=by
 obtain⟨b,e,_⟩:=DataW.trod_bool Tryz.underlying4 h;simp at e;subst e;exact⟨b,ybum w b⟩
theorem ybrh{b0:Nat}{d:DataW H}{p:List MemPlace}(hv:Value.okWide zG w .any b0 24 v)(h:DataW.Trod enc zG w base (fun _=>true) held 24 v d p) :
 ∃(x:NetR) (u:Value),x.ok/\RV (memW w).b.get om0 (.ag (netC x)) u/\VR (phiW w) u v:=by
 obtain⟨v0,v1,v2,v3,v4,v5,y0,y1,y2,y3,y4,y5,n,rfl,h0,h1,h2,h3,h4,h5⟩:=ybtl Tryz.underlying24 (by kernel_rfl) (by kernel_rfl) hv h
 obtain⟨k,kI,u0,a0,r0⟩:=ybaw h0;obtain⟨ls,lI,u1,a1,r1⟩:=ymq h1;obtain⟨ws,wI,u2,a2,r2⟩:=ymq h2;obtain⟨is,iI,u3,a3,r3⟩:=ymq h3;obtain⟨ap,u4,a4,r4⟩:=yuy h4;obtain⟨bk,u5,a5,r5⟩:=yuy h5;refine⟨⟨k,ls,ws,is,ap,bk⟩,.agg [u0,u1,u2,u3,u4,u5].toArray,⟨kI,ybis lI,ybis wI,ybis iI⟩,.ag (.cons r0 (.cons r1 (.cons r2 (.cons r3 (.cons r4 (.cons r5 .nil)))))),?_⟩;exact .agg (a:=[u0,u1,u2,u3,u4,u5]) (a':=[v0,v1,v2,v3,v4,v5]) (.cons (yir a0) (.cons (yir a1) (.cons (yir a2) (.cons (yir a3) (.cons (yir a4) (.cons (yir a5) .nil))))))
end
end Sh
end
section
def yhp(back:Bool)(g:Gr)(a b:Nat)(w:Int):Gr:=if a=b\/yll (g.ports.getD a []) b=true then g else ycg back g a b w
namespace Sh
open Ev Go.RowKit
def rowO(l:List (Int×Int)):OB:=⟨95,false,2,l.length,fun k=>[.i .i64 (l.getD k (0,0)).1,.i .i64 (l.getD k (0,0)).2]⟩
def ydc(ports:List (List (Int×Int))):Own:=[(211,.one (some ⟨71,false,1,ports.length,fun v=>[.os (212,v) 0 (ports.getD v []).length true]⟩)),
 (212,.many fun v=>if v<ports.length then some (rowO (ports.getD v []))else none)]
def yhl(g:Gr):SV:=.ag [yx g.ids,.os (211,0) 0 g.ports.length true]
theorem ycd{i n:Nat}{x b:OB}(h:(if i<n then some x else none)=some b):i<n/\b=x:=by
 split at h
 ·cases h;exact⟨by assumption,rfl⟩
 ·cases h
theorem ybw(back:Bool)(L:List (Int×Int))(x:Int×Int):(addL back L x).length=L.length+1:=by
 unfold addL;cases back<;>simp
theorem ysw(L:List (Int×Int))(x:Int×Int){k:Nat}(hk:k<L.length+1):(if k<L.length then[SV.i .i64 (L.getD k (0,0)).1,SV.i .i64 (L.getD k (0,0)).2]else zAZ 2 (zBA ((k-L.length)*2) [SV.i .i64 x.1,SV.i .i64 x.2]))=[SV.i .i64 ((addL false L x).getD k (0,0)).1,SV.i .i64 ((addL false L x).getD k (0,0)).2]:=by
 show _=[SV.i .i64 ((L++[x]).getD k (0,0)).1,SV.i .i64 ((L++[x]).getD k (0,0)).2];rw[yst]
 by_cases h:k<L.length
 ·rw[if_pos h,if_pos h]
 ·obtain rfl:k=L.length:=by omega
  rw[if_neg h,if_neg h,if_pos rfl,zL];rfl
theorem yms(L:List (Int×Int))(x:Int×Int)(k:Nat):(if k<1 then zAZ 2 (zBA (k*2) [SV.i .i64 x.1,SV.i .i64 x.2])else[SV.i .i64 (L.getD (k-1) (0,0)).1,SV.i .i64 (L.getD (k-1) (0,0)).2])=[SV.i .i64 ((addL true L x).getD k (0,0)).1,SV.i .i64 ((addL true L x).getD k (0,0)).2]:=by
 show _=[SV.i .i64 ((x::L).getD k (0,0)).1,SV.i .i64 ((x::L).getD k (0,0)).2];cases k with
 |zero=>rfl
 |succ k=>rw[if_neg (by omega)];rfl
theorem cells_one(L:List (Int×Int))(h:L.length=0)(x:Int×Int){k:Nat}(hk:k<1):zAZ 2 (zBA (k*2) [SV.i .i64 x.1,SV.i .i64 x.2])=[SV.i .i64 ((addL true L x).getD k (0,0)).1,SV.i .i64 ((addL true L x).getD k (0,0)).2]:=by
 obtain rfl:k=0:=by omega
 rfl
theorem yip {n:Nat}{o:Own}{P':List (List (Int×Int))}(hl:P'.length=n) (A:Nat->Nm) {R:Nat->List SV}(h11:lookO o (211,0)=some ⟨71,false,1,n,R⟩) (hR:∀v,v<n->R v=[.os (A v) 0 (P'.getD v []).length true])
 (hA:∀v,v<n->∃q,lookO o (A v)=some ⟨95,false,2,(P'.getD v []).length,q⟩/\∀k,k<(P'.getD v []).length->q k=[.i .i64 ((P'.getD v []).getD k (0,0)).1,.i .i64 ((P'.getD v []).getD k (0,0)).2])
 (hi:∀u v,u<n->v<n->A u=A v->u=v) (h0:∀v,v<n->A v≠(211,0)) :
 ∃r o',Weak [(211,0)] ⟨[(0,.tp [])],o⟩ ⟨[(0,r)],o'⟩/\(cln (live o') 5 r=true/\allQ (fun p=>ycf (live o') p.2) o'/\allQ (fun β=>live o' β=true) [(211,0)])/\r = .tp []/\o'=ydc P':=by
 subst hl
 have hsome:∀i,(if i<P'.length then some (rowO (P'.getD i []))else none).isSome=true->i<P'.length:=fun i h=>by
  by_cases q:i<P'.length
  ·exact q
  ·rw[if_neg q]at h;cases h
 have hlive:∀i,i<P'.length->live (ydc P') (212,i)=true:=fun i hi=>by
  show(if i<P'.length then some (rowO (P'.getD i []))else none).isSome=true
  rw[if_pos hi];rfl
 refine⟨.tp [],ydc P',ybdc [(212,A)] [] [] trivial ⟨.inr ⟨.inr fun e=>⟨rfl,rfl⟩,.inr fun j hj e=>?_,trivial⟩,.inr ⟨.inr fun i hi' e=>?_,.inr fun i hi' j hj e=>⟨rfl,?_⟩,trivial⟩,trivial⟩ ⟨?_,trivial⟩ ⟨?_,fun i b hb=>?_,trivial⟩ ⟨⟨rfl,rfl,rfl⟩,trivial⟩,⟨rfl,⟨?_,?_,trivial⟩,rfl,trivial⟩,rfl,rfl⟩
 ·exact absurd e.symm (h0 j (hsome j hj))
 ·exact absurd e (h0 i (hsome i hi'))
 ·exact hi i j (hsome i hi') (hsome j hj) e
 ·exact⟨_,rfl,.inl ⟨trivial,Sim.refl _,rfl⟩⟩
 ·refine⟨_,h11,⟨rfl,rfl,rfl,rfl,rfl⟩,fun i hi'=>?_⟩;have hi':i<P'.length:=hi';show telL _ _ _ _ _ (R i) _;rw[hR i hi'];refine⟨.inl ⟨by simp only[go_sem],Sim.refl _,?_⟩,rfl,trivial⟩
  show(live (ydc P') (212,i) && !(List.elem 212 []))=true;rw[hlive i hi'];rfl
 ·obtain⟨hi',rfl⟩:=ycd hb;obtain⟨q,q1,q2⟩:=hA i hi';refine⟨_,q1,⟨rfl,rfl,rfl,rfl,rfl⟩,fun k hk=>?_⟩;show telL _ _ _ _ _ (q k) _;rw[q2 k hk];exact⟨.inl ⟨trivial,Sim.refl _,rfl⟩,rfl,.inl ⟨trivial,Sim.refl _,rfl⟩,rfl,trivial⟩
 ·intro k hk;have:live (ydc P') (212,k)=true:=hlive k hk;simp only[ydc,List.all_cons,List.all_nil,Bool.and_true]at this ⊢;exact this
 ·intro i b hb k hk;obtain⟨hi',rfl⟩:=ycd hb;rfl
section
variable {x:NetR}{g:Gr}{a b:Nat}{w:Int}
theorem ybyy (ha:a<g.ports.length)(hb:b<g.ports.length)(hn:g.ports.length<=24)(hd:∀v,(g.ports.getD v []).length<=1000) :
 Cm zG 76 [(211,0)] (ydc g.ports) [.ag (netC x),yhl g,.i .i64 a,.i .i64 b,.i .i64 w] fun r o=>r = .tp []/\o=ydc (yhp x.back g a b w).ports:=by
 refine yczr [(211,0)] [] _ _ _ ?_;obtain⟨O2,hO2⟩:∃O,ydc (yhp x.back g a b w).ports=O:=⟨_,rfl⟩;rw[hO2]
 by_cases hab:a=b
 ·subst hab;have hP:yhp x.back g a a w=g:=if_pos (.inl rfl);rw[hP]at hO2;simp only[c76,yddy,ydaw,netC,yhl,ydc,ygg,go_sem,zA,zB,zD,↓reduceIte,reduceCtorEq];subst hO2;exact yip rfl (fun v=>(212,v)) rfl (fun v hv=>rfl) (fun v hv=>⟨_,if_pos hv,fun k hk=>rfl⟩) (fun u v _ _ e=>congrArg Prod.snd e) (fun v _ e=>by cases e)
 ·have hne:((a:Int)==(b:Int))=false:=by rw[beq_eq_false_iff_ne];omega
  have hL:=ybkx (ids:=g.ids) (ports:=g.ports) (b:=b) ha (by have:=hd a;omega)
  simp only[c76,yddy,ydaw,netC,yhl,ydc,hne,clash,go_sem,zA,zB,zD,↓reduceIte,reduceCtorEq];refine .inl ⟨fun q hq=>by rw[if_pos hq];exact⟨zY _,fun k hk=>by simp only[rowO,go_sem]⟩,hL.useS ?_ ?_⟩
  ·refine⟨yqy ⟨Sim.refl _,?_,trivial⟩,Sim.refl _,Sim.refl _,trivial⟩;refine ygn fun q hq=>?_;rw[if_pos hq];simp only[rowO,ybd,go_sem];exact⟨Sim.refl _,trivial⟩
  cases hlk:yll (g.ports.getD a []) b with
  | true =>
    have hP:yhp x.back g a b w=g:=if_pos (.inr hlk);rw[hP]at hO2;simp only[ybi,clash,ygg,go_sem,zA,zB,↓reduceIte];subst hO2;exact yip rfl (fun v=>(212,v)) rfl (fun v hv=>rfl) (fun v hv=>⟨_,if_pos hv,fun k hk=>rfl⟩) (fun u v _ _ e=>congrArg Prod.snd e) (fun v _ e=>by cases e)
  | false =>
    have hP:yhp x.back g a b w=ycg x.back g a b w:=if_neg (fun q=>by rcases q with q|q;exact hab q;rw[hlk]at q;cases q)
    rw[hP]at hO2;subst hO2;have hba:¬b=a:=fun e=>hab e.symm;have hlen:(ycg x.back g a b w).ports.length=g.ports.length:=by simp[ycg]
    have hat:=yds x.back g w ha hb;obtain⟨G',hG'⟩:∃G,(ycg x.back g a b w).ports=G:=⟨_,rfl⟩;rw[hG']at hlen ⊢;have hat:∀v,G'.getD v []=if v=b then addL x.back (g.ports.getD b []) (a,w)else if v=a then addL x.back (g.ports.getD a []) (b,w)else g.ports.getD v []:=fun v=>by rw[<-hG'];exact hat v
    clear hG' hP
    obtain⟨x1,x2,x3,x4,x5,back⟩:=x;have hda:=hd a;have hdb:=hd b;cases back with
    | false =>
      simp only[ybi,clash,ybnb,ybld,ydiy,rowO,if_pos ha,if_pos hb,hab,hba,ygg,and_false,go_sem,zA,zB,zC,zD,↓reduceIte,reduceCtorEq];refine⟨⟨by omega,by omega⟩,by omega,⟨by omega,by omega⟩,by decide,⟨by omega,by omega⟩,by omega,⟨by omega,by omega⟩,by decide,⟨by omega,by omega⟩,by omega,by decide,⟨by omega,by omega⟩,by omega,by decide,?_⟩
      refine yip hlen (fun v=>if v=b then(74,0)else if v=a then(66,0)else(212,v)) rfl (fun v hv=>?_) (fun v hv=>?_) (fun u v _ _ e=>?_) (fun v _ e=>?_)
      ·rw[hat v]
       by_cases q:v=b
       ·simp only[if_pos q,ybw]
       ·by_cases q2:v=a
        ·simp only[if_neg q,if_pos q2,ybw]
        ·simp only[if_neg q,if_neg q2]
      ·rw[hat v]
       by_cases q:v=b
       ·simp only[if_pos q,ybw];exact⟨_,rfl,fun k hk=>ysw _ (_,_) hk⟩
       ·by_cases q2:v=a
        ·simp only[if_neg q,if_pos q2,ybw];exact⟨_,rfl,fun k hk=>ysw _ (_,_) hk⟩
        ·simp only[if_neg q,if_neg q2];refine⟨fun k=>[.i .i64 ((g.ports.getD v []).getD k (0,0)).1,.i .i64 ((g.ports.getD v []).getD k (0,0)).2],?_,fun k hk=>rfl⟩;show(if v=b then none else if v=a then none else if v<g.ports.length then some _ else none)=some _
         rw[if_neg q,if_neg q2,if_pos hv]
      ·by_cases q:u=b<;>by_cases q2:u=a<;>by_cases q3:v=b<;>by_cases q4:v=a<;>simp[q,q2,q3,q4,hab]at e ⊢<;>omega
      ·by_cases q:v=b<;>by_cases q2:v=a<;>simp[q,q2,hab]at e
    | true =>
      by_cases hza:(g.ports.getD a []).length=0
      ·by_cases hzb:(g.ports.getD b []).length=0
       ·simp only[ybi,clash,ybnb,ybld,ybqb,ybxl,rowO,if_pos ha,if_pos hb,hba,ygg,and_false,hza,hzb,go_sem,zA,zB,zC,zD,zAK,↓reduceIte,reduceCtorEq]
        repeat' apply zAO
        all_goals first|omega|decide|skip
        refine yip hlen (fun v=>if v=b then(45,0)else if v=a then(33,0)else(212,v)) rfl (fun v hv=>?_) (fun v hv=>?_) (fun u v _ _ e=>?_) (fun v _ e=>?_)
        ·rw[hat v]
         by_cases q:v=b
         ·simp only[if_pos q,ybw,hzb,zN]
         ·by_cases q2:v=a
          ·simp only[if_neg q,if_pos q2,ybw,hza,zN]
          ·simp only[if_neg q,if_neg q2]
        ·rw[hat v]
         by_cases q:v=b
         ·simp only[if_pos q,ybw,hzb,zN];exact⟨_,rfl,fun k hk=>cells_one _ hzb (_,_) hk⟩
         ·by_cases q2:v=a
          ·simp only[if_neg q,if_pos q2,ybw,hza,zN];exact⟨_,rfl,fun k hk=>cells_one _ hza (_,_) hk⟩
          ·simp only[if_neg q,if_neg q2];refine⟨fun k=>[.i .i64 ((g.ports.getD v []).getD k (0,0)).1,.i .i64 ((g.ports.getD v []).getD k (0,0)).2],?_,fun k hk=>rfl⟩;show(if v<g.ports.length then some _ else none)=some _
           rw[if_pos hv]
        ·by_cases q:u=b<;>by_cases q2:u=a<;>by_cases q3:v=b<;>by_cases q4:v=a<;>simp[q,q2,q3,q4,hab]at e ⊢<;>omega
        ·by_cases q:v=b<;>by_cases q2:v=a<;>simp[q,q2,hab]at e
       ·simp only[ybi,clash,ybnb,ybld,ybqb,ybxl,rowO,if_pos ha,if_pos hb,hba,ygg,and_false,hza,hzb,go_sem,zA,zB,zC,zD,zAK,↓reduceIte,reduceCtorEq]
        repeat' apply zAO
        all_goals first|omega|decide|skip
        refine yip hlen (fun v=>if v=b then(51,0)else if v=a then(33,0)else(212,v)) rfl (fun v hv=>?_) (fun v hv=>?_) (fun u v _ _ e=>?_) (fun v _ e=>?_)
        ·rw[hat v]
         by_cases q:v=b
         ·simp only[if_pos q,ybw,zJ]
         ·by_cases q2:v=a
          ·simp only[if_neg q,if_pos q2,ybw,hza,zN,zJ]
          ·simp only[if_neg q,if_neg q2]
        ·rw[hat v]
         by_cases q:v=b
         ·simp only[if_pos q,ybw];exact⟨_,congrArg some (congrArg (fun n=>OB.mk _ _ _ n _) (zJ _ _)),fun k hk=>yms _ (_,_) k⟩
         ·by_cases q2:v=a
          ·simp only[if_neg q,if_pos q2,ybw,hza,zN];exact⟨_,rfl,fun k hk=>cells_one _ hza (_,_) hk⟩
          ·simp only[if_neg q,if_neg q2];refine⟨fun k=>[.i .i64 ((g.ports.getD v []).getD k (0,0)).1,.i .i64 ((g.ports.getD v []).getD k (0,0)).2],?_,fun k hk=>rfl⟩;show(if v<g.ports.length then some _ else none)=some _
           rw[if_pos hv]
        ·by_cases q:u=b<;>by_cases q2:u=a<;>by_cases q3:v=b<;>by_cases q4:v=a<;>simp[q,q2,q3,q4,hab]at e ⊢<;>omega
        ·by_cases q:v=b<;>by_cases q2:v=a<;>simp[q,q2,hab]at e
      ·by_cases hzb:(g.ports.getD b []).length=0
       ·simp only[ybi,clash,ybnb,ybld,ybqb,ybxl,rowO,if_pos ha,if_pos hb,hba,ygg,and_false,hza,hzb,go_sem,zA,zB,zC,zD,zAK,↓reduceIte,reduceCtorEq]
        repeat' apply zAO
        all_goals first|omega|decide|skip
        refine yip hlen (fun v=>if v=b then(45,0)else if v=a then(39,0)else(212,v)) rfl (fun v hv=>?_) (fun v hv=>?_) (fun u v _ _ e=>?_) (fun v _ e=>?_)
        ·rw[hat v]
         by_cases q:v=b
         ·simp only[if_pos q,ybw,hzb,zN,zJ]
         ·by_cases q2:v=a
          ·simp only[if_neg q,if_pos q2,ybw,zJ]
          ·simp only[if_neg q,if_neg q2]
        ·rw[hat v]
         by_cases q:v=b
         ·simp only[if_pos q,ybw,hzb,zN];exact⟨_,rfl,fun k hk=>cells_one _ hzb (_,_) hk⟩
         ·by_cases q2:v=a
          ·simp only[if_neg q,if_pos q2,ybw];exact⟨_,congrArg some (congrArg (fun n=>OB.mk _ _ _ n _) (zJ _ _)),fun k hk=>yms _ (_,_) k⟩
          ·simp only[if_neg q,if_neg q2];refine⟨fun k=>[.i .i64 ((g.ports.getD v []).getD k (0,0)).1,.i .i64 ((g.ports.getD v []).getD k (0,0)).2],?_,fun k hk=>rfl⟩;show(if v<g.ports.length then some _ else none)=some _
           rw[if_pos hv]
        ·by_cases q:u=b<;>by_cases q2:u=a<;>by_cases q3:v=b<;>by_cases q4:v=a<;>simp[q,q2,q3,q4,hab]at e ⊢<;>omega
        ·by_cases q:v=b<;>by_cases q2:v=a<;>simp[q,q2,hab]at e
       ·simp only[ybi,clash,ybnb,ybld,ybqb,ybxl,rowO,if_pos ha,if_pos hb,hba,ygg,and_false,hza,hzb,go_sem,zA,zB,zC,zD,↓reduceIte,reduceCtorEq]
        repeat' apply zAO
        all_goals first|omega|decide|skip
        refine yip hlen (fun v=>if v=b then(51,0)else if v=a then(39,0)else(212,v)) rfl (fun v hv=>?_) (fun v hv=>?_) (fun u v _ _ e=>?_) (fun v _ e=>?_)
        ·rw[hat v]
         by_cases q:v=b
         ·simp only[if_pos q,ybw,zJ]
         ·by_cases q2:v=a
          ·simp only[if_neg q,if_pos q2,ybw,zJ]
          ·simp only[if_neg q,if_neg q2]
        ·rw[hat v]
         by_cases q:v=b
         ·simp only[if_pos q,ybw];exact⟨_,congrArg some (congrArg (fun n=>OB.mk _ _ _ n _) (zJ _ _)),fun k hk=>yms _ (_,_) k⟩
         ·by_cases q2:v=a
          ·simp only[if_neg q,if_pos q2,ybw];exact⟨_,congrArg some (congrArg (fun n=>OB.mk _ _ _ n _) (zJ _ _)),fun k hk=>yms _ (_,_) k⟩
          ·simp only[if_neg q,if_neg q2];refine⟨fun k=>[.i .i64 ((g.ports.getD v []).getD k (0,0)).1,.i .i64 ((g.ports.getD v []).getD k (0,0)).2],?_,fun k hk=>rfl⟩;show(if v<g.ports.length then some _ else none)=some _
           rw[if_pos hv]
        ·by_cases q:u=b<;>by_cases q2:u=a<;>by_cases q3:v=b<;>by_cases q4:v=a<;>simp[q,q2,q3,q4,hab]at e ⊢<;>omega
        ·by_cases q:v=b<;>by_cases q2:v=a<;>simp[q,q2,hab]at e
end
end Sh
end
section
theorem ytx{back:Bool}{g:Gr}{a b:Nat}{w:Int}(hg:ybc g)(ha:a<g.ports.length)(hb:b<g.ports.length)(hw:1<=w/\w<=15):ybc (yhp back g a b w)/\(yhp back g a b w).ids=g.ids/\(yhp back g a b w).ports.length=g.ports.length:=by
 unfold yhp
 by_cases h:a=b\/yll (g.ports.getD a []) b=true
 ·rw[if_pos h];exact⟨hg,rfl,rfl⟩
 ·rw[if_neg h];refine⟨ybay hg ha hb (fun e=>h (.inl e)) hw fun l hl e=>h (.inr (List.any_eq_true.2 ⟨l,hl,decide_eq_true e⟩)),rfl,by simp[ycg]⟩
theorem ybci{back:Bool}{g:Gr}{a b:Nat}{w:Int}(ha:a<g.ports.length)(hb:b<g.ports.length){m:Nat}(h:Tre g m):Tre (yhp back g a b w) m:=by
 unfold yhp;split
 ·exact h
 ·exact h.add ha hb
theorem ybtm{back:Bool}{g:Gr}{a b:Nat}{w:Int}(ha:a<g.ports.length)(hb:b<g.ports.length)(hab:a≠b):adj (yhp back g a b w) a b:=by
 unfold yhp;split
 ·rename_i h
  rcases h with h|h
  ·exact absurd h hab
  ·obtain⟨l,hl,e⟩:=List.any_eq_true.1 h;exact yho.2 ⟨l,hl,of_decide_eq_true e⟩
 ·exact ybgn ha hb hab
theorem ybel:∀(l:List Nat) (i x:Nat) (h:i<l.length),(l.set i x).sum+l[i]=l.sum+x
 |a::l,0,x,_=>by simp;omega
 | a::l,i+1,x,h=>by
   have:=ybel l i x (by simpa using h)
   simp only[List.set_cons_succ,List.sum_cons,List.getElem_cons_succ];omega
theorem ybko{back:Bool}{g:Gr}{a b:Nat}{w:Int}(ha:a<g.ports.length)(hb:b<g.ports.length)(hab:a≠b):yvb (ycg back g a b w)=yvb g+2:=by
 unfold yvb ycg;simp only[List.map_set,Sh.ybw];have h1:=ybel (g.ports.map zAR) a ((g.ports.getD a []).length+1) (by simpa using ha)
 have h2:=ybel ((g.ports.map zAR).set a ((g.ports.getD a []).length+1)) b ((g.ports.getD b []).length+1) (by simpa using hb)
 rw[List.getElem_set_ne hab,zAU,<-Sh.getD_at hb (d:=[])]at h2;rw[zAU,<-Sh.getD_at ha (d:=[])]at h1;omega
def WtF(x:NetR)(g:Gr):Prop:=∀v l,l∈g.ports.getD v []->∃i,l.2=1+yca (atP x.weights i) 15
theorem ybhv{x:NetR}{back:Bool}{g:Gr}{a b:Nat}{w:Int}(ha:a<g.ports.length)(hb:b<g.ports.length)(hw:∃i,w=1+yca (atP x.weights i) 15)(h:WtF x g):WtF x (yhp back g a b w):=by
 unfold yhp;split
 ·exact h
 ·intro v l hl;rw[yds back g w ha hb]at hl;split at hl
  ·rcases yep.1 hl with rfl|hl
   ·exact hw
   ·exact h _ _ hl
  ·split at hl
   ·rcases yep.1 hl with rfl|hl
    ·exact hw
    ·exact h _ _ hl
   ·exact h _ _ hl
structure TreeTo(x:NetR)(v:Nat)(g:Gr):Prop where
 tre:Tre g v
 wt:WtF x g
 none_:∀u,v<=u->g.ports.getD u []=[]
 count:yvb g+2=2*v
theorem yod(ids:List Int)(v:Nat):(bare ids).ports.getD v []=[]:=by
 unfold bare;rw[zT,List.getElem?_replicate];split<;>rfl
theorem TreeTo.zero(x:NetR)(ids:List Int):TreeTo x 1 (bare ids):=by
 refine⟨fun v h0 h1=>by omega,fun v l hl=>?_,fun u _=>yod ids u,?_⟩
 ·rw[yod]at hl;exact absurd hl zAA
 ·have:yvb (bare ids)=0:=by
   unfold yvb bare;simp
  omega
theorem TreeTo.succ{x:NetR}{v:Nat}{g:Gr}(hg:ybc g)(h:TreeTo x v g)(hv:v<g.ports.length)(h1:1<=v){a:Nat}(ha:a<v){w:Int}(hw:∃i,w=1+yca (atP x.weights i) 15):TreeTo x (v+1) (yhp x.back g a v w):=by
 have hadj:=ybtm (back:=x.back) (g:=g) (a:=a) (b:=v) (w:=w) (by omega) (by omega) (by omega)
 have hno:¬(a=v\/yll (g.ports.getD a []) v=true):=by
  rintro(e|e)
  ·omega
  ·obtain⟨l,hl,e⟩:=List.any_eq_true.1 e;have e:=of_decide_eq_true e;have:adj g v a:=hg.adj_symm (yho.2 ⟨l,hl,e⟩);obtain⟨l',hl',_⟩:=yho.1 this;rw[h.none_ v (zY _)]at hl';exact absurd hl' zAA
 have e:yhp x.back g a v w=ycg x.back g a v w:=by unfold yhp;rw[if_neg hno]
 refine⟨fun u h0 hu=>?_,ybhv (by omega) hv hw h.wt,fun u hu=>?_,?_⟩
 ·by_cases q:u=v
  ·subst q;exact⟨a,ha,hadj⟩
  ·exact ybci (by omega) hv h.tre u h0 (by omega)
 ·rw[e,yds x.back g w (by omega) hv,if_neg (by omega),if_neg (by omega)]
  exact h.none_ u (by omega)
 ·rw[e,ybko (by omega) hv (by omega)]
  have:=h.count;omega
namespace Sh
open Ev Go.RowKit
theorem ywg{n:Nat}{P:List (List (Int×Int))}{f:SV->SV}(hf:∀k z,f (.i k z) = .i k z){i:Nat}(hi:i<n):(match (if i<n then some (rowO (P.getD i []))else none)with|some b=>some (⟨b.e,b.bx,b.z,b.n,fun k=>(b.g k).map f⟩:OB)|none=>none)=some (rowO (P.getD i [])):=by
 rw[if_pos hi];simp[rowO,hf]
theorem ydbg{x:NetR}(hx:x.ok){most:Nat}(hm:1<=most/\most<=24) :
 Cm zG 21 [] [] [.ag (netC x),.i .i64 most] fun r o=>∃g,ybc g/\TreeTo x g.ports.length g/\(g.ports.length<=most/\(g.ports.length:Int)=1+yca (IntKind.wrap .i64 (x.n-1)) most)/\r=yhl g/\o=ydc g.ports:=by
 refine ydbn [] [75,76] _ _ _ ?_;have hN:=ycbv hx hm;obtain⟨hx1,hx2,hx3,hx4⟩:=hx;simp only[netC]at hN;simp only[c21,ydkd,ydeo,netC,go_sem,zA,zB,zD,↓reduceIte,reduceCtorEq];refine yem hN [(17,117)] 0 [2,4] [2,4] ?_ ?_
 ·simp only[okN,ycf,yfd,ydy,ydm,allQ,live,yg,go_sem,zA,zB,zF,↓reduceIte,reduceCtorEq]
 rintro r o' ⟨ids,h1,h2,h3,rfl,rfl⟩;obtain⟨n,hn⟩:∃n,ids.length=n:=⟨_,rfl⟩;rw[hn]at h1;simp only[hn,ymj,ykn,nuF,nu,difN,ydy,ydm,Fam.ren,OB.ren,dim,ycbc,ypi,yjb,go_sem,zA,zB,zD,zF,↓reduceIte];simp only[ydes,go_sem]
 refine ybj (σ:=Nat×Gr) (fun q=>⟨[(6,.i .i64 q.1),(5,.pt (5,0) 0 0),(2,.pt (2,0) 0 0),(4,.pt (4,0) 0 0)],
  (5,.one (some ⟨27,true,2,1,fun _=>[yx q.2.ids,.os (211,0) 0 n true]⟩))::(2,.one (some ⟨24,true,6,1,fun _=>netC x⟩))::(4,.one (some ⟨27,true,2,1,fun _=>[.a (.slice none 0 0),.a (.slice none 0 0)]⟩))::ydc q.2.ports⟩)
  (fun q=>ybc q.2/\q.2.ports.length=n/\TreeTo x q.1 q.2/\1<=q.1/\q.1<=n) (fun q=>n-q.1) (1,bare ids) ⟨ybrx (by omega) (by omega) h2 h3,by simp[bare,hn],TreeTo.zero x ids,by omega,by omega⟩ ?_ ?_
 ·refine yj [(211,fun i=>(117,i))] [212] [] ?_;have b1:(bare ids).ids=ids:=rfl;have b2:(bare ids).ports.length=n:=by simp[bare,hn]
  have b3:∀v,(bare ids).ports.getD v []=[]:=yod ids;simp only[netC,ydc,rowO,b1,b2,b3,List.length_nil,allQ,live,yg,ybb,go_sem,zA,zF,↓reduceIte,reduceCtorEq];refine⟨rfl,fun i hi=>⟨(212,i),rfl,rfl,by simp[hi]⟩,fun i b hb=>?_⟩
  obtain⟨_,rfl⟩:=ycd hb;exact⟨rfl,rfl⟩
 ·rintro⟨v,g⟩ ⟨hg,hgn,htr,hv1,hvn⟩;have hg:ybc g:=hg;have hgn:g.ports.length=n:=hgn;have htr:TreeTo x v g:=htr;have hv1:1<=v:=hv1;have hvn:v<=n:=hvn
  by_cases hlt:v<n
  ·have ht:decide ((v:Int)<(n:Int))=true:=decide_eq_true (by omega)
   have hv2:(v:Int)-1=((v-1:Nat):Int):=by omega
   have hA1:=at_ret x.links (v-1);have hA2:=at_ret x.weights (v-1);have hi1:=ycx (v:=atP x.links (v-1)) (m:=(v:Int)) (by omega)
   have hi2:=ycx (v:=atP x.weights (v-1)) (m:=15) (by omega)
   have hW1:=yda (atP x.links (v-1)) v (by omega) (hx2 _)
   have hW2:=yda (atP x.weights (v-1)) 15 (by omega) (hx3 _)
   obtain⟨a,ha⟩:∃a:Nat,yca (atP x.links (v-1)) v=a:=zK hi1.1;obtain⟨w,hw⟩:∃w:Int,yca (atP x.weights (v-1)) 15=w:=⟨_,rfl⟩;rw[ha]at hW1 hi1;rw[hw]at hW2 hi2;have hL:=ybyy (x:=x) (g:=g) (a:=a) (b:=v) (w:=1+w) (by omega) (by omega) (by omega) (fun u=>by have:=hg.deg_lt (v:=u);omega)
   simp only[yczk,ydle,ydfc,netC,ydc,ht,hv2,clash,go_sem,zA,zB,zC,zF,↓reduceIte,reduceCtorEq];refine⟨ikw (by omega) (by omega),hA1.use ?_⟩
   simp only[ybi,clash,go_sem,zA,zB,zC,zF,↓reduceIte,reduceCtorEq];refine hW1.use ?_;simp only[hv2,go_sem];refine⟨ikw (by omega) (by omega),hA2.use ?_⟩
   simp only[go_sem,↓reduceIte];refine hW2.use ?_;simp only[go_sem,zA,zF,↓reduceIte];refine⟨ikw (by omega) (by omega),yem hL [(211,211),(212,212)] 0 [2,4,5,6] [2,4,5] ?_ ?_⟩
   ·simp only[netC,yhl,ydc,hgn,to1,okN,ycf,yfd,ydy,ydm,allQ,live,yg,go_sem,zA,zB,zF,↓reduceIte,reduceCtorEq];refine⟨⟨fun i _ j _ e=>e,fun i hi=>by rw[if_pos hi],fun i b hb=>?_⟩,by decide⟩
    obtain⟨hi,rfl⟩:=ycd hb;exact⟨_,if_pos hi,⟨rfl,rfl,rfl,rfl⟩,fun k hk=>by simp only[rowO,live,yg,go_sem,reduceCtorEq]⟩
   ·rintro r o' ⟨rfl,rfl⟩;simp only[ydc,ymj,ykn,nuF,nu,difN,ydy,ydm,Fam.ren,OB.ren,dim,ysc,yjb,go_sem,zA,zB,zF,↓reduceIte,reduceCtorEq];obtain⟨gg1,gg2,gg3⟩:=ytx (back:=x.back) (a:=a) (b:=v) (w:=1+w) hg (by omega) (by omega) (by omega)
    have gg4:=htr.succ hg (by omega) hv1 (a:=a) (by omega) (w:=1+w) ⟨v-1,by rw[hw]⟩
    obtain⟨G,hG⟩:∃G,yhp x.back g a v (1+w)=G:=⟨_,rfl⟩;rw[hG]at gg1 gg2 gg3 gg4 ⊢;rw[hgn]at gg3;refine⟨ikw (by omega) (by omega),yw (v+1,G) ⟨gg1,gg3,gg4,by omega,by omega⟩ (by show n-(v+1)<n-v;omega) ?_⟩
    ·refine yj [] [] [] ?_;simp only[gg3,gg2,allQ,live,yg,ybb,go_sem,zA,↓reduceIte,reduceCtorEq];refine⟨fun i _ j _ e=>e,by omega,fun i hi=>by rw[if_pos hi],fun i b hb=>?_⟩
     obtain⟨hi,rfl⟩:=ycd hb;refine⟨_,ywg (f:=ren (nu [(211,211),(212,212)] 0) 5) (fun _ _=>rfl) hi,⟨rfl,rfl,rfl,rfl⟩,fun k hk=>?_⟩;simp only[rowO,live,yg,go_sem,reduceCtorEq]
  ·obtain rfl:v=n:=by omega
   have ht:decide ((v:Int)<(v:Int))=false:=decide_eq_false (by omega)
   simp only[yczk,ydfv,netC,ydc,ht,clash,splice,ygg,go_sem,zA,zB,↓reduceIte,reduceCtorEq];refine⟨yhl g,ydc g.ports,?_,?_,g,hg,by rw[hgn];exact htr,by omega,rfl,rfl⟩
   ·refine yj [] [] [] ?_;simp only[ydc,yhl,hgn,allQ,live,yg,go_sem,zA,↓reduceIte,reduceCtorEq];refine⟨fun i _ j _ e=>e,fun i hi=>by rw[if_pos hi],fun i b hb=>?_⟩
    obtain⟨hi,rfl⟩:=ycd hb;exact⟨_,if_pos hi,⟨rfl,rfl,rfl,rfl⟩,fun k hk=>by simp only[rowO,live,yg,go_sem,reduceCtorEq]⟩
   ·simp only[ydc,yhl,ycf,yfd,allQ,live,go_sem,zA,↓reduceIte];refine⟨fun i hi=>by rw[if_pos hi],fun i b hb k hk=>?_⟩
    obtain⟨hi,rfl⟩:=ycd hb;simp only[rowO,go_sem]
end Sh
end
section
namespace Sh
open Ev Go.RowKit
theorem yczp{x:NetR}(hx:x.ok){g:Gr}(hg:ybc g){Q:Gr->Prop}(ht:Q g)(hQ:∀G a b w,ybc G->G.ports.length=g.ports.length->a<G.ports.length->b<G.ports.length->(∃i,w=1+yca (atP x.weights i) 15)->Q G->Q (yhp x.back G a b w)) :
 Cm zG 105 [] (ydc g.ports) [.ag (netC x),yhl g] fun r o=>∃g',ybc g'/\Q g'/\g'.ports.length=g.ports.length/\r=yhl g'/\o=ydc g'.ports:=by
 refine ycam [] [76] _ _ _ ?_;obtain⟨hx1,hx2,hx3,hx4⟩:=hx;have h1:=hg.1;have h24:=hg.2.1;obtain⟨n,hn⟩:∃n,g.ports.length=n:=⟨_,rfl⟩;rw[hn]at h1 h24 hQ;obtain⟨L,hL⟩:∃L,x.links.length=L:=⟨_,rfl⟩;simp only[c105,ycqn,ycwx,ycgy,netC,yhl,ydc,hn,clash,go_sem,zA,zB,zD,↓reduceIte,reduceCtorEq]
 refine ybj (σ:=Nat×Gr) (fun q=>⟨[(6,.i .i64 q.1),(5,.i .i64 n),(3,.pt (3,0) 0 0),(2,.pt (2,0) 0 0),(4,.pt (4,0) 0 0)],
  (3,.one (some ⟨27,true,2,1,fun _=>[yx q.2.ids,.os (211,0) 0 n true]⟩))::(2,.one (some ⟨24,true,6,1,fun _=>netC x⟩))::(4,.one (some ⟨27,true,2,1,fun _=>[.a (.slice none 0 0),.a (.slice none 0 0)]⟩))::ydc q.2.ports⟩)
  (fun q=>ybc q.2/\q.2.ports.length=n/\Q q.2/\q.1<=61) (fun q=>62-q.1) (n,g) ⟨hg,hn,ht,by show n<=61;omega⟩ ?_ ?_
 ·refine yj [] [] [] ?_;simp only[netC,ydc,hn,allQ,live,yg,go_sem,zA,↓reduceIte,reduceCtorEq];refine⟨fun i _ j _ e=>e,fun i hi=>by rw[if_pos hi],fun i b hb=>?_⟩
  obtain⟨hi,rfl⟩:=ycd hb;exact⟨_,if_pos hi,⟨rfl,rfl,rfl,rfl⟩,fun k hk=>by simp only[rowO,live,yg,go_sem,reduceCtorEq]⟩
 ·rintro⟨i,G⟩ ⟨gg,ggn,gtr,hi61⟩;have gg:ybc G:=gg;have ggn:G.ports.length=n:=ggn;have gtr:Q G:=gtr;have hi61:i<=61:=hi61;have hi1:(i:Int)+1=((i+1:Nat):Int):=by omega
  by_cases hlt:i+1<L
  ·by_cases h60:i<60
   ·have ht1:decide (((i+1:Nat):Int)<(L:Int))=true:=decide_eq_true (by omega)
    have ht2:decide ((i:Int)<60)=true:=decide_eq_true (by omega)
    have hA2:=at_ret x.weights i;have hi2:=ycx (v:=atP x.weights i) (m:=15) (by omega)
    have hw1:=ycx (v:=x.links.getD i 0) (m:=(n:Int)) (by omega)
    have hw2:=ycx (v:=x.links.getD (i+1) 0) (m:=(n:Int)) (by omega)
    have hW1:=yda (x.links.getD i 0) n (by omega) (hx2 i)
    have hW2:=yda (x.links.getD (i+1) 0) n (by omega) (hx2 (i+1))
    have hW3:=yda (atP x.weights i) 15 (by omega) (hx3 _)
    obtain⟨a,ha⟩:∃a:Nat,yca (x.links.getD i 0) n=a:=zK hw1.1;obtain⟨b,hb⟩:∃b:Nat,yca (x.links.getD (i+1) 0) n=b:=zK hw2.1;obtain⟨w,hw⟩:∃w:Int,yca (atP x.weights i) 15=w:=⟨_,rfl⟩;rw[ha]at hW1 hw1;rw[hb]at hW2 hw2;rw[hw]at hW3 hi2;have hK:=ybyy (x:=x) (g:=G) (a:=a) (b:=b) (w:=1+w) (by omega) (by omega) (by omega) (fun u=>by have:=gg.deg_lt (v:=u);omega)
    simp only[ybhm,yctt,ycob,netC,ydc,yx,hL,hi1,ht1,ht2,clash,go_sem,zA,zB,zC,zF,↓reduceIte,reduceCtorEq];refine⟨ikw (by omega) (by omega),⟨by omega,by omega⟩,hW1.use ?_⟩
    simp only[ybi,clash,hi1,go_sem,zA,zB,zC,zF,↓reduceIte,reduceCtorEq];refine⟨ikw (by omega) (by omega),⟨by omega,by omega⟩,hW2.use ?_⟩
    simp only[go_sem];simp only[yx]at hA2;refine hA2.use ?_;simp only[go_sem,↓reduceIte];refine hW3.use ?_;simp only[go_sem,zA,↓reduceIte];refine⟨ikw (by omega) (by omega),yem hK [(211,211),(212,212)] 0 [2,3,4,5,6] [2,3,4] ?_ ?_⟩
    ·simp only[netC,yhl,ydc,ggn,yx,hL,to1,okN,ycf,yfd,ydy,ydm,allQ,live,yg,go_sem,zA,zB,zF,↓reduceIte,reduceCtorEq];refine⟨⟨fun i _ j _ e=>e,fun i hi=>by rw[if_pos hi],fun i b hb=>?_⟩,by decide⟩
     obtain⟨hi,rfl⟩:=ycd hb;exact⟨_,if_pos hi,⟨rfl,rfl,rfl,rfl⟩,fun k hk=>by simp only[rowO,live,yg,go_sem,reduceCtorEq]⟩
    ·rintro r o' ⟨rfl,rfl⟩;simp only[ydc,ymj,ykn,nuF,nu,difN,ydy,ydm,Fam.ren,OB.ren,dim,ysc,yjb,go_sem,zA,zB,zF,↓reduceIte,reduceCtorEq];obtain⟨gg1,gg2,gg3⟩:=ytx (back:=x.back) (a:=a) (b:=b) (w:=1+w) gg (by omega) (by omega) (by omega)
     have gg4:=hQ G a b (1+w) gg ggn (by omega) (by omega) ⟨i,by rw[hw]⟩ gtr
     obtain⟨H,hH⟩:∃H,yhp x.back G a b (1+w)=H:=⟨_,rfl⟩;rw[hH]at gg1 gg2 gg3 gg4 ⊢;rw[ggn]at gg3;refine⟨ikw (by omega) (by omega),yw (i+2,H) ⟨gg1,gg3,gg4,by show i+2<=61;omega⟩ (by show 62-(i+2)<62-i;omega) ?_⟩
     refine yj [] [] [] ?_;simp only[gg3,gg2,allQ,live,yg,ybb,go_sem,zA,↓reduceIte,reduceCtorEq];refine⟨fun i _ j _ e=>e,by omega,fun i hi=>by rw[if_pos hi],fun i b hb=>?_⟩
     obtain⟨hi,rfl⟩:=ycd hb;refine⟨_,ywg (f:=ren (nu [(211,211),(212,212)] 0) 5) (fun _ _=>rfl) hi,⟨rfl,rfl,rfl,rfl⟩,fun k hk=>?_⟩;simp only[rowO,live,yg,go_sem,reduceCtorEq]
   ·have ht1:decide (((i+1:Nat):Int)<(L:Int))=true:=decide_eq_true (by omega)
    have ht2:decide ((i:Int)<60)=false:=decide_eq_false (by omega)
    simp only[ybhm,yboe,netC,ydc,yx,hL,hi1,ht1,ht2,clash,splice,ygg,go_sem,zA,zB,zC,↓reduceIte,reduceCtorEq];refine⟨ikw (by omega) (by omega),?_⟩
    refine⟨yhl G,ydc G.ports,?_,?_,G,gg,gtr,ggn,rfl,rfl⟩
    ·refine yj [] [] [] ?_;simp only[ydc,yhl,ggn,yx,allQ,live,yg,go_sem,zA,↓reduceIte,reduceCtorEq];refine⟨fun i _ j _ e=>e,fun i hi=>by rw[if_pos hi],fun i b hb=>?_⟩
     obtain⟨hi,rfl⟩:=ycd hb;exact⟨_,if_pos hi,⟨rfl,rfl,rfl,rfl⟩,fun k hk=>by simp only[rowO,live,yg,go_sem,reduceCtorEq]⟩
    ·simp only[ydc,yhl,ycf,yfd,allQ,live,go_sem,zA,↓reduceIte];refine⟨fun i hi=>by rw[if_pos hi],fun i b hb k hk=>?_⟩
     obtain⟨hi,rfl⟩:=ycd hb;simp only[rowO,go_sem]
  ·have ht1:decide (((i+1:Nat):Int)<(L:Int))=false:=decide_eq_false (by omega)
   simp only[ybhm,yboe,netC,ydc,yx,hL,hi1,ht1,clash,splice,ygg,go_sem,zA,zB,zC,↓reduceIte,reduceCtorEq];refine⟨ikw (by omega) (by omega),?_⟩
   refine⟨yhl G,ydc G.ports,?_,?_,G,gg,gtr,ggn,rfl,rfl⟩
   ·refine yj [] [] [] ?_;simp only[ydc,yhl,ggn,yx,allQ,live,yg,go_sem,zA,↓reduceIte,reduceCtorEq];refine⟨fun i _ j _ e=>e,fun i hi=>by rw[if_pos hi],fun i b hb=>?_⟩
    obtain⟨hi,rfl⟩:=ycd hb;exact⟨_,if_pos hi,⟨rfl,rfl,rfl,rfl⟩,fun k hk=>by simp only[rowO,live,yg,go_sem,reduceCtorEq]⟩
   ·simp only[ydc,yhl,ycf,yfd,allQ,live,go_sem,zA,↓reduceIte];refine⟨fun i hi=>by rw[if_pos hi],fun i b hb k hk=>?_⟩
    obtain⟨hi,rfl⟩:=ycd hb;simp only[rowO,go_sem]
theorem ytf{x:NetR}(hx:x.ok){most:Nat}(hm:1<=most/\most<=24) :
 Ct zG 70 [.ag (netC x),.i .i64 most] fun r=>∃g,ybc g/\ydf g=true/\(g.ports.length<=most/\WtF x g)/\Sim r (grV g):=by
 refine ydcu [21,105] _ _ ?_;have hT:=ydbg hx hm;simp only[netC]at hT;simp only[c70,ydgk,ydlm,netC,clash,go_sem,zA,zB,zD,↓reduceIte,reduceCtorEq];refine yem hT [(211,211),(212,212)] 0 [2,4,5] [2,4] ?_ ?_
 ·simp only[okN,ycf,yfd,ydy,ydm,allQ,live,yg,go_sem,zA,zB,zF,↓reduceIte,reduceCtorEq]
 rintro r o' ⟨g,hg,ht,⟨hn,-⟩,rfl,rfl⟩;have hM:=yczp (Q:=fun G=>Tre G g.ports.length/\WtF x G) hx hg ⟨ht.tre,ht.wt⟩ (fun G a b w gG gl ga gb gw gQ=>⟨ybci ga gb gQ.1,ybhv ga gb gw gQ.2⟩);simp only[netC]at hM;simp only[ydc,yhl,ymj,ykn,nuF,nu,difN,ydy,ydm,Fam.ren,OB.ren,dim,ypi,yjb,go_sem,zA,zB,zF,↓reduceIte];refine yem hM [(211,211),(212,212)] 0 [4] [4] ?_ ?_
 ·simp only[yhl,ydc,to1,okN,ycf,yfd,ydy,ydm,allQ,live,yg,go_sem,zA,zB,zF,↓reduceIte,reduceCtorEq];refine⟨⟨fun i _ j _ e=>e,fun i hi=>by rw[if_pos hi],fun i b hb=>?_⟩,by decide⟩
  obtain⟨hi,rfl⟩:=ycd hb;refine⟨_,ywg (f:=ren (nu [(211,211),(212,212)] 0) 5) (fun _ _=>rfl) hi,⟨rfl,rfl,rfl,rfl⟩,fun k hk=>?_⟩;simp only[rowO,live,yg,go_sem,reduceCtorEq]
 rintro r o' ⟨G,gg,⟨gt,gw⟩,gn,rfl,rfl⟩;simp only[ydc,yhl,clash,splice,ymj,ykn,nuF,nu,difN,ydy,ydm,Fam.ren,OB.ren,dim,ypi,yjb,go_sem,zA,zB,zF,↓reduceIte];refine⟨by decide,fun q hq=>?_,G,gg,Tre.conn gg (by rw[gn];exact gt),⟨by omega,gw⟩,?_⟩
 ·simp only[if_pos hq];exact⟨zY _,fun k hk=>by simp only[rowO,go_sem]⟩
 ·refine yqy ⟨Sim.refl _,?_,trivial⟩;refine ygn fun q hq=>?_;simp only[if_pos hq];simp only[rowO,ybd,ygz,go_sem];exact⟨Sim.refl _,trivial⟩
theorem ywh{x:NetR}(hx:x.ok){most:Nat}(hm:1<=most/\most<=24) :
 Ct zG 70 [.ag (netC x),.i .i64 most] fun r=>∃g,ybc g/\ydf g=true/\g.ports.length<=most/\Sim r (grV g) :=
 (ytf hx hm).mono fun _ ⟨g,h1,h2,h3,h4⟩=>⟨g,h1,h2,h3.1,h4⟩
end Sh
end
end Go.Proofs.YtiejahgklcjhkaaGreatDoor
