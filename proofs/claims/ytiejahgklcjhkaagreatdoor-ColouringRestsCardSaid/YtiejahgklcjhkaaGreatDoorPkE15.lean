/- Lemmas, joined: SgX SgY SgZ SiA SiJ ScBf RdA ShZ ScPq Pa BfP Pg Ph Pb Pc Fl Lks Pd PrC WkA WkB. -/
import Derived.Test.YtiejahgklcjhkaaGreatDoorPkE14
import Derived.Test.YtiejahgklcjhkaaGreatDoorPkE12
import Derived.Test.YtiejahgklcjhkaaGreatDoorPkE11
import Derived.Test.YtiejahgklcjhkaaGreatDoorPkE9
import Derived.Test.YtiejahgklcjhkaaGreatDoorPkE8
set_option linter.unusedSimpArgs false
set_option linter.unusedVariables false
namespace Go.Proofs.YtiejahgklcjhkaaGreatDoor
open Go
namespace Sh
open Ev Go.RowKit
set_option maxRecDepth 8000
theorem Returns.exT{P:Program}{g:FuncId}{args:List SV}{r:SV}(h:Returns P g args r):Returns P g args (.ex TT r):=fun G m us h1 h2 h3=>by
 obtain⟨v,m',x,a,b,c,d,e⟩:=h G m us h1 h2 h3;exact⟨v,m',.ex TT r,a,b,c,rfl,.ex trivial (fun _ _ _ _ _=>trivial) (d ▸ e)⟩
section
variable {Q1 Q2:(Nat->Option ABlk)->Value->Prop} {p:ProgT} {g:Gr}
theorem ybnm(h:Checked Q1 Q2 p g){kind:Int}(hk:1<=kind/\kind<=4){c:Conf}(hc:ydn p g c=true){len:Nat}(hl:len<=4096):Returns Tryz.prog 129 [.ag (ycc Q1 Q2 p.raw),grV g,.i .i64 kind,yba c,.i .i64 len] (.i .i64 0):=by
 refine Returns.of (ycwm _ _ ?_);have hC:=yra h c;rw[if_pos hc]at hC;have hD:=yuq kind;rw[decide_eq_true hk.1,decide_eq_true hk.2]at hD;have f1:decide ((len:Int) > 4096)=false:=by simp;omega
 simp only[ycc,grV]at hC;simp only[c129,ycaz,ycpl,ycc,grV,go_sem,Nat.reduceEqDiff,Nat.reduceAdd,Nat.reduceLT,↓reduceIte,reduceCtorEq];refine hC.use ?_;simp only[thenO,ycoq,ycix,Int.reduceBNe,go_sem,Nat.reduceEqDiff,Nat.reduceAdd,↓reduceIte,reduceCtorEq];refine hD.use ?_;simp only[ycmx,ycha,f1,yh,Bool.and_self,go_sem,Nat.reduceEqDiff,Nat.reduceAdd,↓reduceIte,reduceCtorEq]
theorem ybiw(h:Checked Q1 Q2 p g):Returns Tryz.prog 93 [.ag (ymb p.raw),grV g] (yel p g):=by
 have hp':=h.hp;unfold ProgT.ok at hp';simp only[Bool.and_eq_true,decide_eq_true_eq]at hp';exact(yhu p.raw h.hg hp'.1.1.2 hp'.1.1.1.2).exT
theorem yyy(h:Checked Q1 Q2 p g)(kind:Int):Cm Tryz.prog 130 [(201,0),(203,0)] ylc [.ag (ycc Q1 Q2 p.raw),grV g,.i .i64 kind,seeC] fun r o=>r = .ag (ycz p g (g.ports.map netP) kind)/\o=ylc:=by
 refine ybvn [(201,0),(203,0)] [] _ _ _ ?_;have hM:=ybiw h;have hN:=ytz h.hg;have hA:=ybrb h.hg;simp only[grV]at hM hN hA;simp only[c130,ychp,ycjp,ycc,grV,seeC,ylc,clash,go_sem,Nat.reduceEqDiff,Nat.reduceAdd,Nat.reduceLT,↓reduceIte,reduceCtorEq];refine hM.useS ?_ ?_
 ·exact⟨ylk ⟨Sim.refl _,yii _ _,yii _ _,trivial⟩,Sim.refl _,trivial⟩
 simp only[usV,yel]at hN ⊢;simp only[thenO,clash,go_sem,Nat.reduceEqDiff,Nat.reduceAdd,Nat.reduceLeDiff,↓reduceIte,reduceCtorEq];refine hN.use ?_;simp only[go_sem,Nat.reduceAdd,Nat.reduceLeDiff,↓reduceIte];refine⟨by decide,hA.use ?_⟩
 simp only[yev,go_sem,Nat.reduceEqDiff,Nat.reduceAdd,↓reduceIte];refine⟨by decide,by decide,.ag (ycz p g (g.ports.map netP) kind),ylc,?_,?_,rfl,rfl⟩
 ·refine yby [] [] [] ?_;simp only[ycz,yel,usV,seeC,ylc,allQ,live,sim_self,go_sem,Nat.reduceEqDiff,↓reduceIte,reduceCtorEq]
 ·simp only[ycz,yel,usV,seeC,ylc,famCln,obCln,allQ,live,go_sem,Nat.reduceEqDiff,↓reduceIte]
theorem ybmr(h:Checked Q1 Q2 p g){kind:Int}{net:List Nat}(hnl:g.ids.length<=net.length){res:Nat->Nat->Nat}(hd:DaemonOk kind net res){c:Conf}(hc:ydn p g c=true){ws:List Nat}(hw:∀ k,ws.getD k 0<2 ^ 32)(hwl:ws.length<=4000) :
  Cm Tryz.prog 133 [(201,0),(203,0)] ylc [.ag (ycz p g net kind),yba c,usV ws]
   fun r o=>(∃ l1 l2 c' k',r = .tp [.ag (usV l1 :: usV l2 :: yba c' :: cntV k'),.i .i64 0])/\o=seeX ((ybj p g).runs res ws c |>.map (·.1)) ((ybj p g).runs res ws c |>.map (·.2)):=by
 refine ybvp [(201,0),(203,0)] [168] _ _ _ ?_;have hX:=ybjt h hnl hd hc hw hwl
 generalize ((ybj p g).runs res ws c).map (·.1)=CS at hX ⊢
 generalize ((ybj p g).runs res ws c).map (·.2)=KS at hX ⊢
 simp only[c133,ychn,ycmg,ylc,ycz,yel,usV,seeC,go_sem,Nat.reduceEqDiff,Nat.reduceAdd,Nat.reduceLT,↓reduceIte,reduceCtorEq];refine callM_of hX [(201,201),(203,203),(205,3),(206,5)] 0 [6,7] [6] ?_ ?_
 ·simp only[ylc,ybmz,ycz,yel,usV,seeC,List.cons_append,List.nil_append,to1,okN,famCln,obCln,keepF,keepO,allQ,live,sim_self,go_sem,Nat.reduceEqDiff,Nat.reduceAdd,Nat.reduceLeDiff,Nat.reduceBEq,↓reduceIte,reduceCtorEq]
 ·rintro r o' ⟨⟨l1,l2,c',k',rfl⟩,rfl⟩;simp only[seeX,usV,cntV,thenM,ygw,nuF,nu,difN,keepF,keepO,Fam.ren,OB.ren,dim,yex,yyk,ylh,yrx,ygs,go_sem,Nat.reduceEqDiff,Nat.reduceAdd,Nat.reduceBEq,↓reduceIte,reduceCtorEq];simp only[yev,go_sem];refine⟨.tp [.ag (usV l1 :: usV l2 :: yba c' :: cntV k'),.i .i64 0],seeX CS KS,?_,?_,⟨l1,l2,c',k',rfl⟩,rfl⟩
  ·refine yby [] [] [] ?_;simp only[seeX,usV,cntV,allQ,live,sim_self,go_sem,Nat.reduceEqDiff,↓reduceIte,reduceCtorEq]
  ·simp only[seeX,usV,cntV,famCln,obCln,allQ,live,go_sem,Nat.reduceEqDiff,↓reduceIte]
def ydd(l:List Conf):SV:=.sl 1 l.length (fun i=>[yba (l.getD i [])])
def ydr(l:List Cnt):SV:=.sl 5 l.length (fun i=>cntV (l.getD i default))
theorem ybpb(h:Checked Q1 Q2 p g){kind:Int}(hk:1<=kind/\kind<=4){res:Nat->Nat->Nat}(hd:DaemonOk kind (g.ports.map netP) res){c:Conf}(hc:ydn p g c=true){ws:List Nat}(hw:∀ k,ws.getD k 0<2 ^ 32)(hwl:ws.length<=4000) :
  Returns Tryz.prog 78 [.ag (ycc Q1 Q2 p.raw),grV g,.i .i64 kind,yba c,usV ws] (.tp [ydd (((ybj p g).runs res ws c).map (·.1)),ydr (((ybj p g).runs res ws c).map (·.2)),.i .i64 0]):=by
 refine Returns.of (ycuf [130,133] _ _ ?_);have hC:=ybnm h hk hc (len:=ws.length) (by omega)
 have hN:=yyy h kind;have hX:=ybmr h (by have:=h.hg.2.2.1;rw[List.length_map];omega) hd hc hw hwl
 generalize ((ybj p g).runs res ws c).map (·.1)=CS at hX ⊢
 generalize ((ybj p g).runs res ws c).map (·.2)=KS at hX ⊢
 simp only[ycc,grV]at hC;simp only[c78,ycyz,ycyx,ycc,grV,usV,go_sem,Nat.reduceEqDiff,Nat.reduceAdd,Nat.reduceLT,Nat.reduceBEq,↓reduceIte,reduceCtorEq];refine hC.use ?_;simp only[thenO,ydbx,ydef,ydbq,ydeo,Int.reduceBNe,go_sem,Nat.reduceEqDiff,Nat.reduceAdd,Nat.reduceLT,↓reduceIte,reduceCtorEq];refine callM_of hN [(201,14),(203,15)] 0 [3,4,14,15] [] ?_ ?_
 ·simp only[ylc,seeC,ycc,grV,to1,okN,famCln,obCln,keepF,keepO,allQ,live,sim_self,go_sem,Nat.reduceEqDiff,Nat.reduceAdd,↓reduceIte,reduceCtorEq]
 rintro r o' ⟨rfl,rfl⟩;simp only[ylc,ycz,yel,usV,seeC,thenM,ygw,nuF,nu,difN,keepF,keepO,Fam.ren,OB.ren,dim,yex,ycxf,yyk,ycpd,ylh,ybfm,ybhj,go_sem,Nat.reduceEqDiff,Nat.reduceAdd,Nat.reduceLT,Nat.reduceBEq,↓reduceIte,reduceCtorEq];simp only[ydem,go_sem,Nat.reduceEqDiff,Nat.reduceAdd,Nat.reduceBEq,↓reduceIte,reduceCtorEq];simp only[ycz,yel,usV,seeC]at hX;refine callM_of hX [(201,14),(203,15)] 0 [14,15] [] ?_ ?_
 ·simp only[ylc,to1,okN,famCln,obCln,keepF,keepO,allQ,live,sim_self,go_sem,Nat.reduceEqDiff,Nat.reduceAdd,↓reduceIte,reduceCtorEq]
 rintro r o' ⟨⟨l1,l2,c',k',rfl⟩,rfl⟩;simp only[seeX,cntV,thenM,ygw,nuF,nu,difN,keepF,keepO,Fam.ren,OB.ren,dim,yex,yyk,ylh,yrx,ygs,go_sem,Nat.reduceEqDiff,Nat.reduceAdd,Nat.reduceLT,Nat.reduceBEq,↓reduceIte,reduceCtorEq];simp only[ydez,yclj,clash,Int.reduceBNe,ydd,ydr,go_sem,Nat.reduceEqDiff,Nat.reduceAdd,↓reduceIte,reduceCtorEq];exact Sim.refl _
end
end Sh
end Go.Proofs.YtiejahgklcjhkaaGreatDoor

namespace Go.Proofs.YtiejahgklcjhkaaGreatDoor
open Go
def ycg(v m:Int):Int:=if m<1 then 0 else v % m
def atP(l:List Int)(i:Nat):Int:=l.getD i 0
theorem ycm{v m:Int}(h:1<=m):0<=ycg v m/\ycg v m<m:=by
 unfold ycg;rw[if_neg (by omega)]
 exact⟨Int.emod_nonneg _ (by omega),Int.emod_lt_of_pos _ (by omega)⟩
namespace Sh
open Ev Go.RowKit
set_option maxRecDepth 8000
theorem ybgs{v m:Int}(h:1<=m):(if v.tmod m<0 then v.tmod m+m else v.tmod m)=v % m:=by
 have h1:=Int.emod_add_mul_ediv v m;have h2:=Int.emod_nonneg v (show m ≠ 0 by omega)
 have h3:=Int.emod_lt_of_pos v (show 0<m by omega)
 have h4:=Int.tmod_eq_emod (a:=v) (b:=m);have h5:(m.natAbs:Int)=m:=by omega
 rw[h4]
 by_cases q:0<=v\/m ∣ v
 ·simp only[if_pos q,Int.natCast_zero,Int.sub_zero];rw[if_neg (by omega)]
 ·simp only[if_neg q,h5];rw[if_pos (by omega)]
  omega
theorem ycl(v m:Int)(hm:m<=4611686018427387904)(hv:inK .i64 v):Returns Tryz.prog 39 [.i .i64 v,.i .i64 m] (.i .i64 (ycg v m)):=by
 refine Returns.of (ycza _ _ ?_);simp only[c39,ydel,ycyk,ydam,yddi,ydet,ydeh,ydcn,yh,go_sem,Nat.reduceEqDiff,Nat.reduceAdd,↓reduceIte,reduceCtorEq];unfold ycg;refine⟨fun h=>by rw[if_pos h],fun h=>⟨by omega,fun h2=>?_,fun h2=>?_⟩⟩
 ·have h3:=ybgs (v:=v) (show 1<=m by omega)
  rw[if_pos h2]at h3;rw[if_neg h,h3];have h4:=Int.emod_nonneg v (show m ≠ 0 by omega)
  have h5:=Int.emod_lt_of_pos v (show 0<m by omega)
  exact⟨ikw (by omega) (by omega),rfl⟩
 ·have h3:=ybgs (v:=v) (show 1<=m by omega)
  rw[if_neg h2]at h3;rw[if_neg h,h3]
theorem at_ret(l:List Int)(i:Nat):Returns Tryz.prog 77 [yg l,.i .i64 i] (.i .i64 (atP l i)):=by
 refine Returns.of (ycxv _ _ ?_);simp only[c77,ydej,ycxp,ycxw,ydeg,yg,yh,go_sem,Nat.reduceEqDiff,Nat.reduceAdd,↓reduceIte,reduceCtorEq];exact⟨fun h=>⟨by omega,rfl⟩,fun h=>by unfold atP;rw[List.getD,List.getElem?_eq_none (by omega)];rfl⟩
theorem wrap32(z:Int):0<=IntKind.wrap .u32 z/\IntKind.wrap .u32 z<2 ^ 32:=by
 unfold IntKind.wrap;simp only[IntKind.signed,IntKind.bits];exact⟨Int.emod_nonneg _ (by decide),Int.emod_lt_of_pos _ (by decide)⟩
theorem yrv{α:Type}(l:List α)(x d:α)(i:Nat):(l ++ [x]).getD i d=if i<l.length then l.getD i d else if i=l.length then x else d:=by
 by_cases h:i<l.length
 ·simp[List.getD,List.getElem?_append_left h,h]
 ·by_cases e:i=l.length
  ·subst e;simp[List.getD]
  ·rw[if_neg h,if_neg e,List.getD,List.getElem?_eq_none (by simp;omega)]
   rfl
theorem yut(l:List Nat)(hb:∀ k,l.getD k 0<2 ^ 32)(n:Nat)(hn:n<=1000):Ct Tryz.prog 26 [usV l,.i .i64 n] fun r=>∃ ws:List Nat,ws.length=n/\(∀ k,ws.getD k 0<2 ^ 32)/\Sim r (usV ws):=by
 refine ydgb _ _ ?_;simp only[c26,ydfq,yddy,yddr,usV,go_sem,↓reduceIte];refine ybd (σ:=List Nat) (fun ws=>⟨[(6,.i .i64 ws.length),(1,.i .i64 n),(0,usV l),(5,.os (100,0) 0 ws.length true)],[(100,.one (some ⟨40,false,1,ws.length,fun k=>[.i .u32 (ws.getD k 0:Nat)]⟩))]⟩) (fun ws=>ws.length<=n /\ ∀ k,ws.getD k 0<2 ^ 32) (fun ws=>n - ws.length) [] ⟨Nat.zero_le _,fun k=>by simp⟩ ?_ ?_
 ·refine weak_all [] [100] [] ?_;simp only[usV,allQ,live,sim_self,Int.natCast_zero,go_sem,Nat.reduceEqDiff,↓reduceIte,reduceCtorEq];exact⟨(100,0),rfl,rfl,rfl⟩
 ·rintro ws ⟨h1,h2⟩;simp only[ydfr,ydgg,usV,go_sem,Nat.reduceEqDiff,Nat.reduceAdd,↓reduceIte,reduceCtorEq];refine⟨fun hlt=>⟨fun h0=>?_,fun h0=>?_⟩,fun hlt=>?_⟩
  ·simp only[ycqx,ydbn,splice,go_sem,Nat.reduceEqDiff,Nat.reduceAdd,Nat.reduceLeDiff,Nat.reduceLT,↓reduceIte,reduceCtorEq];refine⟨⟨by omega,by omega⟩,ikw (by omega) (by omega),?_⟩
   refine yc (ws ++ [4294967295]) ⟨by simp;omega,fun k=>?_⟩ (by simp;omega) ?_
   ·rw[yrv];split
    ·exact h2 k
    ·split<;>decide
   refine weak_all [(100,fun i=>(19,i))] [] [] ?_;simp only[List.length_append,allQ,live,sim_self,yh,go_sem,Nat.reduceEqDiff,↓reduceIte,reduceCtorEq];refine⟨by omega,fun i hi=>?_⟩
   rw[yrv]
   by_cases q:i<ws.length
   ·simp only[if_pos q];simp only[live,sim_self,go_sem,reduceCtorEq]
   ·obtain rfl:i=ws.length:=by omega
    simp only[if_neg q,Nat.sub_self,Nat.zero_mul];simp only[live,yh,go_sem,↓reduceIte,reduceCtorEq];rfl
  ·simp only[ydcv,yczs,clash,go_sem,Nat.reduceEqDiff,Nat.reduceAdd,↓reduceIte,reduceCtorEq];have hl0:0<l.length:=by omega
   have t1:(ws.length:Int).tmod (l.length:Int)=((ws.length % l.length:Nat):Int):=(Int.ofNat_tmod _ _).symm;have t2:(ws.length:Int).tdiv (l.length:Int)=((ws.length / l.length:Nat):Int):=(Int.ofNat_tdiv _ _).symm;have t3:((ws.length / l.length:Nat):Int).tmod 24=((ws.length / l.length % 24:Nat):Int):=(Int.ofNat_tmod _ 24).symm;have hlt1:=Nat.mod_lt ws.length hl0;have hle1:=Nat.div_le_self ws.length l.length
   obtain⟨D,hD⟩:∃ D,ws.length / l.length=D:=⟨_,rfl⟩;rw[hD]at t2 t3 hle1;obtain⟨K,hK⟩:∃ K,D % 24=K:=⟨_,rfl⟩;have hK24:K<24:=by rw[<- hK];exact Nat.mod_lt _ (by decide)
   have t4:IntKind.wrap .u64 (K:Int)=K:=by unfold IntKind.wrap;simp[IntKind.bits,IntKind.signed];omega
   simp only[t1,t2,t3,hK,t4]
   generalize IntKind.wrap .u32 _=A
   refine⟨by omega,⟨by omega,by omega⟩,⟨by omega,ikw (by omega) (by omega)⟩,by decide,?_⟩
   simp only[ycqx,ydaa,splice,go_sem,Nat.reduceEqDiff,Nat.reduceAdd,Nat.reduceLeDiff,Nat.reduceLT,↓reduceIte,reduceCtorEq]
   generalize hZ:IntKind.wrap .u32 ((BitVec.toNat _:Nat):Int)=Z
   have hz:0<=Z/\Z<2 ^ 32:=by rw[<- hZ];exact wrap32 _
   obtain⟨z,rfl⟩:∃ z:Nat,Z=z:=⟨Z.toNat,by omega⟩
   refine⟨⟨by omega,by show _<((32:Nat):Int);omega⟩,⟨by simp[IntKind.min,IntKind.signed];omega,by simp[IntKind.max,IntKind.bits,IntKind.signed];omega⟩,⟨by omega,by show _<((32:Nat):Int);omega⟩,⟨by omega,by omega⟩,ikw (by omega) (by omega),?_⟩
   refine yc (ws ++ [z]) ⟨by simp;omega,fun k=>?_⟩ (by simp;omega) ?_
   ·rw[yrv];split
    ·exact h2 k
    ·split<;>omega
   refine weak_all [(100,fun i=>(46,i))] [] [] ?_;simp only[List.length_append,allQ,live,sim_self,yh,go_sem,Nat.reduceEqDiff,↓reduceIte,reduceCtorEq];refine⟨by omega,fun i hi=>?_⟩
   rw[yrv]
   by_cases q:i<ws.length
   ·simp only[if_pos q];simp only[live,sim_self,go_sem,reduceCtorEq]
   ·obtain rfl:i=ws.length:=by omega
    simp only[if_neg q,Nat.sub_self,Nat.zero_mul];simp only[live,sim_self,go_sem,↓reduceIte,reduceCtorEq]
  ·simp only[ycct,go_sem,Nat.reduceEqDiff,Nat.reduceAdd,↓reduceIte,reduceCtorEq];exact⟨ws,by omega,h2,Sim.refl _⟩
end Sh
end Go.Proofs.YtiejahgklcjhkaaGreatDoor

namespace Go.Proofs.YtiejahgklcjhkaaGreatDoor
open Go
namespace Sh
open Ev Go.RowKit
set_option maxRecDepth 8000
def yso(l:List Int)(k:Nat):Int:=(l.take k).foldl max 0
theorem ybzb{l:List Int}(h:∀ x ∈ l,0<=x/\x<=255):∀ k,0<=yso l k/\yso l k<=255:=by
 intro k;unfold yso
 have:∀ (l:List Int) (a:Int),(∀ x ∈ l,0<=x/\x<=255)->0<=a/\a<=255->0<=l.foldl max a/\l.foldl max a<=255:=by
  intro l
  induction l with
  | nil=>intro a _ h;exact h
  | cons x l ih=>intro a hl ha;exact ih _ (fun y hy=>hl y (List.mem_cons_of_mem _ hy)) (by have:=hl x List.mem_cons_self;omega)
 exact this _ 0 (fun x hx=>h x (List.mem_of_mem_take hx)) (by omega)
theorem ybhu{l:List Int}{k:Nat}(hk:k<l.length):yso l (k+1)=max (yso l k) (l.getD k 0):=by
 unfold yso;rw[List.take_succ_eq_append_getElem hk,List.foldl_append,getD_at hk];rfl
theorem yblx{l:List Int}(h:∀ x ∈ l,0<=x/\x<=255)(hl:0<l.length):yso l l.length=maxI l:=by
 unfold yso;rw[List.take_length];exact(ybgm hl fun x hx=>(h x hx).1).symm
theorem ynr{vars:List VarR}{b:VarR->Int × Int}{L:List Int}(h:ydp ((vars.take L.length).map b) L)(hl:L.length<vars.length){y:Int}(hy:(b (vars.getD L.length default)).1<=y/\y<=(b (vars.getD L.length default)).2):ydp ((vars.take (L ++ [y]).length).map b) (L ++ [y]):=by
 refine⟨by simp;omega,fun i c x hb hx=>?_⟩
 rw[List.length_append,List.length_singleton,List.getElem?_map]at hb;have hi:i<L.length+1:=by have:=(List.getElem?_eq_some_iff.1 hx).1;simpa using this
 rw[List.getElem?_take_of_lt hi]at hb
 by_cases q:i<L.length
 ·rw[List.getElem?_append_left q]at hx;refine h.2 i c x ?_ hx;rw[List.getElem?_map,List.getElem?_take_of_lt q];exact hb
 ·obtain rfl:i=L.length:=by omega
  rw[List.getElem?_append_right (Nat.le_refl _),Nat.sub_self]at hx;cases hx
  rw[List.getElem?_eq_getElem hl]at hb;cases hb
  rw[getD_at hl]at hy;exact hy
section
variable {p:ProgT} {g:Gr}
theorem ynp(hg:GoodG g)(hp:p.ok=true)(hf:yvm p g=true){raw:List Int}(hr:∀ k,inK .i64 (raw.getD k 0)) :
  Ct Tryz.prog 24 [grV g,ycn p.vars,yg raw] fun r=>∃ c,ydn p g c=true/\Sim r (yba c):=by
 refine ycyp _ _ ?_;have hid:=hg.2.2.1;have h24:=hg.2.1;have h1:=hg.1;have hids:=hg.2.2.2.1;simp only[c24,ydap,ydfd,ydaq,grV,yx,go_sem,Nat.reduceEqDiff,Nat.reduceAdd,Nat.reduceLT,↓reduceIte,reduceCtorEq];obtain⟨n,hn⟩:∃ n,g.ports.length=n:=⟨_,rfl⟩;refine ybd (σ:=Nat) (fun k=>⟨[(9,.i .i64 k),(8,.i .i64 (yso g.ids k)),(7,.i .i64 n),(3,.pt (3,0) 0 0),(1,ycn p.vars),(2,yg raw)],[(3,.one (some ⟨27,true,2,1,fun _=>[yg g.ids,yx g.ports]⟩))]⟩) (fun k=>k<=n) (fun k=>n - k) 0 (Nat.zero_le _) ?_ ?_
 ·refine weak_all [] [] [] ?_;simp only[yx,hn,allQ,live,sim_self,yh,Int.natCast_zero,go_sem,Nat.reduceEqDiff,↓reduceIte,reduceCtorEq];rfl
 ·intro k hk;have htop:=ybzb hids k;simp only[yczd,yczk,ydat,ydcr,ydfg,yg,go_sem,Nat.reduceEqDiff,Nat.reduceAdd,Nat.reduceLeDiff,↓reduceIte,reduceCtorEq];refine⟨fun hlt=>?_,fun hlt=>?_⟩
  ·have hs:=ybhu (l:=g.ids) (k:=k) (by omega)
   refine⟨by omega,ikw (by omega) (by omega),?_⟩
   refine yc (k+1) (by omega) (by omega) ?_
   refine weak_all [] [] [] ?_;simp only[allQ,live,sim_self,yh,go_sem,Nat.reduceEqDiff,↓reduceIte,reduceCtorEq];exact⟨by omega,hs.symm⟩
  ·obtain rfl:k=n:=by omega
   have htm:yso g.ids k=maxI g.ids:=by rw[<- hn,<- hid];exact yblx hids (by omega)
   rw[htm]at htop ⊢;obtain⟨top,htp⟩:∃ t,maxI g.ids=t:=⟨_,rfl⟩;rw[htp]at htop ⊢;obtain⟨nv,hnv⟩:∃ k,p.vars.length=k:=⟨_,rfl⟩;have hp':=hp;unfold ProgT.ok at hp';simp only[Bool.and_eq_true,decide_eq_true_eq]at hp'
   refine ybd (σ:=Conf) (fun C=>⟨[(11,.i .i64 C.length),(10,.os (300,0) 0 C.length true),(8,.i .i64 top),(7,.i .i64 k),(3,.pt (3,0) 0 0),(1,ycn p.vars),(2,yg raw)],
    [(3,.one (some ⟨27,true,2,1,fun _=>[yg g.ids,yx g.ports]⟩)),(300,.one (some ⟨22,false,1,C.length,fun j=>[yg (C.getD j [])]⟩))]⟩)
    (fun C=>C.length<=k /\ ∀ v,v<C.length->ydp (p.vars.map (ybc g v)) (C.getD v [])) (fun C=>k - C.length) [] ⟨Nat.zero_le _,fun v hv=>absurd hv (Nat.not_lt_zero v)⟩ ?_ ?_
   ·refine weak_all [] [300] [] ?_;simp only[yg,yx,allQ,live,sim_self,Int.natCast_zero,go_sem,Nat.reduceEqDiff,Nat.reduceBEq,↓reduceIte,reduceCtorEq];exact⟨(300,0),rfl,rfl,rfl⟩
   ·rintro C ⟨hC1,hC2⟩;simp only[ycxq,ycdr,ycfp,yg,go_sem,Nat.reduceEqDiff,Nat.reduceAdd,↓reduceIte,reduceCtorEq];refine⟨fun hlt=>?_,fun hlt=>?_⟩
    ·refine ybd (σ:=List Int) (fun L=>⟨[(13,.i .i64 L.length),(12,.os (301,0) 0 L.length true),(11,.i .i64 C.length),(10,.os (300,0) 0 C.length true),(8,.i .i64 top),(7,.i .i64 k),(3,.pt (3,0) 0 0),(1,ycn p.vars),(2,yg raw)],
      [(301,.one (some ⟨3,false,1,L.length,fun j=>[.i .i64 (L.getD j 0)]⟩)),(3,.one (some ⟨27,true,2,1,fun _=>[yg g.ids,yx g.ports]⟩)),(300,.one (some ⟨22,false,1,C.length,fun j=>[yg (C.getD j [])]⟩))]⟩)
      (fun L=>L.length<=nv/\ydp ((p.vars.take L.length).map (ybc g C.length)) L) (fun L=>nv - L.length) [] ⟨Nat.zero_le _,rfl,fun i b x hb=>by simp at hb⟩ ?_ ?_
     ·refine weak_all [] [301] [] ?_;simp only[yg,yx,allQ,live,sim_self,Int.natCast_zero,go_sem,Nat.reduceEqDiff,Nat.reduceBEq,↓reduceIte,reduceCtorEq];exact⟨(301,0),rfl,rfl,rfl⟩
     ·rintro L ⟨hL1,hL2⟩;obtain⟨x,hx⟩:∃ x,p.vars.getD L.length default=x:=⟨_,rfl⟩;simp only[yccs,yceu,ycnn,yg,ycn,hnv,hx,varC,clash,go_sem,Nat.reduceEqDiff,Nat.reduceAdd,Nat.reduceLeDiff,↓reduceIte,reduceCtorEq];refine⟨fun hlt2=>?_,fun hlt2=>?_⟩
      ·have hLn:L.length<p.vars.length:=by omega
       have hxm:x ∈ p.vars:=by rw[<- hx,getD_at hLn];exact List.getElem_mem _
       have hxo:=List.all_eq_true.1 hp'.1.1.2 x hxm;have hvo:=ybbx hxo;obtain⟨hb1,hb2⟩:=ylo hg hxo;rw[hid,hn]at hb1;rw[htp]at hb2;have hbn:=ybew hg hp hf hxm C.length;have hidx:(C.length:Int) * (nv:Int)+(L.length:Int)=((C.length * nv+L.length:Nat):Int):=by push_cast;rfl
       have hdeg:=hg.deg_lt (v:=C.length);have hmi:(C.length:Int) * (nv:Int)=((C.length * nv:Nat):Int):=by push_cast;rfl
       have hmul:C.length * nv<=24 * 6:=Nat.mul_le_mul (by omega) (by omega)
       have hAt:=at_ret raw (C.length * nv+L.length);have hav:inK .i64 (atP raw (C.length * nv+L.length)):=hr _;simp only[yg]at hAt;refine⟨by omega,by omega,by omega,ikw (by omega) (by omega),ikw (by omega) (by omega),by omega,ikw (by omega) (by omega),ikw (by omega) (by omega),by omega,?_⟩
       rcases hvo.1 with hkk | hkk | hkk
       ·have hbt:ybc g C.length x=(x.lo,x.hi+x.perNode * (k:Int)+x.perID * top):=by
         unfold ybc;rw[if_pos hkk,hid,hn,htp]
        rw[hbt]at hbn;simp only[]at hbn;simp only[hkk];simp only[ybgp,ybfy,ybga,ybgd,ybfx,clash,Int.reduceBEq,hidx,go_sem,Nat.reduceEqDiff,Nat.reduceAdd,↓reduceIte,reduceCtorEq];refine⟨by rw[hmi];exact ikw (by omega) (by omega),ikw (by omega) (by omega),hAt.use ?_⟩
        simp only[thenO,go_sem,Nat.reduceEqDiff,Nat.reduceAdd,Nat.reduceLT,↓reduceIte,reduceCtorEq];have hW:=ycl (atP raw (C.length * nv+L.length)) (x.hi+x.perNode * (k:Int)+x.perID * top - (x.lo)+1) (by omega) hav
        obtain⟨w1,w2⟩:=ycm (v:=atP raw (C.length * nv+L.length)) (m:=x.hi+x.perNode * (k:Int)+x.perID * top - (x.lo)+1) (by omega)
        generalize ycg (atP raw (C.length * nv+L.length)) (x.hi+x.perNode * (k:Int)+x.perID * top - (x.lo)+1)=W at hW w1 w2
        refine⟨ikw (by omega) (by omega),ikw (by omega) (by omega),hW.use ?_⟩
        simp only[ybgb,go_sem,Nat.reduceEqDiff,Nat.reduceAdd,Nat.reduceLeDiff,↓reduceIte,reduceCtorEq];refine⟨ikw (by omega) (by omega),⟨by omega,by omega⟩,ikw (by omega) (by omega),?_⟩
        refine yc (L ++ [x.lo+W]) ⟨by simp;omega,ynr hL2 hLn (by rw[hx,hbt];exact⟨by simp only[];omega,by simp only[];omega⟩)⟩ (by simp;omega) ?_
        refine weak_all [(301,fun i=>(101,i))] [] [] ?_;simp only[yx,yu,hn,List.length_append,allQ,live,sim_self,yh,go_sem,Nat.reduceEqDiff,↓reduceIte,reduceCtorEq];refine⟨by omega,fun i hi=>?_⟩
        rw[yrv]
        by_cases q:i<L.length
        ·simp only[if_pos q];simp only[live,sim_self,go_sem,reduceCtorEq]
        ·obtain rfl:i=L.length:=by omega
         simp only[if_neg q,Nat.sub_self,Nat.zero_mul];simp only[live,sim_self,go_sem,↓reduceIte,reduceCtorEq]
       ·have hbt:ybc g C.length x=(0,1):=by
         unfold ybc;rw[if_neg (by omega),if_pos hkk]
        rw[hbt]at hbn;simp only[]at hbn;simp only[hkk];simp only[ybgp,ybfy,ybga,ybgd,ybfx,clash,hidx,go_sem,Nat.reduceEqDiff,Nat.reduceAdd,↓reduceIte,reduceCtorEq];refine⟨by rw[hmi];exact ikw (by omega) (by omega),ikw (by omega) (by omega),hAt.use ?_⟩
        simp only[thenO,go_sem,Nat.reduceEqDiff,Nat.reduceAdd,Nat.reduceLT,↓reduceIte,reduceCtorEq];have hW:=ycl (atP raw (C.length * nv+L.length)) (1 - (0)+1) (by omega) hav
        obtain⟨w1,w2⟩:=ycm (v:=atP raw (C.length * nv+L.length)) (m:=1 - (0)+1) (by omega)
        generalize ycg (atP raw (C.length * nv+L.length)) (1 - (0)+1)=W at hW w1 w2
        refine⟨ikw (by omega) (by omega),ikw (by omega) (by omega),hW.use ?_⟩
        simp only[ybgb,go_sem,Nat.reduceEqDiff,Nat.reduceAdd,Nat.reduceLeDiff,↓reduceIte,reduceCtorEq];refine⟨ikw (by omega) (by omega),⟨by omega,by omega⟩,ikw (by omega) (by omega),?_⟩
        refine yc (L ++ [0+W]) ⟨by simp;omega,ynr hL2 hLn (by rw[hx,hbt];exact⟨by simp only[];omega,by simp only[];omega⟩)⟩ (by simp;omega) ?_
        refine weak_all [(301,fun i=>(101,i))] [] [] ?_;simp only[yx,yu,hn,List.length_append,allQ,live,sim_self,yh,go_sem,Nat.reduceEqDiff,↓reduceIte,reduceCtorEq];refine⟨by omega,fun i hi=>?_⟩
        rw[yrv]
        by_cases q:i<L.length
        ·simp only[if_pos q];simp only[live,sim_self,go_sem,reduceCtorEq]
        ·obtain rfl:i=L.length:=by omega
         simp only[if_neg q,Nat.sub_self,Nat.zero_mul];simp only[live,sim_self,go_sem,↓reduceIte,reduceCtorEq]
       ·have hbt:ybc g C.length x=(-1,((g.ports.getD C.length []).length:Int) - 1):=by
         unfold ybc;rw[if_neg (by omega),if_neg (by omega),if_pos hkk]
        rw[hbt]at hbn;simp only[]at hbn;simp only[hkk];simp only[ybgp,ybfy,ybga,ybgd,ybfx,clash,Int.reduceBEq,hidx,yx,yu,hn,go_sem,Nat.reduceEqDiff,Nat.reduceAdd,↓reduceIte,reduceCtorEq];refine⟨by omega,ikw (by omega) (by omega),by rw[hmi];exact ikw (by omega) (by omega),ikw (by omega) (by omega),hAt.use ?_⟩
        simp only[thenO,go_sem,Nat.reduceEqDiff,Nat.reduceAdd,Nat.reduceLT,↓reduceIte,reduceCtorEq];have hW:=ycl (atP raw (C.length * nv+L.length)) (((g.ports.getD C.length []).length:Int) - 1 - (-1)+1) (by omega) hav
        obtain⟨w1,w2⟩:=ycm (v:=atP raw (C.length * nv+L.length)) (m:=((g.ports.getD C.length []).length:Int) - 1 - (-1)+1) (by omega)
        generalize ycg (atP raw (C.length * nv+L.length)) (((g.ports.getD C.length []).length:Int) - 1 - (-1)+1)=W at hW w1 w2
        refine⟨ikw (by omega) (by omega),ikw (by omega) (by omega),hW.use ?_⟩
        simp only[ybgb,go_sem,Nat.reduceEqDiff,Nat.reduceAdd,Nat.reduceLeDiff,↓reduceIte,reduceCtorEq];refine⟨ikw (by omega) (by omega),⟨by omega,by omega⟩,ikw (by omega) (by omega),?_⟩
        refine yc (L ++ [-1+W]) ⟨by simp;omega,ynr hL2 hLn (by rw[hx,hbt];exact⟨by simp only[];omega,by simp only[];omega⟩)⟩ (by simp;omega) ?_
        refine weak_all [(301,fun i=>(101,i))] [] [] ?_;simp only[List.length_append,allQ,live,sim_self,yh,go_sem,Nat.reduceEqDiff,↓reduceIte,reduceCtorEq];refine⟨by omega,fun i hi=>?_⟩
        rw[yrv]
        by_cases q:i<L.length
        ·simp only[if_pos q];simp only[live,sim_self,go_sem,reduceCtorEq]
        ·obtain rfl:i=L.length:=by omega
         simp only[if_neg q,Nat.sub_self,Nat.zero_mul];simp only[live,sim_self,go_sem,↓reduceIte,reduceCtorEq]
      ·have hLe:L.length=nv:=by omega
       rw[hLe,<- hnv,List.take_length]at hL2;simp only[ydbw,ycfc,splice,go_sem,Nat.reduceEqDiff,Nat.reduceAdd,Nat.reduceLeDiff,Nat.reduceLT,↓reduceIte,reduceCtorEq];refine⟨⟨by omega,by omega⟩,ikw (by omega) (by omega),?_⟩
       refine yc (C ++ [L]) ⟨by simp;omega,fun v hv=>?_⟩ (by simp;omega) ?_
       ·rw[yrv];split
        ·exact hC2 v (by assumption)
        ·have:v=C.length:=by simp at hv;omega
         subst this;rw[if_pos rfl];exact hL2
       refine weak_all [(300,fun i=>(105,i))] [] [(301,0)] ?_;simp only[yx,yu,hn,List.length_append,allQ,live,sim_self,yh,go_sem,Nat.reduceEqDiff,Nat.reduceLeDiff,↓reduceIte,reduceCtorEq];refine⟨by omega,fun i hi=>?_⟩
       have e:=yrv C L [] i;rw[e]
       by_cases q:i<C.length
       ·simp only[if_pos q];simp only[go_sem,live,sim_self,go_sem,reduceCtorEq]
       ·obtain rfl:i=C.length:=by omega
        simp only[if_neg q,Nat.sub_self,Nat.zero_mul,if_true];simp only[go_sem,live,sim_self,go_sem,Nat.reduceEqDiff,↓reduceIte,reduceCtorEq]
    ·simp only[yckb,go_sem,Nat.reduceEqDiff,Nat.reduceAdd,↓reduceIte,reduceCtorEq];refine⟨C,(ydy _ _ _).2 ⟨by omega,fun v st hst=>?_⟩,Sim.refl _⟩
     have hv:=(List.getElem?_eq_some_iff.1 hst).1;have:=hC2 v hv
     rwa [List.getD,hst]at this
end
end Sh
end Go.Proofs.YtiejahgklcjhkaaGreatDoor

namespace Go.Proofs.YtiejahgklcjhkaaGreatDoor
open Go
namespace Sh
open Ev Go.RowKit
set_option maxRecDepth 8000
def blV(l:List Bool):SV:=.sl 1 l.length (fun k=>[.b (l.getD k false)])
def ynw(l:List Bool)(k:Nat):Bool:=(l.take k).any id
theorem ybkd{l:List Bool}{k:Nat}(hk:k<l.length):ynw l (k+1)=(ynw l k || l.getD k false):=by
 unfold ynw;rw[List.take_succ_eq_append_getElem hk,List.any_append,getD_at hk];simp
structure HeldOk(legit:List Bool)(ks:List Cnt)(rounds moves:Int)(ended:Bool):Prop where
 len:legit.length=ks.length
 pos:0<legit.length
 stays:∀ i,i<legit.length->ynw legit i=true->legit.getD i false=true
 rounds:∀ i,i<legit.length->ynw legit (i+1)=false->((ks.getD i default).begun:Int)<=rounds
 moves:∀ i,i<legit.length->ynw legit (i+1)=false->0<=moves->((ks.getD i default).moves:Int)<=moves
 ends:ynw legit legit.length=true\/ended=false
def yer(kind:Int)(fair silent:Bool)(rounds moves:Int):List SV:=[.i .i64 kind,.b fair,.b silent,.i .i64 rounds,.i .i64 moves]
theorem ybvr{legit:List Bool}{ks:List Cnt}{kind rounds moves:Int}{fair silent ended:Bool}(h:HeldOk legit ks rounds moves ended)(hl:legit.length<=100000) :
  Returns Tryz.prog 38 [blV legit,ydr ks,.ag (yer kind fair silent rounds moves),.b ended] (.b true):=by
 refine Returns.of (yddx _ _ ?_);obtain⟨n,hn⟩:∃ n,legit.length=n:=⟨_,rfl⟩;have hkn:ks.length=n:=by rw[<- h.len];exact hn
 have hpos:=h.pos;rw[hn]at hpos hl;have f1:((n:Int) != (n:Int))=false:=by simp
 have f2:((n:Int) == 0)=false:=by simp;omega
 simp only[c38,ycxx,ydal,ydev,ydfm,ydgd,blV,ydr,yer,hn,hkn,f1,f2,go_sem,Nat.reduceEqDiff,Nat.reduceAdd,Nat.reduceLT,↓reduceIte,reduceCtorEq];refine ybd (σ:=Nat) (fun k=>⟨[(10,.i .i64 k),(9,.b (ynw legit k)),(6,.pt (6,0) 0 0),(0,blV legit),(1,ydr ks),(3,.b ended)],[(6,.one (some ⟨51,true,5,1,fun _=>yer kind fair silent rounds moves⟩))]⟩) (fun k=>k<=n) (fun k=>n - k) 0 (Nat.zero_le _) ?_ ?_
 ·refine weak_all [] [] [] ?_;simp only[blV,ydr,yer,hn,hkn,allQ,live,sim_self,sim_b,Int.natCast_zero,go_sem,Nat.reduceEqDiff,↓reduceIte,reduceCtorEq];rfl
 ·intro k hk;obtain⟨a0,ha0⟩:∃ b,ynw legit k=b:=⟨_,rfl⟩;obtain⟨lk,hlk⟩:∃ b,legit.getD k false=b:=⟨_,rfl⟩;rw[ha0]
  by_cases hlt:k<n
  ·have hs:=h.stays k (by omega)
   have hr:=h.rounds k (by omega)
   have hm:=h.moves k (by omega)
   have hsucc:=ybkd (l:=legit) (k:=k) (by omega)
   rw[ha0,hlk]at hsucc hs;have c1:decide ((k:Int)<(n:Int))=true:=by simp;omega
   cases a0<;>cases lk
   ·have g1:decide ((((ks.getD k default).begun:Nat):Int) > rounds)=false:=by simp;exact hr hsucc
    by_cases hmv:moves >= 0
    ·have g2:decide (moves >= 0)=true:=by simp;omega
     have g3:decide ((((ks.getD k default).moves:Nat):Int) > moves)=false:=by simp;exact hm hsucc hmv
     simp(maxSteps:=5000000) only [ybjk,yvo,ybma,ybqb,yys,yvo,blV,ydr,cntV,yer,hn,hkn,c1,hlk,clash,g1,g2,g3,go_sem,Nat.reduceEqDiff,Nat.reduceAdd,Nat.reduceLeDiff,↓reduceIte,reduceCtorEq];refine⟨by omega,by omega,by omega,ikw (by omega) (by omega),?_⟩
     refine yc (k+1) (by omega) (by omega) ?_
     refine weak_all [] [] [] ?_;simp only[hsucc,Bool.or_self,allQ,live,sim_self,yh,go_sem,Nat.reduceEqDiff,↓reduceIte,reduceCtorEq];omega
    ·have g2:decide (moves >= 0)=false:=by simp;omega
     simp(maxSteps:=5000000) only [ybjk,yvo,ybma,ybqb,yys,yvo,blV,ydr,cntV,yer,hn,hkn,c1,hlk,clash,g1,g2,go_sem,Nat.reduceEqDiff,Nat.reduceAdd,Nat.reduceLeDiff,↓reduceIte,reduceCtorEq];refine⟨by omega,by omega,ikw (by omega) (by omega),?_⟩
     refine yc (k+1) (by omega) (by omega) ?_
     refine weak_all [] [] [] ?_;simp only[hsucc,Bool.or_self,allQ,live,sim_self,yh,go_sem,Nat.reduceEqDiff,↓reduceIte,reduceCtorEq];omega
   ·simp(maxSteps:=5000000) only [ybjk,yvo,ybma,ybqb,yys,yvo,blV,ydr,cntV,yer,hn,hkn,c1,hlk,clash,go_sem,Nat.reduceEqDiff,Nat.reduceAdd,↓reduceIte,reduceCtorEq];refine⟨by omega,ikw (by omega) (by omega),?_⟩
    refine yc (k+1) (by omega) (by omega) ?_
    refine weak_all [] [] [] ?_;simp only[hsucc,Bool.or_true,allQ,live,sim_self,yh,go_sem,Nat.reduceEqDiff,↓reduceIte,reduceCtorEq];omega
   ·exact absurd (hs rfl) (by simp)
   ·simp(maxSteps:=5000000) only [ybjk,yvo,ybma,ybqb,yys,yvo,blV,ydr,cntV,yer,hn,hkn,c1,hlk,clash,go_sem,Nat.reduceEqDiff,Nat.reduceAdd,↓reduceIte,reduceCtorEq];refine⟨by omega,ikw (by omega) (by omega),?_⟩
    refine yc (k+1) (by omega) (by omega) ?_
    refine weak_all [] [] [] ?_;simp only[hsucc,Bool.or_self,allQ,live,sim_self,yh,go_sem,Nat.reduceEqDiff,↓reduceIte,reduceCtorEq];omega
  ·obtain rfl:k=n:=by omega
   have c1:decide ((k:Int)<(k:Int))=false:=by simp
   have he:=h.ends;rw[hn,ha0]at he;simp(maxSteps:=5000000) only [ybjk,ycfk,blV,ydr,yer,hn,hkn,c1,go_sem,Nat.reduceEqDiff,Nat.reduceAdd,↓reduceIte,reduceCtorEq];cases a0
   ·rcases he with he | he
    ·cases he
    ·subst he;simp only[sim_b,go_sem]
   ·simp only[sim_b,go_sem]
theorem ybnp{Q1 Q2:(Nat->Option ABlk)->Value->Prop}{p:ProgT}{g:Gr}{t:ByteArray}(hpr:Returns Tryz.prog 37 [.a (.string t)] (.ag (ycc Q1 Q2 p.raw)))(h:Checked Q1 Q2 p g){kind:Int}(hk:1<=kind/\kind<=4){res:Nat->Nat->Nat}(hd:DaemonOk kind (g.ports.map netP) res){c:Conf}(hc:ydn p g c=true){ws:List Nat}(hw:∀ k,ws.getD k 0<2 ^ 32)(hwl:ws.length<=4000) :
  Returns Tryz.prog 22 [.a (.string t),grV g,.i .i64 kind,yba c,usV ws] (.tp [ydd (((ybj p g).runs res ws c).map (·.1)),ydr (((ybj p g).runs res ws c).map (·.2)),.b true]):=by
 refine Returns.of (ycyu _ _ ?_);have hX:=ybpb h hk hd hc hw hwl;obtain⟨R,hR⟩:∃ R,(ybj p g).runs res ws c=R:=⟨_,rfl⟩;rw[hR]at hX ⊢;have hRl:0<R.length:=by rw[<- hR];simp[Sys.runs]
 obtain⟨m,hm⟩:∃ m,R.length=m:=⟨_,rfl⟩;rw[hm]at hRl;have f1:((m:Int) == (m:Int))=true:=by simp
 have f2:decide ((m:Int) > 0)=true:=by simp;omega
 simp only[ycc]at hpr hX;simp only[grV,usV,ydd,ydr,List.length_map,hm]at hX;simp only[c22,ycxj,yczw,grV,usV,clash,go_sem,Nat.reduceAdd,Nat.reduceLT,↓reduceIte,reduceCtorEq];refine hpr.use ?_;simp only[thenO,clash,go_sem,Nat.reduceEqDiff,Nat.reduceAdd,↓reduceIte,reduceCtorEq];refine hX.use ?_;simp(maxSteps:=5000000) only [ydac,clash,f1,f2,go_sem,Nat.reduceEqDiff,Nat.reduceAdd,↓reduceIte,reduceCtorEq]
 refine⟨by decide,?_⟩
 unfold ydd ydr;rw[List.length_map,List.length_map,hm];exact Sim.refl _
end Sh
end Go.Proofs.YtiejahgklcjhkaaGreatDoor

namespace Go.Proofs.YtiejahgklcjhkaaGreatDoor
open Go
namespace Sh
open Ev Go.RowKit
set_option maxRecDepth 8000
theorem ypq{n nv:Nat}{c:Conf}(h:ConfIn n nv c):ybin c:=fun s hs x hx=>by
 have:=(h.row s hs).2 x hx;unfold InB at this;exact yej (by omega)
end Sh
end Go.Proofs.YtiejahgklcjhkaaGreatDoor

namespace Go.Proofs.YtiejahgklcjhkaaGreatDoor
namespace Sh
open Go Ev
end Sh
end Go.Proofs.YtiejahgklcjhkaaGreatDoor

namespace Go.Proofs.YtiejahgklcjhkaaGreatDoor
open Go
namespace Sh
open Ev Go.RowKit
set_option maxRecDepth 8000
theorem ybib{g:Gr}(hI:GrI g):Returns Tryz.prog 85 [grV g] (.b (yci g)):=by
 refine ybgq ⟨_,_,Tryz.func85,rfl⟩ (fun _=>.b) (fun _=>.simple rfl) fun G m us hG hr φ M w us' hRl hs hv=>?_;obtain⟨u,rfl,h1⟩:=rvl1 hr;obtain⟨u',rfl,h2⟩:=yeo hv;exact yyo u' g w (yctb hG h1 h2 hRl hs hI)
end Sh
end Go.Proofs.YtiejahgklcjhkaaGreatDoor

namespace Go.Proofs.YtiejahgklcjhkaaGreatDoor
namespace Sh
open Go Ev Go.RowKit
section
variable {m:Mem} {F:AM}
theorem row_of{z bk p n cp N e zz:Nat}{Tb:Ev.T Value}{L:Nat->List Value}(h1:m.b.get bk=some (.cells Tb N e zz))(h2:0<n)(h3:p+n * z<=N)(h4:∀ a,a<n->(L a).length=z)(h5:∀ a,a<n -> ∀ j,j<z->Tb.get (p+a * z+j)=(L a)[j]?) :
  rowOf m z (.slice (some ⟨bk,p,none⟩) n cp)=some (ybo L n,[bk]):=by
 have hl:=ycd h4;show(bif Nat.beq n 0 then _ else _)=_;rw[show Nat.beq n 0=false by cases n with | zero=>omega | succ n=>rfl]
 simp only[cond_false];rw[h1];simp only;rw[Nat.ble_eq_true_of_le h3];simp only[cond_true]
 have hg:=yfe (T:=Tb) (L:=ybo L n) (o:=p) (fun j hj=>by
  rw[hl]at hj;rcases Nat.eq_zero_or_pos z with hz | hz
  ·subst hz;omega
  ·have hd:=Nat.div_add_mod j z;have hm:=Nat.mod_lt j hz;have hk:j / z<n:=Nat.div_lt_of_lt_mul (by rwa [Nat.mul_comm]at hj)
   have e1:j=j / z * z+j % z:=by rw[Nat.mul_comm];exact hd.symm
   rw[e1,yef h4 _ _ hk hm,<- Nat.add_assoc];exact h5 _ hk _ hm)
 rw[hl]at hg;rw[hg]
theorem row_zero{u:Value}(h:Z0 u)(z:Nat):rowOf m z u=some ([],[]):=by
 rcases h with rfl | ⟨b,o,c,rfl⟩
 ·rfl
 ·rfl
theorem in64{n:Int}(h:I64 n):inI64 n=true:=by
 unfold I64 at h;unfold inI64;split
 ·rename_i k;exact Nat.ble_eq_true_of_le (by simp only[Int.ofNat_eq_natCast]at h;omega)
 ·rename_i k;exact Nat.ble_eq_true_of_le (by omega)
theorem yoq{a b:Int}(ha:I64 a)(hb:I64 b):∀ {l:List Value} {r:List (Int × Int)},pairsOf l=some r->pairsOf (l ++ [.int .i64 a,.int .i64 b])=some (r ++ [(a,b)])
 | [],r,h=>by
  cases h
  show(bif inI64 a && inI64 b then _ else _)=_;rw[in64 ha,in64 hb];rfl
 | .int .i64 x :: .int .i64 y :: l,r,h=>by
  unfold pairsOf at h;split at h
  ·rename_i r' hr
   rw[Bool.cond_eq_ite]at h;split at h
   ·rename_i hc
    cases h
    show(match pairsOf (l ++ [.int .i64 a,.int .i64 b])with | some r=>bif inI64 x && inI64 y then some ((x,y) :: r)else none | none=>none)=_
    rw[yoq ha hb hr];simp only[hc,cond_true];rfl
   ·cases h
  ·cases h
theorem ybjm(hF:Le F m.b.get){ls:List (Int × Int)}{u:Value}(h:RV F om0 (yu ls) u)(hI:∀ l ∈ ls,I64 l.1/\I64 l.2):linksOf m u=some ls:=by
 unfold linksOf;rcases h.sl_inv with⟨h0,hz⟩ | ⟨bk,p,cp,T,N,e,zz,L,rfl,g1,g2,g3,g4,g5,g6,g7⟩
 ·rw[row_zero hz];have:ls = []:=List.eq_nil_of_length_eq_zero h0;subst this;rfl
 ·rcases Nat.eq_zero_or_pos ls.length with h0 | h0
  ·have:ls = []:=List.eq_nil_of_length_eq_zero h0;subst this;rfl
  ·rw[row_of (hF _ _ g1) h0 g3 g4 g5]
   have:∀ n,n<=ls.length->pairsOf (ybo L n)=some (ls.take n):=by
    intro n
    induction n with
    | zero=>intro _;rfl
    | succ n ih =>
     intro hn;have hn':n<ls.length:=by omega
     have hl:=g6 n hn'
     have e1:L n = [.int .i64 ls[n].1,.int .i64 ls[n].2]:=by
      have e0:ls.getD n (0,0)=ls[n]:=by simp[List.getD,hn']
      rw[e0]at hl;obtain⟨x,y,e2,hx,hy⟩:=rvl2 hl;rw[e2,hx.int_inv,hy.int_inv]
     show pairsOf (ybo L n ++ L n)=_;rw[e1,List.take_succ_eq_append_getElem hn'];have:=hI ls[n] (List.getElem_mem hn');exact yoq this.1 this.2 (ih (by omega))
   simp only;rw[this _ (Nat.le_refl _),List.take_length]
theorem yboh{α β:Type}{f:α->Option β}:∀ {l:List α} {r:List β},l.length=r.length->(∀ (k:Nat) x y,l[k]? = some x->r[k]? = some y->f x=some y)->mapO f l=some r
 | [],[],_,_=>rfl
 | x :: l,y :: r,hl,h=>by
  unfold mapO;rw[h 0 x y rfl rfl];simp only;rw[yboh (by simpa using hl) fun k a b h1 h2=>h (k+1) a b (by simpa using h1) (by simpa using h2)]
 | [],_ :: _,hl,_=>by simp at hl
 | _ :: _,[],hl,_=>by simp at hl
theorem yboq{L:Nat->List Value}{n:Nat}(h:∀ a,a<n->(L a).length=1){k:Nat}(hk:k<n):(ybo L n)[k]? = (L k)[0]?:=by
 have:=yef h k 0 hk (by omega)
 simpa using this
theorem ybkm{ids:SV}{P:List (List (Int × Int))}{u:Value}(h:RV F om0 (.rf [ids,yx P]) u)(hI:∀ ls ∈ P,∀ l ∈ ls,I64 l.1/\I64 l.2) :
  ∃ A v us,u = .pointer (some A) /\ ∀ m:Mem,Le F m.b.get->graphOf m A=some ⟨v,us,P⟩:=by
 obtain⟨bk,p,T,N,e,zz,L,rfl,h1,h2,h3,h4,_⟩:=h.rf_inv;cases h4 with
 | cons a0 b0 =>
  cases b0 with
  | cons a1 b1 =>
   rename_i u0 _ u1 _
   cases b1
   have hbox:∀ m:Mem,Le F m.b.get->boxPorts m ⟨bk,p,none⟩=some u1:=fun m hF=>by
    unfold boxPorts;simp only;rw[hF _ _ h1];simp only;rw[show Nat.blt (p+1) N=true from Nat.ble_eq_true_of_le (show p+1+1<=N by simp at h2;omega)]
    simp only[cond_true];exact h3 1 (by simp)
   have fin:∀ (us:List Value) (ft:List Nat),(∀ m:Mem,Le F m.b.get->rowOf m 1 u1=some (us,ft))->us.length=P.length->(∀ (k:Nat) x y,us[k]? = some x->P[k]? = some y->RV F om0 (yu y) x) ->
     ∃ A v us,Value.pointer (some ⟨bk,p,none⟩) = .pointer (some A) /\ ∀ m:Mem,Le F m.b.get->graphOf m A=some ⟨v,us,P⟩:=fun us ft hr hl hx=>by
    refine⟨_,u1,us,rfl,fun m hF=>?_⟩;unfold graphOf;rw[hbox m hF];show ob (rowOf m 1 u1) _=_;rw[hr m hF];show ob (mapO (linksOf m) us) _=_;rw[yboh hl fun k x y q1 q2=>ybjm hF (hx k x y q1 q2) (hI y (List.mem_of_getElem? q2))];rfl
   rcases a1.sl_inv with⟨k0,hz⟩ | ⟨bk',p',cp,T',N',e',zz',L',rfl,g1,g2,g3,g4,g5,g6,g7⟩
   ·have:P = []:=List.eq_nil_of_length_eq_zero k0;subst this;exact fin [] [] (fun m _=>row_zero hz 1) rfl (fun k x y q _=>by simp at q)
   ·rcases Nat.eq_zero_or_pos P.length with h0 | h0
    ·have:P = []:=List.eq_nil_of_length_eq_zero h0;subst this;exact fin [] [] (fun m _=>rfl) rfl (fun k x y q _=>by simp at q)
    ·refine fin (ybo L' P.length) [bk'] (fun m hF=>row_of (hF _ _ g1) h0 g3 g4 g5) (by rw[ycd g4,Nat.mul_one]) fun k x y q1 q2=>?_
     have hk:k<P.length:=(List.getElem?_eq_some_iff.1 q2).1;rw[yboq g4 hk]at q1;have hl:=g6 k hk;have e0:P.getD k []=y:=by simp[List.getD,q2]
     rw[e0]at hl;obtain⟨v,e1,hv⟩:=rvl1 hl;rw[e1]at q1;cases q1
     exact hv
end
def ycx(P:List (List (Int × Int)))(k:Nat):El:=(flatAt 0 P).getD k ⟨0,0,0⟩
def ybuj(P:List (List (Int × Int))):ItS:=⟨(flatAt 0 P).length,fun k=>[.i .i64 (ycx P k).v,.ag [.i .i64 (ycx P k).a,.i .i64 (ycx P k).b]],[],fun _ _=>True,fun _ o=>o⟩
theorem ybxx{ids:SV}{P:List (List (Int × Int))}(hI:∀ ls ∈ P,∀ l ∈ ls,I64 l.1/\I64 l.2):ItC Tryz.prog 158 [.rf [ids,yx P]] (ybuj P):=by
 intro lo F ω s f m us hc hr _;obtain⟨u,rfl,hu⟩:=rvl1 hr
 have hu0:RV F om0 (.rf [ids,yx P]) u:=by
  obtain⟨bk,p,T,N,e,zz,L,rfl,h1,h2,h3,h4,h5⟩:=hu.rf_inv;exact .rf h1 h2 h3 h4 h5
 obtain⟨A,v,vs,rfl,hg⟩:=ybkm hu0 hI;have el0:∀ k,k<(flatAt 0 P).length->(flatAt 0 P)[k]? = some (ycx P k):=fun k hk=>by simp[ycx,List.getD,hk]
 refine⟨⟨(flatAt 0 P).length,fun k=>[(ycx P k).v0,(ycx P k).v1],fun _ m=>graphOf m A=some ⟨v,vs,P⟩,fun _ m=>m,fun _ _ M w M' w'=>M'=M/\w'=w⟩,⟨yvb.1,fun k m hk hw _=>Grow.refl hw,?_,?_⟩,rfl,fun F' ω' s' f' m' k hF _ hc' hk _=>⟨hg m' (hF.trans hc'.sub),fun hk=>⟨.cons .i (.cons (.ag (.cons .i (.cons .i .nil))) .nil),hc'⟩⟩⟩
 ·rintro k φ M w m M' w' hk hw hR hs hp ⟨rfl,rfl⟩;exact Good.refl hR hs
 ·intro l St Stop φ M w cap' hread hgrow hyield h0 hcap;obtain⟨box,rfl,hbox⟩:=yeo hcap;refine CallsIn.mono (yvb.2 l A ⟨v,vs,P⟩ (fun pre φ' M' w'=>φ.le φ'/\(∃ post,flatAt 0 P=pre ++ post)/\St pre.length φ' M' w') Stop φ M w box ?_ ?_ ?_ ⟨φ.le_refl,⟨_,rfl⟩,h0⟩ hbox) ?_
  ·rintro pre φ' M' w' ⟨_,_,hst⟩;exact(hread _ _ _ _ hst).2
  ·rintro pre φ' M' w' w'' ⟨h1,h2,hst⟩ hb;exact⟨h1,h2,hgrow _ _ _ _ _ hst hb⟩
  ·rintro pre x post φ' M' w' ⟨h1,_,hst⟩ hfl;have hfl:flatAt 0 P=pre ++ x :: post:=hfl;have hk:pre.length<(flatAt 0 P).length:=by rw[hfl];simp
   have ex:ycx P pre.length=x:=by
    have:=el0 _ hk;rw[hfl,List.getElem?_append_right (Nat.le_refl _)]at this
    simpa using this.symm
   obtain⟨fn,tmps,asg,bd,hy1,hy2⟩:=hyield pre.length φ' M' w' [x.v0,x.v1] hk hst (by
    show VRL φ' [(ycx P pre.length).v0,(ycx P pre.length).v1] _;rw[ex];exact .cons (.simple rfl) (.cons (VR.atomA (v:=x.v1) rfl) .nil))
   refine⟨fn,tmps,asg,bd,hy1,hy2.mono ?_⟩
   ·rintro e w'' (⟨he,φ'',M'',h3,_,h4⟩ | h)
    ·refine .inl ⟨he,φ'',M'',h3,Phi.le_trans h1 h3,⟨post,by rw[hfl];simp⟩,?_⟩
     rw[List.length_append];exact h4 M'' w'' ⟨rfl,rfl⟩
    ·exact .inr h
  ·rintro e w' ⟨h1,(⟨φ',M',_,_,hst⟩ | h)⟩
   ·exact⟨h1,.inl ⟨φ',M',hst⟩⟩
   ·exact⟨h1,.inr h⟩
end Sh
end Go.Proofs.YtiejahgklcjhkaaGreatDoor

namespace Go.Proofs.YtiejahgklcjhkaaGreatDoor
namespace Sh
open Go Ev
def ycik:LO:=[o3 (.box 27 (.tmp 0)) 1 0,o3 (.mv (.const (.nilFunc))) 2 0]
def ycnf:LO:=[o3 (.mkfn 158 [] [(.tmp 1)]) 3 0,mv' 3 2 1]
def c120:SC:=(.seq (.reg false ycik) (.seq (.reg false ycnf) .ret))
theorem ycwc:Fn 120 c120 [.t 2]:=fn_0 Tryz.func120 (by kernel_rfl) (by kernel_rfl)
end Sh
end Go.Proofs.YtiejahgklcjhkaaGreatDoor

namespace Go.Proofs.YtiejahgklcjhkaaGreatDoor
structure Tgt(S:Sys)(V:Conf->Prop)(T:Conf->Nat->List Int):Prop where
 valid:∀ c s,V c->s ≠ 0->subB s (S.en c)->V (S.mv c s)
 stay:∀ c s v,V c->v<S.n->s.testBit v=false->(S.mv c s).getD v []=c.getD v []
 move:∀ c s v,V c->v<S.n->s.testBit v=true->subB s (S.en c)->(S.mv c s).getD v []=T c v
 en:∀ c v,V c->v<S.n->((S.en c).testBit v=false ↔ c.getD v []=T c v)
theorem Tgt.rounds{S:Sys}{V:Conf->Prop}{T:Conf->Nat->List Int}(h:Tgt S V T){P:Nat->Nat->List Int->Prop}(hT:∀ c v r,V c->v<S.n->(∀ u,u<S.n->P r u (c.getD u []))->P (r+1) v (T c v))(hl:∀ r v s,P (r+1) v s->P r v s):ByRounds S V P where
 valid:=h.valid
 stay:=h.stay
 move:=fun c s v r hv hn hb hs hall=>by rw[h.move c s v hv hn hb hs];exact hT c v r hv hn hall
 rest:=fun c v r hv hn hb hall=>by rw[(h.en c v hv hn).1 hb];exact hT c v r hv hn hall
 less:=hl
theorem Tgt.silent{S:Sys}{V:Conf->Prop}{T:Conf->Nat->List Int}(h:Tgt S V T){P:Nat->Nat->List Int->Prop}(hT:∀ c v r,V c->v<S.n->(∀ u,u<S.n->P r u (c.getD u []))->P (r+1) v (T c v)){c:Conf}(hv:V c)(h0:∀ v,v<S.n->P 0 v (c.getD v []))(he:S.en c=0):∀ r v,v<S.n->P r v (c.getD v [])
 | 0,v,hn=>h0 v hn
 | r+1,v,hn=>by
  rw[(h.en c v hv hn).1 (by rw[he];simp)]
  exact hT c v r hv hn (Tgt.silent h hT hv h0 he r)
theorem Sys.run_last{S:Sys}{res:Nat->Nat->Nat}:∀ (ws:List Nat) (c:Conf) (k:Cnt) (i:Nat),i+1<(S.run res ws c k).length -> ∀ p,(S.run res ws c k)[i]? = some p->S.en p.1 ≠ 0
 | [],c,k,i,h,p,hp=>by simp[Sys.run]at h
 | w :: ws,c,k,i,h,p,hp=>by
  unfold Sys.run at h hp;split at h
  ·simp at h
  ·rename_i h0
   rw[if_neg h0]at hp;cases i with
   | zero =>
    simp only[List.getElem?_cons_zero]at hp;cases hp
    simp only[List.length_cons]at h;cases ws with
    | nil=>simp[Sys.run]at h
    | cons w' ws =>
     unfold Sys.run at h;split at h
     ·simp at h
     ·assumption
   | succ i=>exact Sys.run_last ws _ _ i (by simpa using h) p (by simpa using hp)
theorem Sys.runs_last{S:Sys}{res:Nat->Nat->Nat}{ws:List Nat}{c:Conf}{i:Nat}(h:i+1<(S.runs res ws c).length){p:Conf × Cnt}(hp:(S.runs res ws c)[i]? = some p):S.en p.1 ≠ 0:=by
 unfold Sys.runs at h hp;cases i with
 | zero =>
  simp only[List.getElem?_cons_zero]at hp;cases hp
  cases ws with
  | nil=>simp[Sys.run]at h
  | cons w ws =>
   unfold Sys.run at h;split at h
   ·simp at h
   ·assumption
 | succ i=>exact Sys.run_last ws _ _ i (by simpa using h) p (by simpa using hp)
end Go.Proofs.YtiejahgklcjhkaaGreatDoor

namespace Go.Proofs.YtiejahgklcjhkaaGreatDoor
open Go.RowKit

end Go.Proofs.YtiejahgklcjhkaaGreatDoor

namespace Go.Proofs.YtiejahgklcjhkaaGreatDoor
def yus(g:Gr):Nat:=(g.ports.map List.length).sum
def addL(back:Bool)(l:List (Int × Int))(x:Int × Int):List (Int × Int):=if back then x :: l else l ++ [x]
theorem ydk{back:Bool}{l:List (Int × Int)}{x y:Int × Int}:y ∈ addL back l x ↔ y=x\/y ∈ l:=by
 unfold addL;cases back<;>simp[or_comm]
def ybr(back:Bool)(g:Gr)(a b:Nat)(w:Int):Gr:=⟨g.ids,(g.ports.set a (addL back (g.ports.getD a []) (b,w))).set b (addL back (g.ports.getD b []) (a,w))⟩
theorem yct(back:Bool)(g:Gr){a b:Nat}(w:Int)(ha:a<g.ports.length)(hb:b<g.ports.length)(v:Nat) :
  (ybr back g a b w).ports.getD v []=if v=b then addL back (g.ports.getD b []) (a,w)else if v=a then addL back (g.ports.getD a []) (b,w)else g.ports.getD v []:=by
 unfold ybr;simp only[List.getD]
 by_cases h1:v=b
 ·subst h1;rw[if_pos rfl,List.getElem?_set_self (by simpa using hb)]
  rfl
 ·rw[if_neg h1,List.getElem?_set_ne (fun q=>h1 q.symm)]
  by_cases h2:v=a
  ·subst h2;rw[if_pos rfl,List.getElem?_set_self ha];rfl
  ·rw[if_neg h2,List.getElem?_set_ne (fun q=>h2 q.symm)]
theorem ypa{back:Bool}{l:List (Int × Int)}{v n:Int}{x:Int × Int}(h:ybq l v n)(hx:ygf v n x)(hno:∀ y ∈ l,y.1 ≠ x.1):ybq (addL back l x) v n:=by
 refine⟨fun y hy=>?_,?_⟩
 ·rcases ydk.1 hy with rfl | hy
  ·exact hx
  ·exact h.1 y hy
 ·have hn:x.1 ∉ l.map (·.1):=fun hm=>by
   obtain⟨y,hy,e⟩:=List.mem_map.1 hm;exact hno y hy e
  unfold addL;cases back
  ·simp only[Bool.false_eq_true,if_false,List.map_append,List.map_cons,List.map_nil];rw[List.nodup_append];refine⟨h.2,by simp,fun p hp q hq=>?_⟩
   rw[List.mem_singleton]at hq;subst hq;intro e;exact hn (e ▸ hp)
  ·simp only[if_true,List.map_cons];exact List.nodup_cons.2 ⟨hn,h.2⟩
theorem ybaj{back:Bool}{g:Gr}(hg:GoodG g){a b:Nat}{w:Int}(ha:a<g.ports.length)(hb:b<g.ports.length)(hab:a ≠ b)(hw:1<=w/\w<=15)(hno:∀ y ∈ g.ports.getD a [],y.1 ≠ (b:Int)):GoodG (ybr back g a b w):=by
 obtain⟨h1,h2,h3,h4,h5,h6,h7⟩:=hg;have hlen:(ybr back g a b w).ports.length=g.ports.length:=by simp[ybr]
 have gd:∀ (v:Nat) (hv:v<g.ports.length),g.ports.getD v []=g.ports[v]:=fun v hv=>by simp[List.getD,hv]
 have hno2:∀ y ∈ g.ports.getD b [],y.1 ≠ (a:Int):=fun y hy e=>by
  rw[gd b hb]at hy;have:=h7 ⟨b,hb⟩ y hy;rw[e,Int.toNat_natCast]at this;exact hno _ this rfl
 have at_:∀ (v:Nat) (hv:v<g.ports.length),(ybr back g a b w).ports[v]'(by rw[hlen];exact hv)=if v=b then addL back (g.ports.getD b []) (a,w)else if v=a then addL back (g.ports.getD a []) (b,w)else g.ports.getD v []:=fun v hv=>by
  rw[<- yct back g w ha hb v];simp[List.getD,hlen,hv]
 refine⟨by rw[hlen];exact h1,by rw[hlen];exact h2,by rw[hlen];exact h3,h4,h5,fun v=>?_,fun v l hl=>?_⟩
 ·have hv:v.1<g.ports.length:=Nat.lt_of_lt_of_eq v.isLt hlen;have hl':(((ybr back g a b w).ports.length:Nat):Int)=(g.ports.length:Int):=by rw[hlen]
  rw[hl'];show ybq ((ybr back g a b w).ports[v.1]) _ _;rw[at_ v.1 hv];split
  ·rename_i e
   rw[e];refine ypa ?_ ⟨by simp only[];omega,by simp only[];omega,by simp only[];omega,hw.1,hw.2⟩ hno2
   rw[gd b hb];exact h6 ⟨b,hb⟩
  ·split
   ·rename_i e
    rw[e];refine ypa ?_ ⟨by simp only[];omega,by simp only[];omega,by simp only[];omega,hw.1,hw.2⟩ hno
    rw[gd a ha];exact h6 ⟨a,ha⟩
   ·rw[gd v.1 hv];exact h6 ⟨v.1,hv⟩
 ·have hv:v.1<g.ports.length:=Nat.lt_of_lt_of_eq v.isLt hlen
  change l ∈ (ybr back g a b w).ports[v.1]at hl
  rw[at_ v.1 hv]at hl
  have old:∀ u x,x ∈ g.ports.getD u []->x ∈ (ybr back g a b w).ports.getD u []:=fun u x hx=>by
   rw[yct back g w ha hb u];split
   ·rename_i e;subst e;exact ydk.2 (.inr hx)
   ·split
    ·rename_i e;subst e;exact ydk.2 (.inr hx)
    ·exact hx
  have sym:∀ (u:Nat) (hu:u<g.ports.length),l ∈ g.ports.getD u []->((u:Int),l.2) ∈ (ybr back g a b w).ports.getD l.1.toNat []:=fun u hu hx=>by
   rw[gd u hu]at hx;exact old _ _ (h7 ⟨u,hu⟩ l hx)
  split at hl
  ·rename_i e
   rcases ydk.1 hl with rfl | hl
   ·rw[yct back g w ha hb,e];simp only[Int.toNat_natCast];simp only[if_neg hab,if_true];exact ydk.2 (.inl rfl)
   ·rw[e];exact sym b hb hl
  ·split at hl
   ·rename_i e
    rcases ydk.1 hl with rfl | hl
    ·rw[yct back g w ha hb,e];simp only[Int.toNat_natCast];simp only[if_true];exact ydk.2 (.inl rfl)
    ·rw[e];exact sym a ha hl
   ·exact sym v.1 hv hl
end Go.Proofs.YtiejahgklcjhkaaGreatDoor

namespace Go.Proofs.YtiejahgklcjhkaaGreatDoor
def Tre(g:Gr)(m:Nat):Prop:=∀ v,0<v->v<m -> ∃ u,u<v/\adj g u v
theorem Tre.walk{g:Gr}{m:Nat}(h:Tre g m):∀ v,v<m -> ∃ k,Walk g 0 k v:=by
 intro v
 induction v using Nat.strongRecOn with
 | _ v ih =>
  intro hv
  by_cases h0:v=0
  ·subst h0;exact⟨0,rfl⟩
  ·obtain⟨u,hu,ha⟩:=h v (by omega) hv
   obtain⟨k,hk⟩:=ih u hu (by omega)
   exact⟨k+1,u,hk,ha⟩
theorem Tre.conn{g:Gr}(hg:GoodG g)(h:Tre g g.ports.length):ype g=true:=by
 unfold ype;rw[(ycu g).2 hg,Bool.true_and,ybdw hg (a:=0) (by have:=hg.1;omega)]
 exact h.walk
theorem yhg{g:Gr}{u v:Nat}:adj g u v ↔ ∃ l,l ∈ g.ports.getD u []/\l.1=(v:Int):=by
 constructor
 ·rintro⟨ls,h,l,hl,e⟩;exact⟨l,by simpa [List.getD,h]using hl,e⟩
 ·rintro⟨l,hl,e⟩;cases h:g.ports[u]? with
  | none=>simp[List.getD,h]at hl
  | some ls=>exact⟨ls,h,l,by simpa [List.getD,h]using hl,e⟩
theorem ybbn{back:Bool}{g:Gr}{a b:Nat}{w:Int}(ha:a<g.ports.length)(hb:b<g.ports.length){u v:Nat}(h:adj g u v):adj (ybr back g a b w) u v:=by
 obtain⟨l,hl,e⟩:=yhg.1 h;refine yhg.2 ⟨l,?_,e⟩;rw[yct back g w ha hb u];split
 ·rename_i q;subst q;exact ydk.2 (.inr hl)
 ·split
  ·rename_i q;subst q;exact ydk.2 (.inr hl)
  ·exact hl
theorem ybcu{back:Bool}{g:Gr}{a b:Nat}{w:Int}(ha:a<g.ports.length)(hb:b<g.ports.length)(hab:a ≠ b):adj (ybr back g a b w) a b:=by
 refine yhg.2 ⟨((b:Int),w),?_,rfl⟩;rw[yct back g w ha hb a,if_neg hab,if_pos rfl];exact ydk.2 (.inl rfl)
theorem Tre.add{back:Bool}{g:Gr}{a b:Nat}{w:Int}(ha:a<g.ports.length)(hb:b<g.ports.length){m:Nat}(h:Tre g m):Tre (ybr back g a b w) m:=fun v h0 hv=>by
 obtain⟨u,hu,hadj⟩:=h v h0 hv;exact⟨u,hu,ybbn ha hb hadj⟩
def bare(ids:List Int):Gr:=⟨ids,List.replicate ids.length []⟩
theorem bare_good{ids:List Int}(h1:1<=ids.length)(h2:ids.length<=24)(h3:∀ x ∈ ids,0<=x/\x<=255)(h4:ids.Nodup):GoodG (bare ids):=by
 have e:∀ v:Fin (bare ids).ports.length,(bare ids).ports[v] = []:=fun v=>by
  have hv:v.1<ids.length:=by have:=v.isLt;simpa [bare]using this
  show(List.replicate ids.length ([]:List (Int × Int)))[v.1]'(by simpa using hv) = []
  exact List.getElem_replicate ..
 refine⟨by simpa [bare]using h1,by simpa [bare]using h2,by simp[bare],h3,h4,fun v=>?_,fun v l hl=>?_⟩
 ·rw[e v];exact⟨fun l hl=>(nomatch hl),List.nodup_nil⟩
 ·rw[e v]at hl;cases hl
end Go.Proofs.YtiejahgklcjhkaaGreatDoor

namespace Go.Proofs.YtiejahgklcjhkaaGreatDoor
abbrev eVar(k:Int):Ex:=.leaf 5 k
abbrev eQ(k:Int):Ex:=.leaf 12 k

theorem ybaa{α:Type}(g:Gr)(v:Nat)(f:Int × Int->α)(h:Nat->α)(e:∀ q,q<(g.ports.getD v []).length->h q=f ((g.ports.getD v []).getD q (0,0))):(List.range (g.ports.getD v []).length).map h=(g.ports.getD v []).map f:=by
 refine List.ext_getElem (by simp) fun i h1 h2=>?_
 have hi:i<(g.ports.getD v []).length:=by simpa using h1
 rw[List.getElem_map,List.getElem_range,List.getElem_map,e i hi];congr 1;rw[List.getD_eq_getElem?_getD,List.getElem?_eq_getElem hi];rfl
def endP(c:Conf)(k:Nat)(l:Int × Int):Int:=(c.getD l.1.toNat []).getD k 0
theorem yqx(b:Bool):(ydz b != 0)=b:=by cases b<;>rfl
section
variable {nm nd np nt nl:ByteArray} {g:Gr} {c:Conf} {v:Nat}
theorem bT1{x:ByteArray}:ybc g v ⟨x,1,0,0,1,0⟩=(0,0+1 * (g.ids.length:Int)+0 * maxI g.ids):=by
 show(if (1:Int)=1 then _ else _)=_
 rw[if_pos rfl]
end
end Go.Proofs.YtiejahgklcjhkaaGreatDoor

namespace Go.Proofs.YtiejahgklcjhkaaGreatDoor
section
variable {g:Gr} {a v:Nat}
theorem yfc(hg:GoodG g)(hc:ype g=true)(ha:a<g.ports.length)(hv:v<g.ports.length):∃ k:Nat,(ydq g a).getD v 0=k/\Walk g a k v/\(∀ j,j<k -> ¬ Walk g a j v)/\k<g.ports.length:=by
 have h0:0<g.ports.length:=by omega
 have hall:(ydq g a).all (fun x=>decide (0<=x))=true:=ybxz hg h0 ha ((Bool.and_eq_true _ _ ▸ hc).2);have hl:=ybam hg ha;have hvl:v<(ydq g a).length:=by rw[hl];exact hv
 have e:(ydq g a).getD v 0=(ydq g a)[v]:=by simp[List.getD,hvl]
 have hpos:0<=(ydq g a)[v]:=by simpa using List.all_eq_true.1 hall _ (List.getElem_mem hvl)
 rcases(yin hg ha).2 v _ (List.getElem?_eq_getElem hvl)with⟨h,_⟩ | ⟨k,h1,h2,h3⟩
 ·omega
 ·exact⟨k,by rw[e,h1],h2,h3,ybto hg ha h2 h3⟩
theorem ycrm{k:Nat}(hg:GoodG g)(hc:ype g=true)(ha:a<g.ports.length)(hv:v<g.ports.length)(h1:Walk g a k v)(h2:∀ j,j<k -> ¬ Walk g a j v):(ydq g a).getD v 0=k:=by
 obtain⟨j,e,h3,h4,_⟩:=yfc hg hc ha hv;rcases Nat.lt_trichotomy j k with h | h | h
 ·exact absurd h3 (h2 j h)
 ·rw[e,h]
 ·exact absurd h1 (h4 k h)
theorem ybsj(hg:GoodG g)(hc:ype g=true)(ha:a<g.ports.length):(ydq g a).getD a 0=0:=ycrm hg hc ha ha (k:=0) rfl fun j hj=>by omega
theorem ycwl(hg:GoodG g)(hc:ype g=true)(ha:a<g.ports.length)(hv:v<g.ports.length):0<=(ydq g a).getD v 0/\(ydq g a).getD v 0<g.ports.length:=by
 obtain⟨k,e,_,_,h⟩:=yfc hg hc ha hv;omega
theorem ybwm(hg:GoodG g)(hc:ype g=true)(ha:a<g.ports.length)(hv:v<g.ports.length)(hne:v ≠ a):1<=(ydq g a).getD v 0:=by
 obtain⟨k,e,h1,_,_⟩:=yfc hg hc ha hv;cases k with
 | zero=>exact absurd h1 hne
 | succ k=>omega
theorem ybxj(hg:GoodG g)(hc:ype g=true)(ha:a<g.ports.length){u:Nat}(h:adj g u v):(ydq g a).getD v 0<=(ydq g a).getD u 0+1:=by
 obtain⟨hu,hv⟩:=hg.adj_lt h;obtain⟨k,e,h1,_,_⟩:=yfc hg hc ha hu;obtain⟨j,e',_,h3,_⟩:=yfc hg hc ha hv;rw[e,e'];rcases Nat.lt_or_ge (k+1) j with q | q
 ·exact absurd ⟨u,h1,h⟩ (h3 (k+1) q)
 ·omega
theorem ybpi(hg:GoodG g)(hc:ype g=true)(ha:a<g.ports.length)(hv:v<g.ports.length)(hne:v ≠ a):∃ u,adj g v u/\(ydq g a).getD u 0=(ydq g a).getD v 0 - 1:=by
 obtain⟨k,e,h1,h2,_⟩:=yfc hg hc ha hv;cases k with
 | zero=>exact absurd h1 hne
 | succ k =>
  obtain⟨u,h3,h4⟩:=h1;refine⟨u,hg.adj_symm h4,?_⟩;have h5:=ybxj hg hc ha h4;obtain⟨hu,_⟩:=hg.adj_lt h4;obtain⟨j,e',_,h6,_⟩:=yfc hg hc ha hu;rw[e,e']at h5;rcases Nat.lt_or_ge k j with q | q
  ·exact absurd h3 (h6 k q)
  ·rw[e,e'];omega
theorem ykp{l:Int × Int}(hg:GoodG g)(hv:v<g.ports.length)(hl:l ∈ g.ports.getD v []):0<=l.1/\l.1.toNat<g.ports.length/\adj g v l.1.toNat/\1<=l.2/\l.2<=15:=by
 have e:g.ports[v]? = some (g.ports.getD v []):=by simp[List.getD,hv]
 have h:=hg.link e hl;exact⟨h.1,by omega,⟨_,e,l,hl,by omega⟩,h.2.2.2.1,h.2.2.2.2⟩
theorem yvd{u:Nat}(h:adj g v u):∃ l ∈ g.ports.getD v [],l.1.toNat=u:=by
 obtain⟨l,hl,e⟩:=yhg.1 h;exact⟨l,hl,by rw[e];simp⟩
end
section
variable {nm nd np nt nl:ByteArray} {g:Gr}
end
end Go.Proofs.YtiejahgklcjhkaaGreatDoor

namespace Go.Proofs.YtiejahgklcjhkaaGreatDoor
open Ev
theorem ybah:∀ (ps:List (List (Int × Int))) (v:Nat) (x:El),x ∈ flatAt v ps->v<=x.v/\x.v<v+ps.length/\(x.a,x.b) ∈ ps.getD (x.v - v) []
 | [],_,_,h=>absurd h List.not_mem_nil
 | ls :: l,v,x,h=>by
  rcases List.mem_append.1 h with h | h
  ·obtain⟨y,hy,rfl⟩:=List.mem_map.1 h;refine⟨Nat.le_refl _,by simp,?_⟩
   simp only[Nat.sub_self,List.getD_cons_zero];exact hy
  ·obtain⟨h1,h2,h3⟩:=ybah l (v+1) x h;refine⟨by omega,by simp only[List.length_cons];omega,?_⟩
   have e:x.v - v=(x.v - (v+1))+1:=by omega
   rw[e,List.getD_cons_succ];exact h3
theorem yrr{g:Gr}(hg:GoodG g){k:Nat}(hk:k<(flatAt 0 g.ports).length):(Sh.ycx g.ports k).v<g.ports.length/\((Sh.ycx g.ports k).a,(Sh.ycx g.ports k).b) ∈ g.ports.getD (Sh.ycx g.ports k).v []:=by
 have hm:Sh.ycx g.ports k ∈ flatAt 0 g.ports:=by unfold Sh.ycx;rw[Sh.getD_at hk];exact List.getElem_mem hk
 obtain⟨_,h2,h3⟩:=ybah _ _ _ hm;exact⟨by omega,by simpa using h3⟩
theorem ybnj{α:Type}{g:Gr}(f:α->El->α)(a:α){k:Nat}(hk:k<(flatAt 0 g.ports).length):((flatAt 0 g.ports).take (k+1)).foldl f a=f (((flatAt 0 g.ports).take k).foldl f a) (Sh.ycx g.ports k):=by
 rw[List.take_succ_eq_append_getElem hk,List.foldl_append];unfold Sh.ycx;rw[Sh.getD_at hk];rfl
theorem yboe{g:Gr}(hg:GoodG g):∀ ls ∈ g.ports,∀ l ∈ ls,I64 l.1/\I64 l.2:=fun ls hls l hl=>by
 obtain⟨v,hv,e⟩:=List.getElem_of_mem hls;have h24:=hg.2.1;have:g.ports.getD v []=ls:=by simp[List.getD,hv,e]
 obtain⟨h1,h2,_,h4,h5⟩:=ykp hg hv (by rw[this];exact hl)
 exact⟨Sh.yej (by omega),Sh.yej (by omega)⟩
end Go.Proofs.YtiejahgklcjhkaaGreatDoor

namespace Go.Proofs.YtiejahgklcjhkaaGreatDoor
open Go
namespace Sh
open Ev Go.RowKit
set_option maxRecDepth 8000
theorem ybrr{g:Gr}:Returns Tryz.prog 120 [grV g] (.fn 158 [] [.rf [yg g.ids,yx g.ports]]):=by
 refine Returns.of (ycwc _ _ ?_);simp only[c120,ycik,ycnf,grV,clash,go_sem,Nat.reduceEqDiff,Nat.reduceAdd,Nat.reduceLeDiff,Nat.reduceLT,↓reduceIte,reduceCtorEq];exact Sim.refl _
end Sh
end Go.Proofs.YtiejahgklcjhkaaGreatDoor

namespace Go.Proofs.YtiejahgklcjhkaaGreatDoor
namespace Sh
theorem yqi{l:List Bool}{k:Nat}:ynw l k=true ↔ ∃ j,j<k/\l[j]? = some true:=by
 unfold ynw;rw[List.any_eq_true];constructor
 ·rintro⟨x,hx,he⟩;obtain⟨j,hj,e⟩:=List.getElem_of_mem hx;have hj':j<k:=by rw[List.length_take]at hj;omega
  refine⟨j,hj',?_⟩;have:(l.take k)[j]? = some true:=by rw[List.getElem?_eq_getElem hj,e];exact congrArg some he
  rwa [List.getElem?_take_of_lt hj']at this
 ·rintro⟨j,hj,e⟩;refine⟨true,?_,rfl⟩;refine List.mem_of_getElem? (i:=j) ?_;rw[List.getElem?_take_of_lt hj];exact e
theorem ycww {S:Sys} {res:Nat->Nat->Nat} {ws:List Nat} {c:Conf} {L:Conf->Bool} {J:Conf->Cnt->Prop} {rounds:Int} (hJ:∀ p ∈ S.runs res ws c,J p.1 p.2) (hrest:∀ c k,J c k->(S.en c=0 ↔ L c=true)) (hb:∀ c k,J c k->L c=false->(k.begun:Int)<=rounds) {moves:Int} (hm:∀ c k,J c k->L c=false->0<=moves->(k.moves:Int)<=moves)
  {ended:Bool} (he:ended=true -> ∀ p,(S.runs res ws c)[(S.runs res ws c).length - 1]? = some p->S.en p.1=0) :
  HeldOk ((S.runs res ws c).map fun p=>L p.1) ((S.runs res ws c).map (·.2)) rounds moves ended:=by
 obtain⟨R,hR⟩:∃ R,S.runs res ws c=R:=⟨_,rfl⟩
 have hlast:∀ i,i+1<R.length -> ∀ p,R[i]? = some p->S.en p.1 ≠ 0:=fun i hi p hp=>by
  rw[<- hR]at hi hp;exact Sys.runs_last hi hp
 have hpos:0<R.length:=by rw[<- hR];simp[Sys.runs]
 rw[hR]at hJ he ⊢;have at_:∀ i,i<R.length -> ∃ p,R[i]? = some p/\J p.1 p.2:=fun i hi=>⟨R[i],List.getElem?_eq_getElem hi,hJ _ (List.getElem_mem hi)⟩;have lg:∀ (i:Nat) (p:Conf × Cnt),R[i]? = some p->(R.map fun p=>L p.1)[i]? = some (L p.1):=fun i p hp=>by simp[hp]
 have no:∀ (i:Nat),ynw (R.map fun p=>L p.1) (i+1)=false->i<R.length -> ∀ p:Conf × Cnt,R[i]? = some p->L p.1=false:=fun i h hi p hp=>by
  cases hq:L p.1 with
  | false=>rfl
  | true =>
   have:ynw (R.map fun p=>L p.1) (i+1)=true:=yqi.2 ⟨i,Nat.lt_succ_self i,by rw[lg i p hp,hq]⟩
   rw[this]at h;cases h
 refine⟨by simp,by simpa using hpos,fun i hi h=>?_,fun i hi h=>?_,fun i hi h hmv=>?_,?_⟩
 ·have hi:i<R.length:=by simpa using hi
  obtain⟨j,hj,e⟩:=yqi.1 h;obtain⟨p,hp,hJp⟩:=at_ j (by omega)
  rw[lg j p hp]at e;exact absurd ((hrest p.1 p.2 hJp).2 (Option.some.inj e)) (hlast j (by omega) p hp)
 ·have hi:i<R.length:=by simpa using hi
  obtain⟨p,hp,hJp⟩:=at_ i hi;have:=hb p.1 p.2 hJp (no i h hi p hp);rw[List.getD_eq_getElem?_getD,List.getElem?_map,hp];exact this
 ·have hi:i<R.length:=by simpa using hi
  obtain⟨p,hp,hJp⟩:=at_ i hi;have:=hm p.1 p.2 hJp (no i h hi p hp) hmv;rw[List.getD_eq_getElem?_getD,List.getElem?_map,hp];exact this
 ·cases ended with
  | false=>exact .inr rfl
  | true =>
   obtain⟨p,hp,hJp⟩:=at_ (R.length - 1) (by omega)
   have h1:=(hrest p.1 p.2 hJp).1 (he rfl p hp);exact .inl (yqi.2 ⟨R.length - 1,by simp;omega,by rw[lg _ p hp,h1]⟩)
section
variable {nm nd np nt nl:ByteArray} {g:Gr}
end
end Sh
end Go.Proofs.YtiejahgklcjhkaaGreatDoor

namespace Go.Proofs.YtiejahgklcjhkaaGreatDoor
def yll(g:Gr)(s:Nat):Prop:=∀ u v,adj g u v->s.testBit u=true->s.testBit v=false
def ResD(D:Nat->Prop)(res:Nat->Nat->Nat):Prop:=∀ e w,e ≠ 0->res e w ≠ 0/\subB (res e w) e/\D (res e w)
theorem Sys.run_allD{S:Sys}{D:Nat->Prop}{res:Nat->Nat->Nat}(hr:ResD D res){J:Conf->Cnt->Prop}(hstep:∀ c k s,J c k->s ≠ 0->subB s (S.en c)->D s->J (S.mv c s) (addP k s (S.en (S.mv c s)))) :
  ∀ (ws:List Nat) (c:Conf) (k:Cnt),J c k -> ∀ p ∈ S.run res ws c k,J p.1 p.2
 | [],c,k,_,p,hp=>by cases hp
 | w :: ws,c,k,hJ,p,hp=>by
  unfold Sys.run at hp;split at hp
  ·cases hp
  ·rename_i h0
   obtain⟨r1,r2,r3⟩:=hr _ w h0;have hJ':=hstep c k _ hJ r1 r2 r3;rcases List.mem_cons.1 hp with e | e
   ·rw[e];exact hJ'
   ·exact Sys.run_allD hr hstep ws _ _ hJ' p e
theorem Sys.runs_allD{S:Sys}{D:Nat->Prop}{res:Nat->Nat->Nat}(hr:ResD D res){J:Conf->Cnt->Prop}(hstep:∀ c k s,J c k->s ≠ 0->subB s (S.en c)->D s->J (S.mv c s) (addP k s (S.en (S.mv c s)))){ws:List Nat}{c:Conf}(h:J c (yei (S.en c))):∀ p ∈ S.runs res ws c,J p.1 p.2:=fun p hp=>by
 rcases List.mem_cons.1 hp with e | e
 ·rw[e];exact h
 ·exact Sys.run_allD hr hstep ws _ _ h p e
theorem ResD.ok{D:Nat->Prop}{res:Nat->Nat->Nat}(h:ResD D res):ybzp res:=fun e w h0=>⟨(h e w h0).1,(h e w h0).2.1⟩
structure ByRoundsC(S:Sys)(V:Conf->Prop)(D:Nat->Prop)(P:Nat->Nat->Conf->Prop):Prop where
 valid:∀ c s,V c->s ≠ 0->subB s (S.en c)->D s->V (S.mv c s)
 stay:∀ c s v r r',r<=r'->r'<=r+1->V c->v<S.n->s.testBit v=false->subB s (S.en c)->D s->(∀ u,u<S.n->P r u c)->P r' v c->P r' v (S.mv c s)
 move:∀ c s v r,V c->v<S.n->s.testBit v=true->subB s (S.en c)->D s->(∀ u,u<S.n->P r u c)->P (r+1) v (S.mv c s)
 rest:∀ c v r,V c->v<S.n->(S.en c).testBit v=false->(∀ u,u<S.n->P r u c)->P (r+1) v c
 less:∀ r v c,P (r+1) v c->P r v c
structure RInvC(S:Sys)(V:Conf->Prop)(P:Nat->Nat->Conf->Prop)(c:Conf)(k:Cnt):Prop where
 valid:V c
 all:∀ v,v<S.n->P k.rounds v c
 done:∀ v,v<S.n->k.pend.testBit v=false->P (k.rounds+1) v c
 begun:k.begun<=k.rounds+1
section
variable {S:Sys} {V:Conf->Prop} {D:Nat->Prop} {P:Nat->Nat->Conf->Prop}
theorem ByRoundsC.start(h:ByRoundsC S V D P){c:Conf}(hv:V c)(h0:∀ v,v<S.n->P 0 v c):RInvC S V P c (yei (S.en c)) :=
 ⟨hv,h0,fun v hn hb=>h.rest c v 0 hv hn hb h0,by simp[yei]⟩
theorem ByRoundsC.step(h:ByRoundsC S V D P)(c:Conf)(k:Cnt)(s:Nat)(hi:RInvC S V P c k)(h0:s ≠ 0)(hs:subB s (S.en c))(hD:D s):RInvC S V P (S.mv c s) (addP k s (S.en (S.mv c s))):=by
 obtain⟨i1,i2,i3,i4⟩:=hi;have hv:=h.valid c s i1 h0 hs hD
 have hall:∀ v,v<S.n->P k.rounds v (S.mv c s):=fun v hn=>by
  cases hb:s.testBit v with
  | true=>exact h.less _ _ _ (h.move c s v _ i1 hn hb hs hD i2)
  | false=>exact h.stay c s v _ _ (Nat.le_refl _) (Nat.le_succ _) i1 hn hb hs hD i2 (i2 v hn)
 have hnext:∀ v,v<S.n->(difB k.pend s &&& S.en (S.mv c s)).testBit v=false->P (k.rounds+1) v (S.mv c s):=fun v hn hb=>by
  rw[Nat.testBit_and,yhh]at hb;cases hb1:s.testBit v with
  | true=>exact h.move c s v _ i1 hn hb1 hs hD i2
  | false =>
   cases hb2:k.pend.testBit v with
   | false=>exact h.stay c s v _ _ (Nat.le_succ _) (Nat.le_refl _) i1 hn hb1 hs hD i2 (i3 v hn hb2)
   | true =>
    rw[hb1,hb2]at hb;exact h.rest _ v _ hv hn (by simpa using hb) hall
 unfold addP;simp only
 by_cases hp:difB k.pend s &&& S.en (S.mv c s)=0
 ·simp only[if_pos hp];have hall':∀ v,v<S.n->P (k.rounds+1) v (S.mv c s):=fun v hn=>hnext v hn (by rw[hp];simp)
  exact⟨hv,hall',fun v hn hb=>h.rest _ v _ hv hn hb hall',by show k.rounds+1<=_;simp⟩
 ·simp only[if_neg hp];exact⟨hv,hall,hnext,Nat.le_refl _⟩
theorem ByRoundsC.runs(h:ByRoundsC S V D P){res:Nat->Nat->Nat}(hr:ResD D res){ws:List Nat}{c:Conf}(hv:V c)(h0:∀ v,v<S.n->P 0 v c):∀ p ∈ S.runs res ws c,RInvC S V P p.1 p.2 :=
 Sys.runs_allD hr (fun c k s=>h.step c k s) (h.start hv h0)
theorem ByRoundsC.silent(h:ByRoundsC S V D P){c:Conf}(hv:V c)(h0:∀ v,v<S.n->P 0 v c)(he:S.en c=0):∀ r v,v<S.n->P r v c
 | 0,v,hn=>h0 v hn
 | r+1,v,hn=>h.rest c v r hv hn (by rw[he];simp) (ByRoundsC.silent h hv h0 he r)
end
end Go.Proofs.YtiejahgklcjhkaaGreatDoor

namespace Go.Proofs.YtiejahgklcjhkaaGreatDoor
theorem yrj{α:Type}[DecidableEq α]:∀ {l1 l2:List α},l1.Nodup->(∀ x ∈ l1,x ∈ l2)->l1.length<=l2.length
 | [],_,_,_=>Nat.zero_le _
 | a :: t,l2,hn,hs=>by
  have hn:=List.nodup_cons.1 hn;have h1:=hs a List.mem_cons_self;have:=yrj (l1:=t) (l2:=l2.erase a) hn.2 fun y hy=>(List.mem_erase_of_ne fun e=>hn.1 (by rw[<- e];exact hy)).2 (hs y (List.mem_cons_of_mem _ hy))
  rw[List.length_erase_of_mem h1]at this;have:=List.length_pos_of_mem h1;simp only[List.length_cons];omega
theorem ybyx{l:List Int}{k:Nat}(h:∀ j:Nat,j<k->(j:Int) ∈ l):k<=l.length:=by
 have hn:((List.range k).map fun j:Nat=>(j:Int)).Nodup:=by
  rw[List.Nodup,List.pairwise_map];exact List.nodup_range.imp fun h e=>h (by omega)
 have:=yrj hn (l2:=l) fun x hx=>by
  obtain⟨j,hj,rfl⟩:=List.mem_map.1 hx;exact h j (List.mem_range.1 hj)
 simpa using this
theorem ytn(l:List Int):∀ (n k:Nat),(∀ j:Nat,j<k->(j:Int) ∈ l) -> ∃ m:Nat,ypj l n (k:Int)=m/\(∀ j:Nat,j<m->(j:Int) ∈ l)/\((m:Int) ∉ l\/m=k+n)
 | 0,k,h=>⟨k,rfl,h,.inr rfl⟩
 | n+1,k,h=>by
  unfold ypj
  by_cases hk:(k:Int) ∈ l
  ·rw[if_pos (List.elem_iff.2 hk)]
   obtain⟨m,e,h1,h2⟩:=ytn l n (k+1) fun j hj=>by
    by_cases q:j=k
    ·rw[q];exact hk
    ·exact h j (by omega)
   refine⟨m,?_,h1,?_⟩
   ·rw[<- e];congr 1
   ·rcases h2 with q | q
    ·exact .inl q
    ·exact .inr (by omega)
  ·rw[if_neg (fun q=>hk (List.elem_iff.1 q))];exact⟨k,rfl,h,.inl hk⟩
theorem ybrv(l:List Int):0<=mexP l/\mexP l<=l.length/\mexP l ∉ l:=by
 obtain⟨m,e,h1,h2⟩:=ytn l (l.length+1) 0 fun j hj=>absurd hj (Nat.not_lt_zero j);have e:mexP l=m:=e;have h3:=ybyx h1;rw[e];refine⟨by omega,by omega,?_⟩
 rcases h2 with q | q
 ·exact q
 ·omega
theorem yzc{a b d:Nat}(h:∀ i,(a.testBit i).toNat+(b.testBit i).toNat<=(d.testBit i).toNat):∀ n,ydj a n+ydj b n<=ydj d n
 | 0=>Nat.le_refl _
 | n+1=>by
  show(ydj a n+_)+(ydj b n+_)<=ydj d n+_;have:=yzc h n;have:=h n;omega
def kcEx:Ex:=.agg 21 (.bin 35 (eQ 0) (eVar 0))
def ybe(nm c r:ByteArray):ProgT:=⟨nm,[⟨c,1,0,0,1,0⟩],[⟨r,kcEx,[(0,.agg 27 (eQ 0))]⟩]⟩
def yfn(c:Conf)(v:Nat):Int:=(c.getD v []).getD 0 0
def yhk(g:Gr)(c:Conf)(v:Nat):Prop:=∃ u,adj g v u/\yfn c u=yfn c v
def yss(g:Gr)(c:Conf)(v:Nat):Int:=mexP ((g.ports.getD v []).map (endP c 0))
structure KcC(g:Gr)(c:Conf):Prop where
 len:c.length=g.ids.length
 row:∀ v,v<g.ids.length->(c.getD v []).length=1/\(0<=yfn c v/\yfn c v<=g.ids.length)
section
variable {nm nc nr:ByteArray} {g:Gr} {c:Conf} {u v s:Nat}
theorem yjs(hc:ydn (ybe nm nc nr) g c=true):KcC g c:=by
 have h:=(ydy _ _ _).1 hc;refine⟨h.1,fun v hv=>?_⟩;have hlt:v<c.length:=by rw[h.1];exact hv
 have e:c.getD v []=c[v]:=by simp[List.getD,hlt]
 have h2:=h.2 v _ (List.getElem?_eq_getElem hlt);unfold yfn;rw[e];have hl:c[v].length=1:=h2.1;have a0:(ybc g v ⟨nc,1,0,0,1,0⟩).1<=c[v][0]/\c[v][0]<=(ybc g v ⟨nc,1,0,0,1,0⟩).2:=h2.2 0 _ _ rfl (List.getElem?_eq_getElem (by omega))
 have e0:c[v].getD 0 0=c[v][0]:=by simp[List.getD,hl]
 rw[e0];rw[bT1]at a0;simp only at a0;exact⟨hl,by omega,by omega⟩
theorem ybgl(hg:GoodG g)(hv:v<g.ports.length):0<=yss g c v/\yss g c v<=(g.ports.getD v []).length /\ ∀ u,adj g v u->yfn c u ≠ yss g c v:=by
 obtain⟨h1,h2,h3⟩:=ybrv ((g.ports.getD v []).map (endP c 0));refine⟨h1,by rw[List.length_map]at h2;exact h2,fun u hu e=>h3 ?_⟩
 obtain⟨l,hl,el⟩:=yvd hu;refine List.mem_map.2 ⟨l,hl,?_⟩;unfold endP;rw[el];exact e
theorem ydbm(hg:GoodG g)(hv:v<g.ports.length):(g.ports.getD v []).length<g.ports.length:=by
 have hn:((g.ports.getD v []).map (·.1)).Nodup:=by
  have h:=(hg.2.2.2.2.2.1 ⟨v,hv⟩).2;have e0:g.ports[v]=g.ports.getD v []:=by rw[Sh.getD_at hv]
  have h:((g.ports[v]).map (·.1)).Nodup:=h
  rwa [e0]at h
 have h2:((v:Int) :: (g.ports.getD v []).map (·.1)).Nodup:=by
  refine List.nodup_cons.2 ⟨fun hm=>?_,hn⟩;obtain⟨l,hl,e⟩:=List.mem_map.1 hm;have e3:g.ports[v]? = some (g.ports.getD v []):=by simp[List.getD,hv]
  exact(hg.link e3 hl).2.2.1 e
 have:=yrj h2 (l2:=(List.range g.ports.length).map fun j:Nat=>(j:Int)) fun x hx=>by
  rcases List.mem_cons.1 hx with rfl | hx
  ·exact List.mem_map.2 ⟨v,List.mem_range.2 hv,rfl⟩
  ·obtain⟨l,hl,rfl⟩:=List.mem_map.1 hx;obtain⟨h1,h3,_⟩:=ykp hg hv hl;exact List.mem_map.2 ⟨l.1.toNat,List.mem_range.2 h3,by omega⟩
 rw[List.length_cons,List.length_map,List.length_map,List.length_range]at this;omega
theorem ycai(hg:GoodG g)(hv:v<g.ids.length):ylg g c v ⟨nr,kcEx,[(0,.agg 27 (eQ 0))]⟩=true ↔ yhk g c v:=by
 have hvp:v<g.ports.length:=by have:=hg.2.2.1;omega
 show(yge 21 _ != 0)=true ↔ _;have e:((List.range (g.ports.getD v []).length).map fun(q:Nat)=>yep g c v (.bin 35 (eQ 0) (eVar 0)) (q:Int))=(g.ports.getD v []).map fun l=>ydz (endP c 0 l == yfn c v):=ybaa g v _ _ fun q hq=>rfl;rw[e];show(ydz (decide (countP _ > 0)) != 0)=true ↔ _;rw[yqx,decide_eq_true_iff];unfold countP yhk;constructor
 ·intro h;obtain⟨x,hx⟩:=List.exists_mem_of_length_pos (show 0<(((g.ports.getD v []).map fun l=>ydz (endP c 0 l == yfn c v)).filter (· != 0)).length by omega)
  obtain⟨h1,h2⟩:=List.mem_filter.1 hx;obtain⟨l,hl,rfl⟩:=List.mem_map.1 h1;rw[yqx,beq_iff_eq]at h2;exact⟨_,(ykp hg hvp hl).2.2.1,h2⟩
 ·rintro⟨u,hu,q⟩;obtain⟨l,hl,el⟩:=yvd hu
  have:ydz (endP c 0 l == yfn c v) ∈ ((g.ports.getD v []).map fun l=>ydz (endP c 0 l == yfn c v)).filter (· != 0):=by
   refine List.mem_filter.2 ⟨List.mem_map.2 ⟨l,hl,rfl⟩,?_⟩;rw[yqx,beq_iff_eq];unfold endP;rw[el];exact q
  have:=List.length_pos_of_mem this;omega
theorem yblb(hg:GoodG g)(hv:v<g.ids.length):(yhk g c v->yfm (ybe nm nc nr) g c v=0)/\(¬ yhk g c v->yfm (ybe nm nc nr) g c v = -1):=by
 have h:=ycai (nr:=nr) (c:=c) hg hv;unfold yfm ybe;simp only[List.findIdx?_cons,List.findIdx?_nil];constructor
 ·intro q;rw[h.2 q];rfl
 ·intro q;rw[Bool.eq_false_iff.2 fun e=>q (h.1 e)];rfl
theorem yvw(hg:GoodG g):Sh.yvm (ybe nm nc nr) g=true:=by
 have h1:=hg.1;have h2:=hg.2.1;have h3:=hg.2.2.1;simp[Sh.yvm,ybe,ybc];omega
theorem ydhi:(ybe nm nc nr).ok=true:=by kernel_rfl
theorem ywz(hg:GoodG g)(hv:v<g.ids.length):(yw (ybe nm nc nr) g c).testBit v=true ↔ yhk g c v:=by
 obtain⟨h1,h2⟩:=yblb (nm:=nm) (nc:=nc) (nr:=nr) (c:=c) hg hv;unfold yw;rw[ylj,decide_eq_true hv,Bool.true_and,decide_eq_true_iff]
 by_cases q:yhk g c v
 ·rw[h1 q];exact⟨fun _=>q,fun _=>by omega⟩
 ·rw[h2 q];exact⟨fun h=>by omega,fun h=>absurd h q⟩
theorem ybep(h:KcC g c)(hv:v<g.ids.length)(hb:s.testBit v=false):yfn (ydb (ybe nm nc nr) g c s) v=yfn c v:=by
 unfold yfn;rw[Sh.yku _ g c s (by rw[h.len];exact hv),hb]
 rfl
theorem ybuf(hg:GoodG g)(h:KcC g c)(hv:v<g.ids.length)(hb:s.testBit v=true)(hcf:yhk g c v):(ydb (ybe nm nc nr) g c s).getD v [] = [yss g c v]:=by
 have hpl:=hg.2.2.1;rw[Sh.yku _ g c s (by rw[h.len];exact hv),hb,if_pos rfl,(yblb hg hv).1 hcf]
 obtain⟨x,hx⟩:∃ x,c.getD v [] = [x]:=by
  have:=(h.row v hv).1
  match hq:c.getD v [],this with
  | [x],_=>exact⟨x,rfl⟩
 obtain⟨b1,b2,_⟩:=ybgl (c:=c) hg (v:=v) (by omega)
 have b3:=ydbm hg (v:=v) (by omega)
 unfold ybbj ynm;rw[hx]
 have e:yep g c v (.agg 27 (eQ 0)) (-1)=yss g c v:=by
  show yge 27 _=_;unfold yge yss;rw[if_neg (by decide),if_neg (by decide),if_neg (by decide),if_neg (by decide),if_neg (by decide),if_neg (by decide),if_neg (by decide),if_pos rfl]
  congr 1;exact ybaa g v _ _ fun q hq=>rfl
 show[yjl 1 (ybc g v ⟨nc,1,0,0,1,0⟩) (yep g c v (.agg 27 (eQ 0)) (-1))]=_;rw[e];congr 1;unfold yjl;rw[bT1,if_pos (by simp only;omega)]
theorem yqu(hg:GoodG g)(h:KcC g c)(hs:subB s (yw (ybe nm nc nr) g c))(hD:yll g s)(hv:v<g.ids.length) :
  (s.testBit v=true -> ¬ yhk g (ydb (ybe nm nc nr) g c s) v)/\(¬ yhk g c v -> ¬ yhk g (ydb (ybe nm nc nr) g c s) v):=by
 have hpl:=hg.2.2.1;have cf:∀ u,u<g.ids.length->s.testBit u=true->yhk g c u:=fun u hu hb=>(ywz hg hu).1 (hs u hb)
 have new:∀ u,u<g.ids.length->s.testBit u=true->yfn (ydb (ybe nm nc nr) g c s) u=yss g c u:=fun u hu hb=>by
  show((ydb _ g c s).getD u []).getD 0 0=_;rw[ybuf hg h hu hb (cf u hu hb)];rfl
 constructor
 ·rintro hb ⟨u,hu,e⟩;have hun:u<g.ids.length:=by have:=(hg.adj_lt hu).2;omega
  rw[new v hv hb,ybep h hun (hD v u hu hb)]at e;exact(ybgl hg (by omega)).2.2 u hu e
 ·rintro hn ⟨u,hu,e⟩;have hun:u<g.ids.length:=by have:=(hg.adj_lt hu).2;omega
  have hbv:s.testBit v=false:=by
   cases q:s.testBit v with
   | false=>rfl
   | true=>exact absurd (cf v hv q) hn
  rw[ybep h hv hbv]at e;cases q:s.testBit u with
  | false =>
   rw[ybep h hun q]at e;exact hn ⟨u,hu,e⟩
  | true =>
   rw[new u hun q]at e;exact(ybgl hg (by omega)).2.2 v (hg.adj_symm hu) e.symm
def kcR(g:Gr)(r v:Nat)(c:Conf):Prop:=1<=r -> ¬ yhk g c v
theorem ydfx(hg:GoodG g):ByRoundsC (ybj (ybe nm nc nr) g) (fun c=>ydn (ybe nm nc nr) g c=true) (yll g) (kcR g) where
 valid:=fun c s hc _ _ _=>Sh.ymm hg ydhi (yvw hg) hc s
 stay:=fun c s v r r' _ _ hV hv _ hs hD _ hP hr=>(yqu hg (yjs hV) hs hD hv).2 (hP hr)
 move:=fun c s v r hV hv hb hs hD _ _=>(yqu hg (yjs hV) hs hD hv).1 hb
 rest:=fun c v r hV hv hb _ _ hq=>by
  have:=(ywz (nm:=nm) (nc:=nc) (nr:=nr) hg hv).2 hq;have hb:(yw (ybe nm nc nr) g c).testBit v=false:=hb;rw[hb]at this;cases this
 less:=fun r v c hP hr=>hP (by omega)
theorem yza(hg:GoodG g)(hc:KcC g c)(hs:subB s (yw (ybe nm nc nr) g c))(hD:yll g s):popP (yw (ybe nm nc nr) g (ydb (ybe nm nc nr) g c s))+popP s<=popP (yw (ybe nm nc nr) g c):=by
 refine yzc (fun i=>?_) 32;cases h1:(yw (ybe nm nc nr) g (ydb (ybe nm nc nr) g c s)).testBit i with
 | false =>
  cases h2:s.testBit i with
  | false=>simp
  | true=>rw[hs i h2];simp
 | true =>
  have hi:i<g.ids.length:=by
   refine Classical.byContradiction fun hq=>?_;rw[Nat.testBit_lt_two_pow (Nat.lt_of_lt_of_le (Sh.ywg _ g _) (Nat.pow_le_pow_right (by omega) (by omega)))]at h1
   cases h1
  have hcf:=(ywz hg hi).1 h1;cases h2:s.testBit i with
  | true=>exact absurd hcf ((yqu hg hc hs hD hi).1 h2)
  | false =>
   have:(yw (ybe nm nc nr) g c).testBit i=true:=(ywz hg hi).2 (Classical.byContradiction fun hn=>(yqu hg hc hs hD hi).2 hn hcf);rw[this];simp
structure KcJ(nm nc nr:ByteArray)(g:Gr)(c:Conf)(k:Cnt):Prop where
 inv:RInvC (ybj (ybe nm nc nr) g) (fun c=>ydn (ybe nm nc nr) g c=true) (kcR g) c k
 moves:k.moves+popP (yw (ybe nm nc nr) g c)<=g.ids.length
theorem ybeu{a n:Nat}(h:a<2 ^ n):∀ m,ydj a m<=n
 | 0=>Nat.zero_le _
 | m+1=>by
  show ydj a m+_<=n
  by_cases q:m<n
  ·have:=ygv a m;have:(a.testBit m).toNat<=1:=by cases a.testBit m<;>decide
   omega
  ·rw[Nat.testBit_lt_two_pow (Nat.lt_of_lt_of_le h (Nat.pow_le_pow_right (by omega) (by omega)))]
   have:=ybeu h m;simp;exact this
theorem ybci(hg:GoodG g){res:Nat->Nat->Nat}(hr:ResD (yll g) res){ws:List Nat}{c:Conf}(hv:ydn (ybe nm nc nr) g c=true):∀ p ∈ (ybj (ybe nm nc nr) g).runs res ws c,KcJ nm nc nr g p.1 p.2:=by
 refine Sys.runs_allD (S:=ybj (ybe nm nc nr) g) hr (J:=KcJ nm nc nr g) (fun c k s hJ h0 hs hD=>?_) ?_
 ·refine⟨(ydfx hg).step c k s hJ.inv h0 hs hD,?_⟩;have h1:=yza hg (yjs hJ.inv.valid) hs hD;have h2:=hJ.moves;show k.moves+popP s+popP (yw _ g (ydb _ g c s))<=_;omega
 ·refine⟨(ydfx hg).start hv fun v hn hr=>absurd hr (by omega),?_⟩
  show 0+popP (yw _ g c)<=_;rw[Nat.zero_add];exact ybeu (Sh.ywg _ g c) 32
def yvf(g:Gr)(c:Conf):Prop:=∀ v,v<g.ids.length -> ¬ yhk g c v
theorem ybwl(hg:GoodG g):yw (ybe nm nc nr) g c=0 ↔ yvf g c:=by
 constructor
 ·intro he v hv hq;have:=(ywz (nm:=nm) (nc:=nc) (nr:=nr) hg hv).2 hq;rw[he]at this;simp at this
 ·intro h;rw[ybg];intro i
  by_cases hi:i<g.ids.length
  ·cases q:(yw (ybe nm nc nr) g c).testBit i with
   | false=>rfl
   | true=>exact absurd ((ywz hg hi).1 q) (h i hi)
  ·exact Nat.testBit_lt_two_pow (Nat.lt_of_lt_of_le (Sh.ywg _ g c) (Nat.pow_le_pow_right (by omega) (by omega)))
theorem ybgg{k:Cnt}(hJ:KcJ nm nc nr g c k)(hn:¬ yvf g c):k.begun<=1/\k.moves<=g.ids.length:=by
 have h1:=hJ.inv.begun;have h2:=hJ.moves;refine⟨Classical.byContradiction fun hq=>hn fun v hv=>hJ.inv.all v hv (by omega),by omega⟩
end
end Go.Proofs.YtiejahgklcjhkaaGreatDoor

namespace Go.Proofs.YtiejahgklcjhkaaGreatDoor
section
variable {nm nc nr:ByteArray} {g:Gr} {c:Conf} {u v s:Nat}
theorem ycsj{i:Nat}:(1 <<< v).testBit i=true ↔ i=v:=by
 rw[Nat.one_shiftLeft,Nat.testBit_two_pow,decide_eq_true_iff];exact eq_comm
theorem ybph(hg:GoodG g):yll g (1 <<< v):=fun a b hab ha=>by
 cases q:(1 <<< v).testBit b with
 | false=>rfl
 | true =>
  rw[ycsj]at ha q;subst ha;subst q
  exact absurd hab fun h=>by
   obtain⟨hu,_⟩:=hg.adj_lt h;obtain⟨l,hl,e⟩:=yhg.1 h;have e3:g.ports[b]? = some (g.ports.getD b []):=by simp[List.getD,hu]
   exact(hg.link e3 hl).2.2.1 e
end
end Go.Proofs.YtiejahgklcjhkaaGreatDoor

