/- Lemmas, joined: SiF SiG Run Syn WlA WlB WlC Syl WcB CeD CmC ScDl NtT Cwn RvG Li Cp Cwo RowA ShW RowB RowC Io. -/
import Derived.Test.YtiejahgklcjhkaaGreatDoorPkJ16
import Derived.Test.YtiejahgklcjhkaaGreatDoorPkJ15
import Derived.Test.YtiejahgklcjhkaaGreatDoorPkJ11
import Derived.Test.YtiejahgklcjhkaaGreatDoorPkJ12
import Derived.Test.YtiejahgklcjhkaaGreatDoorPkJ5
import Derived.Test.YtiejahgklcjhkaaGreatDoorPkJ6
import Derived.Test.YtiejahgklcjhkaaGreatDoorPkJ10
import Derived.Test.YtiejahgklcjhkaaGreatDoorPkJ9
import Derived.Test.YtiejahgklcjhkaaGreatDoorPkJ14
import Derived.Test.YtiejahgklcjhkaaGreatDoorPkJ8
import Derived.ProofKit
import Derived.OpenShut
import Derived.ShutString
import Derived.ChangeOld
import Derived.Deep.Matrix
import Derived.Lib.SmallJoins
import Derived.Test.YtiejahgklcjhkaaGreatDoorPkJ7
import Derived.Test.YtiejahgklcjhkaaGreatDoorProg
import GoSem.ClaimJoined
import GoSem.ClaimSevenParts
import Derived.KernelRfl
set_option linter.unusedSimpArgs false
set_option linter.unusedVariables false
namespace Go.Proofs.YtiejahgklcjhkaaGreatDoor
open Go
theorem ybin{back:Bool}{g:Gr}{a b:Nat}{w:Int}(hg:ybb g)(ha:a<g.ports.length)(hb:b<g.ports.length)(hw:1<=w/\w<=15):ybb (yhe back g a b w)/\(yhe back g a b w).ids=g.ids/\(yhe back g a b w).ports.length=g.ports.length:=by
 unfold yhe
 by_cases h:a=b\/yju (g.ports.getD a []) b=true
 ·rw[if_pos h];exact⟨hg,rfl,rfl⟩
 ·rw[if_neg h];refine⟨ywx hg ha hb (fun e=>h (.inl e)) hw fun l hl e=>h (.inr (List.any_eq_true.2 ⟨l,hl,decide_eq_true e⟩)),rfl,by simp[ybr]⟩
theorem ybtv{back:Bool}{g:Gr}{a b:Nat}{w:Int}(ha:a<g.ports.length)(hb:b<g.ports.length){m:Nat}(h:Tre g m):Tre (yhe back g a b w) m:=by
 unfold yhe;split
 ·exact h
 ·exact h.add ha hb
theorem ybnn{back:Bool}{g:Gr}{a b:Nat}{w:Int}(ha:a<g.ports.length)(hb:b<g.ports.length)(hab:a ≠ b):adj (yhe back g a b w) a b:=by
 unfold yhe;split
 ·rename_i h
  rcases h with h | h
  ·exact absurd h hab
  ·obtain⟨l,hl,e⟩:=List.any_eq_true.1 h;exact ygj.2 ⟨l,hl,of_decide_eq_true e⟩
 ·exact ybbf ha hb hab
theorem ybaj:∀ (l:List Nat) (i x:Nat) (h:i<l.length),(l.set i x).sum+l[i]=l.sum+x
 | a :: l,0,x,_=>by simp;omega
 | a :: l,i+1,x,h=>by
  have:=ybaj l i x (by simpa using h)
  simp only[List.set_cons_succ,List.sum_cons,List.getElem_cons_succ];omega
theorem ybjm{back:Bool}{g:Gr}{a b:Nat}{w:Int}(ha:a<g.ports.length)(hb:b<g.ports.length)(hab:a ≠ b):yec (ybr back g a b w)=yec g+2:=by
 unfold yec ybr;simp only[List.map_set,Sh.ybj];have h1:=ybaj (g.ports.map List.length) a ((g.ports.getD a []).length+1) (by simpa using ha)
 have h2:=ybaj ((g.ports.map List.length).set a ((g.ports.getD a []).length+1)) b ((g.ports.getD b []).length+1) (by simpa using hb)
 rw[List.getElem_set_ne hab,List.getElem_map,<- Sh.getD_at hb (d:=[])]at h2;rw[List.getElem_map,<- Sh.getD_at ha (d:=[])]at h1;omega
def WtF(x:NetR)(g:Gr):Prop:=∀ v l,l ∈ g.ports.getD v [] -> ∃ i,l.2=1+ycy (atP x.weights i) 15
theorem ybve{x:NetR}{back:Bool}{g:Gr}{a b:Nat}{w:Int}(ha:a<g.ports.length)(hb:b<g.ports.length)(hw:∃ i,w=1+ycy (atP x.weights i) 15)(h:WtF x g):WtF x (yhe back g a b w):=by
 unfold yhe;split
 ·exact h
 ·intro v l hl;rw[ycs back g w ha hb]at hl;split at hl
  ·rcases ydk.1 hl with rfl | hl
   ·exact hw
   ·exact h _ _ hl
  ·split at hl
   ·rcases ydk.1 hl with rfl | hl
    ·exact hw
    ·exact h _ _ hl
   ·exact h _ _ hl
structure TreeTo(x:NetR)(v:Nat)(g:Gr):Prop where
 tre:Tre g v
 wt:WtF x g
 none_:∀ u,v<=u->g.ports.getD u [] = []
 count:yec g+2=2 * v
theorem yml(ids:List Int)(v:Nat):(bare ids).ports.getD v [] = []:=by
 unfold bare;rw[List.getD_eq_getElem?_getD,List.getElem?_replicate];split<;>rfl
theorem TreeTo.zero(x:NetR)(ids:List Int):TreeTo x 1 (bare ids):=by
 refine⟨fun v h0 h1=>by omega,fun v l hl=>?_,fun u _=>yml ids u,?_⟩
 ·rw[yml]at hl;exact absurd hl List.not_mem_nil
 ·have:yec (bare ids)=0:=by
   unfold yec bare;simp
  omega
theorem TreeTo.succ{x:NetR}{v:Nat}{g:Gr}(hg:ybb g)(h:TreeTo x v g)(hv:v<g.ports.length)(h1:1<=v){a:Nat}(ha:a<v){w:Int}(hw:∃ i,w=1+ycy (atP x.weights i) 15):TreeTo x (v+1) (yhe x.back g a v w):=by
 have hadj:=ybnn (back:=x.back) (g:=g) (a:=a) (b:=v) (w:=w) (by omega) (by omega) (by omega)
 have hno:¬ (a=v\/yju (g.ports.getD a []) v=true):=by
  rintro(e | e)
  ·omega
  ·obtain⟨l,hl,e⟩:=List.any_eq_true.1 e;have e:=of_decide_eq_true e;have:adj g v a:=hg.adj_symm (ygj.2 ⟨l,hl,e⟩);obtain⟨l',hl',_⟩:=ygj.1 this;rw[h.none_ v (Nat.le_refl _)]at hl';exact absurd hl' List.not_mem_nil
 have e:yhe x.back g a v w=ybr x.back g a v w:=by unfold yhe;rw[if_neg hno]
 refine⟨fun u h0 hu=>?_,ybve (by omega) hv hw h.wt,fun u hu=>?_,?_⟩
 ·by_cases q:u=v
  ·subst q;exact⟨a,ha,hadj⟩
  ·exact ybtv (by omega) hv h.tre u h0 (by omega)
 ·rw[e,ycs x.back g w (by omega) hv,if_neg (by omega),if_neg (by omega)]
  exact h.none_ u (by omega)
 ·rw[e,ybjm (by omega) hv (by omega)]
  have:=h.count;omega
namespace Sh
open Ev Go.RowKit
set_option maxRecDepth 8000
theorem ybxx{n:Nat}{P:List (List (Int × Int))}{f:SV->SV}(hf:∀ k z,f (.i k z) = .i k z){i:Nat}(hi:i<n):(match (if i<n then some (rowO (P.getD i []))else none)with | some b=>some (⟨b.e,b.bx,b.z,b.n,fun k=>(b.g k).map f⟩:OB) | none=>none)=some (rowO (P.getD i [])):=by
 rw[if_pos hi];simp[rowO,hf]
theorem Tree_ok{x:NetR}(hx:x.ok){most:Nat}(hm:1<=most/\most<=24) :
  Cm Tryz.prog 21 [] [] [.ag (netC x),.i .i64 most] fun r o=>∃ g,ybb g/\TreeTo x g.ports.length g/\g.ports.length<=most/\r=yqz g/\o=yfa g.ports:=by
 refine ycpv [] [75,76] _ _ _ ?_;have hN:=ybyf hx hm;obtain⟨hx1,hx2,hx3,hx4⟩:=hx;simp only[netC]at hN;simp only[c21,yczv,yddr,netC,go_sem,Nat.reduceEqDiff,Nat.reduceAdd,Nat.reduceLT,↓reduceIte,reduceCtorEq];refine callM_of hN [(17,117)] 0 [2,4] [2,4] ?_ ?_
 ·simp only[okN,famCln,yfn,keepF,keepO,allQ,live,yc,go_sem,Nat.reduceEqDiff,Nat.reduceAdd,Nat.reduceBEq,↓reduceIte,reduceCtorEq]
 rintro r o' ⟨ids,h1,h2,h3,rfl,rfl⟩;obtain⟨n,hn⟩:∃ n,ids.length=n:=⟨_,rfl⟩;rw[hn]at h1;simp only[hn,thenM,ylo,nuF,nu,difN,keepF,keepO,Fam.ren,OB.ren,dim,ybxa,yry,yki,go_sem,Nat.reduceEqDiff,Nat.reduceAdd,Nat.reduceLT,Nat.reduceBEq,↓reduceIte];simp only[ydau,go_sem]
 refine ybd (σ:=Nat × Gr) (fun q=>⟨[(6,.i .i64 q.1),(5,.pt (5,0) 0 0),(2,.pt (2,0) 0 0),(4,.pt (4,0) 0 0)],
   (5,.one (some ⟨27,true,2,1,fun _=>[yj q.2.ids,.os (211,0) 0 n true]⟩)) :: (2,.one (some ⟨24,true,6,1,fun _=>netC x⟩)) :: (4,.one (some ⟨27,true,2,1,fun _=>[.a (.slice none 0 0),.a (.slice none 0 0)]⟩)) :: yfa q.2.ports⟩)
  (fun q=>ybb q.2/\q.2.ports.length=n/\TreeTo x q.1 q.2/\1<=q.1/\q.1<=n) (fun q=>n - q.1) (1,bare ids) ⟨ybmx (by omega) (by omega) h2 h3,by simp[bare,hn],TreeTo.zero x ids,by omega,by omega⟩ ?_ ?_
 ·refine yg [(211,fun i=>(117,i))] [212] [] ?_;have b1:(bare ids).ids=ids:=rfl;have b2:(bare ids).ports.length=n:=by simp[bare,hn]
  have b3:∀ v,(bare ids).ports.getD v [] = []:=yml ids;simp only[netC,yfa,rowO,b1,b2,b3,List.length_nil,allQ,live,yc,yu,go_sem,Nat.reduceEqDiff,Nat.reduceBEq,↓reduceIte,reduceCtorEq];refine⟨rfl,fun i hi=>⟨(212,i),rfl,rfl,by simp[hi]⟩,fun i b hb=>?_⟩
  obtain⟨_,rfl⟩:=ydu hb;exact⟨rfl,rfl⟩
 ·rintro⟨v,g⟩ ⟨hg,hgn,htr,hv1,hvn⟩;have hg:ybb g:=hg;have hgn:g.ports.length=n:=hgn;have htr:TreeTo x v g:=htr;have hv1:1<=v:=hv1;have hvn:v<=n:=hvn
  by_cases hlt:v<n
  ·have ht:decide ((v:Int)<(n:Int))=true:=decide_eq_true (by omega)
   have hv2:(v:Int) - 1=((v - 1:Nat):Int):=by omega
   have hA1:=at_ret x.links (v - 1);have hA2:=at_ret x.weights (v - 1);have hi1:=yds (v:=atP x.links (v - 1)) (m:=(v:Int)) (by omega)
   have hi2:=yds (v:=atP x.weights (v - 1)) (m:=15) (by omega)
   have hW1:=ydr (atP x.links (v - 1)) v (by omega) (hx2 _)
   have hW2:=ydr (atP x.weights (v - 1)) 15 (by omega) (hx3 _)
   obtain⟨a,ha⟩:∃ a:Nat,ycy (atP x.links (v - 1)) v=a:=Int.eq_ofNat_of_zero_le hi1.1;obtain⟨w,hw⟩:∃ w:Int,ycy (atP x.weights (v - 1)) 15=w:=⟨_,rfl⟩;rw[ha]at hW1 hi1;rw[hw]at hW2 hi2;have hL:=ycqq (x:=x) (g:=g) (a:=a) (b:=v) (w:=1+w) (by omega) (by omega) (by omega) (fun u=>by have:=hg.deg_lt (v:=u);omega)
   simp only[ycqs,ycwd,ydba,netC,yfa,ht,hv2,clash,go_sem,Nat.reduceEqDiff,Nat.reduceAdd,Nat.reduceLeDiff,Nat.reduceBEq,↓reduceIte,reduceCtorEq];refine⟨ikw (by omega) (by omega),hA1.use ?_⟩
   simp only[thenO,clash,go_sem,Nat.reduceEqDiff,Nat.reduceAdd,Nat.reduceLeDiff,Nat.reduceBEq,↓reduceIte,reduceCtorEq];refine hW1.use ?_;simp only[hv2,go_sem];refine⟨ikw (by omega) (by omega),hA2.use ?_⟩
   simp only[go_sem,↓reduceIte];refine hW2.use ?_;simp only[go_sem,Nat.reduceEqDiff,Nat.reduceBEq,↓reduceIte];refine⟨ikw (by omega) (by omega),callM_of hL [(211,211),(212,212)] 0 [2,4,5,6] [2,4,5] ?_ ?_⟩
   ·simp only[netC,yqz,yfa,hgn,to1,okN,famCln,yfn,keepF,keepO,allQ,live,yc,go_sem,Nat.reduceEqDiff,Nat.reduceAdd,Nat.reduceBEq,↓reduceIte,reduceCtorEq];refine⟨⟨fun i _ j _ e=>e,fun i hi=>by rw[if_pos hi],fun i b hb=>?_⟩,by decide⟩
    obtain⟨hi,rfl⟩:=ydu hb;exact⟨_,if_pos hi,⟨rfl,rfl,rfl,rfl⟩,fun k hk=>by simp only[rowO,live,yc,go_sem,reduceCtorEq]⟩
   ·rintro r o' ⟨rfl,rfl⟩;simp only[yfa,thenM,ylo,nuF,nu,difN,keepF,keepO,Fam.ren,OB.ren,dim,ysh,yki,go_sem,Nat.reduceEqDiff,Nat.reduceAdd,Nat.reduceBEq,↓reduceIte,reduceCtorEq];obtain⟨gg1,gg2,gg3⟩:=ybin (back:=x.back) (a:=a) (b:=v) (w:=1+w) hg (by omega) (by omega) (by omega)
    have gg4:=htr.succ hg (by omega) hv1 (a:=a) (by omega) (w:=1+w) ⟨v - 1,by rw[hw]⟩
    obtain⟨G,hG⟩:∃ G,yhe x.back g a v (1+w)=G:=⟨_,rfl⟩;rw[hG]at gg1 gg2 gg3 gg4 ⊢;rw[hgn]at gg3;refine⟨ikw (by omega) (by omega),yh (v+1,G) ⟨gg1,gg3,gg4,by omega,by omega⟩ (by show n - (v+1)<n - v;omega) ?_⟩
    ·refine yg [] [] [] ?_;simp only[gg3,gg2,allQ,live,yc,yu,go_sem,Nat.reduceEqDiff,↓reduceIte,reduceCtorEq];refine⟨fun i _ j _ e=>e,by omega,fun i hi=>by rw[if_pos hi],fun i b hb=>?_⟩
     obtain⟨hi,rfl⟩:=ydu hb;refine⟨_,ybxx (f:=ren (nu [(211,211),(212,212)] 0) 5) (fun _ _=>rfl) hi,⟨rfl,rfl,rfl,rfl⟩,fun k hk=>?_⟩;simp only[rowO,live,yc,go_sem,reduceCtorEq]
  ·obtain rfl:v=n:=by omega
   have ht:decide ((v:Int)<(v:Int))=false:=decide_eq_false (by omega)
   simp only[ycqs,ycza,netC,yfa,ht,clash,splice,yfu,go_sem,Nat.reduceEqDiff,Nat.reduceAdd,↓reduceIte,reduceCtorEq];refine⟨yqz g,yfa g.ports,?_,?_,g,hg,by rw[hgn];exact htr,by omega,rfl,rfl⟩
   ·refine yg [] [] [] ?_;simp only[yfa,yqz,hgn,allQ,live,yc,go_sem,Nat.reduceEqDiff,↓reduceIte,reduceCtorEq];refine⟨fun i _ j _ e=>e,fun i hi=>by rw[if_pos hi],fun i b hb=>?_⟩
    obtain⟨hi,rfl⟩:=ydu hb;exact⟨_,if_pos hi,⟨rfl,rfl,rfl,rfl⟩,fun k hk=>by simp only[rowO,live,yc,go_sem,reduceCtorEq]⟩
   ·simp only[yfa,yqz,famCln,yfn,allQ,live,go_sem,Nat.reduceEqDiff,↓reduceIte];refine⟨fun i hi=>by rw[if_pos hi],fun i b hb k hk=>?_⟩
    obtain⟨hi,rfl⟩:=ydu hb;simp only[rowO,go_sem]
end Sh
end Go.Proofs.YtiejahgklcjhkaaGreatDoor

namespace Go.Proofs.YtiejahgklcjhkaaGreatDoor
open Go
namespace Sh
open Ev Go.RowKit
set_option maxRecDepth 8000
end Sh
end Go.Proofs.YtiejahgklcjhkaaGreatDoor

namespace Go.Proofs.YtiejahgklcjhkaaGreatDoor
open Go
namespace Sh
open Ev Go.RowKit
set_option maxRecDepth 8000
theorem ybzk(l:List Nat):one1 (usV l)=true:=rfl
theorem ybpw{n:Nat}(l:List Nat):owned (n+1) (usV l)=false:=rfl
theorem ybiv{n:Nat}(l:List Nat):scalar (n+1) (usV l)=false:=rfl
theorem ybvn{n:Nat}(o:Own)(l:List Nat):view o (n+1) (usV l)=usV l:=rfl
theorem ycrg{n:Nat}(o:Own)(l:List Nat):vok o (n+1) (usV l)=True:=rfl
theorem ycoz{n:Nat}(h:Nm->Nm)(l:List Nat):ren h (n+1) (usV l)=usV l:=rfl
theorem ycqi{n:Nat}(D:Nm->Bool)(l:List Nat):cln D (n+1) (usV l)=true:=rfl
theorem yblo{n:Nat}(fr:List Nm)(o:Own)(l:List Nat):ycf fr o (n+1) (usV l)=usV l:=rfl
theorem ycpb{n:Nat}(fr:List Nm)(o:Own)(l:List Nat):pok fr o (n+1) (usV l)=True:=rfl
theorem ybra(l:List Nat):SV.cells (usV l) = [usV l]:=rfl
theorem yzm(l:List Conf):one1 (ydc l)=true:=rfl
theorem yxd{n:Nat}(l:List Conf):owned (n+1) (ydc l)=false:=rfl
theorem yvh{n:Nat}(l:List Conf):scalar (n+1) (ydc l)=false:=rfl
theorem ybci{n:Nat}(o:Own)(l:List Conf):view o (n+1) (ydc l)=ydc l:=rfl
theorem ybjh{n:Nat}(o:Own)(l:List Conf):vok o (n+1) (ydc l)=True:=rfl
theorem ybhq{n:Nat}(h:Nm->Nm)(l:List Conf):ren h (n+1) (ydc l)=ydc l:=rfl
theorem ybhm{n:Nat}(D:Nm->Bool)(l:List Conf):cln D (n+1) (ydc l)=true:=rfl
theorem yyr{n:Nat}(fr:List Nm)(o:Own)(l:List Conf):ycf fr o (n+1) (ydc l)=ydc l:=rfl
theorem ybhx{n:Nat}(fr:List Nm)(o:Own)(l:List Conf):pok fr o (n+1) (ydc l)=True:=rfl
theorem ywb(l:List Conf):SV.cells (ydc l) = [ydc l]:=rfl
theorem ybhk(l:List Cnt):one1 (ygl l)=true:=rfl
theorem ybcm{n:Nat}(l:List Cnt):owned (n+1) (ygl l)=false:=rfl
theorem ywl{n:Nat}(l:List Cnt):scalar (n+1) (ygl l)=false:=rfl
theorem ybiw{n:Nat}(o:Own)(l:List Cnt):view o (n+1) (ygl l)=ygl l:=rfl
theorem ybjn{n:Nat}(o:Own)(l:List Cnt):vok o (n+1) (ygl l)=True:=rfl
theorem ybjq{n:Nat}(h:Nm->Nm)(l:List Cnt):ren h (n+1) (ygl l)=ygl l:=rfl
theorem ybsf{n:Nat}(D:Nm->Bool)(l:List Cnt):cln D (n+1) (ygl l)=true:=rfl
theorem ybbt{n:Nat}(fr:List Nm)(o:Own)(l:List Cnt):ycf fr o (n+1) (ygl l)=ygl l:=rfl
theorem ybom{n:Nat}(fr:List Nm)(o:Own)(l:List Cnt):pok fr o (n+1) (ygl l)=True:=rfl
theorem ybak(l:List Cnt):SV.cells (ygl l) = [ygl l]:=rfl
theorem ybzn(l:List Bool):one1 (blV l)=true:=rfl
theorem ybnq{n:Nat}(l:List Bool):owned (n+1) (blV l)=false:=rfl
theorem ybgl{n:Nat}(l:List Bool):scalar (n+1) (blV l)=false:=rfl
theorem ybvi{n:Nat}(o:Own)(l:List Bool):view o (n+1) (blV l)=blV l:=rfl
theorem ycqa{n:Nat}(o:Own)(l:List Bool):vok o (n+1) (blV l)=True:=rfl
theorem yctx{n:Nat}(h:Nm->Nm)(l:List Bool):ren h (n+1) (blV l)=blV l:=rfl
theorem yctq{n:Nat}(D:Nm->Bool)(l:List Bool):cln D (n+1) (blV l)=true:=rfl
theorem ybsr{n:Nat}(fr:List Nm)(o:Own)(l:List Bool):ycf fr o (n+1) (blV l)=blV l:=rfl
theorem ycup{n:Nat}(fr:List Nm)(o:Own)(l:List Bool):pok fr o (n+1) (blV l)=True:=rfl
theorem ybou(l:List Bool):SV.cells (blV l) = [blV l]:=rfl
attribute [go_sem] ybzk ybpw ybiv ybvn ycrg ycoz ycqi yblo ycpb ybra yzm yxd yvh ybci ybjh ybhq ybhm yyr ybhx ywb ybhk ybcm ywl ybiw ybjn ybjq ybsf ybbt ybom ybak ybzn ybnq ybgl ybvi ycqa yctx yctq ybsr ycup ybou
theorem Ct.found{P:Program}{g:FuncId}{args:List SV}{α:Type}{R:SV->α->Prop}{V:α->SV}{Q:SV->Prop}(h:Ct P g args fun r=>∃ x,R r x)(hs:∀ r x,R r x->Sim r (V x))(hq:∀ r x,R r x->Q (V x)):Ct P g args Q:=fun G m us h1 h2 h3=>by
 obtain⟨v,m',r,a,b,c,⟨x,hx⟩,e⟩:=h G m us h1 h2 h3;exact⟨v,m',V x,a,b,c,hq r x hx,hs r x hx _ _ _ e⟩
theorem yzy:ybhg resS:=fun e w h0=>⟨h0,fun _ h=>h⟩
theorem Sys.run_len(S:Sys)(res:Nat->Nat->Nat):∀ (ws:List Nat) (c:Conf) (k:Cnt),(S.run res ws c k).length<=ws.length
 | [],_,_=>Nat.le_refl _
 | w :: ws,c,k=>by
  unfold Sys.run;split
  ·exact Nat.zero_le _
  ·simp only[List.length_cons];have:=Sys.run_len S res ws (S.mv c (res (S.en c) w)) (addP k (res (S.en c) w) (S.en (S.mv c (res (S.en c) w))));omega
structure RunD(S:Sys)(res:Nat->Nat->Nat)(ws:List Nat)(c:Conf)(n:Nat)(Cs:List Conf)(Ks:List Cnt):Prop where
 cs:(S.runs res ws c).map (·.1)=Cs
 ks:(S.runs res ws c).map (·.2)=Ks
 len:(S.runs res ws c).length=n
 pos:0<n
 le:n<=ws.length+1
theorem RunD.at_{S:Sys}{res:Nat->Nat->Nat}{ws:List Nat}{c:Conf}{n:Nat}{Cs:List Conf}{Ks:List Cnt}(h:RunD S res ws c n Cs Ks){k:Nat}(hk:k<n):(Cs.getD k [],Ks.getD k default) ∈ S.runs res ws c/\(S.runs res ws c)[k]? = some (Cs.getD k [],Ks.getD k default):=by
 have hk':k<(S.runs res ws c).length:=by rw[h.len];exact hk
 have e:(S.runs res ws c)[k]=(Cs.getD k [],Ks.getD k default):=by
  rw[<- h.cs,<- h.ks];simp[List.getD,hk']
 exact⟨by rw[<- e];exact List.getElem_mem hk',by rw[<- e];exact List.getElem?_eq_getElem hk'⟩
theorem RunD.lC{S:Sys}{res:Nat->Nat->Nat}{ws:List Nat}{c:Conf}{n:Nat}{Cs:List Conf}{Ks:List Cnt}(h:RunD S res ws c n Cs Ks):Cs.length=n:=by rw[<- h.cs,List.length_map,h.len]
theorem RunD.lK{S:Sys}{res:Nat->Nat->Nat}{ws:List Nat}{c:Conf}{n:Nat}{Cs:List Conf}{Ks:List Cnt}(h:RunD S res ws c n Cs Ks):Ks.length=n:=by rw[<- h.ks,List.length_map,h.len]
theorem runD(S:Sys)(res:Nat->Nat->Nat)(ws:List Nat)(c:Conf):∃ n Cs Ks,RunD S res ws c n Cs Ks :=
 ⟨_,_,_,rfl,rfl,rfl,by simp[Sys.runs],by have:=Sys.run_len S res ws c (ycj (S.en c));simp only[Sys.runs,List.length_cons];omega⟩
theorem RunD.last{S:Sys}{res:Nat->Nat->Nat}{ws:List Nat}{c:Conf}{n:Nat}{Cs:List Conf}{Ks:List Cnt}(h:RunD S res ws c n Cs Ks){k:Nat}(hk:k+1<n):S.en (Cs.getD k []) ≠ 0:=by
 have h1:=(h.at_ (show k<n by omega)).2
 exact Sys.runs_last (by rw[h.len];exact hk) h1
end Sh
end Go.Proofs.YtiejahgklcjhkaaGreatDoor

namespace Go.Proofs.YtiejahgklcjhkaaGreatDoor
namespace Sh
theorem ybrv(a:Nat):difB a a=0:=(ydj _).2 fun i=>by rw[yhk];cases a.testBit i<;>rfl
theorem ybeq(S:Sys):∀ (ws:List Nat) (c:Conf) (k:Cnt),k.pend=S.en c -> ∀ (i:Nat) p,(S.run resS ws c k)[i]? = some p->p.2.rounds=k.rounds+i+1/\p.2.pend=S.en p.1
 | [],c,k,_,i,p,h=>by simp[Sys.run]at h
 | w :: ws,c,k,hk,i,p,h=>by
  unfold Sys.run at h;split at h
  ·simp at h
  ·have e:resS (S.en c) w=S.en c:=rfl;rw[e]at h
   have hr:(addP k (S.en c) (S.en (S.mv c (S.en c)))).rounds=k.rounds+1/\(addP k (S.en c) (S.en (S.mv c (S.en c)))).pend=S.en (S.mv c (S.en c)):=by
    unfold addP;rw[hk,ybrv];simp
   cases i with
   | zero =>
    simp only[List.getElem?_cons_zero]at h;cases h
    exact⟨hr.1,hr.2⟩
   | succ i =>
    have:=ybeq S ws _ _ hr.2 i p (by simpa using h)
    rw[hr.1]at this;exact⟨by omega,this.2⟩
theorem ybne{S:Sys}{ws:List Nat}{c:Conf}{i:Nat}{p:Conf × Cnt}(h:(S.runs resS ws c)[i]? = some p):p.2.rounds=i:=by
 cases i with
 | zero =>
  simp only[Sys.runs,List.getElem?_cons_zero]at h;cases h
  rfl
 | succ i =>
  have:=(ybeq S ws c (ycj (S.en c)) rfl i p (by simpa [Sys.runs]using h)).1
  have e:(ycj (S.en c)).rounds=0:=rfl;omega
theorem ybfj(S:Sys)(res:Nat->Nat->Nat):∀ (ws:List Nat) (c:Conf) (k:Cnt),(S.run res ws c k).length<ws.length->S.en (((c,k) :: S.run res ws c k).getD (S.run res ws c k).length default).1=0
 | [],c,k,h=>by simp at h
 | w :: ws,c,k,h=>by
  unfold Sys.run at h ⊢
  by_cases h0:S.en c=0
  ·simp only[if_pos h0];exact h0
  ·simp only[if_neg h0,List.length_cons]at h ⊢;exact ybfj S res ws _ _ (by omega)
theorem RunD.over{S:Sys}{res:Nat->Nat->Nat}{ws:List Nat}{c:Conf}{n:Nat}{Cs:List Conf}{Ks:List Cnt}(h:RunD S res ws c n Cs Ks):S.en (Cs.getD (n - 1) [])=0\/n=ws.length+1:=by
 by_cases q:n=ws.length+1
 ·exact .inr q
 ·left
  have hl:=h.len;have h1:=h.le
  have h2:=ybfj S res ws c (ycj (S.en c)) (by
   simp only[Sys.runs,List.length_cons]at hl;omega)
  have e:(S.run res ws c (ycj (S.en c))).length=n - 1:=by simp only[Sys.runs,List.length_cons]at hl;omega
  rw[e]at h2;have h3:=(h.at_ (show n - 1<n by have:=h.pos;omega)).2
  have e2:((c,ycj (S.en c)) :: S.run res ws c (ycj (S.en c))).getD (n - 1) default=(Cs.getD (n - 1) [],Ks.getD (n - 1) default):=by
   rw[List.getD_eq_getElem?_getD];have h3:((c,ycj (S.en c)) :: S.run res ws c (ycj (S.en c)))[n - 1]? = some (Cs.getD (n - 1) [],Ks.getD (n - 1) default):=h3;rw[h3];rfl
  rw[e2]at h2;exact h2
end Sh
end Go.Proofs.YtiejahgklcjhkaaGreatDoor

namespace Go.Proofs.YtiejahgklcjhkaaGreatDoor
structure LdC(g:Gr)(c:Conf):Prop where
 len:c.length=g.ids.length
 row:∀ v,v<g.ids.length->(c.getD v []).length=3/\(0<=(c.getD v []).getD 0 0/\(c.getD v []).getD 0 0<=ybcu g)/\(0<=(c.getD v []).getD 1 0/\(c.getD v []).getD 1 0<g.ids.length)/\(-1<=(c.getD v []).getD 2 0/\(c.getD v []).getD 2 0<(g.ports.getD v []).length)
section
variable {nm nl nd np no nj:ByteArray} {g:Gr} {c:Conf} {v:Nat}
theorem LdC.link(h:LdC g c)(hg:ybb g)(hv:v<g.ids.length){l:Int × Int}(hl:l ∈ g.ports.getD v []):0<=l.1/\l.1.toNat<g.ids.length/\adj g v l.1.toNat/\(0<=endP c 0 l/\endP c 0 l<=ybcu g)/\(0<=endP c 1 l/\endP c 1 l<g.ids.length):=by
 have hpl:=hg.2.2.1;obtain⟨h1,h2,h3,_⟩:=ydo hg (by omega) hl
 have h4:=h.row l.1.toNat (by omega)
 exact⟨h1,by omega,h3,h4.2.1,h4.2.2.1⟩
end
end Go.Proofs.YtiejahgklcjhkaaGreatDoor

namespace Go.Proofs.YtiejahgklcjhkaaGreatDoor
section
variable {nm nl nd np no nj:ByteArray} {g:Gr} {c:Conf} {v:Nat}
end
end Go.Proofs.YtiejahgklcjhkaaGreatDoor

namespace Go.Proofs.YtiejahgklcjhkaaGreatDoor
section
variable {nm nl nd np no nj:ByteArray} {g:Gr} {c:Conf} {v:Nat}
end
end Go.Proofs.YtiejahgklcjhkaaGreatDoor

namespace Go.Proofs.YtiejahgklcjhkaaGreatDoor
section
variable {nm nl nd np no nj nh nr:ByteArray} {g:Gr}
theorem ynf(h:Tr g){ws:List Nat}{c:Conf}{n:Nat}{Cs:List Conf}{Ks:List Cnt}(hv:yfp (yeb nm nh nr) g c=true)(hD:Sh.RunD (ybl (yeb nm nh nr) g) resS ws c n Cs Ks)(hw:g.ports.length<=ws.length) :
  yhb g (Cs.getD (n - 1) []):=by
 have hn:=hD.pos;have hpl:=h.good.2.2.1;have hi:=yqx h Sh.yzy hv _ (hD.at_ (show n - 1<n by omega)).1
 rcases hD.over with q | q
 ·exact(ybzd h hi.valid).1 q
 ·have hr:=Sh.ybne (hD.at_ (show n - 1<n by omega)).2
  intro v hv';have h1:=hi.all v hv';have h2:=h.ht_lt (v:=v) (by omega)
  unfold cnR at h1;rw[if_pos (by simp only at hr ⊢;omega)]at h1
  exact h1
end
end Go.Proofs.YtiejahgklcjhkaaGreatDoor

namespace Go.Proofs.YtiejahgklcjhkaaGreatDoor
section
variable {nm nh nr:ByteArray} {g:Gr}
theorem ycff(h:Tr g)(hit:isTreeB g=true){c:Conf}(hv:yfp (yeb nm nh nr) g c=true):yif g c=true:=by
 have hC:=yhc hv;have hpl:=h.good.2.2.1;unfold yif;rw[hit,Bool.true_and,ydz];refine⟨by rw[hC.len,hpl],fun v s hs=>?_⟩
 obtain⟨hvl,e⟩:=List.getElem?_eq_some_iff.1 hs;have e:c.getD v []=s:=by simp[List.getD,hs]
 obtain⟨h1,h2,h3⟩:=hC.row v (by rw[<- hC.len];exact hvl)
 rw[e]at h1 h2 h3
 have eb:yda g [(g.ids.length:Int)] v = [(0,(g.ids.length:Int))]:=by
  have:¬ (g.ids.length:Int) = -1:=by omega
  simp[yda,this]
 rw[eb];refine⟨h1,fun i b x hb hx=>?_⟩;have hi:=(List.getElem?_eq_some_iff.1 hb).1;have hi:i<1:=by simpa using hi
 obtain rfl:i=0:=by omega
 have hb:some (0,(g.ids.length:Int))=some b:=hb;cases hb
 have e2:s.getD 0 0=x:=by simp[List.getD,hx]
 rw[e2]at h2 h3;exact⟨h2,h3⟩
end
end Go.Proofs.YtiejahgklcjhkaaGreatDoor

namespace Go.Proofs.YtiejahgklcjhkaaGreatDoor
open Go
namespace Sh
open Ev Go.RowKit
set_option maxRecDepth 8000
theorem yyj{c:Conf}{v:Nat}(hv:v<c.length)(hl:c.length<=1000)(hs:0<(c.getD v []).length):Returns Tryz.prog 82 [.i .i64 v,.rf [ybe c]] (.i .i64 ((c.getD v []).getD 0 0)):=by
 refine Returns.of (ydcx _ _ ?_);simp only[c82,yczy,ycxd,ybe,yj,clash,go_sem,Int.reduceToNat,Nat.reduceEqDiff,Nat.reduceAdd,↓reduceIte,reduceCtorEq];exact⟨⟨by omega,by omega⟩,by omega,Sim.refl _⟩
def ybih(g:Gr)(c:Conf):Nat:=if yif g c=true then yem (fun v=>(c.getD v []).getD 0 0) g else 0
theorem ypp{g:Gr}(hI:GrI g){c:Conf}(hR:ybkh c):Returns Tryz.prog 27 [grV g,ybe c] (.i .u32 (ybih g c)):=by
 refine Returns.of (ycvr _ _ ?_);have hC:=ybna hI hR;unfold ybih;cases hcf:yif g c with
 | false =>
  rw[hcf]at hC;simp only[grV]at hC;simp only[c27,ycrj,ycrl,ycyv,grV,clash,go_sem,Nat.reduceEqDiff,Nat.reduceAdd,Nat.reduceLT,↓reduceIte,reduceCtorEq];refine hC.use ?_;simp only[thenO,clash,go_sem,Nat.reduceAdd,↓reduceIte];exact Sim.refl _
 | true =>
  obtain⟨ht,hcl,hc1⟩:=ybno hcf;have hg:=ybal ht;have h24:=hg.2.1;have hP:=ybjz hg (f:=fun v=>(c.getD v []).getD 0 0) (h:=82) (cp:=[.rf [ybe c]]) (by rfl) (fun v hv=>yyj (by omega) (by omega) (by rw[hc1 v (by omega)];decide))
  obtain⟨Z,hZ⟩:∃ Z,yem (fun v=>(c.getD v []).getD 0 0) g=Z:=⟨_,rfl⟩;rw[hcf]at hC;rw[hZ]at hP;rw[if_pos rfl,hZ];simp only[grV]at hC hP;simp only[c27,ycrj,ycrl,ydaa,grV,clash,go_sem,Nat.reduceEqDiff,Nat.reduceAdd,Nat.reduceLT,↓reduceIte,reduceCtorEq];refine hC.use ?_;simp only[thenO,clash,go_sem,Nat.reduceEqDiff,Nat.reduceAdd,Nat.reduceLeDiff,↓reduceIte,reduceCtorEq];refine .inl (hP.use ?_);simp only[go_sem]
  exact Sim.refl _
end Sh
end Go.Proofs.YtiejahgklcjhkaaGreatDoor

namespace Go.Proofs.YtiejahgklcjhkaaGreatDoor
namespace Sh
open Go Ev
theorem Cm.ct{P:Program}{g:FuncId}{args:List SV}{Q:SV->Own->Prop}{R:SV->Prop}(h:Cm P g [] [] args Q)(hq:∀ r o',Q r o'->vok o' 5 r/\R (view o' 5 r)):Ct P g args R:=by
 intro G m us hw hle hargs
 have hc0:Conc m.next G om0 ⟨[],[]⟩ ⟨0,.leaf⟩ (enterM m) :=
  ⟨hw,Nat.le_refl _,Nat.le_refl _,hle,fun β b h=>(by cases h),fun β _=>rfl,fun β γ k z k' z' h=>(by cases h),fun β k z h=>(by cases h),fun t v hv=>(by cases hv)⟩
 obtain⟨v,m1,r,o',F',ω',s0,t2,hrv,l1,l2,_,_,hQ⟩:=h m.next G om0 ⟨0,.leaf⟩ (enterM m) us hc0 hargs
 obtain⟨r3,r4⟩:=hq r o' hQ
 have hs0:ybh P (.call g us m) (.call v m1):=by
  obtain⟨n,b,l⟩:=m;exact ybh.relow s0
 have hm1:m.next<=m1.low:=t2.low
 have hold:∀ {i x},m.b.get i=some x->i<m.next:=fun {i x} q=>hw i x q
 have hview:∀ H:AM,Le F' H->(∀ β k z,ω' β=some (some (k,z)) -> ∀ b,m1.b.get k=some b->H k=some b)->RV H om0 (view o' 5 r) v:=fun H h1 h2=>yha t2 h1 h2 hrv r3
 have hs1:ybh P (.call g us m) (.call v ⟨m1.next,yfm m.b m1.b,m1.low⟩):=by
  intro hwm;obtain⟨ext,hcall⟩:=hs0 hwm
  have hget:∀ {i x},(yfm m.b m1.b).get i=some x->m.b.get i=some x\/m1.b.get i=some x:=fun {i x} q=>by
   rw[ycb]at q;split at q
   ·rename_i y hy;cases q;exact .inl hy
   ·exact .inr q
  refine⟨⟨ext.next,fun i b hq=>?_,fun i b h1 h2 hq=>?_,fun i b hq=>?_⟩,fun φ M w args' hR hs ha hf=>?_⟩
  ·rcases hget hq with q | q
   ·exact .inl ⟨b,q⟩
   ·exact ext.dom i b q
  ·rcases hget hq with q | q
   ·exact q
   ·exact ext.old i b h1 h2 q
  ·rcases hget hq with q | q
   ·exact Nat.lt_of_lt_of_le (hold q) ext.next
   ·exact ext.wf i b q
  ·refine(hcall φ M w args' hR hs ha hf).mono ?_;rintro e' w' ⟨v',rfl,φ',M',hgd,hv⟩;refine⟨v',rfl,φ',M',⟨hgd.le,hgd.out,hgd.rel,fun i b hq=>?_,hgd.frame,hgd.wg⟩,hv⟩;rcases hget hq with q | q
   ·have hi:=hold q;rw[hgd.frame i (fun z=>by omega) (.inr (Nat.lt_of_lt_of_le hi hm1))]
    exact hs i b q
   ·exact hgd.sub i b q
 have hnone:∀ {i},m.next<=i->m.b.get i=none:=fun {i} q=>by
  cases hh:m.b.get i with
  | none=>rfl
  | some x=>have:=hold hh;omega
 refine⟨_,_,view o' 5 r,hs1,hm1,fun i b hq=>?_,r4,hview _ (fun i b hq=>?_) (fun β k z hk b hq=>?_)⟩
 ·show(yfm m.b m1.b).get i=some b;rw[ycb,hq]
 ·unfold frsh;rcases l2 i b hq with q | q
  ·rw[if_neg (by have:=hold (hle i b q);omega)];exact q
  ·rw[if_pos q];show(yfm m.b m1.b).get i=some b;rw[ycb,hnone q];exact t2.sub i b hq
 ·unfold frsh;have:=(t2.apart β k z hk).2.1;rw[if_pos this];show(yfm m.b m1.b).get k=some b;rw[ycb,hnone this];exact hq
theorem Cm.weak {P:Program} {g:FuncId} {o:Own} {args:List SV} {Q R:SV->Own->Prop} (h:Cm P g [] o args Q)
  (hq:∀ r o',Q r o' -> ∃ r2 o2,Weak [] ⟨[(0,r)],o'⟩ ⟨[(0,r2)],o2⟩/\(cln (live o2) 5 r2=true/\allQ (fun p=>famCln (live o2) p.2) o2)/\R r2 o2):Cm P g [] o args R:=by
 intro lo G ω f m us hc hargs;obtain⟨v,m1,r,o',F',ω',s0,t2,hrv,l1,l2,_,_,hQ⟩:=h lo G ω f m us hc hargs;obtain⟨r2,o2,hw,hcl,hR⟩:=hq r o' hQ
 have t3:Conc lo F' ω' ⟨[(0,r)],o'⟩ ⟨1,tOf [v]⟩ m1:=⟨t2.wf,t2.low,t2.nxt,t2.sub,t2.own,t2.dom,t2.inj,t2.apart,fun t x hx=>by
  unfold look at hx;split at hx
  ·rename_i e
   cases hx
   exact⟨v,by rw[ybv];simp[<- e],hrv⟩
  ·cases hx⟩
 obtain⟨ω2,F2,k1,k2,k3,_⟩:=hw lo F' ω' _ m1 t3;obtain⟨u,q1,q2⟩:=k3.fr 0 r2 rfl
 have e:u=v:=by
  rw[ybv]at q1
  simpa using q1.symm
 subst e
 exact⟨u,m1,r2,o2,F2,ω2,s0,⟨k3.wf,k3.low,k3.nxt,k3.sub,k3.own,k3.dom,k3.inj,k3.apart,fun t x hx=>(by cases hx)⟩,q2,fun x b hx=>k1 x b (l1 x b hx),fun x b hx=>by
  rcases k2 x b hx with z | z
  ·exact l2 x b z
  ·exact .inr z,fun β hβ=>absurd hβ List.not_mem_nil,⟨hcl.1,hcl.2,trivial⟩,hR⟩
end Sh
end Go.Proofs.YtiejahgklcjhkaaGreatDoor

namespace Go.Proofs.YtiejahgklcjhkaaGreatDoor
namespace Sh
open Go Ev
end Sh
end Go.Proofs.YtiejahgklcjhkaaGreatDoor

namespace Go.Proofs.YtiejahgklcjhkaaGreatDoor
open Go
theorem TreeTo.tr{x:NetR}{g:Gr}(hg:ybb g)(h:TreeTo x g.ports.length g):Tr g:=by
 have hc:=Tre.conn hg h.tre;refine⟨hg,hc,ydbg hg hc ?_⟩;have:=h.count;have:=hg.1;omega
namespace Sh
open Ev Go.RowKit
set_option maxRecDepth 8000
theorem link_told(g:Gr):vok (yfa g.ports) 5 (yqz g)/\Sim (view (yfa g.ports) 5 (yqz g)) (grV g):=by
 obtain⟨P,hP⟩:∃ P,g.ports=P:=⟨_,rfl⟩;simp only[yqz,yfa,grV,hP,go_sem,Nat.reduceEqDiff,↓reduceIte];refine⟨fun q hq=>?_,?_⟩
 ·simp only[if_pos hq];exact⟨Nat.le_refl _,fun k hk=>by simp only[rowO,go_sem]⟩
 ·refine yqk ⟨Sim.refl _,?_,trivial⟩;refine ygm fun q hq=>?_;simp only[if_pos hq];simp only[rowO,yba,go_sem];exact⟨Sim.refl _,trivial⟩
theorem Tree_ret{x:NetR}(hx:x.ok){most:Nat}(hm:1<=most/\most<=24) :
  Ct Tryz.prog 21 [.ag (netC x),.i .i64 most] fun r=>∃ g,Tr g/\isTreeB g=true/\g.ports.length<=most/\Sim r (grV g) :=
 (Tree_ok hx hm).ct fun r o' ⟨g,hg,ht,hn,e1,e2⟩=>by
  subst e1 e2;have hT:=ht.tr hg;refine⟨(link_told g).1,g,hT,?_,hn,(link_told g).2⟩;unfold isTreeB;rw[hT.conn];have:=ht.count;have:=hg.1;simp only[Bool.true_and,decide_eq_true_eq];omega
end Sh
end Go.Proofs.YtiejahgklcjhkaaGreatDoor

namespace Go.Proofs.YtiejahgklcjhkaaGreatDoor
namespace Ev
open Go Go.RowKit
def hkN:Hooks:=⟨some 149,some 261,some 153,symB,[],some 158⟩
theorem ycwn:HooksOk Tryz.prog hkN:=⟨fun g h=>(by cases h;exact ybes),fun g h=>(by cases h;exact ynj),fun g h=>(by cases h;exact ybog),fun c hc=>(by cases hc),fun g h=>(by cases h;exact yut)⟩
set_option maxRecDepth 1000000 in
theorem ybcb:outV (ev Tryz.prog hkN 3000 (.call 30 [] mem0))=some (.bool true):=by kernel_rfl
theorem ycrb(w:World)(hG:GlW w):Calls Tryz.prog 30 #[] w fun e w'=>e = .returned (.bool true)/\Below w.heap.size w w' :=
 ytu mix yqe ycwn ybcb rfl rfl ⟨_,_,Tryz.func30,rfl⟩ w hG
end Ev
namespace Sh
open Go Ev Go.RowKit
theorem yzi:Returns Tryz.prog 30 [] (.b true):=by
 refine ybfe ⟨_,_,Tryz.func30,rfl⟩ (fun _=>.b) (fun _=>.simple rfl) fun G m us hG hr φ M w us' hRl hs hv=>?_;cases hr
 cases hv
 exact ycrb w fun x hx=>(hRl.gl x hx).1
end Sh
end Go.Proofs.YtiejahgklcjhkaaGreatDoor

namespace Go.Proofs.YtiejahgklcjhkaaGreatDoor
namespace Ev
open Go
theorem ynr:∀ l:List UInt8,eqBytes l l=true
 | []=>rfl
 | x :: l=>by
  show(Nat.beq x.toNat x.toNat && eqBytes l l)=true;rw[Nat.beq_refl,ynr l];rfl
theorem yrp{ρ:Nat->Nat}{a:Addr}(h:a.spot.isNone=true):eqAddr (renA ρ a) (renA ρ a)=true:=by
 rw[yid];unfold eqAddr;simp only[Nat.beq_refl,h,Bool.and_self]
theorem ybny{ρ:Nat->Nat}{v:Value}(hf:ynx v=true)(h:eq1 v v=true):eq1 (ren1 ρ v) (ren1 ρ v)=true:=by
 unfold ynx at hf;split at hf
 ·exact yrp hf
 ·rename_i a n c
  show(eqAddr (renA ρ a) (renA ρ a) && Nat.beq n n && Nat.beq c c)=true;rw[yrp hf,Nat.beq_refl,Nat.beq_refl];rfl
 ·rename_i h1 h2
  have:ren1 ρ v=v:=by
   unfold ren1;split
   ·rename_i a;exact absurd rfl (h1 a)
   ·rename_i a n c;exact absurd rfl (h2 a n c)
   ·rfl
  rw[this];exact h
theorem yoy{ρ:Nat->Nat}:∀ {l:List Value},l.all ynx=true->eqL1 l l=true->eqL1 (l.map (ren1 ρ)) (l.map (ren1 ρ))=true
 | [],_,_=>rfl
 | x :: l,hf,h=>by
  simp only[List.all_cons,Bool.and_eq_true]at hf;have h:(eq1 x x && eqL1 l l)=true:=h;rw[Bool.and_eq_true]at h;show(eq1 (ren1 ρ x) (ren1 ρ x) && eqL1 (l.map (ren1 ρ)) (l.map (ren1 ρ)))=true;rw[ybny hf.1 h.1,yoy hf.2 h.2];rfl
theorem ybmp{v:Value}(h1:∀ a,v = .agg a->False)(h2:∀ g a c,v = .func (.func g) a c->False):eq2 v v=eq1 v v:=by
 cases v with
 | agg a=>exact(h1 a rfl).elim
 | func f a c=>cases f with
  | func g=>exact(h2 g a c rfl).elim
  | _=>rfl
 | _=>rfl
theorem ybnc{ρ:Nat->Nat}{v:Value}(h1:∀ a,v = .agg a->False)(h2:∀ g a c,v = .func (.func g) a c->False)(hf:ynx v=true):ren2 ρ v=ren1 ρ v:=by
 cases v with
 | agg a=>exact(h1 a rfl).elim
 | func f a c=>cases f with
  | func g=>exact(h2 g a c rfl).elim
  | _=>cases hf
 | _=>rfl
theorem ytj{ρ:Nat->Nat}{v:Value}(hf:ynx v=true):(∀ a,ren1 ρ v = .agg a->False) /\ ∀ g a c,ren1 ρ v = .func (.func g) a c->False:=by
 cases v with
 | agg a=>cases hf
 | func f a c=>cases hf
 | pointer p=>cases p<;>exact⟨fun _ h=>(by cases h),fun _ _ _ h=>(by cases h)⟩
 | slice p n c=>cases p<;>exact⟨fun _ h=>(by cases h),fun _ _ _ h=>(by cases h)⟩
 | _=>exact⟨fun _ h=>(by cases h),fun _ _ _ h=>(by cases h)⟩
theorem ybub{ρ:Nat->Nat}{v:Value}(hf:yjb v=true)(h:eq2 v v=true):eq2 (ren2 ρ v) (ren2 ρ v)=true:=by
 unfold yjb at hf;split at hf
 ·rename_i a
  have h:eqL1 a.toList a.toList=true:=h;show eqL1 (a.toList.map (ren1 ρ)).toArray.toList (a.toList.map (ren1 ρ)).toArray.toList=true;exact yoy hf h
 ·rename_i g a c
  rw[Bool.and_eq_true]at hf;have h:(Nat.beq g g && eqL1 a.toList a.toList && eqL1 c.toList c.toList)=true:=h;simp only[Bool.and_eq_true]at h;show(Nat.beq g g && eqL1 (a.toList.map (ren1 ρ)).toArray.toList (a.toList.map (ren1 ρ)).toArray.toList && eqL1 (c.toList.map (ren1 ρ)).toArray.toList (c.toList.map (ren1 ρ)).toArray.toList)=true;rw[Nat.beq_refl,yoy hf.1 h.1.2,yoy hf.2 h.2];rfl
 ·rename_i h1 h2
  rw[ybmp h1 h2]at h;rw[ybnc h1 h2 hf,ybmp (ytj hf).1 (ytj hf).2];exact ybny hf h
def reflB(b:BlkL):Bool:=b.l.all (fun v=>eq2 v v && yjb v) && Nat.blt b.l.length 1000000
theorem yqu{ρ:Nat->Nat}{b:BlkL}(h:reflB b=true):∀ v ∈ (b.ren ρ).l,eq2 v v=true:=by
 unfold reflB at h;rw[Bool.and_eq_true]at h;intro v hv;obtain⟨x,hx,rfl⟩:=List.mem_map.1 hv;have:=List.all_eq_true.1 h.1 x hx;rw[Bool.and_eq_true]at this;exact ybub this.2 this.1
theorem ykq{l:List Value}(h:∀ v ∈ l,eq2 v v=true):∀ (k:List Value) (n:Nat),l.drop n=k->cellsAre (tOf l) n k=true
 | [],_,_=>rfl
 | v :: k,n,e=>by
  have hn:n<l.length:=by
   rcases Nat.lt_or_ge n l.length with q | q
   ·exact q
   ·rw[List.drop_eq_nil_of_le q]at e;cases e
  rw[List.drop_eq_getElem_cons hn]at e
  injection e with e1 e2
  unfold cellsAre;rw[ybv,List.getElem?_eq_getElem hn,e1];simp only;rw[h v (by rw[<- e1];exact List.getElem_mem _),ykq h k (n+1) e2]
  rfl
theorem ylx{m:Mem}{b:BlkL}(hg:m.b.get b.i=some b.blk)(h:∀ v ∈ b.l,eq2 v v=true)(hl:Nat.blt b.l.length 1000000=true):blkIs m b=true:=by
 unfold blkIs;rw[hg];show(Nat.beq b.l.length b.l.length && Nat.beq b.e b.e && Nat.beq b.z b.z && Nat.blt b.l.length 1000000 && cellsAre (tOf b.l) 0 b.l)=true;rw[Nat.beq_refl,Nat.beq_refl,Nat.beq_refl,hl,ykq h b.l 0 (List.drop_zero ..)];rfl
theorem ypn:∀ {l:List BlkL} {t:T ABlk} {i:Nat},(∀ b ∈ l,b.i ≠ i)->(blksT t l).get i=t.get i
 | [],_,_,_=>rfl
 | b :: l,t,i,h=>by
  unfold blksT;rw[T.strict_eq,ypn fun c hc=>h c (List.mem_cons_of_mem _ hc),T.set_at,if_neg (fun e=>h b List.mem_cons_self e.symm)]
theorem yon:∀ {l:List BlkL} {t:T ABlk},yfj (l.map (·.i))=true -> ∀ b ∈ l,(blksT t l).get b.i=some b.blk
 | [],_,_,b,hb=>by cases hb
 | c :: l,t,h,b,hb=>by
  have h:(!(l.map (·.i)).elem c.i && yfj (l.map (·.i)))=true:=h;rw[Bool.and_eq_true,Bool.not_eq_true']at h;unfold blksT;rw[T.strict_eq];rcases List.mem_cons.1 hb with e | hb
  ·subst e;rw[ypn fun d hd e=>?_,T.set_at,if_pos rfl];have:(l.map (·.i)).elem b.i=true:=List.elem_eq_true_of_mem (List.mem_map.2 ⟨d,hd,e⟩);rw[this]at h;cases h.1
  ·exact yon h.2 b hb
theorem ykv:∀ {l:List Nat},l.Nodup->yfj l=true
 | [],_=>rfl
 | x :: l,h=>by
  rw[List.nodup_cons]at h;show(!(l.elem x) && yfj l)=true
  have:l.elem x=false:=by
   cases hq:l.elem x with
   | false=>rfl
   | true=>exact absurd (by simpa using hq) h.1
  rw[this,ykv h.2];rfl
theorem yuz:∀ {l:List Nat},yfj l=true->l.Nodup
 | [],_=>List.nodup_nil
 | x :: l,h=>by
  have h:(!(l.elem x) && yfj l)=true:=h;rw[Bool.and_eq_true,Bool.not_eq_true']at h;rw[List.nodup_cons];refine⟨fun hm=>?_,yuz h.2⟩;have:l.elem x=true:=by simpa using hm
  rw[this]at h;cases h.1
theorem ybel{d:Nat}:∀ {l:List BlkL} {k:List Nat},(l.map (·.i)).Nodup->l.length=k.length->l.map (fun b=>yts l k d b.i)=k
 | [],[],_,_=>rfl
 | b :: l,t :: k,hn,hl=>by
  rw[List.map_cons,List.nodup_cons]at hn;have ih:=ybel (d:=d) hn.2 (by simpa using hl)
  rw[List.map_cons];have e1:yts (b :: l) (t :: k) d b.i=t:=by unfold yts;rw[Nat.beq_refl];rfl
  rw[e1];congr 1;refine Eq.trans (List.map_congr_left fun c hc=>?_) ih;show(bif Nat.beq b.i c.i then t else yts l k d c.i)=_
  have:Nat.beq b.i c.i=false:=by
   cases hq:Nat.beq b.i c.i with
   | false=>rfl
   | true=>exact absurd (List.mem_map.2 ⟨c,hc,(Nat.eq_of_beq_eq_true hq).symm⟩) hn.1
  rw[this];rfl
 | [],_ :: _,_,h=>by cases h
 | _ :: _,[],_,h=>by cases h
def Fact.still(f:Fact):Bool:=Nat.ble f.next0 f.low && f.args.all yjb && ybqg f.v && f.pre.all (fun b=>Nat.blt b.i f.next0 && reflB b) && yfj (f.pre.map (·.i)) && f.post.all (fun b=>Nat.ble f.next0 b.i && Nat.blt b.i f.next1 && reflB b) && yfj (f.post.map (·.i)) && Nat.ble f.next0 f.next1
theorem yckt{a b:Nat}(h:Nat.blt a b=true):a<b:=Nat.lt_of_lt_of_le (Nat.lt_succ_self _) (Nat.le_of_ble_eq_true h)
theorem ybed{a b:Nat}(h:a<b):Nat.blt a b=true:=Nat.ble_eq_true_of_le h
theorem yjv{f:Fact}(h:f.still=true):f.next0<=f.low/\(f.args.all yjb=true/\ybqg f.v=true)/\(∀ b ∈ f.pre,b.i<f.next0/\reflB b=true)/\(f.pre.map (·.i)).Nodup/\(∀ b ∈ f.post,f.next0<=b.i/\b.i<f.next1/\reflB b=true)/\(f.post.map (·.i)).Nodup/\f.next0<=f.next1:=by
 unfold Fact.still at h;simp only[Bool.and_eq_true]at h;obtain⟨⟨⟨⟨⟨⟨⟨h1,h2⟩,h3⟩,h4⟩,h5⟩,h6⟩,h7⟩,h8⟩:=h;refine⟨Nat.le_of_ble_eq_true h1,⟨h2,h3⟩,fun b hb=>?_,yuz h5,fun b hb=>?_,yuz h7,Nat.le_of_ble_eq_true h8⟩
 ·have:=List.all_eq_true.1 h4 b hb;rw[Bool.and_eq_true]at this;exact⟨yckt this.1,this.2⟩
 ·have:=List.all_eq_true.1 h6 b hb;simp only[Bool.and_eq_true]at this;exact⟨Nat.le_of_ble_eq_true this.1.1,yckt this.1.2,this.2⟩
theorem ybks{f:Fact}{tgt:List Nat}{n0:Nat}(hp:∀ b ∈ f.pre,b.i<f.next0/\reflB b=true)(hn:(f.pre.map (·.i)).Nodup)(hl:f.pre.length=tgt.length):f.pre.map (fun b=>f.rho tgt n0 b.i)=tgt:=by
 refine Eq.trans (List.map_congr_left fun b hb=>?_) (ybel (d:=Nat.add n0 (Nat.sub f.next1 f.next0)) hn hl);unfold Fact.rho;have h1:=(hp b hb).1
 have:(Nat.ble f.next0 b.i && Nat.blt b.i f.next1)=false:=by
  rw[Bool.and_eq_false_iff];left
  cases hq:Nat.ble f.next0 b.i with
  | false=>rfl
  | true=>have:=Nat.le_of_ble_eq_true hq;omega
 rw[this];rfl
theorem ybfl{f:Fact}{tgt:List Nat}{n0 i:Nat}(h1:f.next0<=i)(h2:i<f.next1):f.rho tgt n0 i=i - f.next0+n0:=by
 unfold Fact.rho;rw[Bool.cond_eq_ite,if_pos (by rw[Nat.ble_eq_true_of_le h1,ybed h2];rfl)]
 rfl
theorem yss{P:Program}{f:Fact}{tgt:List Nat}{n0:Nat}(hok:yev P f)(hs:f.still=true)(hl:f.pre.length=tgt.length)(hn:tgt.Nodup)(hlt:∀ t ∈ tgt,t<n0):yev P (f.move tgt n0):=by
 refine ywj hok ?_;obtain⟨s1,⟨s2,s3⟩,s4,s5,s6,s7,s8⟩:=yjv hs
 have hpi:(f.move tgt n0).pre.map (·.i)=tgt:=by
  show(f.pre.map (BlkL.ren (f.rho tgt n0))).map (·.i)=tgt;rw[List.map_map];exact Eq.trans (List.map_congr_left fun b hb=>b.ygk) (ybks (n0:=n0) s4 s5 hl)
 have hqi:yfj ((f.move tgt n0).post.map (·.i))=true:=by
  refine ykv ?_;show((f.post.map (BlkL.ren (f.rho tgt n0))).map (·.i)).Nodup
  have e:(f.post.map (BlkL.ren (f.rho tgt n0))).map (·.i)=(f.post.map (·.i)).map (fun i=>i - f.next0+n0):=by
   rw[List.map_map,List.map_map];refine List.map_congr_left fun b hb=>?_;show(b.ren (f.rho tgt n0)).i=b.i - f.next0+n0;rw[b.ygk,ybfl (s6 b hb).1 (s6 b hb).2.1]
  rw[e];unfold List.Nodup at s7 ⊢;rw[List.pairwise_map];refine List.Pairwise.imp_of_mem (fun {x y} hx hy h=>?_) s7;obtain⟨bx,hbx,rfl⟩:=List.mem_map.1 hx;obtain⟨by_,hby,rfl⟩:=List.mem_map.1 hy;have:=(s6 bx hbx).1;have:=(s6 by_ hby).1;omega
 have hpre:yfj ((f.move tgt n0).pre.map (·.i))=true:=by rw[hpi];exact ykv hn
 unfold Fact.moves;simp only[Bool.and_eq_true];refine⟨⟨⟨⟨⟨⟨⟨⟨Nat.ble_eq_true_of_le s1,s2⟩,s3⟩,?_⟩,?_⟩,hpre⟩,?_⟩,?_⟩,Nat.ble_eq_true_of_le s8⟩
 ·refine List.all_eq_true.2 fun b hb=>?_;have:=(s4 b hb).2;unfold reflB at this;rw[Bool.and_eq_true]at this;rw[ybed (s4 b hb).1,Bool.true_and];exact List.all_eq_true.2 fun v hv=>by have:=List.all_eq_true.1 this.1 v hv;rw[Bool.and_eq_true]at this;exact this.2
 ·refine List.all_eq_true.2 fun b hb=>?_;have:=(s6 b hb).2.2;unfold reflB at this;rw[Bool.and_eq_true]at this;rw[ybed (s6 b hb).2.1,Bool.true_and];exact List.all_eq_true.2 fun v hv=>by have:=List.all_eq_true.1 this.1 v hv;rw[Bool.and_eq_true]at this;exact this.2
 ·refine List.all_eq_true.2 fun b' hb'=>?_;obtain⟨b,hb,rfl⟩:=List.mem_map.1 hb';have h2:=(s4 b hb).2;have h3:(b.ren (f.rho tgt n0)).i ∈ (f.move tgt n0).pre.map (·.i):=List.mem_map.2 ⟨_,hb',rfl⟩;rw[hpi]at h3;rw[ybed (hlt _ h3),Bool.true_and];refine ylx (yon hpre _ hb') (yqu h2) ?_;show Nat.blt (b.l.map _).length 1000000=true;rw[List.length_map];unfold reflB at h2;rw[Bool.and_eq_true]at h2
  exact h2.2
 ·refine List.all_eq_true.2 fun b' hb'=>?_;obtain⟨b,hb,rfl⟩:=List.mem_map.1 hb';have h2:=(s6 b hb).2.2;refine ylx (yon hqi _ hb') (yqu h2) ?_;show Nat.blt (b.l.map _).length 1000000=true;rw[List.length_map];unfold reflB at h2;rw[Bool.and_eq_true]at h2;exact h2.2
end Ev
end Go.Proofs.YtiejahgklcjhkaaGreatDoor

namespace Go.Proofs.YtiejahgklcjhkaaGreatDoor
namespace Sh
open Go Ev

def Lies(B:List BlkL)(v:Value)(F:AM)(u:Value):Prop :=
 ∃ ρ:Nat->Nat,(∀ b ∈ B,∀ c ∈ B,ρ b.i=ρ c.i->b.i=c.i)/\(∀ b ∈ B,F (ρ b.i)=some (b.ren ρ).blk)/\u=ren1 ρ v
theorem Lies.mono{B:List BlkL}{v:Value}(F G:AM)(u:Value)(h:Le F G)(k:Lies B v F u):Lies B v G u:=by
 obtain⟨ρ,h1,h2,h3⟩:=k;exact⟨ρ,h1,fun b hb=>h _ _ (h2 b hb),h3⟩

def ydfd(B:List BlkL)(j:Nat):Option BlkL:=B.find? fun b=>Nat.beq b.i j
def ybvr(p:Nat->Bool):Nat->Bool
 | 0=>true
 | n+1=>p n && ybvr p n
theorem ybei{p:Nat->Bool}:∀ {n:Nat},ybvr p n=true -> ∀ k,k<n->p k=true
 | 0,_,k,h=>absurd h (Nat.not_lt_zero k)
 | n+1,h,k,hk=>by
  have h:(p n && ybvr p n)=true:=h;rw[Bool.and_eq_true]at h
  by_cases q:k=n
  ·rw[q];exact h.1
  ·exact ybei h.2 k (by omega)
def ybbd(B:List BlkL)(z n:Nat)(row:Nat->List Value->Bool):Value->Bool
 | .slice (some a) m _=>a.spot.isNone && Nat.beq m n && (match ydfd B a.block with
  | some b=>Nat.beq b.z z && Nat.ble (a.off+n * z) b.l.length && ybvr (fun k=>row k ((b.l.drop (a.off+k * z)).take z)) n
  | none=>false)
 | .slice none 0 0=>Nat.beq n 0
 | _=>false
theorem yok {B:List BlkL} {F:AM} {ρ:Nat->Nat} {z n:Nat} {row:Nat->List Value->Bool} {v:Value} {g:Nat->List SV} (hF:∀ b ∈ B,F (ρ b.i)=some (b.ren ρ).blk) (h:ybbd B z n row v=true)
  (hr:∀ k L,k<n->row k L=true->L.length=z/\RVL F om0 (g k) (L.map (ren2 ρ))/\(g k).all one1=true):RV F om0 (.sl z n g) (ren1 ρ v):=by
 unfold ybbd at h;split at h
 ·rename_i a m c
  simp only[Bool.and_eq_true]at h;obtain⟨⟨h1,h2⟩,h3⟩:=h;split at h3
  ·rename_i b hb
   simp only[Bool.and_eq_true]at h3;obtain⟨⟨h3,h4⟩,h5⟩:=h3;have hm:m=n:=Nat.eq_of_beq_eq_true h2;have hz:=Nat.eq_of_beq_eq_true h3;have h4:=Nat.le_of_ble_eq_true h4;have hmem:=List.mem_of_find?_eq_some hb;have hi:b.i=a.block:=Nat.eq_of_beq_eq_true (List.find?_some (p:=fun b:BlkL=>Nat.beq b.i a.block) hb);have h6:=hF b hmem;rw[hi]at h6;show RV F om0 _ (.slice (some (renA ρ a)) m c);rw[yid];subst hm
   obtain⟨A,o,sp⟩:=a;have hsp:sp=none:=by simpa using h1
   subst hsp;have h6:F (ρ A)=some (.cells (tOf (b.l.map (ren2 ρ))) (b.l.map (ren2 ρ)).length b.e b.z):=h6;have hrow:∀ k,k<m->_:=fun k hk=>hr k _ hk (ybei h5 k hk);refine .sl (L:=fun k=>((b.l.drop (o+k * z)).take z).map (ren2 ρ)) h6 (.inl hz) (by rw[List.length_map];exact h4) ?_ ?_ (fun k hk=>(hrow k hk).2.1) (fun k hk=>(hrow k hk).2.2)
   ·intro k hk;rw[List.length_map];exact(hrow k hk).1
   ·intro k hk j hj;rw[ybv];simp only[List.getElem?_map,List.getElem?_take,List.getElem?_drop,hj,if_true]
  ·cases h3
 ·have h:Nat.beq n 0=true:=h;have h0:=Nat.eq_of_beq_eq_true h;subst h0;exact .sl0 (.inl rfl)
 ·cases h
def isI(v:Value)(n:Int):Bool:=match v with
 | .int .i64 m=>eqInt m n
 | _=>false
def isS(v:Value)(s:ByteArray):Bool:=match v with
 | .string t=>eqBytes t.data.toList s.data.toList
 | _=>false
theorem yne{F:AM}{ρ:Nat->Nat}{v:Value}{n:Int}(h:isI v n=true):RV F om0 (.i .i64 n) (ren2 ρ v):=by
 unfold isI at h;split at h
 ·rw[yoo h];exact .i
 ·cases h
theorem ycar{F:AM}{ρ:Nat->Nat}{v:Value}{s:ByteArray}(h:isS v s=true):RV F om0 (.a (.string s)) (ren2 ρ v):=by
 unfold isS at h;split at h
 ·rename_i t
  have e:=ymq h
  have:t=s:=by
   cases t;cases s
   congr 1;exact Array.toList_inj.1 e
  rw[this];exact .a rfl
 ·cases h
def ycwt(ls:List (Int × Int))(k:Nat):List Value->Bool
 | [x,y]=>isI x (ls.getD k (0,0)).1 && isI y (ls.getD k (0,0)).2
 | _=>false
def ycoa(l:List VarR)(k:Nat):List Value->Bool
 | [s,a,b,c,d,e]=>isS s (l.getD k default).name && isI a (l.getD k default).kind && isI b (l.getD k default).lo && isI c (l.getD k default).hi && isI d (l.getD k default).perNode && isI e (l.getD k default).perID
 | _=>false
def yvi(B:List BlkL)(ls:List (Int × Int))(v:Value):Bool:=ybbd B 2 ls.length (ycwt ls) v
def isSl:Value->Bool
 | .slice _ _ _=>true
 | _=>false
def ybsq(B:List BlkL)(l:List SetR)(k:Nat):List Value->Bool
 | [a,v]=>isI a (l.getD k default).var && isSl v && yvi B (l.getD k default).val v
 | _=>false
def ybua(B:List BlkL)(l:List RuleR)(k:Nat):List Value->Bool
 | [s,v,w]=>isS s (l.getD k default).name && isSl v && yvi B (l.getD k default).guard v && isSl w && ybbd B 2 (l.getD k default).sets.length (ybsq B (l.getD k default).sets) w
 | _=>false
def ybty(B:List BlkL)(v:Value)(l:List VarR):Bool:=ybbd B 6 l.length (ycoa l) v
def ybdl(B:List BlkL)(v:Value)(l:List RuleR):Bool:=ybbd B 3 l.length (ybua B l) v
section
variable {B:List BlkL} {F:AM} {ρ:Nat->Nat}
theorem ybcy{v:Value}(h:isSl v=true):ren2 ρ v=ren1 ρ v:=by
 unfold isSl at h;split at h
 ·rfl
 ·cases h
theorem yqo(hF:∀ b ∈ B,F (ρ b.i)=some (b.ren ρ).blk){ls:List (Int × Int)}{v:Value}(h:yvi B ls v=true):RV F om0 (yba ls) (ren1 ρ v):=by
 refine yok hF h fun k L hk hq=>?_;unfold ycwt at hq;split at hq
 ·simp only[Bool.and_eq_true]at hq;exact⟨rfl,.cons (yne hq.1) (.cons (yne hq.2) .nil),rfl⟩
 ·cases hq
theorem ybhu(hF:∀ b ∈ B,F (ρ b.i)=some (b.ren ρ).blk){l:List VarR}{v:Value}(h:ybty B v l=true):RV F om0 (ych l) (ren1 ρ v):=by
 refine yok hF h fun k L hk hq=>?_;unfold ycoa at hq;split at hq
 ·simp only[Bool.and_eq_true]at hq;obtain⟨⟨⟨⟨⟨h1,h2⟩,h3⟩,h4⟩,h5⟩,h6⟩:=hq;exact⟨rfl,.cons (ycar h1) (.cons (yne h2) (.cons (yne h3) (.cons (yne h4) (.cons (yne h5) (.cons (yne h6) .nil))))),rfl⟩
 ·cases hq
theorem ybgp(hF:∀ b ∈ B,F (ρ b.i)=some (b.ren ρ).blk){l:List SetR}{v:Value}(h:ybbd B 2 l.length (ybsq B l) v=true):RV F om0 (ygs l) (ren1 ρ v):=by
 refine yok hF h fun k L hk hq=>?_;unfold ybsq at hq;split at hq
 ·simp only[Bool.and_eq_true]at hq;obtain⟨⟨h1,h2⟩,h3⟩:=hq;refine⟨rfl,.cons (yne h1) (.cons ?_ .nil),rfl⟩;rw[ybcy h2];exact yqo hF h3
 ·cases hq
theorem ybbi(hF:∀ b ∈ B,F (ρ b.i)=some (b.ren ρ).blk){l:List RuleR}{v:Value}(h:ybdl B v l=true):RV F om0 (yca l) (ren1 ρ v):=by
 refine yok hF h fun k L hk hq=>?_;unfold ybua at hq;split at hq
 ·simp only[Bool.and_eq_true]at hq;obtain⟨⟨⟨⟨h1,h2⟩,h3⟩,h4⟩,h5⟩:=hq;refine⟨rfl,.cons (ycar h1) (.cons ?_ (.cons ?_ .nil)),rfl⟩
  ·rw[ybcy h2];exact yqo hF h3
  ·rw[ybcy h4];exact ybgp hF h5
 ·cases hq
end
structure LaidP(fp:Fact)(t:ByteArray)(p:ProgR)(vv vr:Value)(Bv Br:List BlkL):Prop where
 args:fp.args = [.string t]
 pre:fp.pre = []
 v:fp.v = .agg #[.string p.name,vv,vr]
 still:fp.still=true
 bv:∀ b ∈ Bv,b ∈ fp.post
 br:∀ b ∈ Br,b ∈ fp.post
 vars:ybty Bv vv p.vars=true
 rules:ybdl Br vr p.rules=true
theorem ybva{P:Program}{fp:Fact}{t:ByteArray}{p:ProgR}{vv vr:Value}{Bv Br:List BlkL}(hok:yev P fp)(h:LaidP fp t p vv vr Bv Br):Returns P fp.g [.a (.string t)] (.ag (yfl (Lies Bv vv) (Lies Br vr) p)):=by
 intro G m us hwf hle hus
 have hu:us = [.string t]:=by
  cases hus with
  | cons a b=>cases a with | a _=>cases b with | nil=>rfl
 subst hu;obtain⟨s1,⟨s2,s3⟩,s4,s5,s6,s7,s8⟩:=yjv h.still;have hmv:=yss (tgt:=[]) (n0:=m.next) hok h.still (by rw[h.pre];rfl) List.nodup_nil (fun t ht=>by cases ht)
 obtain⟨ρ,hρ⟩:∃ ρ,fp.rho [] m.next=ρ:=⟨_,rfl⟩
 have hpost:(fp.move [] m.next).post=fp.post.map (BlkL.ren ρ):=by rw[<- hρ];rfl
 have hv:(fp.move [] m.next).v = .agg #[.string p.name,ren1 ρ vv,ren1 ρ vr]:=by
  show renV (fp.rho [] m.next) fp.v=_
  rw[hρ,h.v];rfl
 have hpre:(fp.move [] m.next).pre = []:=by
  show fp.pre.map _ = [];rw[h.pre];rfl
 have hfit:(fp.move [] m.next).fits fp.g [.string t] m=true:=by
  unfold Fact.fits;rw[hpre];show(Nat.beq fp.g fp.g && Nat.beq m.next m.next && eqL2 (fp.args.map (ren2 _)) [.string t] && true)=true
  rw[Nat.beq_refl,Nat.beq_refl,h.args];show(true && true && (eqBytes t.data.toList t.data.toList && true) && true)=true;rw[ynr];rfl
 have hri:∀ b ∈ fp.post,ρ b.i=b.i - fp.next0+m.next:=fun b hb=>by rw[<- hρ];exact ybfl (s6 b hb).1 (s6 b hb).2.1
 have hnd:yfj ((fp.post.map (BlkL.ren ρ)).map (·.i))=true:=by
  refine ykv ?_
  have e:(fp.post.map (BlkL.ren ρ)).map (·.i)=(fp.post.map (·.i)).map (fun i=>i - fp.next0+m.next):=by
   rw[List.map_map,List.map_map];refine List.map_congr_left fun b hb=>?_;show(b.ren ρ).i=_;rw[b.ygk,hri b hb];rfl
  rw[e];unfold List.Nodup at s7 ⊢;rw[List.pairwise_map];refine List.Pairwise.imp_of_mem (fun {x y} hx hy h=>?_) s7;obtain⟨bx,hbx,rfl⟩:=List.mem_map.1 hx;obtain⟨by_,hby,rfl⟩:=List.mem_map.1 hy;have:=(s6 bx hbx).1;have:=(s6 by_ hby).1;omega
 have hs:=ytq hmv hfit;unfold Fact.out at hs;rw[hv,hpre,hpost]at hs;refine⟨_,_,_,hs,Nat.le_refl _,?_,rfl,?_⟩
 ·intro i b hb;show(blksT m.b (fp.post.map (BlkL.ren ρ))).get i=some b;rw[ypn fun c hc=>?_]
  ·exact hb
  ·obtain⟨c,hc',rfl⟩:=List.mem_map.1 hc;have:=hwf i b hb;rw[c.ygk,hri c hc'];omega
 ·have hF:∀ b ∈ fp.post,frsh m.next ⟨(fp.move [] m.next).next1,blksT m.b (fp.post.map (BlkL.ren ρ)),(fp.move [] m.next).low⟩ G (ρ b.i)=some (b.ren ρ).blk:=fun b hb=>by
   unfold frsh;rw[if_pos (by rw[hri b hb];omega)]
   have:=yon (t:=m.b) hnd _ (List.mem_map.2 ⟨b,hb,rfl⟩);rw[b.ygk]at this;exact this
  have hinj:∀ b ∈ fp.post,∀ c ∈ fp.post,ρ b.i=ρ c.i->b.i=c.i:=fun b hb c hc e=>by
   rw[hri b hb,hri c hc]at e;have:=(s6 b hb).1;have:=(s6 c hc).1;omega
  refine .ag (.cons (.a rfl) (.cons (.ex ?_ (fun A B w=>Lies.mono A B w) ?_) (.cons (.ex ?_ (fun A B w=>Lies.mono A B w) ?_) .nil)))
  ·exact⟨ρ,fun b hb c hc=>hinj b (h.bv b hb) c (h.bv c hc),fun b hb=>hF b (h.bv b hb),rfl⟩
  ·exact ybhu (fun b hb=>hF b (h.bv b hb)) h.vars
  ·exact⟨ρ,fun b hb c hc=>hinj b (h.br b hb) c (h.br c hc),fun b hb=>hF b (h.br b hb),rfl⟩
  ·exact ybbi (fun b hb=>hF b (h.br b hb)) h.rules

def inB(B:List BlkL):Value->Bool
 | .slice (some a) _ _=>(B.map (·.i)).elem a.block
 | .pointer (some a)=>(B.map (·.i)).elem a.block
 | .agg _=>false
 | .func _ _ _=>false
 | _=>true
theorem ygv{B:List BlkL}{ρ σ:Nat->Nat}(h:∀ b ∈ B,ρ b.i=σ b.i){v:Value}(hv:inB B v=true):ren1 ρ v=ren1 σ v:=by
 have hk:∀ j,(B.map (·.i)).elem j=true->ρ j=σ j:=fun j hj=>by
  have:j ∈ B.map (·.i):=by simpa using hj
  obtain⟨b,hb,rfl⟩:=List.mem_map.1 this;exact h b hb
 cases v with
 | slice p n c=>cases p with
  | none=>rfl
  | some a =>
   show Value.slice (some (renA ρ a)) n c = .slice (some (renA σ a)) n c;rw[yid,yid,hk _ hv]
 | pointer p=>cases p with
  | none=>rfl
  | some a =>
   show Value.pointer (some (renA ρ a)) = .pointer (some (renA σ a));rw[yid,yid,hk _ hv]
 | agg a=>cases hv
 | func f a c=>cases hv
 | _=>rfl
theorem ybda{B:List BlkL}{τ:Nat->Nat}{v:Value}(hv:inB B v=true):ren2 τ v=ren1 τ v:=by
 cases v with
 | agg a=>cases hv
 | func f a c=>cases hv
 | _=>rfl
theorem ybhs{B:List BlkL}{ρ σ:Nat->Nat}(h:∀ b ∈ B,ρ b.i=σ b.i){v:Value}(hv:inB B v=true):ren2 ρ v=ren2 σ v:=by
 rw[ybda hv,ybda hv];exact ygv h hv
def ybcx(B:List BlkL):Bool:=B.all fun b=>b.l.all (inB B)
theorem yxj{B:List BlkL}{ρ σ:Nat->Nat}(hc:ybcx B=true)(h:∀ b ∈ B,ρ b.i=σ b.i){b:BlkL}(hb:b ∈ B):b.ren ρ=b.ren σ:=by
 have h1:=List.all_eq_true.1 (List.all_eq_true.1 hc b hb)
 have e:∀ τ:Nat->Nat,b.ren τ=⟨τ b.i,b.e,b.z,b.l.map (ren2 τ)⟩:=fun τ=>by
  unfold BlkL.ren;rw[forceN_eq]
 rw[e,e,h b hb];congr 1;exact List.map_congr_left fun v hv=>ybhs h (h1 v hv)
theorem ysf{low:Nat}:∀ {l:List BlkL} {t:T ABlk},(∀ b ∈ l,b.i<low)->dropT t low l=t
 | [],_,_=>rfl
 | b :: l,t,h=>by
  have hb:=h b List.mem_cons_self;unfold dropT
  have e:Nat.ble low b.i=false:=by
   cases q:Nat.ble low b.i with
   | false=>rfl
   | true=>have:=Nat.le_of_ble_eq_true q;omega
  rw[e,iteB_eq,if_neg (by simp)]
  exact ysf fun c hc=>h c (List.mem_cons_of_mem _ hc)
structure GoodV(fv:Fact)(p:ProgR)(vv vr:Value)(Bv Br:List BlkL):Prop where
 args:fv.args = [.agg #[.string p.name,vv,vr]]
 pre:∀ b ∈ fv.pre,b ∈ Bv\/b ∈ Br
 bv:∀ b ∈ Bv,b ∈ fv.pre
 br:∀ b ∈ Br,b ∈ fv.pre
 v:fv.v = .bool true
 post:fv.post = []
 still:fv.still=true
 apart:(Bv.all fun b=>Br.all fun c=>!(Nat.beq b.e c.e) && !(Nat.beq b.i c.i))=true
 cv:ybcx Bv=true
 cr:ybcx Br=true
 iv:inB Bv vv=true
 ir:inB Br vr=true
 refl:eq2 (.agg #[.string p.name,vv,vr]) (.agg #[.string p.name,vv,vr])=true
theorem ybxu{P:Program}{fv:Fact}{p:ProgR}{vv vr:Value}{Bv Br:List BlkL}(hok:yev P fv)(h:GoodV fv p vv vr Bv Br):Returns P fv.g [.ag (yfl (Lies Bv vv) (Lies Br vr) p)] (.b true):=by
 intro G m us hwf hle hus
 obtain⟨ρ1,ρ2,hu,a1,a2,a3,a4⟩:∃ ρ1 ρ2:Nat->Nat,us = [.agg #[.string p.name,ren1 ρ1 vv,ren1 ρ2 vr]]/\(∀ b ∈ Bv,∀ c ∈ Bv,ρ1 b.i=ρ1 c.i->b.i=c.i)/\(∀ b ∈ Bv,G (ρ1 b.i)=some (b.ren ρ1).blk) /\
   (∀ b ∈ Br,∀ c ∈ Br,ρ2 b.i=ρ2 c.i->b.i=c.i) /\ ∀ b ∈ Br,G (ρ2 b.i)=some (b.ren ρ2).blk:=by
  cases hus with
  | cons a b =>
   cases b
   cases a with
   | ag hl =>
    cases hl with
    | cons x1 hl =>
     cases x1
     cases hl with
     | cons x2 hl =>
      cases x2 with
      | ex q2 _ _ =>
       cases hl with
       | cons x3 hl =>
        cases x3 with
        | ex q3 _ _ =>
         cases hl
         obtain⟨ρ1,b1,b2,rfl⟩:=q2;obtain⟨ρ2,b3,b4,rfl⟩:=q3;exact⟨ρ1,ρ2,rfl,b1,b2,b3,b4⟩
 subst hu;obtain⟨s1,⟨s2,s3⟩,s4,s5,s6,s7,s8⟩:=yjv h.still
 have hap:∀ b ∈ Bv,∀ c ∈ Br,b.e ≠ c.e/\b.i ≠ c.i:=fun b hb c hc=>by
  have:=List.all_eq_true.1 (List.all_eq_true.1 h.apart b hb) c hc;simp only[Bool.and_eq_true,Bool.not_eq_true']at this;exact⟨fun e=>(by rw[e,Nat.beq_refl]at this;exact absurd this.1 (by decide)),fun e=>(by rw[e,Nat.beq_refl]at this;exact absurd this.2 (by decide))⟩
 let σ:Nat->Nat:=fun i=>if (Bv.map (·.i)).elem i then ρ1 i else ρ2 i
 have hcross:∀ b ∈ Bv,∀ c ∈ Br,ρ1 b.i ≠ ρ2 c.i:=fun b hb c hc e=>by
  have e1:=a2 b hb;have e2:=a4 c hc;rw[e,e2]at e1
  injection e1 with e1
  unfold BlkL.blk at e1
  injection e1 with _ _ e3 _
  exact(hap b hb c hc).1 e3.symm
 have hG:∀ i b,G i=some b->i<m.next:=fun i b hb=>hwf i b (hle i b hb)
 have sv:∀ b ∈ Bv,σ b.i=ρ1 b.i:=fun b hb=>if_pos (by simpa using⟨b,hb,rfl⟩)
 have sr:∀ b ∈ Br,σ b.i=ρ2 b.i:=fun b hb=>by
  refine if_neg fun q=>?_;have:b.i ∈ Bv.map (·.i):=by simpa using q
  obtain⟨d,hd,hdi⟩:=List.mem_map.1 this;exact(hap d hd b hb).2 hdi
 have tgtLt:∀ b ∈ fv.pre,σ b.i<m.next:=fun b hb=>by
  rcases h.pre b hb with q | q
  ·rw[sv b q];exact hG _ _ (a2 b q)
  ·rw[sr b q];exact hG _ _ (a4 b q)
 have sinj:∀ b ∈ fv.pre,∀ c ∈ fv.pre,σ b.i=σ c.i->b.i=c.i:=fun b hb c hc e=>by
  rcases h.pre b hb with q | q<;>rcases h.pre c hc with q' | q'
  ·rw[sv b q,sv c q']at e;exact a1 b q c q' e
  ·rw[sv b q,sr c q']at e;exact absurd e (hcross b q c q')
  ·rw[sr b q,sv c q']at e;exact absurd e.symm (hcross c q' b q)
  ·rw[sr b q,sr c q']at e;exact a3 b q c q' e
 obtain⟨tgt,htgt⟩:∃ t,fv.pre.map (fun b=>σ b.i)=t:=⟨_,rfl⟩
 have tlt:∀ t ∈ tgt,t<m.next:=fun t ht=>by
  rw[<- htgt]at ht;obtain⟨b,hb,rfl⟩:=List.mem_map.1 ht;exact tgtLt b hb
 have tnd:tgt.Nodup:=by
  rw[<- htgt];have s5:=s5;unfold List.Nodup at s5 ⊢;rw[List.pairwise_map]at s5 ⊢;exact List.Pairwise.imp_of_mem (fun {x y} hx hy h e=>h (sinj x hx y hy e)) s5
 have tlen:fv.pre.length=tgt.length:=by rw[<- htgt,List.length_map]
 have hmv:=yss (n0:=m.next) hok h.still tlen tnd tlt
 have hrho:=ybks (n0:=m.next) s4 s5 tlen
 obtain⟨ρ,hρ⟩:∃ ρ,fv.rho tgt m.next=ρ:=⟨_,rfl⟩
 rw[hρ,<- htgt]at hrho;have hri:∀ b ∈ fv.pre,ρ b.i=σ b.i:=List.map_inj_left.1 hrho;have hv1:∀ b ∈ Bv,ρ b.i=ρ1 b.i:=fun b hb=>by rw[hri b (h.bv b hb),sv b hb]
 have hr1:∀ b ∈ Br,ρ b.i=ρ2 b.i:=fun b hb=>by rw[hri b (h.br b hb),sr b hb]
 have hargs:(fv.move tgt m.next).args = [.agg #[.string p.name,ren1 ρ1 vv,ren1 ρ2 vr]]:=by
  show fv.args.map (ren2 (fv.rho tgt m.next))=_
  rw[hρ,h.args,<- ygv hv1 h.iv,<- ygv hr1 h.ir];rfl
 have hself:eqL2 [.agg #[.string p.name,ren1 ρ1 vv,ren1 ρ2 vr]] [.agg #[.string p.name,ren1 ρ1 vv,ren1 ρ2 vr]]=true:=by
  have hf:yjb (.agg #[.string p.name,vv,vr])=true:=by
   have:=s2;rw[h.args]at this
   simpa using this
  have e:=ybub (ρ:=ρ) hf h.refl;rw[show ren2 ρ (.agg #[.string p.name,vv,vr]) = .agg #[.string p.name,ren1 ρ vv,ren1 ρ vr]from rfl,ygv hv1 h.iv,ygv hr1 h.ir]at e
  show(eq2 _ _ && true)=true;rw[e];rfl
 have hpre:∀ b ∈ fv.pre,m.b.get (ρ b.i)=some (b.ren ρ).blk:=fun b hb=>by
  rcases h.pre b hb with q | q
  ·rw[yxj h.cv hv1 q,hv1 b q];exact hle _ _ (a2 b q)
  ·rw[yxj h.cr hr1 q,hr1 b q];exact hle _ _ (a4 b q)
 have hp:(fv.move tgt m.next).pre=fv.pre.map (BlkL.ren ρ):=by rw[<- hρ];rfl
 have hfit:(fv.move tgt m.next).fits fv.g [.agg #[.string p.name,ren1 ρ1 vv,ren1 ρ2 vr]] m=true:=by
  unfold Fact.fits;rw[hargs,hself];show(Nat.beq fv.g fv.g && Nat.beq m.next m.next && true && (fv.move tgt m.next).pre.all (blkIs m))=true
  rw[Nat.beq_refl,Nat.beq_refl,hp];show List.all _ _=true;refine List.all_eq_true.2 fun b' hb'=>?_;obtain⟨b,hb,rfl⟩:=List.mem_map.1 hb';have h2:=(s4 b hb).2;refine ylx ?_ (yqu h2) ?_
  ·rw[b.ygk];exact hpre b hb
  ·show Nat.blt (b.l.map _).length 1000000=true;rw[List.length_map];unfold reflB at h2;rw[Bool.and_eq_true]at h2;exact h2.2
 have hs:=ytq hmv hfit;unfold Fact.out at hs
 have hv:(fv.move tgt m.next).v = .bool true:=by
  show renV (fv.rho tgt m.next) fv.v=_
  rw[h.v];rfl
 have hpost:(fv.move tgt m.next).post = []:=by
  show fv.post.map _ = [];rw[h.post];rfl
 rw[hv,hpost]at hs;refine⟨_,_,_,hs,Nat.le_refl _,?_,rfl,.b⟩;intro i b hb;show(dropT m.b m.next (fv.move tgt m.next).pre).get i=some b
 rw[ysf fun c hc=>?_]
 ·exact hb
 ·rw[hp]at hc;obtain⟨c,hc',rfl⟩:=List.mem_map.1 hc;rw[c.ygk,hri c hc'];exact tgtLt c hc'
end Sh
end Go.Proofs.YtiejahgklcjhkaaGreatDoor

namespace Go.Proofs.YtiejahgklcjhkaaGreatDoor
namespace Sh
open Go Ev
set_option maxRecDepth 1000000
def CqP:ProgT:=yeb (by8 [99,101,110,116,101,114]) (by8 [104]) (by8 [102,105,120])
def Cqt:ByteArray:=ybk
def Cqv:Value:=.slice (some ⟨532,0,none⟩) 1 CU
def Cqr:Value:=.slice (some ⟨875,0,none⟩) 1 CU
def CqB:List BlkL:=yrq.post.take 1
def CqC:List BlkL:=yrq.post.drop 1
theorem ytg:Returns Tryz.prog 37 [.a (.string Cqt)] (.ag (yfl (Lies CqB Cqv) (Lies CqC Cqr) CqP.raw)) :=
 ybva (fp:=yrq) (ybi.at_ ybvf 0 rfl) ⟨rfl,rfl,rfl,by kernel_rfl,fun _ h=>List.mem_of_mem_take h,fun _ h=>List.mem_of_mem_drop h,by kernel_rfl,by kernel_rfl⟩
theorem yczx:ybrq.pre=yrq.post:=rfl
theorem ybfq:Returns Tryz.prog 191 [.ag (yfl (Lies CqB Cqv) (Lies CqC Cqr) CqP.raw)] (.b true) :=
 ybxu (fv:=ybrq) (ybi.at_ ybyy 0 rfl) ⟨rfl,fun b h=>by
  rw[yczx,<- List.take_append_drop 1 yrq.post]at h;exact List.mem_append.1 h,fun _ h=>List.mem_of_mem_take h,fun _ h=>List.mem_of_mem_drop h,rfl,rfl,by kernel_rfl,by kernel_rfl,by kernel_rfl,by kernel_rfl,by kernel_rfl,by kernel_rfl,by kernel_rfl⟩
theorem ybhl:CqP.ok=true:=by kernel_rfl
end Sh
end Go.Proofs.YtiejahgklcjhkaaGreatDoor

namespace Go.Proofs.YtiejahgklcjhkaaGreatDoor
open Go
namespace Sh
open Ev Go.RowKit
set_option maxRecDepth 8000
theorem ybsi:Returns Tryz.prog 23 [] (.a (.string Cqt)):=by
 refine Returns.of (ycww _ _ ?_);simp only[c23,ydbl,ycys,go_sem,↓reduceIte];exact Sim.refl _
theorem ybij:Returns Tryz.prog 25 [] (ych CqP.vars):=by
 have e:CqP.vars = [⟨⟨#[104]⟩,1,0,0,1,0⟩]:=by kernel_rfl
 rw[e];exact ybml
end Sh
end Go.Proofs.YtiejahgklcjhkaaGreatDoor

namespace Go.Proofs.YtiejahgklcjhkaaGreatDoor
open Go.ChangeShapes Go.WideShapes Go.ChangeAt Go.RowKit

theorem ybnk{α:Type}{p:Nat->α->Prop}:∀ (n:Nat),(∀ i,i<n -> ∃ x,p i x) -> ∃ xs:List α,xs.length=n /\ ∀ (j:Nat) (x:α),xs[j]? = some x->p j x
 | 0,_=>⟨[],rfl,by simp⟩
 | n+1,h=>by
  obtain⟨xs,h1,h2⟩:=ybnk n fun i hi=>h i (by omega)
  obtain⟨x,hx⟩:=h n (by omega)
  refine⟨xs ++ [x],by simp[h1],fun j y hy=>?_⟩
  by_cases hj:j<xs.length
  ·rw[List.getElem?_append_left hj]at hy;exact h2 j y hy
  ·rw[List.getElem?_append_right (by omega)]at hy
   have:j - xs.length=0:=by
    rcases Nat.eq_zero_or_pos (j - xs.length)with q | q
    ·exact q
    ·rw[List.getElem?_eq_none (by simp;omega)]at hy;cases hy
   rw[this]at hy;simp at hy;subst hy;obtain rfl:j=n:=by omega
   exact hx

section
variable {H:Type} {enc:TypeId × Value->H} {P:Program} {w:World} {base:Nat} {held:Bool}
theorem wf_i64{n:Int}(h:(Lit.int .i64 n).wf=true):I64 n:=by
 simp only[Lit.wf,Bool.and_eq_true,decide_eq_true_eq]at h;have e1:IntKind.i64.min = -9223372036854775808:=rfl;have e2:IntKind.i64.max=9223372036854775807:=rfl;rw[e1,e2]at h;exact h
end

theorem own:ownKnob Tryz.prog.godebug=Option.none:=by kernel_rfl
theorem laidOut:laidOutB Tryz.prog=true:=by kernel_rfl

section
variable {H:Type} {enc:TypeId × Value->H} {w:World} {base:Nat} {held:Bool} {n:Nat} {v:Value} {x:DataW H × List MemPlace}
end
end Go.Proofs.YtiejahgklcjhkaaGreatDoor

namespace Go.Proofs.YtiejahgklcjhkaaGreatDoor
namespace Sh
open Go Ev Go.RowKit

noncomputable def yyu{α:Type}(t:T α):Nat->List (Option α)->T α
 | _,[]=>t
 | i,x :: l=>yyu (T.set (Nat.succ i) t i x) (i+1) l
theorem ylg{α:Type}:∀ (l:List (Option α)) (t:T α) (i j:Nat),(yyu t i l).get j=if i<=j/\j<i+l.length then(l[j - i]?).join else t.get j
 | [],t,i,j=>by rw[if_neg (by simp)];rfl
 | x :: l,t,i,j=>by
  unfold yyu;rw[ylg l _ _ j]
  by_cases c:i+1<=j/\j<i+1+l.length
  ·rw[if_pos c,if_pos (by simp;omega),show j - i=(j - (i+1))+1 by omega]
   rfl
  ·rw[if_neg c,T.set_at]
   by_cases q:j=i
   ·subst q;rw[if_pos rfl,if_pos (by simp)]
    simp
   ·rw[if_neg q,if_neg (by simp;omega)]

def absV(Z:Nat)(v:Value):Option Value:=if simple v then some v else match v with
 | .slice (some ⟨b,o,none⟩) n c=>if n<=c/\c<=9223372036854775807 then(if c=0 then some (.slice (some ⟨Z,0,none⟩) n CU)else if b<=Z then some (.slice (some ⟨b,o,none⟩) n CU)else none)else none
 | .slice (some ⟨_,_,some _⟩) n c=>if n<=c/\c=0 then some (.slice (some ⟨Z,0,none⟩) n CU)else none
 | _=>none
def isU8:Value->Bool
 | .int .u8 _=>true
 | _=>false
noncomputable def absB(Z:Nat)(w:World)(i:Nat):Option ABlk:=match w.heap[i]? with
 | some (.cells c _ _)=>if c.toList.all isU8=true then none else some (.cells (yyu .leaf 0 (c.toList.map (absV Z))) c.size CU 0)
 | _=>none
def phiW(w:World):Phi:=fun i=>match w.heap[i]? with
 | some (.cells c _ _)=>some ⟨i,0,c.size,0,w.heap[i]?⟩
 | _=>if i<=w.heap.size then some ⟨i,0,0,0,none⟩else none
noncomputable def memW(w:World):Mem:=⟨w.heap.size+1,yyu .leaf 0 ((List.range w.heap.size).map (absB w.heap.size w)),w.heap.size+1⟩

theorem yis{w:World}{i:Nat}{b:ABlk}:(memW w).b.get i=some b ↔ absB w.heap.size w i=some b:=by
 show(yyu .leaf 0 _).get i=some b ↔ _;rw[ylg]
 by_cases h:i<w.heap.size
 ·rw[if_pos (by simpa using h)]
  simp[h]
 ·rw[if_neg (by simpa using h),T.get_leaf]
  have:absB w.heap.size w i=none:=by unfold absB;rw[Array.getElem?_eq_none (by omega)]
  rw[this]
theorem ybbq(w:World):Wf (memW w):=fun i b h=>by
 rw[yis]at h;show i<w.heap.size+1;unfold absB at h;split at h
 ·rename_i hc;have:=(Array.getElem?_eq_some_iff.1 hc).1;omega
 ·cases h
theorem yib{w:World}{v u:Value}(h:absV w.heap.size v=some u):VR (phiW w) u v:=by
 have hZ:∃ l,phiW w w.heap.size=some l:=by
  unfold phiW;rw[Array.getElem?_eq_none (Nat.le_refl _)];simp
 have hφ:∀ b,b<=w.heap.size -> ∃ sz ob,phiW w b=some ⟨b,0,sz,0,ob⟩:=by
  intro b hb;unfold phiW;split
  ·exact⟨_,_,rfl⟩
  ·rw[if_pos hb];exact⟨_,_,rfl⟩
 unfold absV at h;split at h
 ·rename_i hs;cases h;exact .simple hs
 ·split at h
  ·rename_i b o n c _
   split at h
   ·rename_i hc
    split at h
    ·rename_i h0
     cases h
     obtain⟨l,hl⟩:=hZ;exact .slice hl hc.1 (fun q=>absurd rfl q) hc.2 (.inr h0)
    ·split at h
     ·rename_i hbl
      cases h
      obtain⟨sz,ob',hl⟩:=hφ b hbl;exact .slice hl hc.1 (fun q=>absurd rfl q) hc.2 (.inl ⟨by simp,.inl rfl⟩)
     ·cases h
   ·cases h
  ·rename_i b o sp n c _
   split at h
   ·rename_i hc
    cases h
    obtain⟨l,hl⟩:=hZ;exact .slice hl hc.1 (fun q=>absurd rfl q) (by omega) (.inr hc.2)
   ·cases h
  ·cases h
theorem ybza:∀ x,ybxw=some x->x.2.all isU8=true:=by
 intro x hx;unfold ybxw at hx
 first | (cases hx;done) | (cases hx;rfl)
theorem relW{w:World}(hG:GlW w):Rel (phiW w) (memW w).b.get w:=by
 have hblk:∀ i b,(memW w).b.get i=some b -> ∃ l,phiW w i=some l/\l.blk=i/\l.ob=w.heap[i]? /\ BR (phiW w) l w b:=by
  intro i b hb;rw[yis]at hb;unfold absB at hb;split at hb
  ·rename_i c e fz hc
   split at hb
   ·cases hb
   cases hb
   refine⟨⟨i,0,c.size,0,w.heap[i]?⟩,by unfold phiW;rw[hc],rfl,rfl,rfl,by simp,c.toList,e,fz,⟨fun q=>absurd rfl q,fun o ho=>ho⟩,by simpa using hc,by simp,fun j v hj hg=>?_⟩
   rw[ylg]at hg;split at hg
   ·simp only[Nat.sub_zero,List.getElem?_map]at hg;cases hcj:c.toList[j]? with
    | none=>rw[hcj]at hg;cases hg
    | some x =>
     rw[hcj]at hg;have hg:absV w.heap.size x=some v:=by simpa using hg
     exact⟨x,by rw[Nat.zero_add];exact hcj,yib hg⟩
   ·rw[T.get_leaf]at hg;cases hg
  ·cases hb
 refine⟨⟨fun i b hb=>by obtain⟨l,h1,_,_,h2⟩:=hblk i b hb;exact⟨l,h1,h2⟩,fun i j x y li lj hne hx hy hi hj=>?_⟩,fun x hx=>⟨hG x hx,fun⟨i,b,l,h1,h2,h3⟩=>?_⟩⟩
 rotate_left
 ·obtain⟨l',k1,k2,_⟩:=hblk i b h1;rw[h2]at k1;cases k1
  rw[h3]at k2;obtain⟨e,fz,q⟩:=hG x hx;rw[yis]at h1;unfold absB at h1;rw[<- k2,q]at h1;simp only at h1;rw[if_pos (by simpa using ybza x hx)]at h1
  cases h1
 obtain⟨l,h1,h2,_⟩:=hblk i x hx;obtain⟨l',h3,h4,_⟩:=hblk j y hy;rw[hi]at h1;cases h1
 rw[hj]at h3;cases h3
 rw[h2,h4];exact hne
theorem ycqr{w:World}{i:Nat}{b:ABlk}{l:Ev.Loc}(hb:(memW w).b.get i=some b)(hl:phiW w i=some l):l.blk=i /\ ∃ o,l.ob=some o/\w.heap[i]? = some o:=by
 rw[yis]at hb;unfold absB at hb;split at hb
 ·rename_i c e fz hc
  unfold phiW at hl;rw[hc]at hl;cases hl
  exact⟨rfl,_,rfl,hc⟩
 ·cases hb
theorem ycws(w:World)(n:Nat):Fresh (phiW w) (memW w).next n:=by
 intro i h1 _;have h1:w.heap.size+1<=i:=h1;unfold phiW;rw[Array.getElem?_eq_none (by omega)]
 simp only;rw[if_neg (by omega)]
theorem ybvy {P:Program} {g:FuncId} {args:List SV} {r:SV} {v:Value} {us us':List Value} {w:World} (h:Returns P g args r) (hg:∃ fn c,P.funcs[g]? = some fn/\fn.body=some c) (hn:ymm P) (hG:GlW w)
  (ha:RVL (memW w).b.get om0 args us) (hv:VRL (phiW w) us us') (hr:∀ F u,RV F om0 r u->u=v) (hat:∀ φ v',VR φ v v'->v'=v):Calls P g us'.toArray w fun e w'=>e = .returned v/\Below w.heap.size w w':=by
 obtain⟨u,m',x,h1,h2,h3,rfl,h5⟩:=h (memW w).b.get (memW w) us (ybbq w) (Le.refl _) ha;have hu:=hr _ _ h5;subst hu;have hs:=(h1 (ybbq w)).2 (phiW w) (memW w).b.get w us' (relW hG) (fun i b hb=>hb) hv (ycws w _);obtain⟨fn,c,k1,k2⟩:=hg;rcases hs with⟨_,hc⟩ | ⟨v',w',hrun,_⟩
 ·refine hc.mono ?_;rintro e w' ⟨v',rfl,φ',M',hgd,hvr⟩;rw[hat _ _ hvr];refine⟨rfl,hgd.wg.os,hgd.wg.tape,hgd.wg.output,hgd.wg.size,fun k hk=>?_⟩
  by_cases hi:Img (phiW w) (memW w).b.get k
  ·obtain⟨i,b,l,e1,e2,e3⟩:=hi;obtain⟨k4,o,k5,k6⟩:=ycqr e1 e2;have hik:i=k:=k4.symm.trans e3;subst hik;have hlt:i<(memW w).next:=ybbq w i b e1
   have hM:M' i=some b:=by
    rw[hgd.frame i (fun q=>by omega) (.inr (Nat.lt_of_lt_of_le hlt h2))]
    exact e1
   obtain⟨l',q1,q2⟩:=hgd.rel.blk i b hM;rw[hgd.le i l e2]at q1;cases q1
   have hcells:∃ c n,b = .cells c n CU 0:=by
    rw[yis]at e1;unfold absB at e1;split at e1
    ·split at e1
     ·cases e1
     ·cases e1;exact⟨_,_,rfl⟩
    ·cases e1
   obtain⟨c',n',rfl⟩:=hcells;obtain⟨_,_,cs,e',fz,h0,_⟩:=q2;rw[k4]at h0;rw[h0.2 o k5,k6]
  ·exact hgd.wg.keep k hk hi
 ·rw[ybq hn k1 k2]at hrun;cases hrun
end Sh
end Go.Proofs.YtiejahgklcjhkaaGreatDoor

namespace Go.Proofs.YtiejahgklcjhkaaGreatDoor
namespace Sh
open Go Ev Go.RowKit Go.ChangeShapes Go.WideShapes Go.ChangeAt
def yrk(w:World)(g:SV)(v:Value):Prop:=∃ u,absV w.heap.size v=some u/\RV (memW w).b.get om0 g u
def ybiz(w:World)(g:List SV)(cs:List Value):Prop:=∃ L,cs.map (absV w.heap.size)=L.map some/\RVL (memW w).b.get om0 g L
theorem ybiz.nil(w:World):ybiz w [] []:=⟨[],rfl,.nil⟩
theorem yrk.cons{w:World}{g:SV}{v:Value}{gs:List SV}{cs:List Value}(h:yrk w g v)(t:ybiz w gs cs):ybiz w (g :: gs) (v :: cs):=by
 obtain⟨u,h1,h2⟩:=h;obtain⟨L,h3,h4⟩:=t;exact⟨u :: L,by rw[List.map_cons,List.map_cons,h1,h3],.cons h2 h4⟩
theorem ybfo(w:World)(k:IntKind)(n:Int):yrk w (.i k n) (.int k n):=⟨.int k n,rfl,.i⟩
theorem ybfa{w:World}{a:Addr}{v:Value}(h:w.cell? a=some v):a.spot=none/\a.block<w.heap.size /\ ∃ c e fz,w.heap[a.block]? = some (.cells c e fz)/\c[a.off]? = some v:=by
 unfold World.cell? at h;split at h
 ·rename_i c e fz hc
  split at h
  ·cases h
  ·rename_i hs
   refine⟨?_,(Array.getElem?_eq_some_iff.1 hc).1,c,e,fz,hc,h⟩;cases hq:a.spot with
   | none=>rfl
   | some x=>rw[hq]at hs;simp at hs
 ·cases h
section
variable {H:Type} {enc:TypeId × Value->H} {P:Program} {w:World} {base:Nat} {held:Bool}
theorem ybiq {α:Type} {z:Nat} {f:α->List SV} {p:α->Prop} (d:α) {t e:TypeId} {fuel:Nat} {v:Value} {x:DataW H × List MemPlace} (ht:P.underlying t=some (.slice e)) (hC:P.cellsOf e=z) (h0:0<z)
  (hE:∀ (n:Nat) (cs':List Value) (y:DataW H × List MemPlace),DataW.trod enc P w base (fun _=>true) held n e cs'=some y->cs'.length=z -> ∃ x,p x/\ybiz w (f x) cs'/\(f x).all one1=true/\(cs'.head?.any isU8)=false)
  (h:DataW.trod enc P w base (fun _=>true) held fuel t [v]=some x):∃ xs:List α,(∀ x ∈ xs,p x)/\yrk w (.sl z xs.length (fun k=>f (xs.getD k d))) v/\isU8 v=false:=by
 rcases Go.Deep.open_slice ht h with⟨h1,_⟩ | ⟨a,len,cap,m,n,D,Pl,hcs,hb,hl,hm,hmm,hx,hi⟩
 ·simp at h1;subst h1;exact⟨[],fun x hx=>(by cases hx),⟨.slice none 0 0,rfl,.sl0 (.inl rfl)⟩,rfl⟩
 ·simp at hcs;subst hcs;simp only[if_true]at hmm;subst hmm;unfold maxLen at hm;rw[hC]at hi;obtain⟨b,off,spot⟩:=a;rcases Nat.eq_zero_or_pos m with rfl | hcap
  ·obtain rfl:len=0:=by omega
   refine⟨[],fun x hx=>(by cases hx),⟨.slice (some ⟨w.heap.size,0,none⟩) 0 CU,?_,.sl0 (.inr ⟨_,_,_,rfl⟩)⟩,rfl⟩
   cases spot<;>rfl
  ·have h00:∃ v0,w.cell? ⟨b,off,spot⟩=some v0/\isU8 v0=false:=by
    obtain⟨cs',h2,h2'⟩:=hi 0 hcap;obtain⟨_,h3,h4⟩:=World.cells?_some h2;have h5:=h4 0 h0;have h6:cs'[0]? = some (cs'[0]'(by omega)):=List.getElem?_eq_getElem (by omega)
    rw[h6]at h5
    have e:(((⟨b,off,spot⟩:Addr).add (0 * z)).add 0)=⟨b,off,spot⟩:=by
     unfold Addr.add;simp
    rw[e]at h5;obtain⟨_,_,_,_,h7⟩:=hE n cs' _ h2' h3;refine⟨_,h5,?_⟩
    match cs',h7,h3 with
    | c :: _,h7,_=>simpa using h7
    | [],_,h3=>exact absurd h3 (by simp;omega)
   obtain⟨v0,hv0,hv8⟩:=h00;obtain⟨hsp,hblk,c,e',fz,hc,hc0⟩:=ybfa hv0
   have hnu:¬ c.toList.all isU8=true:=fun q=>by
    have:=List.all_eq_true.1 q v0 (by rw[Array.mem_toList_iff];exact Array.mem_of_getElem? hc0)
    rw[hv8]at this;cases this
   have hsp:spot=none:=hsp;subst hsp;have hblk:b<w.heap.size:=hblk;have hc:w.heap[b]? = some (.cells c e' fz):=hc
   have habs:absV w.heap.size (.slice (some ⟨b,off,none⟩) len m)=some (.slice (some ⟨b,off,none⟩) len CU):=by
    unfold absV;rw[if_neg (by simp[simple])]
    simp only;rw[if_pos ⟨hl,hm⟩,if_neg (by omega),if_pos (by omega)]
   obtain⟨xs,x1,x2⟩:=ybnk (p:=fun i x=>p x/\(f x).all one1=true /\ ∃ L:List Value,L.length=z/\RVL (memW w).b.get om0 (f x) L /\ ∀ j,j<z -> ∃ cv,w.cell? ⟨b,off+i * z+j,none⟩=some cv/\absV w.heap.size cv=L[j]?) len fun i hil=>by
    obtain⟨cs',h2,h3⟩:=hi i (by omega)
    obtain⟨_,h4,h5⟩:=World.cells?_some h2;obtain⟨x,q1,⟨L,q2,q3⟩,q4,_⟩:=hE n cs' _ h3 h4
    have hLz:L.length=z:=by
     have:=congrArg List.length q2
     simpa [h4]using this.symm
    refine⟨x,q1,q4,L,hLz,q3,fun j hj=>?_⟩;have hj':j<cs'.length:=by omega
    refine⟨cs'[j],?_,?_⟩
    ·have:=h5 j hj;rw[List.getElem?_eq_getElem hj']at this;rw[<- this];congr 1;unfold Addr.add;split<;>split<;>simp_all<;>omega
    ·have:=congrArg (fun l=>l[j]?) q2;simp only[List.getElem?_map,List.getElem?_eq_getElem hj']at this;rw[List.getElem?_eq_getElem (show j<L.length by omega)]at this ⊢
     simpa using this
   refine⟨xs,fun x hx=>?_,⟨_,habs,?_⟩,rfl⟩
   ·obtain⟨i,hi',rfl⟩:=List.getElem_of_mem hx;exact(x2 i _ (List.getElem?_eq_getElem hi')).1
   ·rw[x1];rcases Nat.eq_zero_or_pos len with rfl | hlen
    ·exact .sl0 (.inr ⟨_,_,_,rfl⟩)
    ·have hat:∀ k,k<len -> ∃ L:List Value,L.length=z/\RVL (memW w).b.get om0 (f (xs.getD k d)) L/\(f (xs.getD k d)).all one1=true /\ ∀ j,j<z -> ∃ cv,w.cell? ⟨b,off+k * z+j,none⟩=some cv/\absV w.heap.size cv=L[j]?:=fun k hk=>by
      have hk':k<xs.length:=by omega
      obtain⟨_,q2,L,q3,q4,q5⟩:=x2 k _ (List.getElem?_eq_getElem hk');rw[List.getD_eq_getElem?_getD,List.getElem?_eq_getElem hk'];exact⟨L,q3,q4,q2,q5⟩
     classical
     let L:Nat->List Value:=fun k=>if hk:k<len then Classical.choose (hat k hk)else[]
     have hL:∀ k (hk:k<len),(L k).length=z/\RVL (memW w).b.get om0 (f (xs.getD k d)) (L k)/\(f (xs.getD k d)).all one1=true /\ ∀ j,j<z -> ∃ cv,w.cell? ⟨b,off+k * z+j,none⟩=some cv/\absV w.heap.size cv=(L k)[j]?:=fun k hk=>by
      have e:L k=Classical.choose (hat k hk):=by show(if hk:k<len then _ else _)=_;rw[dif_pos hk]
      rw[e];exact Classical.choose_spec (hat k hk)
     have hmem:(memW w).b.get b=some (.cells (yyu .leaf 0 (c.toList.map (absV w.heap.size))) c.size CU 0):=by
      rw[yis];unfold absB;rw[hc];exact if_neg hnu
     have hget:∀ j cv,w.cell? ⟨b,j,none⟩=some cv->j<c.size/\(yyu .leaf 0 (c.toList.map (absV w.heap.size))).get j=absV w.heap.size cv:=fun j cv hcv=>by
      obtain⟨_,_,c2,e2,fz2,h1,h2⟩:=ybfa hcv;have h1:w.heap[b]? = some (.cells c2 e2 fz2):=h1;rw[hc]at h1;cases h1
      have h2:c[j]? = some cv:=h2;have hj:j<c.size:=(Array.getElem?_eq_some_iff.1 h2).1;refine⟨hj,?_⟩;rw[ylg,if_pos ⟨Nat.zero_le _,by simpa using hj⟩,Nat.sub_zero,List.getElem?_map]
      have:c.toList[j]? = some cv:=by simpa using h2
      rw[this];simp
     refine .sl (L:=L) hmem (.inr rfl) ?_ (fun k hk=>(hL k hk).1) (fun k hk j hj=>?_) (fun k hk=>(hL k hk).2.1) (fun k hk=>(hL k hk).2.2.1)
     ·obtain⟨_,_,_,q⟩:=hL (len - 1) (by omega)
      obtain⟨cv,h1,_⟩:=q (z - 1) (by omega)
      have:=(hget _ _ h1).1
      have e:len * z=(len - 1) * z+z:=by
       obtain⟨y,rfl⟩:∃ y,len=y+1:=⟨len - 1,by omega⟩
       rw[Nat.succ_mul];simp
      omega
     ·obtain⟨_,_,_,q⟩:=hL k hk;obtain⟨cv,h1,h2⟩:=q j hj;rw[(hget _ _ h1).2,h2]
theorem ybnp {t e:TypeId} {fuel:Nat} {v:Value} {x:DataW H × List MemPlace} (ht:P.underlying t=some (.slice e)) (he:P.underlying e=some (.int .i64)) (hC:P.cellsOf e=1)
  (h:DataW.trod enc P w base (fun _=>true) held fuel t [v]=some x):∃ xs,(∀ x ∈ xs,I64 x)/\yrk w (yj xs) v/\isU8 v=false:=by
 refine ybiq (f:=fun x=>[.i .i64 x]) (p:=I64) 0 ht hC (by decide) (fun n cs' y h1 h2=>?_) h
 obtain⟨k,rfl,_,hw⟩:=DataW.trod_int he h1;exact⟨k,wf_i64 hw,(ybfo w .i64 k).cons (ybiz.nil w),rfl,rfl⟩
end
section
variable {H:Type} {enc:TypeId × Value->H} {w:World} {base:Nat} {held:Bool} {n:Nat} {v:Value} {x:DataW H × List MemPlace}
theorem ybsw(h:DataW.trod enc Tryz.prog w base (fun _=>true) held n 22 [v]=some x):∃ xs,(∀ x ∈ xs,I64 x)/\yrk w (yj xs) v/\isU8 v=false :=
 ybnp Tryz.underlying22 Tryz.underlying3 (by kernel_rfl) h
theorem yqs(h:DataW.trod enc Tryz.prog w base (fun _=>true) held n 22 [v]=some x):∃ xs,(∀ x ∈ xs,I64 x)/\yrk w (yj xs) v:=by
 obtain⟨xs,h1,h2,_⟩:=ybsw h;exact⟨xs,h1,h2⟩
end
theorem ybie {P:Program} {g:FuncId} {args:List SV} {x:Bool} {us':List Value} {w:World} (h:Returns P g args (.b x)) (hg:∃ fn c,P.funcs[g]? = some fn/\fn.body=some c) (hn:ymm P) (hG:GlW w)
  {us:List Value} (ha:RVL (memW w).b.get om0 args us) (hv:VRL (phiW w) us us'):Calls P g us'.toArray w fun e w'=>e = .returned (.bool x)/\Below w.heap.size w w' :=
 ybvy h hg hn hG ha hv (fun F u hu=>by cases hu;rfl) (fun φ v' hv'=>hv'.eq_simple rfl)
end Sh
end Go.Proofs.YtiejahgklcjhkaaGreatDoor

namespace Go.Proofs.YtiejahgklcjhkaaGreatDoor
namespace Sh
open Go Ev Go.RowKit Go.ChangeShapes Go.WideShapes Go.ChangeAt Go.Joins
theorem ycze{α:Type}{cs:Array α}(h:cs.size=6):∃ c0 c1 c2 c3 c4 c5,cs = #[c0,c1,c2,c3,c4,c5]:=by
 obtain⟨l⟩:=cs
 match l,h with
 | [c0,c1,c2,c3,c4,c5],_=>exact⟨c0,c1,c2,c3,c4,c5,rfl⟩
section
variable {H:Type} {enc:TypeId × Value->H} {P:Program} {w:World} {base:Nat} {held:Bool} {spare:Nat->Bool}
theorem six{α:Type}{xs:List α}(h:xs.length=6):∃ y0 y1 y2 y3 y4 y5,xs = [y0,y1,y2,y3,y4,y5]:=by
 match xs,h with
 | [y0,y1,y2,y3,y4,y5],_=>exact⟨y0,y1,y2,y3,y4,y5,rfl⟩
theorem ybth {r:Reach} {b0:Nat} {t:TypeId} {f0 f1 f2 f3 f4 f5:Field} {v:Value} {d:DataW H} {p:List MemPlace} (hs:P.underlying t=some (.struct #[f0,f1,f2,f3,f4,f5])) (hone:Go.Deep.oneCellFields P #[f0,f1,f2,f3,f4,f5]=true) (hC:P.cellsOf t=6)
  (hv:Value.okWide P w r b0 t v) (h:DataW.Trod enc P w base spare held t v d p) :
  ∃ (v0 v1 v2 v3 v4 v5:Value) (y0 y1 y2 y3 y4 y5:DataW H × List MemPlace) (n:Nat),v = .agg #[v0,v1,v2,v3,v4,v5] /\
   DataW.trod enc P w base spare held n f0.type [v0]=some y0/\DataW.trod enc P w base spare held n f1.type [v1]=some y1/\DataW.trod enc P w base spare held n f2.type [v2]=some y2 /\
   DataW.trod enc P w base spare held n f3.type [v3]=some y3/\DataW.trod enc P w base spare held n f4.type [v4]=some y4/\DataW.trod enc P w base spare held n f5.type [v5]=some y5:=by
 obtain⟨cs,rfl,hsz⟩:=okWide_struct hs hv;obtain⟨c0,c1,c2,c3,c4,c5,rfl⟩:=ycze (hsz.trans hC);obtain⟨fuel,hf⟩:=h;obtain⟨xs,n,_,_,_,hlen,hf⟩:=DataW.trod_struct hs hf;obtain⟨y0,y1,y2,y3,y4,y5,rfl⟩:=six hlen;obtain⟨o0,k0⟩:=Go.Deep.hone_of hone 0 f0 rfl;obtain⟨o1,k1⟩:=Go.Deep.hone_of hone 1 f1 rfl;obtain⟨o2,k2⟩:=Go.Deep.hone_of hone 2 f2 rfl;obtain⟨o3,k3⟩:=Go.Deep.hone_of hone 3 f3 rfl;obtain⟨o4,k4⟩:=Go.Deep.hone_of hone 4 f4 rfl
 obtain⟨o5,k5⟩:=Go.Deep.hone_of hone 5 f5 rfl;have h0:=hf 0 f0 rfl;have h1:=hf 1 f1 rfl;have h2:=hf 2 f2 rfl;have h3:=hf 3 f3 rfl;have h4:=hf 4 f4 rfl;have h5:=hf 5 f5 rfl;rw[o0,k0]at h0;rw[o1,k1]at h1;rw[o2,k2]at h2;rw[o3,k3]at h3;rw[o4,k4]at h4;rw[o5,k5]at h5;exact⟨c0,c1,c2,c3,c4,c5,y0,y1,y2,y3,y4,y5,n,rfl,h0,h1,h2,h3,h4,h5⟩
end
set_option maxRecDepth 8000
section
variable {H:Type} {enc:TypeId × Value->H} {w:World} {base:Nat} {held:Bool} {n:Nat} {v:Value} {x:DataW H × List MemPlace}
theorem ybuj(w:World)(b:Bool):yrk w (.b b) (.bool b):=⟨.bool b,rfl,.b⟩
theorem yble{l:List Int}(h:∀ x ∈ l,I64 x)(k:Nat):inK .i64 (l.getD k 0):=by
 have:I64 (l.getD k 0):=by
  rcases Nat.lt_or_ge k l.length with q | q
  ·rw[List.getD_eq_getElem?_getD,List.getElem?_eq_getElem q];exact h _ (List.getElem_mem q)
  ·rw[List.getD_eq_getElem?_getD,List.getElem?_eq_none q];exact yej (by decide)
 exact this
theorem yww{v:Value}{x:DataW H × List MemPlace}(h:DataW.trod enc Tryz.prog w base (fun _=>true) held n 3 [v]=some x):∃ k,inK .i64 k/\yrk w (.i .i64 k) v:=by
 obtain⟨k,e,_,hw⟩:=DataW.trod_int Tryz.underlying3 h;simp at e;subst e;exact⟨k,wf_i64 hw,ybfo w .i64 k⟩
theorem ysp{v:Value}{x:DataW H × List MemPlace}(h:DataW.trod enc Tryz.prog w base (fun _=>true) held n 4 [v]=some x):∃ b,yrk w (.b b) v:=by
 obtain⟨b,e,_⟩:=DataW.trod_bool Tryz.underlying4 h;simp at e;subst e;exact⟨b,ybuj w b⟩
theorem ybpm{b0:Nat}{d:DataW H}{p:List MemPlace}(hv:Value.okWide Tryz.prog w .any b0 24 v)(h:DataW.Trod enc Tryz.prog w base (fun _=>true) held 24 v d p) :
  ∃ (x:NetR) (u:Value),x.ok/\RV (memW w).b.get om0 (.ag (netC x)) u/\VR (phiW w) u v:=by
 obtain⟨v0,v1,v2,v3,v4,v5,y0,y1,y2,y3,y4,y5,n,rfl,h0,h1,h2,h3,h4,h5⟩:=ybth Tryz.underlying24 (by kernel_rfl) (by kernel_rfl) hv h
 obtain⟨k,kI,u0,a0,r0⟩:=yww h0;obtain⟨ls,lI,u1,a1,r1⟩:=yqs h1;obtain⟨ws,wI,u2,a2,r2⟩:=yqs h2;obtain⟨is,iI,u3,a3,r3⟩:=yqs h3;obtain⟨ap,u4,a4,r4⟩:=ysp h4;obtain⟨bk,u5,a5,r5⟩:=ysp h5;refine⟨⟨k,ls,ws,is,ap,bk⟩,.agg [u0,u1,u2,u3,u4,u5].toArray,⟨kI,yble lI,yble wI,yble iI⟩,.ag (.cons r0 (.cons r1 (.cons r2 (.cons r3 (.cons r4 (.cons r5 .nil)))))),?_⟩;exact .agg (a:=[u0,u1,u2,u3,u4,u5]) (a':=[v0,v1,v2,v3,v4,v5]) (.cons (yib a0) (.cons (yib a1) (.cons (yib a2) (.cons (yib a3) (.cons (yib a4) (.cons (yib a5) .nil))))))
end
end Sh
end Go.Proofs.YtiejahgklcjhkaaGreatDoor

namespace Go.Proofs.YtiejahgklcjhkaaGreatDoor
open Go
def ioN:List Nat:=[104,97,114,110,101,115,115,32,101,52,49,99,97,57,54,99,54,54,56,50,102,54,55,101,57,51,102,51,48,51,101,48,51,98,57,97,56,54,102,55,97,50,53,102,55,52,99,102,98,55,57,53,57,48,57,52,55,52,55,48,48,102,100,56,48,52,56,55,54,48,53,97,32,99,117,116,32,97,116,32,115,101,108,102,115,116,97,98,47,115,101,108,102,115,116,97,98,108,97,119,50,55,46,67,101,110,116,101,114,77,105,100,100,108,101,32,115,101,108,102,115,116,97,98,47,115,101,108,102,115,116,97,98,108,97,119,50,55,46,67,101,110,116,101,114,82,111,117,110,100,115,32,115,101,108,102,115,116,97,98,47,115,101,108,102,115,116,97,98,108,97,119,50,55,46,67,101,110,116,101,114,82,101,97,99,104,101,115,32,115,101,108,102,115,116,97,98,47,115,101,108,102,115,116,97,98,108,97,119,50,55,46,67,101,110,116,101,114,82,101,115,116,115,32,115,101,108,102,115,116,97,98,47,115,101,108,102,115,116,97,98,108,97,119,50,55,46,67,101,110,116,101,114,65,110,111,110,121,109,111,117,115,32,115,101,108,102,115,116,97,98,47,115,101,108,102,115,116,97,98,108,97,119,50,56,46,69,108,101,99,116,105,111,110,82,101,97,99,104,101,115,32,115,101,108,102,115,116,97,98,47,115,101,108,102,115,116,97,98,108,97,119,50,56,46,69,108,101,99,116,105,111,110,82,101,115,116,115,32,115,101,108,102,115,116,97,98,47,115,101,108,102,115,116,97,98,108,97,119,50,56,46,69,108,101,99,116,105,111,110,67,101,110,116,114,101,32,115,101,108,102,115,116,97,98,47,115,101,108,102,115,116,97,98,108,97,119,50,56,46,69,108,101,99,116,105,111,110,84,111,103,101,116,104,101,114,32,115,101,108,102,115,116,97,98,47,115,101,108,102,115,116,97,98,108,97,119,51,50,46,67,111,108,111,117,114,105,110,103,83,104,114,105,110,107,115,32,115,101,108,102,115,116,97,98,47,115,101,108,102,115,116,97,98,108,97,119,51,50,46,67,111,108,111,117,114,105,110,103,82,101,97,99,104,101,115,32,115,101,108,102,115,116,97,98,47,115,101,108,102,115,116,97,98,108,97,119,51,50,46,67,111,108,111,117,114,105,110,103,82,101,115,116,115,32,115,101,108,102,115,116,97,98,47,115,101,108,102,115,116,97,98,108,97,119,51,48,46,77,97,116,99,104,105,110,103,77,97,120,105,109,97,108,32,115,101,108,102,115,116,97,98,47,115,101,108,102,115,116,97,98,108,97,119,51,48,46,77,97,116,99,104,105,110,103,83,116,97,121,115,32,115,101,108,102,115,116,97,98,47,115,101,108,102,115,116,97,98,108,97,119,51,48,46,77,97,116,99,104,105,110,103,84,111,103,101,116,104,101,114,32,115,101,108,102,115,116,97,98,47,115,101,108,102,115,116,97,98,108,97,119,51,48,46,77,97,116,99,104,105,110,103,82,101,97,99,104,101,115,32,115,101,108,102,115,116,97,98,47,115,101,108,102,115,116,97,98,108,97,119,51,48,46,77,97,116,99,104,105,110,103,82,101,115,116,115,32,115,101,108,102,115,116,97,98,47,115,101,108,102,115,116,97,98,108,97,119,50,54,46,76,101,97,100,101,114,65,110,121,119,104,101,114,101]
theorem ydeu:Tryz.prog.initOrder=String.ofList (ioN.map Char.ofNat):=by kernel_rfl
theorem yva:Tryz.prog.initOrder.toList=ioN.map Char.ofNat:=by rw[ydeu];exact String.toList_ofList
theorem ycsm (P : Program) {l c : List Char} {rest : List (List Char)} (h : P.initOrder.toList = l) (hb : behindMainWord (wordsSigns l) = c :: rest) (h1 : (c == "gc".toList || c == "spec".toList) = false) (h2 : (c == "cut".toList) = true) : P.make = some Make.cut := by
 unfold Program.make;rw[h,hb];simp only[h1,h2];simp
theorem ybvm (P : Program) {l c : List Char} {rest : List (List Char)} (h : P.initOrder.toList = l) (hb : behindMainWord (wordsSigns l) = c :: rest) (e : (stripLifts liftWords (c :: rest)).1 = []) (e2 : ((stripLifts liftWords (c :: rest)).2.head? == some "cut".toList) = true)
  (h1:P.bearsReflect=false) (h2:P.laysLater=false) (h3:P.doorFits []=true):P.mayEnter=true:=by
 unfold Program.mayEnter;rw[h,hb];simp only[e,e2,h1,h2,h3];simp
theorem ycvt : behindMainWord (wordsSigns (ioN.map Char.ofNat)) = "cut".toList :: (behindMainWord (wordsSigns (ioN.map Char.ofNat))).tail := by kernel_rfl
theorem ycsd:Tryz.prog.make=some Make.cut:=ycsm _ yva ycvt (by kernel_rfl) (by kernel_rfl)
theorem ybxh:Tryz.prog.mayEnter=true:=ybvm _ yva ycvt (by kernel_rfl) (by kernel_rfl) (by kernel_rfl) (by kernel_rfl) (by kernel_rfl)
def ioH:List Nat:=[101,52,49,99,97,57,54,99,54,54,56,50,102,54,55,101,57,51,102,51,48,51,101,48,51,98,57,97,56,54,102,55,97,50,53,102,55,52,99,102,98,55,57,53,57,48,57,52,55,52,55,48,48,102,100,56,48,52,56,55,54,48,53,97]
theorem ycrx : "e41ca96c6682f67e93f303e03b9a86f7a25f74cfb795909474700fd80487605a".toList = ioH.map Char.ofNat := by
 have h : "e41ca96c6682f67e93f303e03b9a86f7a25f74cfb795909474700fd80487605a" = String.ofList (ioH.map Char.ofNat) := by kernel_rfl
 rw[h];exact String.toList_ofList
theorem ycrw (P : Program) {l h s : List Char} {rest : List (List Char)} (hl : P.initOrder.toList = l) (hb : wordsSigns l = h :: s :: rest) (hs : isSumSigns s = true) (hh : (h == "harness".toList) = true) : P.mainIs = some (true, s) := by
 unfold Program.mainIs;rw[hl,hb];simp only[hs,hh];simp
theorem ydft:wordsSigns (ioN.map Char.ofNat)=([104,97,114,110,101,115,115]:List Nat).map Char.ofNat :: ioH.map Char.ofNat :: (wordsSigns (ioN.map Char.ofNat)).tail.tail:=by kernel_rfl
theorem io_main : Tryz.prog.mainIs = some (true, "e41ca96c6682f67e93f303e03b9a86f7a25f74cfb795909474700fd80487605a".toList) := by
 rw[ycrx];exact ycrw _ yva ydft (by kernel_rfl) (by kernel_rfl)
theorem io_looks:true=Tryz.prog.looks []:=by kernel_rfl
theorem ybxt:Tryz.prog.liftsFinal=false:=by
 unfold Program.liftsFinal Program.headLifts;rw[yva]
 kernel_rfl
end Go.Proofs.YtiejahgklcjhkaaGreatDoor

