/- Joined. -/
import Derived.Test.YtiejahgklcjhkaaPkZ12
import Derived.Lib.TrailingZeros
import Derived.Deep.RegionHeld3
set_option linter.unusedSimpArgs false
set_option linter.unusedVariables false
set_option maxRecDepth 8000
open Nat renaming reduceEqDiff→zA,reduceAdd→zB,reduceLT→zF,le_refl→zI,reduceLeDiff→zJ,pow_le_pow_right→zK,testBit_two_pow_sub_one→zL,zero_le→zU,pow_lt_pow_right→zV,lt_of_lt_of_le→zW
open Go.Lib renaming hid→zC
open List renaming getElem?_eq_getElem→zD,range→zH,getD_eq_getElem?_getD→zM,not_mem_nil→zN,length_cons→zO,getD→zQ,range_succ→zS,foldl_append→zY,getElem_map→zZ,getElem_mem→zAA,take_length→zAB,length→zAE
open Int renaming natCast_zero→zG,toNat_natCast→zX,mul_nonneg→zAC,mul_le_mul→zAD
open Bool renaming eq_iff_iff→zT
open Go
namespace Go.Proofs.Ytiejahgklcjhkaa
section
namespace Sh
open Go Ev
theorem Cm.ct{P:Program}{g:FuncId}{args:List SV}{Q:SV->Own->Prop}{R:SV->Prop}(h:Cm P g [] [] args Q)(hq:∀r o',Q r o'->vok o' 5 r/\R (view o' 5 r)):Ct P g args R:=by
 intro G m us hw hle hargs
 have hc0:Conc m.next G om0 ⟨[],[]⟩ ⟨0,.leaf⟩ (enterM m) :=
  ⟨hw,zI _,zI _,hle,fun β b h=>(by cases h),fun β _=>rfl,fun β γ k z k' z' h=>(by cases h),fun β k z h=>(by cases h),fun t v hv=>(by cases hv)⟩
 obtain⟨v,m1,r,o',F',ω',s0,t2,hrv,l1,l2,_,_,hQ⟩:=h m.next G om0 ⟨0,.leaf⟩ (enterM m) us hc0 hargs
 obtain⟨r3,r4⟩:=hq r o' hQ
 have hs0:ybl P (.call g us m) (.call v m1):=by
  obtain⟨n,b,l⟩:=m;exact ybl.relow s0
 have hm1:m.next<=m1.low:=t2.low
 have hold:∀{i x},m.b.get i=some x->i<m.next:=fun {i x} q=>hw i x q
 have hview:∀H:AM,Le F' H->(∀β k z,ω' β=some (some (k,z))->∀b,m1.b.get k=some b->H k=some b)->RV H om0 (view o' 5 r) v:=fun H h1 h2=>ygn t2 h1 h2 hrv r3
 have hs1:ybl P (.call g us m) (.call v ⟨m1.next,yey m.b m1.b,m1.low⟩):=by
  intro hwm;obtain⟨ext,hcall⟩:=hs0 hwm
  have hget:∀{i x},(yey m.b m1.b).get i=some x->m.b.get i=some x\/m1.b.get i=some x:=fun {i x} q=>by
   rw[yci]at q;split at q
   ·rename_i y hy;cases q;exact .inl hy
   ·exact .inr q
  refine⟨⟨ext.next,fun i b hq=>?_,fun i b h1 h2 hq=>?_,fun i b hq=>?_⟩,fun φ M w args' hR hs ha hf=>?_⟩
  ·rcases hget hq with q|q
   ·exact .inl ⟨b,q⟩
   ·exact ext.dom i b q
  ·rcases hget hq with q|q
   ·exact q
   ·exact ext.old i b h1 h2 q
  ·rcases hget hq with q|q
   ·exact zW (hold q) ext.next
   ·exact ext.wf i b q
  ·refine(hcall φ M w args' hR hs ha hf).mono ?_;rintro e' w' ⟨v',rfl,φ',M',hgd,hv⟩;refine⟨v',rfl,φ',M',⟨hgd.le,hgd.out,hgd.rel,fun i b hq=>?_,hgd.frame,hgd.wg⟩,hv⟩;rcases hget hq with q|q
   ·have hi:=hold q;rw[hgd.frame i (fun z=>by omega) (.inr (zW hi hm1))]
    exact hs i b q
   ·exact hgd.sub i b q
 have hnone:∀{i},m.next<=i->m.b.get i=none:=fun {i} q=>by
  cases hh:m.b.get i with
  |none=>rfl
  |some x=>have:=hold hh;omega
 refine⟨_,_,view o' 5 r,hs1,hm1,fun i b hq=>?_,r4,hview _ (fun i b hq=>?_) (fun β k z hk b hq=>?_)⟩
 ·show(yey m.b m1.b).get i=some b;rw[yci,hq]
 ·unfold frsh;rcases l2 i b hq with q|q
  ·rw[if_neg (by have:=hold (hle i b q);omega)];exact q
  ·rw[if_pos q];show(yey m.b m1.b).get i=some b;rw[yci,hnone q];exact t2.sub i b hq
 ·unfold frsh;have:=(t2.apart β k z hk).2.1;rw[if_pos this];show(yey m.b m1.b).get k=some b;rw[yci,hnone this];exact hq
theorem Cm.weak {P:Program}{g:FuncId}{o:Own}{args:List SV}{Q R:SV->Own->Prop}(h:Cm P g [] o args Q)
 (hq:∀r o',Q r o'->∃r2 o2,Weak [] ⟨[(0,r)],o'⟩ ⟨[(0,r2)],o2⟩/\(cln (live o2) 5 r2=true/\allQ (fun p=>ysn (live o2) p.2) o2)/\R r2 o2):Cm P g [] o args R:=by
 intro lo G ω f m us hc hargs;obtain⟨v,m1,r,o',F',ω',s0,t2,hrv,l1,l2,_,_,hQ⟩:=h lo G ω f m us hc hargs;obtain⟨r2,o2,hw,hcl,hR⟩:=hq r o' hQ
 have t3:Conc lo F' ω' ⟨[(0,r)],o'⟩ ⟨1,tOf [v]⟩ m1:=⟨t2.wf,t2.low,t2.nxt,t2.sub,t2.own,t2.dom,t2.inj,t2.apart,fun t x hx=>by
  unfold look at hx;split at hx
  ·rename_i e
   cases hx
   exact⟨v,by rw[ydj];simp[<-e],hrv⟩
  ·cases hx⟩
 obtain⟨ω2,F2,k1,k2,k3,_⟩:=hw lo F' ω' _ m1 t3;obtain⟨u,q1,q2⟩:=k3.fr 0 r2 rfl
 have e:u=v:=by
  rw[ydj]at q1
  simpa using q1.symm
 subst e
 exact⟨u,m1,r2,o2,F2,ω2,s0,⟨k3.wf,k3.low,k3.nxt,k3.sub,k3.own,k3.dom,k3.inj,k3.apart,fun t x hx=>(by cases hx)⟩,q2,fun x b hx=>k1 x b (l1 x b hx),fun x b hx=>by
  rcases k2 x b hx with z|z
  ·exact l2 x b z
  ·exact .inr z,fun β hβ=>absurd hβ zN,⟨hcl.1,hcl.2,trivial⟩,hR⟩
end Sh
end
section
structure NetR where
 n:Int
 links:List Int
 weights:List Int
 ids:List Int
 apart:Bool
 back:Bool
def NetR.ok(x:NetR):Prop:=Sh.inK .i64 x.n/\(∀k,Sh.inK .i64 (x.links.getD k 0))/\(∀k,Sh.inK .i64 (x.weights.getD k 0))/\(∀k,Sh.inK .i64 (x.ids.getD k 0))
namespace Sh
open Ev Go.RowKit
end Sh
end
section
def yqm(back:Bool)(g:Gr)(a b:Nat)(w:Int):Gr:=if a=b\/ybfw (g.ports.getD a []) b=true then g else ygk back g a b w
namespace Sh
open Ev Go.RowKit
theorem ybkv(back:Bool)(L:List (Int×Int))(x:Int×Int):(addL back L x).length=L.length+1:=by
 unfold addL;cases back<;>simp
section
variable {x:NetR}{g:Gr}{a b:Nat}{w:Int}
end
end Sh
end
section
theorem ybhg{back:Bool}{g:Gr}{a b:Nat}{w:Int}(ha:a<g.ports.length)(hb:b<g.ports.length){m:Nat}(h:Tre g m):Tre (yqm back g a b w) m:=by
 unfold yqm;split
 ·exact h
 ·exact h.add ha hb
theorem ybep{back:Bool}{g:Gr}{a b:Nat}{w:Int}(ha:a<g.ports.length)(hb:b<g.ports.length)(hab:a≠b):adj (yqm back g a b w) a b:=by
 unfold yqm;split
 ·rename_i h
  rcases h with h|h
  ·exact absurd h hab
  ·obtain⟨l,hl,e⟩:=List.any_eq_true.1 h;exact ygc.2 ⟨l,hl,of_decide_eq_true e⟩
 ·exact yxy ha hb hab
theorem yxa:∀(l:List Nat) (i x:Nat) (h:i<l.length),(l.set i x).sum+l[i]=l.sum+x
 |a::l,0,x,_=>by simp;omega
 | a::l,i+1,x,h=>by
   have:=yxa l i x (by simpa using h)
   simp only[List.set_cons_succ,List.sum_cons,List.getElem_cons_succ];omega
theorem ybcc{back:Bool}{g:Gr}{a b:Nat}{w:Int}(ha:a<g.ports.length)(hb:b<g.ports.length)(hab:a≠b):ycz (ygk back g a b w)=ycz g+2:=by
 unfold ycz ygk;simp only[List.map_set,Sh.ybkv];have h1:=yxa (g.ports.map zAE) a ((g.ports.getD a []).length+1) (by simpa using ha)
 have h2:=yxa ((g.ports.map zAE).set a ((g.ports.getD a []).length+1)) b ((g.ports.getD b []).length+1) (by simpa using hb)
 rw[List.getElem_set_ne hab,zZ,<-Sh.getD_at hb (d:=[])]at h2;rw[zZ,<-Sh.getD_at ha (d:=[])]at h1;omega
def WtF(x:NetR)(g:Gr):Prop:=∀v l,l∈g.ports.getD v []->∃i,l.2=1+yvo (atP x.weights i) 15
theorem ybke{x:NetR}{back:Bool}{g:Gr}{a b:Nat}{w:Int}(ha:a<g.ports.length)(hb:b<g.ports.length)(hw:∃i,w=1+yvo (atP x.weights i) 15)(h:WtF x g):WtF x (yqm back g a b w):=by
 unfold yqm;split
 ·exact h
 ·intro v l hl;rw[yhj back g w ha hb]at hl;split at hl
  ·rcases yjl.1 hl with rfl|hl
   ·exact hw
   ·exact h _ _ hl
  ·split at hl
   ·rcases yjl.1 hl with rfl|hl
    ·exact hw
    ·exact h _ _ hl
   ·exact h _ _ hl
structure TreeTo(x:NetR)(v:Nat)(g:Gr):Prop where
 tre:Tre g v
 wt:WtF x g
 none_:∀u,v<=u->g.ports.getD u []=[]
 count:ycz g+2=2*v
theorem yph(ids:List Int)(v:Nat):(bare ids).ports.getD v []=[]:=by
 unfold bare;rw[zM,List.getElem?_replicate];split<;>rfl
theorem TreeTo.zero(x:NetR)(ids:List Int):TreeTo x 1 (bare ids):=by
 refine⟨fun v h0 h1=>by omega,fun v l hl=>?_,fun u _=>yph ids u,?_⟩
 ·rw[yph]at hl;exact absurd hl zN
 ·have:ycz (bare ids)=0:=by
   unfold ycz bare;simp
  omega
theorem TreeTo.succ{x:NetR}{v:Nat}{g:Gr}(hg:ybh g)(h:TreeTo x v g)(hv:v<g.ports.length)(h1:1<=v){a:Nat}(ha:a<v){w:Int}(hw:∃i,w=1+yvo (atP x.weights i) 15):TreeTo x (v+1) (yqm x.back g a v w):=by
 have hadj:=ybep (back:=x.back) (g:=g) (a:=a) (b:=v) (w:=w) (by omega) (by omega) (by omega)
 have hno:¬(a=v\/ybfw (g.ports.getD a []) v=true):=by
  rintro(e|e)
  ·omega
  ·obtain⟨l,hl,e⟩:=List.any_eq_true.1 e;have e:=of_decide_eq_true e;have:adj g v a:=hg.adj_symm (ygc.2 ⟨l,hl,e⟩);obtain⟨l',hl',_⟩:=ygc.1 this;rw[h.none_ v (zI _)]at hl';exact absurd hl' zN
 have e:yqm x.back g a v w=ygk x.back g a v w:=by unfold yqm;rw[if_neg hno]
 refine⟨fun u h0 hu=>?_,ybke (by omega) hv hw h.wt,fun u hu=>?_,?_⟩
 ·by_cases q:u=v
  ·subst q;exact⟨a,ha,hadj⟩
  ·exact ybhg (by omega) hv h.tre u h0 (by omega)
 ·rw[e,yhj x.back g w (by omega) hv,if_neg (by omega),if_neg (by omega)]
  exact h.none_ u (by omega)
 ·rw[e,ybcc (by omega) hv (by omega)]
  have:=h.count;omega
namespace Sh
open Ev Go.RowKit
end Sh
end
section
namespace Sh
open Ev Go.RowKit
end Sh
end
section
namespace Sh
open Ev Go.RowKit
theorem yblh(l:List Nat):one1 (usV l)=true:=rfl
theorem ybff{n:Nat}(l:List Nat):owned (n+1) (usV l)=false:=rfl
theorem ybav{n:Nat}(l:List Nat):scalar (n+1) (usV l)=false:=rfl
theorem ybjz{n:Nat}(o:Own)(l:List Nat):view o (n+1) (usV l)=usV l:=rfl
theorem ybnt{n:Nat}(o:Own)(l:List Nat):vok o (n+1) (usV l)=True:=rfl
theorem ybnz{n:Nat}(h:Nm->Nm)(l:List Nat):ren h (n+1) (usV l)=usV l:=rfl
theorem ybny{n:Nat}(D:Nm->Bool)(l:List Nat):cln D (n+1) (usV l)=true:=rfl
theorem ybec{n:Nat}(fr:List Nm)(o:Own)(l:List Nat):ycl fr o (n+1) (usV l)=usV l:=rfl
theorem ybpx{n:Nat}(fr:List Nm)(o:Own)(l:List Nat):pok fr o (n+1) (usV l)=True:=rfl
theorem ybhn(l:List Nat):SV.cells (usV l)=[usV l]:=rfl
theorem yyh(l:List Conf):one1 (yff l)=true:=rfl
theorem yvf{n:Nat}(l:List Conf):owned (n+1) (yff l)=false:=rfl
theorem yqt{n:Nat}(l:List Conf):scalar (n+1) (yff l)=false:=rfl
theorem yyr{n:Nat}(o:Own)(l:List Conf):view o (n+1) (yff l)=yff l:=rfl
theorem ybda{n:Nat}(o:Own)(l:List Conf):vok o (n+1) (yff l)=True:=rfl
theorem ybdl{n:Nat}(h:Nm->Nm)(l:List Conf):ren h (n+1) (yff l)=yff l:=rfl
theorem ybde{n:Nat}(D:Nm->Bool)(l:List Conf):cln D (n+1) (yff l)=true:=rfl
theorem yui{n:Nat}(fr:List Nm)(o:Own)(l:List Conf):ycl fr o (n+1) (yff l)=yff l:=rfl
theorem ybdr{n:Nat}(fr:List Nm)(o:Own)(l:List Conf):pok fr o (n+1) (yff l)=True:=rfl
theorem ytm(l:List Conf):SV.cells (yff l)=[yff l]:=rfl
theorem ybdo(l:List Cnt):one1 (yjm l)=true:=rfl
theorem yxg{n:Nat}(l:List Cnt):owned (n+1) (yjm l)=false:=rfl
theorem yun{n:Nat}(l:List Cnt):scalar (n+1) (yjm l)=false:=rfl
theorem ybaw{n:Nat}(o:Own)(l:List Cnt):view o (n+1) (yjm l)=yjm l:=rfl
theorem ybes{n:Nat}(o:Own)(l:List Cnt):vok o (n+1) (yjm l)=True:=rfl
theorem ybdv{n:Nat}(h:Nm->Nm)(l:List Cnt):ren h (n+1) (yjm l)=yjm l:=rfl
theorem ybhw{n:Nat}(D:Nm->Bool)(l:List Cnt):cln D (n+1) (yjm l)=true:=rfl
theorem yyb{n:Nat}(fr:List Nm)(o:Own)(l:List Cnt):ycl fr o (n+1) (yjm l)=yjm l:=rfl
theorem ybgw{n:Nat}(fr:List Nm)(o:Own)(l:List Cnt):pok fr o (n+1) (yjm l)=True:=rfl
theorem yvr(l:List Cnt):SV.cells (yjm l)=[yjm l]:=rfl
theorem yblx(l:List Bool):one1 (blV l)=true:=rfl
theorem ybfg{n:Nat}(l:List Bool):owned (n+1) (blV l)=false:=rfl
theorem ybbz{n:Nat}(l:List Bool):scalar (n+1) (blV l)=false:=rfl
theorem ybjp{n:Nat}(o:Own)(l:List Bool):view o (n+1) (blV l)=blV l:=rfl
theorem yboc{n:Nat}(o:Own)(l:List Bool):vok o (n+1) (blV l)=True:=rfl
theorem ybor{n:Nat}(h:Nm->Nm)(l:List Bool):ren h (n+1) (blV l)=blV l:=rfl
theorem ybqb{n:Nat}(D:Nm->Bool)(l:List Bool):cln D (n+1) (blV l)=true:=rfl
theorem ybfo{n:Nat}(fr:List Nm)(o:Own)(l:List Bool):ycl fr o (n+1) (blV l)=blV l:=rfl
theorem ybpw{n:Nat}(fr:List Nm)(o:Own)(l:List Bool):pok fr o (n+1) (blV l)=True:=rfl
theorem ybdx(l:List Bool):SV.cells (blV l)=[blV l]:=rfl
attribute [go_sem] yblh ybff ybav ybjz ybnt ybnz ybny ybec ybpx ybhn yyh yvf yqt yyr ybda ybdl ybde yui ybdr ytm ybdo yxg yun ybaw ybes ybdv ybhw yyb ybgw yvr yblx ybfg ybbz ybjp yboc ybor ybqb ybfo ybpw ybdx
theorem Ct.found{P:Program}{g:FuncId}{args:List SV}{α:Type}{R:SV->α->Prop}{V:α->SV}{Q:SV->Prop}(h:Ct P g args fun r=>∃x,R r x)(hs:∀r x,R r x->Sim r (V x))(hq:∀r x,R r x->Q (V x)):Ct P g args Q:=fun G m us h1 h2 h3=>by
 obtain⟨v,m',r,a,b,c,⟨x,hx⟩,e⟩:=h G m us h1 h2 h3;exact⟨v,m',V x,a,b,c,hq r x hx,hs r x hx _ _ _ e⟩
structure RunD(S:Sys)(res:Nat->Nat->Nat)(ws:List Nat)(c:Conf)(n:Nat)(Cs:List Conf)(Ks:List Cnt):Prop where
 cs:(S.runs res ws c).map (·.1)=Cs
 ks:(S.runs res ws c).map (·.2)=Ks
 len:(S.runs res ws c).length=n
 pos:0<n
 le:n<=ws.length+1
theorem RunD.at_{S:Sys}{res:Nat->Nat->Nat}{ws:List Nat}{c:Conf}{n:Nat}{Cs:List Conf}{Ks:List Cnt}(h:RunD S res ws c n Cs Ks){k:Nat}(hk:k<n):(Cs.getD k [],Ks.getD k default)∈S.runs res ws c/\(S.runs res ws c)[k]?=some (Cs.getD k [],Ks.getD k default):=by
 have hk':k<(S.runs res ws c).length:=by rw[h.len];exact hk
 have e:(S.runs res ws c)[k]=(Cs.getD k [],Ks.getD k default):=by
  rw[<-h.cs,<-h.ks];simp[zQ,hk']
 exact⟨by rw[<-e];exact zAA hk',by rw[<-e];exact zD hk'⟩
theorem RunD.last{S:Sys}{res:Nat->Nat->Nat}{ws:List Nat}{c:Conf}{n:Nat}{Cs:List Conf}{Ks:List Cnt}(h:RunD S res ws c n Cs Ks){k:Nat}(hk:k+1<n):S.en (Cs.getD k [])≠0:=by
 have h1:=(h.at_ (show k<n by omega)).2
 exact Sys.runs_last (by rw[h.len];exact hk) h1
end Sh
end
section
namespace Sh
theorem ybaj(S:Sys)(res:Nat->Nat->Nat):∀(ws:List Nat) (c:Conf) (k:Cnt),(S.run res ws c k).length<ws.length->S.en (((c,k)::S.run res ws c k).getD (S.run res ws c k).length default).1=0
 |[],c,k,h=>by simp at h
 | w :: ws,c,k,h=>by
   unfold Sys.run at h ⊢
   by_cases h0:S.en c=0
   ·simp only[if_pos h0];exact h0
   ·simp only[if_neg h0,zO]at h ⊢;exact ybaj S res ws _ _ (by omega)
theorem RunD.over{S:Sys}{res:Nat->Nat->Nat}{ws:List Nat}{c:Conf}{n:Nat}{Cs:List Conf}{Ks:List Cnt}(h:RunD S res ws c n Cs Ks):S.en (Cs.getD (n-1) [])=0\/n=ws.length+1:=by
 by_cases q:n=ws.length+1
 ·exact .inr q
 ·left
  have hl:=h.len;have h1:=h.le
  have h2:=ybaj S res ws c (yfg (S.en c)) (by
   simp only[Sys.runs,zO]at hl;omega)
  have e:(S.run res ws c (yfg (S.en c))).length=n-1:=by simp only[Sys.runs,zO]at hl;omega
  rw[e]at h2;have h3:=(h.at_ (show n-1<n by have:=h.pos;omega)).2
  have e2:((c,yfg (S.en c))::S.run res ws c (yfg (S.en c))).getD (n-1) default=(Cs.getD (n-1) [],Ks.getD (n-1) default):=by
   rw[zM];have h3:((c,yfg (S.en c))::S.run res ws c (yfg (S.en c)))[n-1]?=some (Cs.getD (n-1) [],Ks.getD (n-1) default):=h3;rw[h3];rfl
  rw[e2]at h2;exact h2
end Sh
end
section
section
variable {nm np na nb nw:ByteArray}{g:Gr}{c:Conf}{u v s:Nat}
end
end
section
section
variable {nm np na nb nw:ByteArray}{g:Gr}{c:Conf}{u v s:Nat}
theorem ybki(hg:ybh g):∀u,¬adj g u u:=fun u h=>by
 obtain⟨hu,_⟩:=hg.adj_lt h;obtain⟨l,hl,e⟩:=ygc.1 h;have e3:g.ports[u]?=some (g.ports.getD u []):=by simp[zQ,hu]
 exact(hg.link e3 hl).2.2.1 e
def yccd(g:Gr)(s:Nat):List Nat:=(zH g.ids.length).filter s.testBit
structure MtJ(nm np na nb nw:ByteArray)(g:Gr)(c:Conf)(k:Cnt):Prop where
 valid:ybvc (ybzo nm np na nb nw) g c=true
 moves:∃I,PtI g (toP g c) I/\2*k.moves+potN g (toP g c) I<=2*g.ports.length+2*ycz g
end
end
section
section
variable {g:Gr}{c:Conf}{u v:Nat}
end
end
section
section
variable {g:Gr}{t:Nat}
theorem ywi(g:Gr):ycz g=((zH g.ports.length).map fun v=>(g.ports.getD v []).length).sum:=by
 unfold ycz;congr 1;refine List.ext_getElem (by simp) fun i h1 h2=>?_
 simp at h1;simp[zQ,h1]
end
end
section
def sumTo(f:Nat->Nat):Nat->Nat
 |0=>0
 |n+1=>sumTo f n+f n
theorem ytn(f h:Nat->Nat):∀n,sumTo (fun v=>f v+h v) n=sumTo f n+sumTo h n
 |0=>rfl
 | n+1=>by
   have:=ytn f h n;show sumTo (fun v=>f v+h v) n+(f n+h n)=(sumTo f n+f n)+(sumTo h n+h n);omega
theorem sumTo_congr{f h:Nat->Nat}:∀n,(∀v,v<n->f v=h v)->sumTo f n=sumTo h n
 |0,_=>rfl
 | n+1,e=>by
   show sumTo f n+f n=sumTo h n+h n;rw[sumTo_congr n fun v hv=>e v (by omega),e n (by omega)]
theorem yzw(a:Nat->Nat->Nat):∀n,(∀u v,u<n->v<n->a u v=a v u)->(∀v,v<n->a v v=0)->sumTo (fun v=>sumTo (a v) n) n%2=0
 |0,_,_=>rfl
 | n+1,hs,h0=>by
   have ih:=yzw a n (fun u v hu hv=>hs u v (by omega) (by omega)) fun v hv=>h0 v (by omega)
   have e1:sumTo (fun v=>sumTo (a v) (n+1)) n=sumTo (fun v=>sumTo (a v) n) n+sumTo (fun v=>a v n) n:=ytn (fun v=>sumTo (a v) n) (fun v=>a v n) n;have e2:sumTo (fun v=>a v n) n=sumTo (a n) n:=sumTo_congr n fun v hv=>hs v n (by omega) (by omega)
   have e3:=h0 n (by omega)
   show(sumTo (fun v=>sumTo (a v) (n+1)) n+(sumTo (a n) n+a n n))%2=0;omega
theorem ykr(p:Nat->Bool):∀n,sumTo (fun v=>(p v).toNat) n=((zH n).filter p).length
 |0=>rfl
 | n+1=>by
   rw[zS,List.filter_append,List.length_append,<-ykr p n];show _+(p n).toNat=_;cases h:p n<;>simp[List.filter,h]
theorem ymx(f:Nat->Nat):∀n,((zH n).map f).sum=sumTo f n
 |0=>rfl
 |n+1=>by rw[zS,List.map_append,List.sum_append,ymx f n];simp[sumTo]
def adjB(g:Gr)(v u:Nat):Bool:=(g.ports.getD v []).any fun l=>l.1==(u:Int)
theorem yiw{g:Gr}{u v:Nat}:adjB g v u=true↔adj g v u:=by
 unfold adjB;rw[List.any_eq_true,ygc];exact⟨fun⟨l,h,e⟩=>⟨l,h,beq_iff_eq.1 e⟩,fun⟨l,h,e⟩=>⟨l,h,beq_iff_eq.2 e⟩⟩
theorem ybfl{g:Gr}(hg:ybh g){v:Nat}(hv:v<g.ports.length):(g.ports.getD v []).length=sumTo (fun u=>(adjB g v u).toNat) g.ports.length:=by
 rw[ykr]
 have hn:((g.ports.getD v []).map (·.1)).Nodup:=by
  have h:=(hg.2.2.2.2.2.1 ⟨v,hv⟩).2;have e0:g.ports[v]=g.ports.getD v []:=by rw[Sh.getD_at hv]
  have h:((g.ports[v]).map (·.1)).Nodup:=h
  rwa [e0]at h
 refine Nat.le_antisymm ?_ ?_
 ·have:=ynr hn (l2:=((zH g.ports.length).filter (adjB g v)).map fun j:Nat=>(j:Int)) fun x hx=>by
   obtain⟨l,hl,rfl⟩:=List.mem_map.1 hx;obtain⟨h1,h2,h3,_⟩:=yco hg hv hl;exact List.mem_map.2 ⟨l.1.toNat,List.mem_filter.2 ⟨List.mem_range.2 h2,yiw.2 h3⟩,by omega⟩
  simpa using this
 ·have:=ynr (l1:=(zH g.ports.length).filter (adjB g v)) (l2:=(g.ports.getD v []).map fun l=>l.1.toNat) (List.nodup_range.filter _) fun u hu=>by
   obtain⟨l,hl,e⟩:=yob (yiw.1 (List.mem_filter.1 hu).2);exact List.mem_map.2 ⟨l,hl,e⟩
  simpa using this
theorem ybcs{g:Gr}(hg:ybh g):ycz g%2=0:=by
 have e:ycz g=sumTo (fun v=>sumTo (fun u=>(adjB g v u).toNat) g.ports.length) g.ports.length:=by
  rw[ywi,ymx];exact sumTo_congr _ fun v hv=>ybfl hg hv
 rw[e];refine yzw _ _ (fun u v _ _=>?_) fun v _=>?_
 ·have:adjB g u v=adjB g v u:=by
   rw[zT,yiw,yiw];exact⟨hg.adj_symm,hg.adj_symm⟩
  rw[this]
 ·have:adjB g v v=false:=by
   rw[Bool.eq_false_iff];intro h;exact ybki hg v (yiw.1 h)
  rw[this];rfl
end
section
namespace Sh
open Ev Go.RowKit
end Sh
end
section
section
variable {nm nc nr:ByteArray}{g:Gr}{c:Conf}{u v s:Nat}
end
end
section
namespace Sh
open Go Ev
end Sh
end
section
namespace Sh
open Ev Go.RowKit
end Sh
end
section
section
variable {nm np na nb nw:ByteArray}{g:Gr}
theorem ybgt(hg:ybh g):2*yjo g=ycz g:=by
 have:=ybcs hg;unfold yjo;omega
end
end
section
namespace Sh
open Go Ev
end Sh
end
section
namespace Sh
open Ev Go.RowKit
end Sh
end
section
end
section
end
section
section
variable {g:Gr}{c:Conf}{u v k i:Nat}
end
end
section
theorem Sys.run_next(S:Sys)(res:Nat->Nat->Nat):∀(ws:List Nat) (c:Conf) (k:Cnt) (i:Nat) (p q:Conf×Cnt),((c,k)::S.run res ws c k)[i]?=some p->((c,k)::S.run res ws c k)[i+1]?=some q ->
 S.en p.1≠0/\∃w,q.1=S.mv p.1 (res (S.en p.1) w)
 | [],c,k,i,p,q,_,h2=>by
   have h2:(S.run res [] c k)[i]?=some q:=h2;unfold Sys.run at h2;simp at h2
 | w :: ws,c,k,i,p,q,h1,h2=>by
   by_cases h0:S.en c=0
   ·have h2:(S.run res (w::ws) c k)[i]?=some q:=h2;unfold Sys.run at h2;rw[if_pos h0]at h2;simp at h2
   ·have e:S.run res (w::ws) c k=(S.mv c (res (S.en c) w),addP k (res (S.en c) w) (S.en (S.mv c (res (S.en c) w))))::S.run res ws (S.mv c (res (S.en c) w)) (addP k (res (S.en c) w) (S.en (S.mv c (res (S.en c) w)))):=by
     conv=>lhs;unfold Sys.run
     exact if_neg h0
    rw[e]at h1 h2;cases i with
    | zero =>
      have h1:some (c,k)=some p:=h1;have h2:some (S.mv c (res (S.en c) w),_)=some q:=h2;cases h1
      cases h2
      exact⟨h0,w,rfl⟩
    |succ i=>exact Sys.run_next S res ws _ _ i p q h1 h2
theorem Sh.RunD.next{S:Sys}{res:Nat->Nat->Nat}{ws:List Nat}{c:Conf}{n:Nat}{Cs:List Conf}{Ks:List Cnt}(h:Sh.RunD S res ws c n Cs Ks){k:Nat}(hk:k+1<n) :
 S.en (Cs.getD k [])≠0/\∃w,Cs.getD (k+1) []=S.mv (Cs.getD k []) (res (S.en (Cs.getD k [])) w) :=
 Sys.run_next S res ws c _ k _ _ (h.at_ (show k<n by omega)).2 (h.at_ hk).2
section
variable {nm np na nb nw:ByteArray}{g:Gr}{c:Conf}{v s:Nat}
end
end
section
namespace Sh
open Go Ev
end Sh
end
section
structure LdC(g:Gr)(c:Conf):Prop where
 len:c.length=g.ids.length
 row:∀v,v<g.ids.length->(c.getD v []).length=3/\(0<=(c.getD v []).getD 0 0/\(c.getD v []).getD 0 0<=yhh g)/\(0<=(c.getD v []).getD 1 0/\(c.getD v []).getD 1 0<g.ids.length)/\(-1<=(c.getD v []).getD 2 0/\(c.getD v []).getD 2 0<(g.ports.getD v []).length)
section
variable {nm nl nd np no nj:ByteArray}{g:Gr}{c:Conf}{v:Nat}
theorem LdC.link(h:LdC g c)(hg:ybh g)(hv:v<g.ids.length){l:Int×Int}(hl:l∈g.ports.getD v []):0<=l.1/\l.1.toNat<g.ids.length/\adj g v l.1.toNat/\(0<=endP c 0 l/\endP c 0 l<=yhh g)/\(0<=endP c 1 l/\endP c 1 l<g.ids.length):=by
 have hpl:=hg.2.2.1;obtain⟨h1,h2,h3,_⟩:=yco hg (by omega) hl
 have h4:=h.row l.1.toNat (by omega)
 exact⟨h1,by omega,h3,h4.2.1,h4.2.2.1⟩
end
end
section
section
variable {nm nl nd np no nj:ByteArray}{g:Gr}{c:Conf}{v:Nat}
end
end
section
section
variable {nm nl nd np no nj:ByteArray}{g:Gr}{c:Conf}{v:Nat}
end
end
section
namespace Sh
open Ev Go.RowKit
theorem ybad{v:Nat}(h:v<2^32):IntKind.wrap .u64 (v:Int)=v:=by
 unfold IntKind.wrap;simp[IntKind.bits,IntKind.signed];omega
end Sh
end
section
namespace Sh
open Go Ev
def ybvn:LO:=[o3 (.mv (.const (.int .u32 0))) 2 0]
def ybyf:LO:=[o3 (.mv (.const (.int .u32 0))) 3 0]
def ybwv:LO:=[o3 (.mv (ci' 0)) 4 0]
def ybrp:LO:=[mv' 4 5 0,mv' 0 6 0,bn' .lss 5 6 7 3,mv' 7 8 7,⟨.mv (.tmp 4),some 9,some (8,true),15⟩,⟨.bin .lss (.tmp 9) (ci' 32),some 10,some (8,true),31⟩,o3 (.pick (.tmp 8) (.tmp 10) (.const (.bool false))) 11 63]
def ybzd:LO:=[mv' 3 14 0,mv' 4 15 0,o3 (.conv .u64 (.tmp 15)) 16 2,o3 (.bin .shl (.const (.int .u32 1)) (.tmp 16)) 17 6,bn' .or 14 17 18 15,mv' 18 3 31]
def ybyi:LO:=[mv' 4 12 0,o3 (.bin .add (.tmp 12) (ci' 1)) 13 1,mv' 13 4 3]
def ybxf:LO:=[mv' 3 19 0,mv' 19 2 1]
def c47:SC:=(.seq (.reg false ybvn) (.seq (.reg false ybyf) (.seq (.seq (.reg false ybwv) (.block 0 (.loop (.seq (.seq (.reg false ybrp) (.cond (.tmp 11) .skip (.exit 0))) (.seq (.block 1 (.reg false ybzd)) (.reg false ybyi)))))) (.seq (.reg false ybxf) .ret))))
theorem ybyg:Fn 47 c47 [.t 2]:=fn_0 Try.func47 (by kernel_rfl) (by kernel_rfl)
end Sh
end
section
theorem ybqe(i:Nat):(2^i-1)|||2^i=2^(i+1)-1:=by
 refine Nat.eq_of_testBit_eq fun j=>?_;rw[Nat.testBit_or,zL,Nat.testBit_two_pow,zL];rw[zT,Bool.or_eq_true,decide_eq_true_iff,decide_eq_true_iff,decide_eq_true_iff];omega
namespace Sh
open Ev Go.RowKit
theorem ybgs{n:Nat}(hn:n<=24):Returns Try.prog 47 [.i .i64 n] (.i .u32 (2^n-1:Nat)):=by
 refine Returns.of (ybyg _ _ ?_)
 have hlt:∀i,i<=n->2^i-1<2^32:=fun i hi=>by
  have:2^i<=2^24:=zK (by omega) (by omega)
  omega
 obtain⟨A,hA⟩:∃A:Nat->Nat,(fun i=>2^i-1)=A:=⟨_,rfl⟩;have hA':∀i,2^i-1=A i:=fun i=>by rw[<-hA]
 have hor:=ybqe;have h0:A 0=0:=by rw[<-hA']
 simp only[hA']at hlt hor;rw[hA'];simp only[c47,ybvn,ybyf,ybwv,go_sem];refine ycp (σ:=Nat) (fun i=>⟨[(4,.i .i64 i),(3,.i .u32 (A i)),(0,.i .i64 n)],[]⟩) (fun i=>i<=n) (fun i=>n-i) 0 (zU _) ?_ ?_
 ·refine yba [] [] [] ?_;simp only[h0,allQ,live,yh,zG,go_sem,zA,↓reduceIte,reduceCtorEq]
 intro i hi;have t2:decide ((i:Int)<32)=true:=decide_eq_true (by omega)
 by_cases hlt2:i<n
 ·have t1:decide ((i:Int)<(n:Int))=true:=decide_eq_true (by omega)
  have sh:=ymh (v:=i) (by omega)
  have ov:=u32_or (a:=A i) (b:=2^i) (hlt i hi) (zV (by omega) (by omega))
  rw[hor]at ov;simp only[IntKind.bits,zX]at sh ov;simp only[ybrp,ybzd,ybyi,t1,t2,ybad (show i<2^32 by omega),sh,ov,clash,go_sem,zA,zB,↓reduceIte,reduceCtorEq]
  repeat (first|refine⟨(⟨by omega,by omega⟩:_/\_),?_⟩|refine⟨(by omega:_<_),?_⟩)
  refine⟨ikw (by omega) (by omega),?_⟩
  refine ybd (i+1) (by omega) (by omega) ?_
  refine yba [] [] [] ?_;simp only[go_sem,allQ,live,yh,ydt,go_sem,zA,↓reduceIte,reduceCtorEq];omega
 ·obtain rfl:i=n:=by omega
  have t1:decide ((i:Int)<(i:Int))=false:=decide_eq_false (by omega)
  simp only[ybrp,ybxf,t1,clash,go_sem,zA,zB,↓reduceIte,reduceCtorEq];exact Sim.refl _
end Sh
end
section
open Go.RowKit
theorem ybns(gv:Value)(g:Gr)(w:World)(hg:GrAt w gv g) :
 Calls Try.prog 38 #[gv] w fun e w'=>e = .returned (.int .i64 (yhh g))/\Below w.heap.size w w':=by
 obtain⟨i,p,rfl,hi,hp⟩:=hg;obtain⟨A,c,rfl,hA1,hA2⟩:=ybb hi;have Hi:=zC hi
 clear hi hp
 go_enter Try.func38,Try.ntmps38
 go_wp2
 obtain⟨W1,hW1⟩:∃W,W=w.alloc (.cells #[.slice A g.ids.length c,p] 25):=⟨_,rfl⟩;have hbox:W1.cell? ⟨w.heap.size,0,none⟩=some (.slice A g.ids.length c):=by subst hW1;simp
 have HbW:=zC (show Below w.heap.size w W1 by subst hW1;exact(Below.refl _ _).alloc (zI _) _)
 rw[<-hW1]
 clear hW1
 go_loopg [3,4] g.ids.length (fun q m t wr=>∃k:Nat,q+k=g.ids.length/\t = .int .i64 k/\wr=W1/\m = .int .i64 ((g.ids.take k).foldl max 0))
 case atStart=>exact⟨0,by omega,rfl,rfl,by simp⟩
 case round =>
  obtain⟨k,hq,rfl,rfl,rfl⟩:=hrel
  by_cases hlt:k<g.ids.length
  ·obtain⟨b,off,rfl,hb,hc,hr⟩:=ydd (Hi.out.below Stable.int HbW.out) hlt;have Hs:=zC (ybbv g.ids k hlt)
   go_wp2
   all_goals
    go_roundg (gk-1)
    case measure=>omega
    case rel=>exact⟨k+1,by omega,by go_num,rfl,by rw[Hs.out];try (congr 1;omega)⟩
  ·obtain rfl:k=g.ids.length:=by omega
   go_wp2
   go_ret
   exact⟨yjz (by rw[zAB];rfl),HbW.out⟩
theorem yif(g:Gr)(vars:List VarR)(v:Nat):(yfa g vars v).length=vars.length:=by simp[yfa]
set_option maxHeartbeats 4000000 in
set_option maxRecDepth 100000 in
theorem ybdb(gv cv vv:Value)(g:Gr)(c:Conf)(vars:List VarR)(w:World)(hg:GrAt w gv g)(hc:yben w cv c)(hv:ybmu w vv vars)(hfit:∀x∈vars,ybgc x) :
 Calls Try.prog 19 #[gv,cv,vv] w fun e w'=>e = .returned (.bool (yds g c vars))/\Below w.heap.size w w':=by
 have hg0:=zC hg;obtain⟨i,p,rfl,hi,hp⟩:=hg;obtain⟨A2,c2,rfl,hB1,hB2⟩:=ybb hp;obtain⟨A3,c3,rfl,hC1,hC2⟩:=ybb hc;obtain⟨A4,c4,rfl,hD1,hD2⟩:=ybb hv;have Hp:=zC hp;have Hc:=zC hc;have Hv:=zC hv;have Hfit:=zC hfit
 clear hi hp hc hv hfit
 cases hvd:ybt g with
 | false =>
   have Hf:=zC (show yds g c vars=false by unfold yds;rw[hvd];rfl)
   go_enter Try.func19,Try.ntmps19
   go_wp2_with fail
   refine(ycx _ g _ (hg0.out.below ((Below.refl _ _).alloc (zI _) _))).mono ?_;rintro e w1 ⟨rfl,hb1⟩
   go_wp2_with fail
   go_ret
   exact⟨yw Hf.out.symm,yfv hb1⟩
 | true =>
   have hgood:=(ybn g).1 hvd;have hn24:=hgood.2.1;have htop:=yvv hgood;obtain⟨htop1,htop2⟩:=htop;have Hrc:=zC (show yds g c vars=ylp g.ports.length (yfa g vars) c by unfold yds;rw[hvd];rfl)
   clear hgood
   by_cases n1:c.length=g.ports.length
   ·have n1':((c.length:Int)!=(g.ports.length:Int))=false:=by simp[n1]
    have Hn:=zC n1;have hcn:c.length<=24:=by omega
    clear n1
    go_enter Try.func19,Try.ntmps19
    go_wp2_with fail
    refine(ycx _ g _ (hg0.out.below ((Below.refl _ _).alloc (zI _) _))).mono ?_;rintro e w1 ⟨rfl,hb1⟩;obtain⟨q0,q1⟩:=ysl hb1;have Hb1:=zC (yfv hb1);have hsz1:w.heap.size<w1.heap.size:=World.block_lt_of_cell? _ _ q0
    clear hb1
    go_wp2
    go_loopg [8] g.ports.length (fun q t wr=>∃v:Nat,q+v=g.ports.length/\t = .int .i64 v/\Hid (Below w1.heap.size w1 wr)/\Hid (∀(u:Nat) s,u<v->c[u]?=some s->yih (yfa g vars u) s))
    case atStart=>exact⟨0,by omega,rfl,zC (Below.refl _ _),zC (fun u s hu=>absurd hu (by omega))⟩
    case round =>
     obtain⟨v,hq,rfl,hbel,hok⟩:=hrel;have Hbw:=zC (Hb1.out.trans (hbel.out.mono Hb1.out.size))
     by_cases hlt:v<g.ports.length
     ·have hvc:v<c.length:=by rw[Hn.out];exact hlt
      obtain⟨b3,off3,sv,rfl,hb3,hcs0,hs⟩:=ydf Hc.out (zD hvc);obtain⟨A5,c5,rfl,hE1,hE2⟩:=ybb hs;have hcs:=ybi Hbw.out _ _ hcs0;obtain⟨s,hse⟩:∃s,c[v]=s:=⟨_,rfl⟩;have Hs?:=zC (show c[v]?=some s by rw[zD hvc,hse])
      rw[hse]at hs hcs hcs0 hE1;have Hbad:=zC (show ¬yih (yfa g vars v) s->yds g c vars=false from fun h=>by rw[Hrc.out];exact yge (fun hc=>h (hc.2 v s Hs?.out)))
      have Hs:=zC hs
      clear hs hse
      by_cases k1:s.length=vars.length
      ·have k1':((s.length:Int)!=(vars.length:Int))=false:=by simp[k1]
       have Hsl:=zC k1
       clear k1
       go_wp2
       obtain⟨go,rfl⟩:∃go,go=gk:=⟨_,rfl⟩
       go_loopg [9] vars.length (fun q t wr=>∃x:Nat,q+x=vars.length/\t = .int .i64 x/\Hid (Below w1.heap.size w1 wr)/\Hid (∀(j:Nat) b z,j<x->(yfa g vars v)[j]?=some b->s[j]?=some z->b.1<=z/\z<=b.2))
       case atStart=>exact⟨0,by omega,rfl,hbel,zC (fun j b z hj=>absurd hj (by omega))⟩
       case round =>
        clear hbel Hbw hcs
        obtain⟨x,hqx,rfl,hbel,hst⟩:=hrel;have Hbw:=zC (Hb1.out.trans (hbel.out.mono Hb1.out.size));have p0:=ybi hbel.out _ _ q0;have p1:=ybi hbel.out _ _ q1;have hszr:w.heap.size<wr.heap.size:=World.block_lt_of_cell? _ _ p0
        by_cases hxl:x<vars.length
        ·obtain⟨b4,o4,rfl,hb4,hE⟩:=(show ∃b off,A4=some ⟨b,off,none⟩/\b<w.heap.size/\∀j y,vars[j]?=some y->varE w b (off+j*6) y by
          obtain⟨_,_,e,_,_,hh⟩:=Hv.out;cases e
          exact hh (by omega))
         obtain⟨⟨nm,kd,lo,hi',pn,pid⟩,hy⟩:∃y,vars[x]=y:=⟨_,rfl⟩;have hy?:vars[x]?=some ⟨nm,kd,lo,hi',pn,pid⟩:=by rw[zD hxl,hy]
         obtain⟨_,e1,e2,e3,e4,e5⟩:=hE x _ hy?;simp only at e1 e2 e3 e4 e5;obtain⟨f1,f2,f3,f4⟩:=Hfit.out _ (List.mem_of_getElem? hy?);simp only at f1 f2 f3 f4;have g1:=ybi Hbw.out _ _ e1;have g2:=ybi Hbw.out _ _ e2;have g3:=ybi Hbw.out _ _ e3;have g4:=ybi Hbw.out _ _ e4;have g5:=ybi Hbw.out _ _ e5
         clear hE hy e1 e2 e3 e4 e5
         obtain⟨f1a,f1b⟩:=f1;obtain⟨f2a,f2b⟩:=f2;obtain⟨f3a,f3b⟩:=f3;obtain⟨f4a,f4b⟩:=f4;have m1:0<=pn*(g.ports.length:Int):=zAC f3a (by omega)
         have m2:pn*(g.ports.length:Int)<=1000*24:=zAD f3b (by omega) (by omega) (by omega)
         have m3:0<=pid*yhh g:=zAC f4a htop1;have m4:pid*yhh g<=1000*255:=zAD f4b htop2 htop1 (by omega)
         have hbb?:(yfa g vars v)[x]?=some (yup g v ⟨nm,kd,lo,hi',pn,pid⟩):=by simp[yfa,hy?]
         obtain⟨b7,o7,lv,rfl,hb7,hc70,hl7⟩:=ydf Hp.out (zD hlt);obtain⟨A8,c8,rfl,hF1,hF2⟩:=ybb hl7;obtain⟨ds,hds⟩:∃ds,g.ports[v]=ds:=⟨_,rfl⟩;have hdeg:ybcl g v=ds.length:=by simp[ybcl,zQ,zD hlt,hds]
         rw[hds]at hc70 hF1;have hxs:x<s.length:=by rw[Hsl.out];exact hxl
         obtain⟨b5,o5,rfl,hb5,hc50,hr5⟩:=ydd Hs.out hxs;obtain⟨z,hz⟩:∃z,s[x]=z:=⟨_,rfl⟩;have Hz?:=zC (show s[x]?=some z by rw[zD hxs,hz])
         rw[hz]at hc50 hr5;obtain⟨hr5a,hr5b⟩:=hr5;have Hbv:=zC (show yup g v ⟨nm,kd,lo,hi',pn,pid⟩=if kd=2 then(0,1)else if kd=3 then(-1,(ds.length:Int)-1)else(lo,hi'+pn*(g.ports.length:Int)+pid*yhh g)by unfold yup;rw[hdeg])
         have Hb?:=zC hbb?;have HX:=zC (show _/\_/\_ from⟨hc70,hc50,hcs0⟩)
         clear hbb? hl7 hds hdeg hz hy? hc70 hc50
         have s1:IntKind.i64.wrap (pn*(g.ports.length:Int))=pn*(g.ports.length:Int):=IntWalk.i64_in _ (by omega)
         have s2:IntKind.i64.wrap (pid*yhh g)=pid*yhh g:=IntWalk.i64_in _ (by omega)
         have s3:IntKind.i64.wrap (hi'+pn*(g.ports.length:Int))=hi'+pn*(g.ports.length:Int):=IntWalk.i64_in _ (by omega)
         have s4:IntKind.i64.wrap (hi'+pn*(g.ports.length:Int)+pid*yhh g)=hi'+pn*(g.ports.length:Int)+pid*yhh g:=IntWalk.i64_in _ (by omega)
         go_wp2
         go_region_held3 (fun w'=>w'.cell? ⟨b4,o4+x*6+2,none⟩=some (.int .i64 lo)/\w'.cell? ⟨b4,o4+x*6+3,none⟩=some (.int .i64 hi')/\w'.cell? ⟨b4,o4+x*6+4,none⟩=some (.int .i64 pn)/\w'.cell? ⟨b4,o4+x*6+5,none⟩=some (.int .i64 pid)/\w'.cell? ⟨w.heap.size,0,none⟩=some i/\w'.cell? ⟨w.heap.size,1,none⟩=some (.slice (some ⟨b7,o7,none⟩) g.ports.length c2)) (first|go_keep|(refine⟨?_,?_,?_,?_,?_,?_⟩<;>exact ybi hbt _ _ (by assumption)))
          (first|(go_at_call 38;refine(ybns _ g _ (hg0.out.below (by exact Hbw.out.drew))).mono ?_;rintro e wt ⟨rfl,hbt⟩))
         clear s1 s2 s3 s4 g2 g3 g4 g5 p0
         have HbT:=zC (show Below w1.heap.size w1 wt from hbel.out.drew.trans (hbt.mono hbel.out.size))
         have HbU:=zC (Hb1.out.trans (HbT.out.mono Hb1.out.size));have u1:=ybi hbt _ _ g1;have u2:=ybi HbT.out _ _ q1;have u3:=ybi HbU.out _ _ HX.out.1;have u4:=ybi HbU.out _ _ HX.out.2.1;have u5:=ybi HbU.out _ _ HX.out.2.2;have hH1:-100000<=hi'+pn*(g.ports.length:Int)+pid*yhh g:=by omega
         have hH2:hi'+pn*(g.ports.length:Int)+pid*yhh g<=1000000:=by omega
         clear hbt g1 p1 m1 m2 m3 m4
         obtain⟨H,hH⟩:∃H,hi'+pn*(g.ports.length:Int)+pid*yhh g=H:=⟨_,rfl⟩;rw[hH]at Hbv hH1 hH2 ⊢
         clear hH
         by_cases d1:kd=2
         ·have d1':(kd==2)=true:=by simp[d1]
          rw[if_pos d1]at Hbv
          clear d1
          by_cases t1:0<=z/\z<=1
          ·obtain⟨t1a,t1b⟩:=t1
           go_wp2_with fail
           refine(In_t _ _ _ _ (by omega) (by omega)).mono ?_
           rintro e w' ⟨rfl,rfl⟩
           go_wp2
           go_roundg (gk-1)
           case measure=>omega
           case rel =>
            refine⟨x+1,by omega,by go_num,zC (by first|exact HbT.out|exact HbT.out.drew|exact below_drewN HbT.out _|exact below_drewN HbT.out.drew _),zC (fun j b z' hj hb hz'=>?_)⟩
            by_cases hjx:j<x
            ·exact hst.out j b z' hjx hb hz'
            ·obtain rfl:j=x:=by omega
             rw[Hb?.out,Hbv.out]at hb;rw[Hz?.out]at hz';cases hb
             cases hz'
             exact⟨t1a,t1b⟩
          ·have Hf:=zC (Hbad.out (fun h=>t1 (by have:=h.2 x _ z Hb?.out Hz?.out;rw[Hbv.out]at this;exact this)))
           have t2:z<0\/1<z:=by omega
           clear t1
           go_wp2_with fail
           refine(In_f _ _ _ _ (by omega)).mono ?_
           rintro e w' ⟨rfl,rfl⟩
           go_wp2
           go_ret
           exact⟨yw Hf.out.symm,by first|exact HbU.out|exact HbU.out.drew|exact below_drewN HbU.out _|exact below_drewN HbU.out.drew _⟩
         ·have d1':(kd==2)=false:=by simp[d1]
          rw[if_neg d1]at Hbv
          clear d1
          by_cases d2:kd=3
          ·have d2':(kd==3)=true:=by simp[d2]
           rw[if_pos d2]at Hbv
           clear d2
           by_cases t1:-1<=z/\z<=(ds.length:Int)-1
           ·obtain⟨t1a,t1b⟩:=t1
            go_wp2
            go_quiet (fail)
            go_wp2_with fail
            refine(In_t _ _ _ _ (by omega) (by omega)).mono ?_
            rintro e w' ⟨rfl,rfl⟩
            go_wp2
            go_roundg (gk-1)
            case measure=>omega
            case rel =>
             refine⟨x+1,by omega,by go_num,zC (by first|exact HbT.out|exact HbT.out.drew|exact below_drewN HbT.out _|exact below_drewN HbT.out.drew _),zC (fun j b z' hj hb hz'=>?_)⟩
             by_cases hjx:j<x
             ·exact hst.out j b z' hjx hb hz'
             ·obtain rfl:j=x:=by omega
              rw[Hb?.out,Hbv.out]at hb;rw[Hz?.out]at hz';cases hb
              cases hz'
              exact⟨t1a,t1b⟩
           ·have Hf:=zC (Hbad.out (fun h=>t1 (by have:=h.2 x _ z Hb?.out Hz?.out;rw[Hbv.out]at this;exact this)))
            have t2:z < -1\/(ds.length:Int)-1<z:=by omega
            clear t1
            go_wp2
            go_quiet (fail)
            go_wp2_with fail
            refine(In_f _ _ _ _ (by omega)).mono ?_
            rintro e w' ⟨rfl,rfl⟩
            go_wp2
            go_ret
            exact⟨yw Hf.out.symm,by first|exact HbU.out|exact HbU.out.drew|exact below_drewN HbU.out _|exact below_drewN HbU.out.drew _⟩
          ·have d2':(kd==3)=false:=by simp[d2]
           rw[if_neg d2]at Hbv
           clear d2
           by_cases t1:lo<=z/\z<=H
           ·obtain⟨t1a,t1b⟩:=t1
            go_wp2_with fail
            refine(In_t _ _ _ _ (by omega) (by omega)).mono ?_
            rintro e w' ⟨rfl,rfl⟩
            go_wp2
            go_roundg (gk-1)
            case measure=>omega
            case rel =>
             refine⟨x+1,by omega,by go_num,zC (by first|exact HbT.out|exact HbT.out.drew|exact below_drewN HbT.out _|exact below_drewN HbT.out.drew _),zC (fun j b z' hj hb hz'=>?_)⟩
             by_cases hjx:j<x
             ·exact hst.out j b z' hjx hb hz'
             ·obtain rfl:j=x:=by omega
              rw[Hb?.out,Hbv.out]at hb;rw[Hz?.out]at hz';cases hb
              cases hz'
              exact⟨t1a,t1b⟩
           ·have Hf:=zC (Hbad.out (fun h=>t1 (by have:=h.2 x _ z Hb?.out Hz?.out;rw[Hbv.out]at this;exact this)))
            have t2:z<lo\/H<z:=by omega
            clear t1
            go_wp2_with fail
            refine(In_f _ _ _ _ (by omega)).mono ?_
            rintro e w' ⟨rfl,rfl⟩
            go_wp2
            go_ret
            exact⟨yw Hf.out.symm,by first|exact HbU.out|exact HbU.out.drew|exact below_drewN HbU.out _|exact below_drewN HbU.out.drew _⟩
        ·obtain rfl:x=vars.length:=by omega
         go_wp2
         go_roundg (go-1)
         case measure=>omega
         case rel =>
          refine⟨v+1,by omega,by go_num,hbel,zC (fun u s' hu hs'=>?_)⟩
          by_cases huv:u<v
          ·exact hok.out u s' huv hs'
          ·obtain rfl:u=v:=by omega
           rw[Hs?.out]at hs';cases hs'
           refine⟨by rw[yif,Hsl.out],fun j b z hb hz=>hst.out j b z ?_ hb hz⟩
           rw[<-Hsl.out];exact(List.getElem?_eq_some_iff.1 hz).1
      ·have k1':((s.length:Int)!=(vars.length:Int))=true:=by simp;omega
       have Hf:=zC (Hbad.out (fun h=>k1 (by rw[h.1,yif])))
       clear k1
       go_wp2
       go_ret
       exact⟨yw Hf.out.symm,Hbw.out⟩
     ·obtain rfl:v=g.ports.length:=by omega
      have Ht:=zC (show yds g c vars=true by rw[Hrc.out];exact yqc ⟨Hn.out,fun v s hs=>hok.out v s (by rw[<-Hn.out];exact(List.getElem?_eq_some_iff.1 hs).1) hs⟩)
      go_wp2
      go_ret
      exact⟨yw Ht.out.symm,Hbw.out⟩
   ·have n1':((c.length:Int)!=(g.ports.length:Int))=true:=by simp;omega
    have Hf:=zC (show yds g c vars=false by rw[Hrc.out];exact yge (fun h=>n1 h.1))
    clear n1
    go_enter Try.func19,Try.ntmps19
    go_wp2_with fail
    refine(ycx _ g _ (hg0.out.below ((Below.refl _ _).alloc (zI _) _))).mono ?_;rintro e w1 ⟨rfl,hb1⟩
    go_wp2_with fail
    go_ret
    exact⟨yw Hf.out.symm,yfv hb1⟩
end
section
open Go.RowKit
def ybnj(g:Gr)(D:List Int)(c:Conf)(d p v:Nat):Prop:=(c.getD v []).getD d 0=D.getD v 0/\(c.getD v []).getD p 0=wayP g D v
instance(g:Gr)(D:List Int)(c:Conf)(d p v:Nat):Decidable (ybnj g D c d p v):=by unfold ybnj;infer_instance
end
section
namespace Sh
open Ev Go.RowKit
end Sh
end
section
namespace Sh
open Ev Go.RowKit
theorem ybnv {G:AM}{m:Mem}{φ:Phi}{M:AM}{w:World}{u u':Value}{l:List VarR}(hG:Le G m.b.get)(hr:RV G om0 (yfq l) u)(hv:VR φ u u')(hR:Rel φ M w)(hs:Sub m M):ybmu w u' l:=by
 refine ybid hG hr hv hR hs rfl fun k x b o L L' hx hL hL' hc=>?_;have hxe:l.getD k default=x:=by simp[zQ,hx]
 rw[hxe]at hL;obtain⟨L2,rfl,h1⟩:∃L2,L=L2/\RVL G om0 (varC x) L2:=⟨L,rfl,hL⟩;cases h1 with
 | cons a b=>cases b with
   | cons a2 b2=>cases b2 with
     | cons a3 b3=>cases b3 with
       | cons a4 b4=>cases b4 with
         | cons a5 b5=>cases b5 with
           | cons a6 b6 =>
             cases b6
             cases a2.int_inv
             cases a3.int_inv
             cases a4.int_inv
             cases a5.int_inv
             cases a6.int_inv
             cases a
             cases hL' with
             | cons p1 q1=>cases q1 with
               | cons p2 q2=>cases q2 with
                 | cons p3 q3=>cases q3 with
                   | cons p4 q4=>cases q4 with
                     | cons p5 q5=>cases q5 with
                       | cons p6 q6 =>
                         cases q6
                         have e1:=p1.eq_simple rfl;have e2:=p2.eq_simple rfl;have e3:=p3.eq_simple rfl;have e4:=p4.eq_simple rfl;have e5:=p5.eq_simple rfl;have e6:=p6.eq_simple rfl;subst e1 e2 e3 e4 e5 e6;exact⟨hc 0 _ rfl,hc 1 _ rfl,hc 2 _ rfl,hc 3 _ rfl,hc 4 _ rfl,hc 5 _ rfl⟩
theorem yog{g:Gr}(hI:GrI g){c:Conf}(hR:yox c){vars:List VarR}(hf:∀x∈vars,ybgc x):Returns Try.prog 19 [grV g,ycb c,yfq vars] (.b (yds g c vars)):=by
 refine yla ⟨_,_,Try.func19,rfl⟩ (fun _=>.b) (fun _=>.simple rfl) fun H m us hH hr φ M w us' hRl hs hv=>?_
 obtain⟨u,us2,rfl,h1,h2⟩:∃u us2,us=u::us2/\RV H om0 (grV g) u/\RVL H om0 [ycb c,yfq vars] us2:=by
  cases hr with|cons x y=>exact⟨_,_,rfl,x,y⟩
 obtain⟨u2,u3,rfl,h3,h4⟩:=rvl2 h2
 obtain⟨u',us3,rfl,h5,h6⟩:∃u' us3,us'=u'::us3/\VR φ u u'/\VRL φ [u2,u3] us3:=by
  cases hv with|cons x y=>exact⟨_,_,rfl,x,y⟩
 obtain⟨u2',u3',rfl,h7,h8⟩:=ykf h6;exact ybdb u' u2' u3' g c vars w (yvq hH h1 h5 hRl hs hI) (ybil hH h3 h7 hRl hs hR) (ybnv hH h4 h8 hRl hs) hf
end Sh
end
section
namespace Sh
open Go Ev
def ybst:LO:=[o3 (.box 25 (.tmp 0)) 3 0,o3 (.mv (.const (.bool false))) 6 0]
def ybwm:LO:=[o3 (.mv (ci' 0)) 7 0]
def ybiw:LO:=[mv' 7 8 0,mv' 1 9 0,ln' 9 10 2,bn' .lss 8 10 11 7]
def ybre:LO:=[mv' 1 14 0,mv' 7 15 0,ix' 1 14 15 16 3,ld' false 1 16 17 7,mv' 2 18 0,ix' 1 17 18 19 31,ld' false 1 19 20 63,ld' true 2 3 21 0,mv' 7 22 0,cl' 41 [21,22] 23 384,bn' .neq 20 23 24 1023]
def ybyc:LO:=[o3 (.mv (.const (.bool false))) 6 0]
def ybsk:LO:=[mv' 7 12 0,o3 (.bin .add (.tmp 12) (ci' 1)) 13 1,mv' 13 7 3]
def ybuh:LO:=[o3 (.mv (.const (.bool true))) 6 0]
def c21:SC:=(.seq (.reg false ybst) (.seq (.seq (.reg false ybwm) (.block 0 (.loop (.seq (.seq (.reg false ybiw) (.cond (.tmp 11) .skip (.exit 0))) (.seq (.block 1 (.seq (.reg true ybre) (.cond (.tmp 24) (.seq (.reg false ybyc) .ret) .skip))) (.reg false ybsk)))))) (.seq (.reg false ybuh) .ret)))
theorem ybwp:Fn 21 c21 [.t 6]:=fn_0 Try.func21 (by kernel_rfl) (by kernel_rfl)
def ycag:LO:=[o3 (.box 25 (.tmp 0)) 3 0,o3 (.mv (.const (.int .u32 0))) 6 0]
def ybsj:LO:=[mv' 1 10 0,ln' 10 11 1,cl' 47 [11] 12 3,mv' 12 7 7]
def ybxb:LO:=[o3 (.mv (ci' 0)) 8 0]
def ybrk:LO:=[mv' 8 13 0,mv' 1 14 0,ln' 14 15 2,bn' .lss 13 15 16 7]
def ybze:LO:=[o3 (.mv (ci' 0)) 9 0]
def ybln:LO:=[mv' 9 19 0,fa' 1 1 3 20 0,ld' false 1 20 21 2,mv' 8 22 0,ix' 1 21 22 23 14,ld' false 1 23 24 30,ln' 24 25 62,bn' .lss 19 25 26 127]
def ybrq:LO:=[mv' 1 29 0,fa' 1 1 3 30 0,ld' false 1 30 31 2,mv' 8 32 0,ix' 1 31 32 33 14,ld' false 1 33 34 30,mv' 9 35 0,ix' 2 34 35 36 126,fa' 0 1 36 37 254,ld' false 1 37 38 510,ix' 1 29 38 39 1023,ld' false 1 39 40 2047,mv' 2 41 0,ix' 1 40 41 42 8191,ld' false 1 42 43 16383,mv' 1 44 0,mv' 8 45 0,ix' 1 44 45 46 98304,ld' false 1 46 47 229376,mv' 2 48 0,ix' 1 47 48 49 1015808,ld' false 1 49 50 2064384,bn' .gtr 43 50 51 4194303]
def ybuu:LO:=[mv' 7 52 0,mv' 8 53 0,o3 (.conv .u64 (.tmp 53)) 54 2,o3 (.bin .shl (.const (.int .u32 1)) (.tmp 54)) 55 6,bn' .andNot 52 55 56 15,mv' 56 7 31]
def ybqc:LO:=[mv' 9 27 0,o3 (.bin .add (.tmp 27) (ci' 1)) 28 1,mv' 28 9 3]
def ybxt:LO:=[mv' 8 17 0,o3 (.bin .add (.tmp 17) (ci' 1)) 18 1,mv' 18 8 3]
def ybmy:LO:=[mv' 7 57 0,mv' 57 6 1]
def c26:SC:=(.seq (.reg false ycag) (.seq (.reg false ybsj) (.seq (.seq (.reg false ybxb) (.block 0 (.loop (.seq (.seq (.reg false ybrk) (.cond (.tmp 16) .skip (.exit 0))) (.seq (.block 1 (.seq (.reg false ybze) (.block 2 (.loop (.seq (.seq (.reg false ybln) (.cond (.tmp 26) .skip (.exit 2))) (.seq (.block 3 (.seq (.reg true ybrq) (.cond (.tmp 51) (.reg false ybuu) .skip))) (.reg false ybqc))))))) (.reg false ybxt)))))) (.seq (.reg false ybmy) .ret))))
theorem ybya:Fn 26 c26 [.t 6]:=fn_0 Try.func26 (by kernel_rfl) (by kernel_rfl)
def c9_0:LO:=[o3 (.box 25 (.tmp 0)) 2 0,o3 (.mv (.const (.bool false))) 4 0]
def c9_1:LO:=[ld' true 2 2 5 0,cl' 7 [5] 6 1,mv' 6 7 3,⟨.load true 2 (.tmp 2),some 8,some (7,true),7⟩,⟨.mv (.tmp 1),some 9,some (7,true),7⟩,⟨.call (.func 20) [],some 10,some (7,true),7⟩,⟨.call (.func 19) [(.tmp 8),(.tmp 9),(.tmp 10)],some 11,some (7,true),63⟩,o3 (.pick (.tmp 7) (.tmp 11) (.const (.bool false))) 12 127,mv' 12 13 255,⟨.load true 2 (.tmp 2),some 14,some (13,true),511⟩,⟨.mv (.tmp 1),some 15,some (13,true),511⟩,⟨.call (.func 21) [(.tmp 14),(.tmp 15),(ci' 0)],some 16,some (13,true),2047⟩,o3 (.pick (.tmp 13) (.tmp 16) (.const (.bool false))) 17 4095,mv' 17 4 8191]
def c9:SC:=(.seq (.reg false c9_0) (.seq (.reg true c9_1) .ret))
theorem ycaz:Fn 9 c9 [.t 4]:=fn_0 Try.func9 (by kernel_rfl) (by kernel_rfl)
def ybkr:LO:=[o3 (.box 25 (.tmp 0)) 2 0,o3 (.mv (.const (.int .u32 0))) 4 0]
def ybja:LO:=[ld' true 2 2 5 0,cl' 7 [5] 6 1,o3 (.un .not (.tmp 6)) 7 3,mv' 7 8 7,⟨.load true 2 (.tmp 2),some 9,some (8,false),15⟩,⟨.mv (.tmp 1),some 10,some (8,false),15⟩,⟨.call (.func 20) [],some 11,some (8,false),15⟩,⟨.call (.func 19) [(.tmp 9),(.tmp 10),(.tmp 11)],some 12,some (8,false),127⟩,⟨.un .not (.tmp 12),some 13,some (8,false),255⟩,o3 (.pick (.tmp 8) (.const (.bool true)) (.tmp 13)) 14 511]
def ybnp:LO:=[o3 (.mv (.const (.int .u32 0))) 4 0]
def ybxg:LO:=[ld' true 2 2 15 0,mv' 1 16 0,o3 (.call (.func 26) [(.tmp 15),(.tmp 16),(ci' 0)]) 17 3,mv' 17 4 7]
def c13:SC:=(.seq (.reg false ybkr) (.seq (.seq (.reg true ybja) (.cond (.tmp 14) (.seq (.reg false ybnp) .ret) .skip)) (.seq (.reg false ybxg) .ret)))
theorem ybxd:Fn 13 c13 [.t 4]:=fn_0 Try.func13 (by kernel_rfl) (by kernel_rfl)
def c3_0:LO:=[o3 (.box 25 (.tmp 0)) 2 0,o3 (.mv (.const (.bool false))) 4 0]
def c3_1:LO:=[ld' true 2 2 5 0,mv' 1 6 0,cl' 4 [5,6] 7 3]
def c3_2:LO:=[cl' 5 [] 8 0,mv' 8 4 1]
def c3_3:LO:=[cl' 5 [] 9 0,mv' 9 10 1,⟨.load true 2 (.tmp 2),some 11,some (10,true),3⟩,⟨.call (.func 6) [(.tmp 11)],some 12,some (10,true),7⟩,⟨.load true 2 (.tmp 2),some 13,some (10,true),3⟩,⟨.call (.func 7) [(.tmp 13)],some 14,some (10,true),31⟩,⟨.beq false (.tmp 12) (.tmp 14),some 15,some (10,true),63⟩,o3 (.pick (.tmp 10) (.tmp 15) (.const (.bool false))) 16 127,mv' 16 17 255,⟨.load true 2 (.tmp 2),some 18,some (17,true),511⟩,⟨.mv (.tmp 1),some 19,some (17,true),511⟩,⟨.call (.func 8) [(.tmp 18),(.tmp 19)],some 20,some (17,true),2047⟩,⟨.load true 2 (.tmp 2),some 21,some (17,true),511⟩,⟨.mv (.tmp 1),some 22,some (17,true),511⟩,⟨.call (.func 9) [(.tmp 21),(.tmp 22)],some 23,some (17,true),16383⟩,⟨.beq false (.tmp 20) (.tmp 23),some 24,some (17,true),32767⟩,o3 (.pick (.tmp 17) (.tmp 24) (.const (.bool false))) 25 65535,mv' 25 26 131071,⟨.load true 2 (.tmp 2),some 27,some (26,true),262143⟩,⟨.call (.func 10) [(.tmp 27)],some 28,some (26,true),524287⟩,⟨.load true 2 (.tmp 2),some 29,some (26,true),262143⟩,⟨.call (.func 11) [(.tmp 29)],some 30,some (26,true),2097151⟩,⟨.seq false [false,true,true,false,false] (.tmp 28) (.tmp 30),some 31,some (26,true),4194303⟩,o3 (.pick (.tmp 26) (.tmp 31) (.const (.bool false))) 32 8388607,mv' 32 33 16777215,⟨.load true 2 (.tmp 2),some 34,some (33,true),33554431⟩,⟨.mv (.tmp 1),some 35,some (33,true),33554431⟩,⟨.call (.func 12) [(.tmp 34),(.tmp 35)],some 36,some (33,true),134217727⟩,⟨.load true 2 (.tmp 2),some 37,some (33,true),33554431⟩,⟨.mv (.tmp 1),some 38,some (33,true),33554431⟩,⟨.call (.func 13) [(.tmp 37),(.tmp 38)],some 39,some (33,true),1073741823⟩,⟨.bin .eql (.tmp 36) (.tmp 39),some 40,some (33,true),2147483647⟩,o3 (.pick (.tmp 33) (.tmp 40) (.const (.bool false))) 41 4294967295,mv' 41 4 8589934591]
def c3:SC:=(.seq (.reg false c3_0) (.seq (.seq (.reg false c3_1) (.cond (.tmp 7) (.seq (.reg false c3_2) .ret) .skip)) (.seq (.reg true c3_3) .ret)))
theorem ycat:Fn 3 c3 [.t 4]:=fn_0 Try.func3 (by kernel_rfl) (by kernel_rfl)
def c4_0:LO:=[o3 (.box 25 (.tmp 0)) 2 0,o3 (.mv (.const (.bool false))) 4 0]
def c4_1:LO:=[fa' 1 1 2 5 0,ld' false 1 5 6 1,ln' 6 7 3,o3 (.bin .gtr (.tmp 7) (ci' 60)) 8 7,mv' 8 9 15,⟨.faddr 0 1 (.tmp 2),some 10,some (9,false),31⟩,⟨.load false 1 (.tmp 10),some 11,some (9,false),63⟩,⟨.len (.tmp 11),some 12,some (9,false),127⟩,⟨.bin .gtr (.tmp 12) (ci' 60),some 13,some (9,false),255⟩,o3 (.pick (.tmp 9) (.const (.bool true)) (.tmp 13)) 14 511,mv' 14 15 1023,⟨.mv (.tmp 1),some 16,some (15,false),2047⟩,⟨.len (.tmp 16),some 17,some (15,false),4095⟩,⟨.bin .gtr (.tmp 17) (ci' 60),some 18,some (15,false),8191⟩,o3 (.pick (.tmp 15) (.const (.bool true)) (.tmp 18)) 19 16383,mv' 19 4 32767]
def c4:SC:=(.seq (.reg false c4_0) (.seq (.reg false c4_1) .ret))
theorem ycbv:Fn 4 c4 [.t 4]:=fn_0 Try.func4 (by kernel_rfl) (by kernel_rfl)
end Sh
end
section
def exB(g:Gr)(c:Conf):Bool:=(zH c.length).all fun v=>decide ((c.getD v []).getD 0 0=htP g v)
theorem yni{g:Gr}(ht:ybs g=true):Tr g:=by
 have hg:=yeo ht;exact ybod hg ht (by have:=ybgt hg;omega)
def hi0(c:Conf)(v:Nat):Int:=(c.getD v []).getD 0 0
def pkTo(g:Gr)(c:Conf)(k:Nat):Nat:=(zH k).foldl (pkV (hi0 c) g) (2^g.ports.length-1)
def pkIn(g:Gr)(c:Conf)(v i:Nat):Nat:=((g.ports.getD v []).take i).foldl (pkL (hi0 c) v) (pkTo g c v)
theorem yta(g:Gr)(c:Conf)(k:Nat):pkTo g c (k+1)=pkIn g c k (g.ports.getD k []).length:=by
 unfold pkTo pkIn;rw[zS,zY,zAB];rfl
theorem ytf{g:Gr}{c:Conf}{v i:Nat}(hi:i<(g.ports.getD v []).length):pkIn g c v (i+1)=if hi0 c v<hi0 c (ydy g v i).1.toNat then difB (pkIn g c v i) (2^v)else pkIn g c v i:=by
 unfold pkIn ydy;rw[List.take_succ_eq_append_getElem hi,zY,Sh.getD_at hi];rfl
theorem ycbm{g:Gr}{c:Conf}{m:Nat}(hm:g.ports.length<=m):∀k,pkTo g c k<2^m/\∀i,i<=(g.ports.getD k []).length->pkIn g c k i<2^m:=by
 have inn:∀k,pkTo g c k<2^m->∀i,i<=(g.ports.getD k []).length->pkIn g c k i<2^m:=fun k hk i=>by
  induction i with
  |zero=>intro _;exact hk
  | succ i ih =>
    intro hi;rw[ytf (by omega)]
    split
    ·exact yxm (ih (by omega))
    ·exact ih (by omega)
 have out:∀k,pkTo g c k<2^m:=fun k=>by
  induction k with
  | zero =>
    have h1:=Nat.two_pow_pos g.ports.length;have h2:=zK (show 0<2 by omega) hm
    show 2^g.ports.length-1<2^m;omega
  |succ k ih=>rw[yta];exact inn k ih _ (zI _)
 exact fun k=>⟨out k,inn k (out k)⟩
namespace Sh
open Ev Go.RowKit
theorem ybbm{g:Gr}(h:Tr g){c:Conf}(hl:c.length=g.ports.length)(h1:∀v,v<c.length->0<(c.getD v []).length):Returns Try.prog 21 [grV g,ycb c,.i .i64 (0:Nat)] (.b (exB g c)):=by
 refine Returns.of (ybwp _ _ ?_);have h24:=h.good.2.1;have hH:=fun(v:Nat) (hv:v<g.ports.length)=>yxt h hv;obtain⟨n,hn⟩:∃n,c.length=n:=⟨_,rfl⟩
 have he:exB g c=true↔∀v,v<n->(c.getD v []).getD 0 0=htP g v:=by
  unfold exB;rw[List.all_eq_true,hn];exact⟨fun q v hv=>of_decide_eq_true (q v (List.mem_range.2 hv)),fun q v hv=>decide_eq_true (q v (List.mem_range.1 hv))⟩
 rw[<-hl]at hH h24;simp only[hn]at hH h1 h24;simp only[grV]at hH;simp only[c21,ybst,ybwm,grV,ycb,hn,clash,go_sem,zB,zF,↓reduceIte];refine ycp (σ:=Nat) (fun k=>⟨[(7,.i .i64 k),(1,.sl 1 n fun v=>[ybf (c.getD v [])]),(2,.i .i64 (0:Nat)),(3,.pt (3,0) 0 0)],[(3,.one (some ⟨25,true,2,1,fun _=>[ybf g.ids,yu g.ports]⟩))]⟩) (fun k=>k<=n/\∀j,j<k->(c.getD j []).getD 0 0=htP g j) (fun k=>n-k) 0 ⟨zU _,fun j hj=>absurd hj (Nat.not_lt_zero j)⟩ ?_ ?_
 ·refine yba [] [] [] ?_;simp only[go_sem,allQ,live,yh,zG,go_sem,zA,↓reduceIte,reduceCtorEq]
 rintro k ⟨hk,hall⟩
 by_cases hlt:k<n
 ·have t1:decide ((k:Int)<(n:Int))=true:=decide_eq_true (by omega)
  have hHk:=hH k hlt;have h1k:=h1 k hlt;obtain⟨R,hR⟩:∃R,c.getD k []=R:=⟨_,rfl⟩;rw[hR]at h1k;obtain⟨x,hx⟩:∃x,R.getD 0 0=x:=⟨_,rfl⟩;obtain⟨y,hy⟩:∃y,htP g k=y:=⟨_,rfl⟩;rw[hy]at hHk
  by_cases q:x=y
  ·have t2:(x != y)=false:=by rw[q];simp
   simp only[ybiw,ybre,ybsk,ybf,hR,hx,t1,clash,go_sem,zA,zB,↓reduceIte,reduceCtorEq]
   repeat (first|refine⟨(by omega:(_:Prop)),?_⟩|refine⟨(⟨by omega,by omega⟩:_/\_),?_⟩)
   refine hHk.use ?_;simp only[ybo,t2,clash,go_sem,zA,zB,↓reduceIte,reduceCtorEq];refine⟨ikw (by omega) (by omega),ybd (k+1) ⟨by omega,fun j hj=>?_⟩ (by omega) ?_⟩
   ·by_cases q2:j=k
    ·rw[q2,hR,hx,hy];exact q
    ·exact hall j (by omega)
   refine yba [] [] [] ?_;simp only[go_sem,allQ,live,yh,ydt,zG,go_sem,zA,↓reduceIte,reduceCtorEq];omega
  ·have t2:(x != y)=true:=by rw[bne_iff_ne];exact q
   have e:exB g c=false:=by
    cases hb:exB g c with
    |false=>rfl
    |true=>have:=he.1 hb k hlt;rw[hR,hx,hy]at this;exact absurd this q
   rw[e];simp only[ybiw,ybre,ybyc,ybf,hR,hx,t1,clash,go_sem,zA,zB,↓reduceIte,reduceCtorEq]
   repeat (first|refine⟨(by omega:(_:Prop)),?_⟩|refine⟨(⟨by omega,by omega⟩:_/\_),?_⟩)
   refine hHk.use ?_;simp only[ybo,t2,clash,go_sem,zA,zB,↓reduceIte];exact Sim.refl _
 ·obtain rfl:k=n:=by omega
  have t1:decide ((k:Int)<(k:Int))=false:=decide_eq_false (by omega)
  rw[he.2 hall];simp only[ybiw,ybuh,t1,clash,go_sem,zA,zB,↓reduceIte,reduceCtorEq];exact Sim.refl _
set_option maxHeartbeats 2000000 in
theorem yuy{g:Gr}(hg:ybh g){c:Conf}(hl:c.length=g.ports.length)(h1:∀v,v<c.length->0<(c.getD v []).length):Returns Try.prog 26 [grV g,ycb c,.i .i64 (0:Nat)] (.i .u32 (ylc (fun v=>(c.getD v []).getD 0 0) g:Nat)):=by
 refine Returns.of (ybya _ _ ?_);have h24:=hg.2.1;have h2n:2^g.ports.length<=2^24:=zK (by omega) (by omega)
 have hA:=ybgs (n:=g.ports.length) h24;have hlt:=fun k=>ycbm (g:=g) (c:=c) (m:=32) (by omega) k
 have hso:=yta g c;have hsi:=fun v i hi=>ytf (g:=g) (c:=c) (v:=v) (i:=i) hi;have e0:pkTo g c 0=2^g.ports.length-1:=rfl;have ei:∀v,pkIn g c v 0=pkTo g c v:=fun _=>rfl;have ee:pkTo g c g.ports.length=ylc (fun v=>(c.getD v []).getD 0 0) g:=rfl;have hdeg:=fun v=>hg.deg_lt (v:=v)
 have hto:∀v,v<g.ports.length->∀i,i<(g.ports.getD v []).length->0<=(ydy g v i).1/\(ydy g v i).1.toNat<g.ports.length:=fun v hv i hi=>by
  have hm:ydy g v i∈g.ports.getD v []:=by unfold ydy;rw[getD_at hi];exact zAA hi
  obtain⟨a1,a2,_⟩:=yco hg hv hm;exact⟨a1,a2⟩
 have hx:∀v,hi0 c v=(c.getD v []).getD 0 0:=fun _=>rfl;have hll:∀v i,(g.ports.getD v []).getD i (0,0)=ydy g v i:=fun _ _=>rfl;obtain⟨n,hn⟩:∃n,c.length=n:=⟨_,rfl⟩;rw[<-hl]at hto;have hgn:g.ports.length=n:=by omega
 rw[<-ee];simp only[hn]at h1 hto;rw[hgn]at hA h24 e0 ⊢;rw[<-e0]at hA;obtain⟨S,hS⟩:∃S:Nat->Nat,(fun k=>pkTo g c k)=S:=⟨_,rfl⟩;have hS':∀k,pkTo g c k=S k:=fun k=>by rw[<-hS]
 obtain⟨T,hT⟩:∃T:Nat->Nat->Nat,(fun k i=>pkIn g c k i)=T:=⟨_,rfl⟩;have hT':∀k i,pkIn g c k i=T k i:=fun k i=>by rw[<-hT]
 obtain⟨H,hH⟩:∃H:Nat->Int,(fun v=>hi0 c v)=H:=⟨_,rfl⟩;have hH':∀v,hi0 c v=H v:=fun v=>by rw[<-hH]
 simp only[hS',hT',hH']at hlt hso hsi ei hx hA ⊢;simp only[c26,ycag,ybsj,ybxb,grV,ycb,hn,clash,go_sem,zA,zB,zF,↓reduceIte,reduceCtorEq];refine hA.use ?_;simp only[ybo,clash,go_sem,zA,zB,↓reduceIte,reduceCtorEq];refine ycp (σ:=Nat) (fun k=>⟨[(8,.i .i64 k),(7,.i .u32 (S k)),(1,.sl 1 n fun v=>[ybf (c.getD v [])]),(2,.i .i64 (0:Nat)),(3,.pt (3,0) 0 0)],[(3,.one (some ⟨25,true,2,1,fun _=>[ybf g.ids,yu g.ports]⟩))]⟩) (fun k=>k<=n) (fun k=>n-k) 0 (zU _) ?_ ?_
 ·refine yba [] [] [] ?_;simp only[go_sem,allQ,live,yh,zG,go_sem,zA,↓reduceIte,reduceCtorEq]
 intro k hk
 by_cases hlk:k<n
 ·have t1:decide ((k:Int)<(n:Int))=true:=decide_eq_true (by omega)
  have hdk:=hdeg k;have htk:=hto k hlk;have hsk:=hsi k;have hl2:=(hlt k).2;have hllk:=hll k;have hxk:=hx k;have h1k:=h1 k hlk;have hso:=hso k;obtain⟨d,hd⟩:∃d,(g.ports.getD k []).length=d:=⟨_,rfl⟩;rw[hd]at hdk htk hsk hl2 hso;obtain⟨L,hL⟩:∃L,g.ports.getD k []=L:=⟨_,rfl⟩;rw[hL]at hd hllk;obtain⟨R,hR⟩:∃R,c.getD k []=R:=⟨_,rfl⟩;rw[hR]at hxk h1k;have sh:=ymh (v:=k) (by omega)
  simp only[zX]at sh;simp only[ybrk,ybze,t1,clash,go_sem,zA,zB,↓reduceIte,reduceCtorEq];refine ycp (σ:=Nat) (fun i=>⟨[(9,.i .i64 i),(8,.i .i64 k),(7,.i .u32 (T k i)),(1,.sl 1 n fun v=>[ybf (c.getD v [])]),(2,.i .i64 (0:Nat)),(3,.pt (3,0) 0 0)],[(3,.one (some ⟨25,true,2,1,fun _=>[ybf g.ids,yu g.ports]⟩))]⟩) (fun i=>i<=d) (fun i=>d-i) 0 (zU _) ?_ ?_
  ·refine yba [] [] [] ?_;simp only[ei,allQ,live,yh,zG,go_sem,zA,↓reduceIte,reduceCtorEq]
  intro i hi
  by_cases hli:i<d
  ·have t2:decide ((i:Int)<(d:Int))=true:=decide_eq_true (by omega)
   obtain⟨b1,b2⟩:=htk i hli;have hll':=hllk i;have hsk:=hsk i hli;obtain⟨l,hle⟩:∃l,ydy g k i=l:=⟨_,rfl⟩;rw[hle]at b1 b2 hll' hsk;have hxl:=hx l.1.toNat;have h1l:=h1 l.1.toNat b2;obtain⟨Q,hQ⟩:∃Q,c.getD l.1.toNat []=Q:=⟨_,rfl⟩;rw[hQ]at hxl h1l;obtain⟨x,hxe⟩:∃x,H k=x:=⟨_,rfl⟩;obtain⟨y,hye⟩:∃y,H l.1.toNat=y:=⟨_,rfl⟩;rw[hxe]at hxk hsk;rw[hye]at hxl hsk
   by_cases q:x<y
   ·have t3:decide (y>x)=true:=decide_eq_true q;rw[if_pos q]at hsk;have an:=u32_andNot (a:=T k i) (b:=2^k) (hl2 i hi) (zV (by omega) (by omega))
    rw[<-hsk]at an;simp only[IntKind.bits]at an;simp(maxSteps:=5000000) only [ybln,ybrq,ybuu,ybqc,yu,ybc,ybf,hgn,hL,hd,hll',hR,hQ,<-hxk,<-hxl,t2,t3,ybad (show k<2^32 by omega),sh,an,clash,go_sem,zA,zB,zJ,↓reduceIte,reduceCtorEq]
    repeat (first|refine⟨(by omega:(_:Prop)),?_⟩|refine⟨(⟨by omega,by omega⟩:_/\_),?_⟩)
    refine⟨ikw (by omega) (by omega),ybd (i+1) (by omega) (by omega) ?_⟩
    refine yba [] [] [] ?_;simp only[go_sem,allQ,live,yh,ydt,zG,go_sem,zA,↓reduceIte,reduceCtorEq];omega
   ·have t3:decide (y>x)=false:=decide_eq_false q;rw[if_neg q]at hsk;simp(maxSteps:=5000000) only [ybln,ybrq,ybqc,yu,ybc,ybf,hgn,hL,hd,hll',hR,hQ,<-hxk,<-hxl,t2,t3,clash,go_sem,zA,zB,zJ,↓reduceIte,reduceCtorEq]
    repeat (first|refine⟨(by omega:(_:Prop)),?_⟩|refine⟨(⟨by omega,by omega⟩:_/\_),?_⟩)
    refine⟨ikw (by omega) (by omega),ybd (i+1) (by omega) (by omega) ?_⟩
    refine yba [] [] [] ?_;simp only[hsk,allQ,live,yh,ydt,zG,go_sem,zA,↓reduceIte,reduceCtorEq];omega
  ·obtain rfl:i=d:=by omega
   have t2:decide ((i:Int)<(i:Int))=false:=decide_eq_false (by omega)
   simp(maxSteps:=5000000) only [ybln,ybxt,yu,ybc,hgn,hL,hd,t2,clash,go_sem,zA,zB,↓reduceIte,reduceCtorEq]
   repeat (first|refine⟨(by omega:(_:Prop)),?_⟩|refine⟨(⟨by omega,by omega⟩:_/\_),?_⟩)
   refine⟨ikw (by omega) (by omega),ybd (k+1) (by omega) (by omega) ?_⟩
   refine yba [] [] [] ?_;simp only[hso,allQ,live,yh,ydt,zG,go_sem,zA,↓reduceIte,reduceCtorEq];omega
 ·obtain rfl:k=n:=by omega
  have t1:decide ((k:Int)<(k:Int))=false:=decide_eq_false (by omega)
  simp only[ybrk,ybmy,t1,clash,go_sem,zA,zB,↓reduceIte,reduceCtorEq];exact Sim.refl _
end Sh
end
section
namespace Ev
open Go Go.RowKit
def hkN:Hooks:=⟨none,none,some 57,symB,[],some 55⟩
theorem ybth:HooksOk Try.prog hkN:=⟨fun g h=>(by cases h),fun g h=>(by cases h),fun g h=>(by cases h;exact ybpu),fun c hc=>(by cases hc),fun g h=>(by cases h;exact yqu)⟩
set_option maxRecDepth 1000000 in
theorem yxi:outV (ev Try.prog hkN 3000 (.call 5 [] mem0))=some (.bool true):=by kernel_rfl
theorem ybpl(w:World)(hG:GlW w):Calls Try.prog 5 #[] w fun e w'=>e = .returned (.bool true)/\Below w.heap.size w w' :=
 yqy mix ybcb ybth yxi rfl rfl ⟨_,_,Try.func5,rfl⟩ w hG
end Ev
namespace Sh
open Go Ev Go.RowKit
theorem yyk:Returns Try.prog 5 [] (.b true):=by
 refine yla ⟨_,_,Try.func5,rfl⟩ (fun _=>.b) (fun _=>.simple rfl) fun G m us hG hr φ M w us' hRl hs hv=>?_;cases hr
 cases hv
 exact ybpl w fun x hx=>(hRl.gl x hx).1
end Sh
end
section
def ymp:List VarR:=[⟨⟨#[104]⟩,1,0,0,1,0⟩]
theorem ypa:∀x∈ymp,ybgc x:=by
 intro x hx;simp only[ymp,List.mem_singleton]at hx;subst hx;exact⟨⟨by decide,by decide⟩,⟨by decide,by decide⟩,⟨by decide,by decide⟩,⟨by decide,by decide⟩⟩
theorem ypb{g:Gr}(c:Conf)(ht:ybs g=true):yds g c ymp=yda g c:=by
 have hg:=yeo ht;have hpl:=hg.2.2.1;have hne:¬(g.ids.length:Int) = -1:=by omega
 unfold yda yds;rw[ht,(ybn g).2 hg,show yfa g ymp=ydb g [(g.ids.length:Int)]from funext fun v=>by simp[yfa,ydb,ymp,yup,hpl]]
namespace Sh
open Ev Go.RowKit
theorem yue{g:Gr}(hI:GrI g){c:Conf}(hR:yox c):Returns Try.prog 9 [grV g,ycb c] (.b (yfo g c)):=by
 refine Returns.of (ycaz _ _ ?_);have hF:=yhs hI;have hVs:Returns Try.prog 20 [] (yfq ymp):=ysi;have hC:=yog hI hR ypa;unfold yfo;cases ht:ybs g with
 | false =>
   have e0:yda g c=false:=by unfold yda;rw[ht];rfl
   rw[ht]at hF;rw[e0];simp only[grV]at hF;simp only[c9,c9_0,c9_1,grV,clash,go_sem,zA,zB,zF,↓reduceIte];refine hF.use ?_;simp only[ybo,clash,go_sem,zA,zB,↓reduceIte,reduceCtorEq]
   try refine⟨by decide,?_⟩
   exact Sim.refl _
 |true =>
 have hT:=yni ht;rw[ypb c ht]at hC;rw[ht]at hF;cases hcf:yda g c with
 | false =>
   rw[hcf]at hC;simp only[grV]at hF hC;simp only[c9,c9_0,c9_1,grV,clash,go_sem,zA,zB,zF,↓reduceIte];refine hF.use ?_;simp only[ybo,clash,go_sem,zA,zB,↓reduceIte,reduceCtorEq]
   try refine⟨by decide,?_⟩
   refine hVs.use ?_;simp only[go_sem,↓reduceIte]
   try refine⟨by decide,?_⟩
   first|refine hC.use ?_|refine⟨by decide,hC.use ?_⟩
   simp only[clash,go_sem,zA,zB,↓reduceIte,reduceCtorEq]
   try refine⟨by decide,?_⟩
   exact Sim.refl _
 | true =>
   obtain⟨_,hcl,hc1⟩:=yit hcf;have hX:=ybbm hT hcl (fun v hv=>by rw[hc1 v hv];decide)
   unfold exB at hX;rw[hcl]at hX;rw[hcf]at hC
   generalize (zH g.ports.length).all (fun v=>decide ((c.getD v []).getD 0 0=htP g v))=B at hX
   simp only[grV]at hF hC hX;simp only[c9,c9_0,c9_1,grV,clash,go_sem,zA,zB,zF,↓reduceIte];refine hF.use ?_;simp only[ybo,clash,go_sem,zA,zB,↓reduceIte,reduceCtorEq]
   try refine⟨by decide,?_⟩
   refine hVs.use ?_;simp only[go_sem,↓reduceIte]
   try refine⟨by decide,?_⟩
   first|refine hC.use ?_|refine⟨by decide,hC.use ?_⟩
   simp only[ybo,clash,go_sem,zA,zB,↓reduceIte,reduceCtorEq]
   try refine⟨by decide,?_⟩
   first|refine hX.use ?_|refine⟨by decide,hX.use ?_⟩
   simp only[go_sem]
   try refine⟨by decide,?_⟩
   exact Sim.refl _
theorem ytu{g:Gr}(hI:GrI g){c:Conf}(hR:yox c):Returns Try.prog 13 [grV g,ycb c] (.i .u32 (ybel g c)):=by
 refine Returns.of (ybxd _ _ ?_);have hF:=yhs hI;have hVs:Returns Try.prog 20 [] (yfq ymp):=ysi;have hC:=yog hI hR ypa;unfold ybel;cases ht:ybs g with
 | false =>
   have e0:yda g c=false:=by unfold yda;rw[ht];rfl
   rw[ht]at hF;rw[e0,if_neg (by decide)]
   simp only[grV]at hF;simp only[c13,ybkr,ybja,ybnp,grV,clash,go_sem,zA,zB,zF,↓reduceIte];refine hF.use ?_;simp only[ybo,clash,go_sem,zA,zB,↓reduceIte,reduceCtorEq]
   try refine⟨by decide,?_⟩
   exact Sim.refl _
 |true =>
 have hT:=yni ht;rw[ypb c ht]at hC;rw[ht]at hF;cases hcf:yda g c with
 | false =>
   rw[hcf]at hC;rw[if_neg (by decide)]
   simp only[grV]at hF hC;simp only[c13,ybkr,ybja,ybnp,grV,clash,go_sem,zA,zB,zF,↓reduceIte];refine hF.use ?_;simp only[ybo,clash,go_sem,zA,zB,↓reduceIte,reduceCtorEq]
   try refine⟨by decide,?_⟩
   refine hVs.use ?_;simp only[go_sem,↓reduceIte]
   try refine⟨by decide,?_⟩
   first|refine hC.use ?_|refine⟨by decide,hC.use ?_⟩
   simp only[go_sem,↓reduceIte]
   try refine⟨by decide,?_⟩
   exact Sim.refl _
 | true =>
   obtain⟨_,hcl,hc1⟩:=yit hcf;have hX:=yuy hT.good hcl (fun v hv=>by rw[hc1 v hv];decide)
   rw[hcf]at hC;rw[if_pos rfl]
   generalize ylc (fun v=>(c.getD v []).getD 0 0) g=B at hX
   simp only[grV]at hF hC hX;simp only[c13,ybkr,ybja,ybxg,grV,clash,go_sem,zA,zB,zF,↓reduceIte];refine hF.use ?_;simp only[ybo,clash,go_sem,zA,zB,↓reduceIte,reduceCtorEq]
   try refine⟨by decide,?_⟩
   refine hVs.use ?_;simp only[go_sem,↓reduceIte]
   try refine⟨by decide,?_⟩
   first|refine hC.use ?_|refine⟨by decide,hC.use ?_⟩
   simp only[ybo,clash,go_sem,zA,zB,↓reduceIte,reduceCtorEq]
   try refine⟨by decide,?_⟩
   first|refine hX.use ?_|refine⟨by decide,hX.use ?_⟩
   simp only[go_sem]
   try refine⟨by decide,?_⟩
   exact Sim.refl _
theorem ywf(g:Gr)(c:Conf):Returns Try.prog 4 [grV g,ycb c] (.b (decide (g.ports.length>60)||decide (g.ids.length>60)||decide (c.length>60))):=by
 refine Returns.of (ycbv _ _ ?_)
 by_cases h1:g.ports.length>60
 ·have t1:decide ((g.ports.length:Int)>60)=true:=decide_eq_true (by omega)
  have t2:decide (g.ports.length>60)=true:=decide_eq_true h1;rw[t2];simp only[c4,c4_0,c4_1,grV,ybf,yu,ycb,t1,clash,go_sem,zA,zB,zF,↓reduceIte,reduceCtorEq];exact Sim.refl _
 ·have t1:decide ((g.ports.length:Int)>60)=false:=decide_eq_false (by omega)
  have t2:decide (g.ports.length>60)=false:=decide_eq_false h1;rw[t2]
  by_cases h2:g.ids.length>60
  ·have t3:decide ((g.ids.length:Int)>60)=true:=decide_eq_true (by omega)
   have t4:decide (g.ids.length>60)=true:=decide_eq_true h2;rw[t4];simp only[c4,c4_0,c4_1,grV,ybf,yu,ycb,t1,t3,clash,go_sem,zA,zB,zJ,zF,↓reduceIte,reduceCtorEq];exact Sim.refl _
  ·have t3:decide ((g.ids.length:Int)>60)=false:=decide_eq_false (by omega)
   have t4:decide (g.ids.length>60)=false:=decide_eq_false h2;rw[t4];simp only[c4,c4_0,c4_1,grV,ybf,yu,ycb,t1,t3,clash,go_sem,zA,zB,zJ,zF,↓reduceIte,reduceCtorEq]
   have e:decide ((c.length:Int)>60)=decide (c.length>60):=by
    rw[zT,decide_eq_true_iff,decide_eq_true_iff];omega
   rw[e];exact Sim.refl _
theorem yll{g:Gr}(hI:GrI g){c:Conf}(hR:yox c):Returns Try.prog 3 [grV g,ycb c] (.b true):=by
 refine Returns.of (ycat _ _ ?_);have hL:=ywf g c;have hK:=yyk;cases hlg:(decide (g.ports.length>60)||decide (g.ids.length>60)||decide (c.length>60))with
 | true =>
   rw[hlg]at hL;simp only[grV]at hL;simp only[c3,c3_0,c3_1,c3_2,grV,clash,go_sem,zA,zB,zF,↓reduceIte,reduceCtorEq];refine hL.use ?_;simp only[ybo,clash,go_sem,zB,↓reduceIte,reduceCtorEq]
   try refine⟨by decide,?_⟩
   refine hK.use ?_;simp only[go_sem]
   try refine⟨by decide,?_⟩
   exact Sim.refl _
 | false =>
   rw[hlg]at hL
   have hcl:c.length<=1000:=by
    simp at hlg;omega
   have f1:=yre hI;have f2:=yhs hI;have f3:=ybbt hI hR (fun h=>yni h);have f4:=yue hI hR;have f5:=ybdk hI;have f6:=yti hI;have f7:=ywn hI hR;have f8:=ytu hI hR
   generalize yfo g c=B at f3 f4
   generalize ybel g c=LL at f7 f8
   generalize ybs g=C at f1 f2
   obtain⟨CL,hCL⟩:∃CL,ygr g = .ag CL:=by unfold ygr;split<;>exact⟨_,rfl⟩
   have hsq:eqL [false,true,true,false,false] CL CL=some true:=by
    unfold ygr at hCL;split at hCL
    ·cases hCL;simp[clmV,eqL]
    ·cases hCL;simp[clmV,eqL]
   have hsc:CL.all (scalar 4)=true:=by
    unfold ygr at hCL;split at hCL
    ·cases hCL;rfl
    ·cases hCL;rfl
   have hone:CL.all one1=true:=by
    unfold ygr at hCL;split at hCL
    ·cases hCL;rfl
    ·cases hCL;rfl
   rw[hCL]at f5 f6;simp only[grV]at hL f1 f2 f3 f4 f5 f6 f7 f8;simp only[c3,c3_0,c3_1,c3_3,grV,clash,go_sem,zA,zB,zF,↓reduceIte,reduceCtorEq];refine hL.use ?_;simp only[ybo,clash,go_sem,zB,↓reduceIte,reduceCtorEq]
   try refine⟨by decide,?_⟩
   refine hK.use ?_;simp only[ybo,clash,go_sem,zA,zB,↓reduceIte,reduceCtorEq]
   try refine⟨by decide,?_⟩
   first|refine f1.use ?_|refine⟨by decide,f1.use ?_⟩
   simp only[go_sem]
   try refine⟨by decide,?_⟩
   first|refine f2.use ?_|refine⟨by decide,f2.use ?_⟩
   simp only[ybo,clash,go_sem,zA,zB,↓reduceIte,reduceCtorEq]
   try refine⟨by decide,?_⟩
   first|refine f3.use ?_|refine⟨by decide,f3.use ?_⟩
   simp only[go_sem]
   try refine⟨by decide,?_⟩
   first|refine f4.use ?_|refine⟨by decide,f4.use ?_⟩
   simp only[ybo,clash,go_sem,zA,zB,↓reduceIte,reduceCtorEq]
   try refine⟨by decide,?_⟩
   first|refine f5.use ?_|refine⟨by decide,f5.use ?_⟩
   simp only[hsc,go_sem]
   try refine⟨by decide,?_⟩
   first|refine f6.use ?_|refine⟨by decide,f6.use ?_⟩
   simp only[ybo,clash,hsq,hsc,go_sem,zA,zB,↓reduceIte,reduceCtorEq]
   try refine⟨by decide,?_⟩
   first|refine f7.use ?_|refine⟨by decide,f7.use ?_⟩
   simp only[go_sem]
   try refine⟨by decide,?_⟩
   first|refine f8.use ?_|refine⟨by decide,f8.use ?_⟩
   simp only[go_sem,↓reduceIte]
   try refine⟨by decide,?_⟩
   exact Sim.refl _
end Sh
end
end Go.Proofs.Ytiejahgklcjhkaa
