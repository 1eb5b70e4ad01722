/- Lemmas, joined: WlA Lp WlB WlC ScLw Lwo Lwa. -/
import Derived.Test.YtpngeppkgoaimaaGreatDoorPkLp14
import Derived.Test.YtpngeppkgoaimaaGreatDoorPkLp10
import Derived.Test.YtpngeppkgoaimaaGreatDoorPkLp13
import Derived.Test.YtpngeppkgoaimaaGreatDoorPkLpx0
import Derived.Test.YtpngeppkgoaimaaGreatDoorPkLp16
import Derived.Test.YtpngeppkgoaimaaGreatDoorPkLp15
import Derived.Test.YtpngeppkgoaimaaGreatDoorPkLp8
set_option linter.unusedSimpArgs false
set_option linter.unusedVariables false
namespace Go.Proofs.YtpngeppkgoaimaaGreatDoor
def ycar:Ex:=.bin 33 (.bin 30 (eQ 0) eN) (eQ 1)
def ydxt:Ex:=.bin 30 (.bin 33 (.leaf 7 0) (eNum 1)) eN
def yhf:Ex:=.agg 24 (.ite (.bin 37 (.bin 33 (eQ 1) (eNum 1)) eN) ycar ydxt)
def ybog:Ex:=.agg 23 (.bin 35 ycar yhf)
def ydsk:Ex:=.bin 41 (.bin 38 (.bin 30 (.leaf 8 0) eN) yhf) (.bin 42 (.bin 42 (.bin 36 (eVar 0) (.leaf 8 0)) (.bin 36 (eVar 1) (eNum 0))) (.bin 36 (eVar 2) ybpa))
def ycqp:Ex:=.bin 41 (.bin 39 (.bin 30 (.leaf 8 0) eN) yhf) (.bin 42 (.bin 42 (.bin 36 (eVar 0) (.bin 31 yhf eN)) (.bin 36 (eVar 1) (.bin 33 (.bin 32 yhf eN) (eNum 1)))) (.bin 36 (eVar 2) ybog))
def yco(nm l d p o j:ByteArray):ProgT:=⟨nm,[⟨l,1,0,0,0,1⟩,⟨d,1,0,-1,1,0⟩,⟨p,3,0,0,0,0⟩],[⟨o,ydsk,[(0,.leaf 8 0),(1,eNum 0),(2,ybpa)]⟩,⟨j,ycqp,[(0,.bin 31 yhf eN),(1,.bin 33 (.bin 32 yhf eN) (eNum 1)),(2,ybog)]⟩]⟩

def ldK(g:Gr)(c:Conf)(l:Int × Int):Int:=endP c 0 l * (g.ids.length:Int)+endP c 1 l
def ldH(g:Gr)(c:Conf)(l:Int × Int):Int:=if endP c 1 l+1<(g.ids.length:Int)then ldK g c l else(yjo g+1) * (g.ids.length:Int)
def ldM(g:Gr)(c:Conf)(v:Nat):Int:=ygi ((g.ports.getD v []).map (ldH g c))
def ldF(g:Gr)(c:Conf)(v:Nat):Int:=yey (fun l=>ldK g c l == ldM g c v) (g.ports.getD v [])
def ldT(g:Gr)(c:Conf)(v:Nat):List Int:=if g.ids.getD v 0 * (g.ids.length:Int)<=ldM g c v then[g.ids.getD v 0,0,-1]else[ldM g c v / (g.ids.length:Int),ldM g c v % (g.ids.length:Int)+1,ldF g c v]
structure LdC(g:Gr)(c:Conf):Prop where
 len:c.length=g.ids.length
 row:∀ v,v<g.ids.length->(c.getD v []).length=3/\(0<=(c.getD v []).getD 0 0/\(c.getD v []).getD 0 0<=yjo g)/\(0<=(c.getD v []).getD 1 0/\(c.getD v []).getD 1 0<g.ids.length)/\(-1<=(c.getD v []).getD 2 0/\(c.getD v []).getD 2 0<(g.ports.getD v []).length)
section
variable {nm nl nd np no nj:ByteArray} {g:Gr} {c:Conf} {v:Nat}
theorem yjv(hg:yba g):maxI g.ids=yjo g:=by
 have h:=Sh.yty (l:=g.ids) (fun x hx=>hg.2.2.2.1 x hx) (by have:=hg.1;have:=hg.2.2.1;omega)
 rw[<- h];unfold Sh.yqz yjo;rw[List.take_length]
theorem ynb{x:Int}(h:InB x):satP x=x:=by unfold InB at h;unfold satP;omega
theorem yfg(hg:yba g)(hc:ych (yco nm nl nd np no nj) g c=true):LdC g c:=by
 have h:=(yep _ _ _).1 hc;refine⟨h.1,fun v hv=>?_⟩;have hlt:v<c.length:=by rw[h.1];exact hv
 have e:c.getD v []=c[v]:=by simp[List.getD,hlt]
 have h2:=h.2 v _ (List.getElem?_eq_getElem hlt);rw[e];have hl:c[v].length=3:=h2.1;have a0:(ybf g v ⟨nl,1,0,0,0,1⟩).1<=c[v][0]/\c[v][0]<=(ybf g v ⟨nl,1,0,0,0,1⟩).2:=h2.2 0 _ _ rfl (List.getElem?_eq_getElem (by omega))
 have a1:(ybf g v ⟨nd,1,0,-1,1,0⟩).1<=c[v][1]/\c[v][1]<=(ybf g v ⟨nd,1,0,-1,1,0⟩).2:=h2.2 1 _ _ rfl (List.getElem?_eq_getElem (by omega))
 have a2:(ybf g v ⟨np,3,0,0,0,0⟩).1<=c[v][2]/\c[v][2]<=(ybf g v ⟨np,3,0,0,0,0⟩).2:=h2.2 2 _ _ rfl (List.getElem?_eq_getElem (by omega))
 have e0:c[v].getD 0 0=c[v][0]:=by simp[List.getD,hl]
 have e1:c[v].getD 1 0=c[v][1]:=by simp[List.getD,hl]
 have e2:c[v].getD 2 0=c[v][2]:=by simp[List.getD,hl]
 rw[e0,e1,e2];rw[bT3]at a2
 have b0:ybf g v ⟨nl,1,0,0,0,1⟩=(0,0+0 * (g.ids.length:Int)+1 * maxI g.ids):=by
  show(if (1:Int)=1 then _ else _)=_
  rw[if_pos rfl]
 have b1:ybf g v ⟨nd,1,0,-1,1,0⟩=(0,-1+1 * (g.ids.length:Int)+0 * maxI g.ids):=by
  show(if (1:Int)=1 then _ else _)=_
  rw[if_pos rfl]
 rw[b0,yjv hg]at a0;rw[b1]at a1;simp only at a0 a1 a2;exact⟨hl,⟨by omega,by omega⟩,⟨by omega,by omega⟩,⟨by omega,by omega⟩⟩
theorem LdC.link(h:LdC g c)(hg:yba g)(hv:v<g.ids.length){l:Int × Int}(hl:l ∈ g.ports.getD v []):0<=l.1/\l.1.toNat<g.ids.length/\adj g v l.1.toNat/\(0<=endP c 0 l/\endP c 0 l<=yjo g)/\(0<=endP c 1 l/\endP c 1 l<g.ids.length):=by
 have hpl:=hg.2.2.1;obtain⟨h1,h2,h3,_⟩:=ycb hg (by omega) hl
 have h4:=h.row l.1.toNat (by omega)
 exact⟨h1,by omega,h3,h4.2.1,h4.2.2.1⟩
theorem yim{a n:Int}(ha:0<=a/\a<=256)(hn:1<=n/\n<=24):0<=a * n/\a * n<=6144:=by
 refine⟨Int.mul_nonneg ha.1 (by omega),?_⟩
 have h1:a * n<=256 * n:=Int.mul_le_mul_of_nonneg_right ha.2 (by omega)
 omega
theorem ydpu(h:LdC g c)(hg:yba g)(hv:v<g.ids.length){l:Int × Int}(hl:l ∈ g.ports.getD v []):0<=ldK g c l/\ldK g c l<=7000:=by
 obtain⟨_,_,_,h1,h2⟩:=h.link hg hv hl;have h3:=yda hg;have h4:=hg.2.1;have h5:=hg.2.2.1;have h6:=yim (a:=endP c 0 l) (n:=(g.ids.length:Int)) (by omega) (by omega)
 unfold ldK;omega
theorem ycjc(hg:yba g):0<=(yjo g+1) * (g.ids.length:Int)/\(yjo g+1) * (g.ids.length:Int)<=6144:=by
 have h3:=yda hg;have h4:=hg.2.1;have h5:=hg.2.2.1;have h6:=hg.1;exact yim (by omega) (by omega)
theorem ydti(h:LdC g c)(hg:yba g)(hv:v<g.ids.length){l:Int × Int}(hl:l ∈ g.ports.getD v []):0<=ldH g c l/\ldH g c l<=7000:=by
 have h1:=ydpu h hg hv hl;have h2:=ycjc hg;unfold ldH;split<;>omega
theorem ywn(h:LdC g c)(hg:yba g)(hv:v<g.ids.length):0<=ldM g c v:=yir (by omega) fun x hx=>by
 obtain⟨l,hl,rfl⟩:=List.mem_map.1 hx;exact(ydti h hg hv hl).1
theorem ev_q(g:Gr)(c:Conf)(v q:Nat)(k:Nat):ybm g c v (eQ (k:Int)) (q:Int)=endP c k (ybo g v q):=by
 show(c.getD (ybo g v (q:Int).toNat).1.toNat []).getD (k:Int).toNat 0=_;rw[Int.toNat_natCast,Int.toNat_natCast];rfl
theorem ybjr(h:LdC g c)(hg:yba g)(hv:v<g.ids.length){q:Nat}(hq:q<(g.ports.getD v []).length):ybm g c v ycar q=ldK g c (ybo g v q):=by
 have hm:ybo g v q ∈ g.ports.getD v []:=by unfold ybo;rw[Sh.getD_at hq];exact List.getElem_mem hq
 obtain⟨_,_,_,h1,h2⟩:=h.link hg hv hm;have h3:=yda hg;have h4:=hg.2.1;have h5:=hg.2.2.1;have h6:=yim (a:=endP c 0 (ybo g v q)) (n:=(g.ids.length:Int)) (by omega) (by omega)
 show satP (satP (ybm g c v (eQ ((0:Nat):Int)) q * (g.ids.length:Int))+ybm g c v (eQ ((1:Nat):Int)) q)=_;rw[ev_q,ev_q,ynb (x:=endP c 0 (ybo g v q) * (g.ids.length:Int)) (by unfold InB;omega),ynb (by unfold InB;omega)]
 rfl
theorem ymy(h:LdC g c)(hg:yba g)(hv:v<g.ids.length)(p:Int):ybm g c v yhf p=ldM g c v:=by
 show ygg 24 _=_;unfold ldM ygg;rw[if_neg (by decide),if_neg (by decide),if_neg (by decide),if_neg (by decide),if_pos rfl]
 congr 1;refine ynh g v _ _ fun q hq=>?_;have hm:ybo g v q ∈ g.ports.getD v []:=by unfold ybo;rw[Sh.getD_at hq];exact List.getElem_mem hq
 obtain⟨_,_,_,h1,h2⟩:=h.link hg hv hm;have h4:=hg.2.1;have h5:=hg.2.2.1;have h7:=ycjc hg;have h8:=yda hg;show(if binP 37 (satP (ybm g c v (eQ ((1:Nat):Int)) q+1)) (g.ids.length:Int) ≠ 0 then ybm g c v ycar q else satP (satP (yjo g+1) * (g.ids.length:Int)))=ldH g c (ybo g v q)
 rw[ev_q,ybjr h hg hv hq,ynb (by unfold InB;omega),ynb (x:=yjo g+1) (by unfold InB;omega),ynb (by unfold InB;omega)]
 have e3:binP 37 (endP c 1 (ybo g v q)+1) (g.ids.length:Int)=ybr (decide (endP c 1 (ybo g v q)+1<(g.ids.length:Int))):=rfl;rw[e3];unfold ldH
 by_cases hh:endP c 1 (ybo g v q)+1<(g.ids.length:Int)
 ·rw[if_pos hh,if_pos (by simp[ybr,hh])]
 ·rw[if_neg hh,if_neg (by simp[ybr,hh])]
theorem ybkp(h:LdC g c)(hg:yba g)(hv:v<g.ids.length)(p:Int):ybm g c v ybog p=ldF g c v:=by
 show ygg 23 _=_;unfold ldF ygg;rw[if_neg (by decide),if_neg (by decide),if_neg (by decide),if_pos rfl,<- ynt]
 congr 1;refine ynh g v _ _ fun q hq=>?_;show binP 35 (ybm g c v ycar q) (ybm g c v yhf q)=_;rw[ymy h hg hv,ybjr h hg hv hq];rfl
theorem ycgu{s:List Int}(h:s.length=3)(x y z:Int):s = [x,y,z] ↔ (s.getD 0 0=x/\s.getD 1 0=y)/\s.getD 2 0=z:=by
 match s,h with
 | [a,b,d],_=>simp[and_assoc]
theorem ybml{l:List Int}(h:ygi l ≠ 1073741824):ygi l ∈ l:=by
 have:∀ (l:List Int) (a:Int),l.foldl min a=a\/l.foldl min a ∈ l:=by
  intro l
  induction l with
  | nil=>intro a;exact .inl rfl
  | cons x l ih =>
   intro a;rcases ih (min a x)with e | e
   ·rw[List.foldl_cons,e];rcases Int.le_total a x with q | q
    ·left;omega
    ·right;rw[Int.min_eq_right q];exact List.mem_cons_self
   ·exact .inr (List.mem_cons_of_mem _ e)
 exact(this l 1073741824).resolve_left h
theorem ybny(l:List Int):ygi l<=1073741824:=(yht l 1073741824).1
theorem ybjp{a b:Int}(ha:0<=a)(hb:0<b):ymk a b=a / b:=by
 unfold ymk;rw[if_neg (by omega),if_neg (by simp;omega),Int.tdiv_eq_ediv_of_nonneg ha]
theorem ycqc(h:LdC g c)(hg:yba g)(hv:v<g.ids.length)(p:Int):ybm g c v (.bin 31 yhf eN) p=ldM g c v / (g.ids.length:Int):=by
 have h1:=ywn h hg hv;have h2:=ybny ((g.ports.getD v []).map (ldH g c));have h2:ldM g c v<=1073741824:=h2;have h3:0<(g.ids.length:Int):=by omega
 show satP (ymk (ybm g c v yhf p) (g.ids.length:Int))=_;rw[ymy h hg hv,ybjp h1 h3];have h4:0<=ldM g c v / (g.ids.length:Int):=Int.ediv_nonneg h1 (by omega)
 have h5:ldM g c v / (g.ids.length:Int)<=ldM g c v:=Int.ediv_le_self _ h1;exact ynb (by unfold InB;omega)
theorem ycrj(h:LdC g c)(hg:yba g)(hv:v<g.ids.length)(p:Int):ybm g c v (.bin 33 (.bin 32 yhf eN) (eNum 1)) p=ldM g c v % (g.ids.length:Int)+1:=by
 have h1:=ywn h hg hv;have h3:0<(g.ids.length:Int):=by omega
 have h4:=hg.2.1;have h5:=hg.2.2.1;show satP ((if (g.ids.length:Int)=0 then 0 else satP (ybm g c v yhf p - (g.ids.length:Int) * ymk (ybm g c v yhf p) (g.ids.length:Int)))+1)=_
 rw[ymy h hg hv,ybjp h1 h3,if_neg (by omega)]
 have h6:=Int.emod_nonneg (ldM g c v) (show(g.ids.length:Int) ≠ 0 by omega)
 have h7:=Int.emod_lt_of_pos (ldM g c v) h3;have h8:ldM g c v - (g.ids.length:Int) * (ldM g c v / (g.ids.length:Int))=ldM g c v % (g.ids.length:Int):=by rw[Int.emod_def]
 rw[h8,ynb (x:=ldM g c v % (g.ids.length:Int)) (by unfold InB;omega)]
 exact ynb (by unfold InB;omega)
theorem ybxr(h:LdC g c)(hg:yba g)(hv:v<g.ids.length) :
  yji g c v ⟨no,ydsk,[(0,.leaf 8 0),(1,eNum 0),(2,ybpa)]⟩=(decide (g.ids.getD v 0 * (g.ids.length:Int)<=ldM g c v) && !decide (c.getD v [] = [g.ids.getD v 0,0,-1])) /\
  yji g c v ⟨nj,ycqp,[(0,.bin 31 yhf eN),(1,.bin 33 (.bin 32 yhf eN) (eNum 1)),(2,ybog)]⟩=(!decide (g.ids.getD v 0 * (g.ids.length:Int)<=ldM g c v) && !decide (c.getD v [] = [ldM g c v / (g.ids.length:Int),ldM g c v % (g.ids.length:Int)+1,ldF g c v])):=by
 have h3:=(h.row v hv).1;have h4:=hg.2.1;have h5:=hg.2.2.1;have hid:=hg.id_in v;have hm:=yim (a:=g.ids.getD v 0) (n:=(g.ids.length:Int)) (by omega) (by omega)
 have e0:∀ p,ybm g c v (eVar 0) p=(c.getD v []).getD 0 0:=fun p=>rfl;have e1:∀ p,ybm g c v (eVar 1) p=(c.getD v []).getD 1 0:=fun p=>rfl;have e2:∀ p,ybm g c v (eVar 2) p=(c.getD v []).getD 2 0:=fun p=>rfl
 have dd:∀ x y z:Int,(decide (c.getD v [] = [x,y,z]))=((((c.getD v []).getD 0 0 == x) && ((c.getD v []).getD 1 0 == y)) && ((c.getD v []).getD 2 0 == z)):=fun x y z=>by
  rw[Bool.eq_iff_iff];simp only[decide_eq_true_eq,Bool.and_eq_true,beq_iff_eq];exact ycgu h3 x y z
 have b41:∀ a b:Bool,binP 41 (ybr a) (ybr b)=ybr (a && b):=fun a b=>by cases a<;>cases b<;>rfl
 have b42:∀ a b:Bool,binP 42 (ybr a) (ybr b)=ybr (a || b):=fun a b=>by cases a<;>cases b<;>rfl
 have b36:∀ a b:Int,binP 36 a b=ybr (a != b):=fun a b=>rfl;have key:∀ t a b d:Bool,(t && ((!a || !b) || !d))=(t && !((a && b) && d)):=by decide
 have em:satP (g.ids.getD v 0 * (g.ids.length:Int))=g.ids.getD v 0 * (g.ids.length:Int):=ynb (by unfold InB;omega)
 constructor
 ·show(binP 41 (binP 38 (satP (g.ids.getD v 0 * (g.ids.length:Int))) (ybm g c v yhf (-1))) (binP 42 (binP 42 (binP 36 (ybm g c v (eVar 0) (-1)) (g.ids.getD v 0)) (binP 36 (ybm g c v (eVar 1) (-1)) 0)) (binP 36 (ybm g c v (eVar 2) (-1)) (-1))) != 0)=_;have b38:∀ a b:Int,binP 38 a b=ybr (decide (a<=b)):=fun a b=>rfl;rw[em,ymy h hg hv,e0,e1,e2,b38,b36,b36,b36,b42,b42,b41,ynp,dd]
  exact key _ _ _ _
 ·show(binP 41 (binP 39 (satP (g.ids.getD v 0 * (g.ids.length:Int))) (ybm g c v yhf (-1))) (binP 42 (binP 42 (binP 36 (ybm g c v (eVar 0) (-1)) (ybm g c v (.bin 31 yhf eN) (-1))) (binP 36 (ybm g c v (eVar 1) (-1)) (ybm g c v (.bin 33 (.bin 32 yhf eN) (eNum 1)) (-1)))) (binP 36 (ybm g c v (eVar 2) (-1)) (ybm g c v ybog (-1)))) != 0)=_;have b39:∀ a b:Int,binP 39 a b=ybr (decide (a > b)):=fun a b=>rfl
  have e9:decide (g.ids.getD v 0 * (g.ids.length:Int) > ldM g c v) = !decide (g.ids.getD v 0 * (g.ids.length:Int)<=ldM g c v):=by
   rw[Bool.eq_iff_iff];simp
  rw[em,ymy h hg hv,ycqc h hg hv,ycrj h hg hv,ybkp h hg hv,e0,e1,e2,b39,b36,b36,b36,b42,b42,b41,ynp,dd,e9];exact key _ _ _ _
theorem ybgk(h:LdC g c)(hg:yba g)(hv:v<g.ids.length):ygf (yco nm nl nd np no nj) g c v=if c.getD v []=ldT g c v then -1 else if g.ids.getD v 0 * (g.ids.length:Int)<=ldM g c v then 0 else 1:=by
 obtain⟨h1,h2⟩:=ybxr (no:=no) (nj:=nj) h hg hv;unfold ygf yco;simp only[List.findIdx?_cons,h1,h2,List.findIdx?_nil];unfold ldT
 generalize c.getD v []=s
 generalize [g.ids.getD v 0,0,-1]=X
 generalize [ldM g c v / (g.ids.length:Int),ldM g c v % (g.ids.length:Int)+1,ldF g c v]=Y
 by_cases h0:g.ids.getD v 0 * (g.ids.length:Int)<=ldM g c v
 ·rw[if_pos h0,if_pos h0,decide_eq_true h0]
  by_cases hs:s=X
  ·rw[if_pos hs,decide_eq_true hs];rfl
  ·rw[if_neg hs,decide_eq_false hs];rfl
 ·rw[if_neg h0,if_neg h0,decide_eq_false h0]
  by_cases hs:s=Y
  ·rw[if_pos hs,decide_eq_true hs];rfl
  ·rw[if_neg hs,decide_eq_false hs];rfl
theorem ybxz(h:LdC g c)(hg:yba g)(hv:v<g.ids.length)(hj:¬ g.ids.getD v 0 * (g.ids.length:Int)<=ldM g c v) :
  ∃ l ∈ g.ports.getD v [],endP c 1 l+1<(g.ids.length:Int)/\ldM g c v=ldK g c l/\ldM g c v / (g.ids.length:Int)=endP c 0 l/\ldM g c v % (g.ids.length:Int)=endP c 1 l:=by
 have hid:=hg.id_in v;have h4:=hg.2.1;have h5:=hg.2.2.1
 have htop:g.ids.getD v 0<=yjo g:=by
  rw[<- yjv hg];have h6:=Sh.yty (l:=g.ids) (fun x hx=>hg.2.2.2.1 x hx) (by omega)
  have hm:g.ids.getD v 0 ∈ g.ids:=by rw[Sh.getD_at hv];exact List.getElem_mem hv
  have:∀ (l:List Int) (a x:Int),x ∈ l->x<=l.foldl max a:=by
   intro l
   induction l with
   | nil=>intro a x hx;exact(List.not_mem_nil hx).elim
   | cons y l ih =>
    intro a x hx;rcases List.mem_cons.1 hx with rfl | hx
    ·have:=yez l (max a x);simp only[List.foldl_cons];omega
    ·exact ih _ _ hx
  rw[<- h6];unfold Sh.yqz;rw[List.take_length];exact this _ _ _ hm
 have hm:=yim (a:=g.ids.getD v 0) (n:=(g.ids.length:Int)) (by omega) (by omega)
 have h7:g.ids.getD v 0 * (g.ids.length:Int)<=(yjo g+1) * (g.ids.length:Int):=Int.mul_le_mul_of_nonneg_right (by omega) (by omega)
 obtain⟨l,hl,e⟩:∃ l ∈ g.ports.getD v [],ldH g c l=ldM g c v:=by
  have hne:ldM g c v ≠ 1073741824:=by omega
  have:ldM g c v ∈ (g.ports.getD v []).map (ldH g c):=ybml hne;obtain⟨l,hl,e⟩:=List.mem_map.1 this;exact⟨l,hl,e⟩
 obtain⟨_,_,_,a1,a2⟩:=h.link hg hv hl
 have hlt:endP c 1 l+1<(g.ids.length:Int):=by
  refine Classical.byContradiction fun q=>?_;unfold ldH at e;rw[if_neg q]at e;omega
 unfold ldH at e;rw[if_pos hlt]at e;refine⟨l,hl,hlt,e.symm,?_,?_⟩
 ·rw[<- e];unfold ldK;rw[Int.add_comm,Int.add_mul_ediv_right _ _ (by omega),Int.ediv_eq_zero_of_lt a2.1 a2.2,Int.zero_add]
 ·rw[<- e];unfold ldK;rw[Int.add_comm,Int.add_mul_emod_self_right,Int.emod_eq_of_lt a2.1 a2.2]
end
end Go.Proofs.YtpngeppkgoaimaaGreatDoor

namespace Go.Proofs.YtpngeppkgoaimaaGreatDoor
namespace Sh
open Go Ev
set_option maxRecDepth 1000000
def LqP:ProgT:=yco (by8 [108,101,97,100,101,114]) (by8 [108,101,97,100]) (by8 [100]) (by8 [112]) (by8 [111,119,110]) (by8 [106,111,105,110])
def Lqt:ByteArray:=yc
def Lqv:Value:=.slice (some ⟨2339,0,none⟩) 3 CU
def Lqr:Value:=.slice (some ⟨3959,0,none⟩) 2 CU
def LqB:List BlkL:=yog.post.take 1
def LqC:List BlkL:=yog.post.drop 1
theorem yij:Returns Tryz.prog 25 [.a (.string Lqt)] (.ag (ycn (Lies LqB Lqv) (Lies LqC Lqr) LqP.raw)) :=
 ybjf (fp:=yog) (yw.at_ ybuw 0 rfl) ⟨rfl,rfl,rfl,by kernel_rfl,fun _ h=>List.mem_of_mem_take h,fun _ h=>List.mem_of_mem_drop h,by kernel_rfl,by kernel_rfl⟩
theorem ydie:ybgc.pre=yog.post:=rfl
theorem yzf:Returns Tryz.prog 169 [.ag (ycn (Lies LqB Lqv) (Lies LqC Lqr) LqP.raw)] (.b true) :=
 ybkj (fv:=ybgc) (yw.at_ ybqp 0 rfl) ⟨rfl,fun b h=>by
  rw[ydie,<- List.take_append_drop 1 yog.post]at h;exact List.mem_append.1 h,fun _ h=>List.mem_of_mem_take h,fun _ h=>List.mem_of_mem_drop h,rfl,rfl,by kernel_rfl,by kernel_rfl,by kernel_rfl,by kernel_rfl,by kernel_rfl,by kernel_rfl,by kernel_rfl⟩
theorem yzy:LqP.ok=true:=by kernel_rfl
end Sh
end Go.Proofs.YtpngeppkgoaimaaGreatDoor

namespace Go.Proofs.YtpngeppkgoaimaaGreatDoor
section
variable {nm nl nd np no nj:ByteArray} {g:Gr} {c:Conf} {v:Nat}
theorem ykp{k:Int}{b:Int × Int}{x:Int}(h:b.1<=x/\x<=b.2):ydz k b x=x:=by unfold ydz;rw[if_pos ⟨h.1,h.2⟩]
theorem bTL{x:ByteArray}:ybf g v ⟨x,1,0,0,0,1⟩=(0,0+0 * (g.ids.length:Int)+1 * maxI g.ids):=by
 show(if (1:Int)=1 then _ else _)=_
 rw[if_pos rfl]
theorem bTD{x:ByteArray}:ybf g v ⟨x,1,0,-1,1,0⟩=(0,-1+1 * (g.ids.length:Int)+0 * maxI g.ids):=by
 show(if (1:Int)=1 then _ else _)=_
 rw[if_pos rfl]
theorem ybea(hg:yba g)(hv:v<g.ids.length):g.ids.getD v 0<=yjo g:=by
 have hm:g.ids.getD v 0 ∈ g.ids:=by rw[Sh.getD_at hv];exact List.getElem_mem hv
 have:∀ (l:List Int) (a x:Int),x ∈ l->x<=l.foldl max a:=by
  intro l
  induction l with
  | nil=>intro a x hx;exact(List.not_mem_nil hx).elim
  | cons y l ih =>
   intro a x hx;rcases List.mem_cons.1 hx with rfl | hx
   ·have:=yez l (max a x);simp only[List.foldl_cons];omega
   ·exact ih _ _ hx
 exact this _ _ _ hm
theorem ydjy:-1<=ldF g c v/\ldF g c v<(g.ports.getD v []).length:=by
 unfold ldF yey;split
 ·rename_i i hi
  obtain⟨h,_⟩:=List.findIdx?_eq_some_iff_getElem.1 hi;omega
 ·omega
theorem ydfa(h:LdC g c)(hg:yba g)(hv:v<g.ids.length)(hne:c.getD v [] ≠ ldT g c v):yuz (yco nm nl nd np no nj) g c v (ygf (yco nm nl nd np no nj) g c v).toNat=ldT g c v:=by
 rw[ybgk h hg hv,if_neg hne];have h3:=(h.row v hv).1;have hn:(g.ids.length:Int)<=24:=by have:=hg.2.1;have:=hg.2.2.1;omega
 obtain⟨x,y,z,hxyz⟩:∃ x y z,c.getD v [] = [x,y,z]:=by
  match hq:c.getD v [],h3 with
  | [x,y,z],_=>exact⟨x,y,z,rfl⟩
 obtain⟨f1,f2⟩:=ydjy (g:=g) (c:=c) (v:=v);have hid:=hg.id_in v;have htop:=ybea hg hv;have hmx:=yjv hg;unfold yuz ymd ldT;rw[hxyz]
 by_cases h0:g.ids.getD v 0 * (g.ids.length:Int)<=ldM g c v
 ·rw[if_pos h0,if_pos h0];show[ydz 1 (ybf g v ⟨nl,1,0,0,0,1⟩) (g.ids.getD v 0),ydz 1 (ybf g v ⟨nd,1,0,-1,1,0⟩) 0,ydz 3 (ybf g v ⟨np,3,0,0,0,0⟩) (-1)]=_;rw[ykp (by rw[bTL,hmx];simp only;omega),ykp (by rw[bTD];simp only;omega),ykp (by rw[bT3];simp only;omega)]
 ·rw[if_neg h0,if_neg h0];obtain⟨l,hl,e1,e2,e3,e4⟩:=ybxz h hg hv h0;obtain⟨_,_,_,a1,a2⟩:=h.link hg hv hl;show[ydz 1 (ybf g v ⟨nl,1,0,0,0,1⟩) (ybm g c v (.bin 31 yhf eN) (-1)),ydz 1 (ybf g v ⟨nd,1,0,-1,1,0⟩) (ybm g c v (.bin 33 (.bin 32 yhf eN) (eNum 1)) (-1)),ydz 3 (ybf g v ⟨np,3,0,0,0,0⟩) (ybm g c v ybog (-1))]=_;rw[ycqc h hg hv,ycrj h hg hv,ybkp h hg hv];rw[ykp (by rw[bTL,hmx];simp only;omega),ykp (by rw[bTD];simp only;omega),ykp (by rw[bT3];simp only;omega)]
theorem yxf(hg:yba g):Sh.ysz (yco nm nl nd np no nj) g=true:=by
 have h1:=hg.1;have h2:=hg.2.1;have h3:=hg.2.2.1;have h4:=yda hg;have h5:=yjv hg;simp[Sh.ysz,yco,ybf];omega
theorem ydyz:(yco nm nl nd np no nj).ok=true:=by kernel_rfl
theorem ybxu(hg:yba g):Tgt (ybk (yco nm nl nd np no nj) g) (fun c=>ych (yco nm nl nd np no nj) g c=true) (ldT g) where
 valid:=fun c s hc _ _=>Sh.yod hg ydyz (yxf hg) hc s
 stay:=fun c s v hc hv hb=>by
  have hl:=(yfg hg hc).len;show(ylb _ g c s).getD v []=_;rw[Sh.yja _ g c s (by rw[hl];exact hv),hb]
  rfl
 move:=fun c s v hc hv hb hs=>by
  have hl:=(yfg hg hc).len;have hv:v<g.ids.length:=hv;show(ylb _ g c s).getD v []=_;rw[Sh.yja _ g c s (by rw[hl];exact hv),hb,if_pos rfl]
  refine ydfa (yfg hg hc) hg hv fun he=>?_;have h1:=hs v hb;have h1:(yfh _ g.ids.length).testBit v=true:=h1;rw[yei]at h1;simp only[Bool.and_eq_true,decide_eq_true_eq]at h1;rw[ybgk (yfg hg hc) hg hv,if_pos he]at h1;omega
 en:=fun c v hc hv=>by
  have hv:v<g.ids.length:=hv;show(yfh _ g.ids.length).testBit v=false ↔ _;rw[yei,ybgk (yfg hg hc) hg hv,decide_eq_true hv,Bool.true_and,decide_eq_false_iff_not]
  by_cases he:c.getD v []=ldT g c v
  ·rw[if_pos he];exact⟨fun _=>he,fun _=>by omega⟩
  ·rw[if_neg he];exact⟨fun h=>(h (by split<;>omega)).elim,fun h=>absurd h he⟩
def ybvm(g:Gr)(v:Nat)(s:List Int):Prop:=∃ u k:Nat,u<g.ids.length/\g.ids.getD u 0=s.getD 0 0/\s.getD 1 0=k/\Walk g u k v
def ldR(g:Gr)(r v:Nat)(s:List Int):Prop:=((r:Int)<=s.getD 1 0\/ybvm g v s)/\((ybu g (ybp g.ids)).getD v 0+(g.ids.length:Int) - 1<r->s=ytj g v)
theorem least_le(hg:yba g){u:Nat}(hu:u<g.ids.length):g.ids.getD (ybp g.ids) 0<=g.ids.getD u 0:=by
 have h0:0<g.ids.length:=by omega
 have:=(yfo g.ids g.ids.length h0 (Nat.le_refl _)).2.1;exact this u hu
theorem ybrh(hg:yba g){u w:Nat}(hu:u<g.ids.length)(hw:w<g.ids.length)(h:g.ids.getD u 0=g.ids.getD w 0):u=w:=by
 rw[Sh.getD_at hu,Sh.getD_at hw]at h;exact(List.getElem_inj hg.2.2.2.2.1).1 h
end
end Go.Proofs.YtpngeppkgoaimaaGreatDoor

namespace Go.Proofs.YtpngeppkgoaimaaGreatDoor
section
variable {nm nl nd np no nj:ByteArray} {g:Gr} {c:Conf} {v:Nat}
theorem ykj(hg:yba g):ybp g.ids<g.ids.length:=by
 have h0:0<g.ids.length:=by have:=hg.1;have:=hg.2.2.1;omega
 exact(yfo g.ids g.ids.length h0 (Nat.le_refl _)).1
theorem key_eq{a b x y n:Int}(hx:0<=x/\x<n)(hy:0<=y/\y<n):a * n+x=b * n+y ↔ a=b/\x=y:=by
 constructor
 ·intro h;have h1:(a * n+x) / n=a:=by rw[Int.add_comm,Int.add_mul_ediv_right _ _ (by omega),Int.ediv_eq_zero_of_lt hx.1 hx.2,Int.zero_add]
  have h2:(b * n+y) / n=b:=by rw[Int.add_comm,Int.add_mul_ediv_right _ _ (by omega),Int.ediv_eq_zero_of_lt hy.1 hy.2,Int.zero_add]
  have h3:a=b:=by rw[<- h1,<- h2,h]
  subst h3;exact⟨rfl,by omega⟩
 ·rintro⟨rfl,rfl⟩;rfl
theorem ycxi{a b n:Int}(h:a<b)(hn:0<=n):a * n+n<=b * n:=by
 have:(a+1) * n<=b * n:=Int.mul_le_mul_of_nonneg_right (by omega) hn
 rw[Int.add_mul,Int.one_mul]at this;exact this
theorem ld_next(hg:yba g)(hc:yby g=true)(h:LdC g c)(hv:v<g.ids.length)(r:Nat)(hall:∀ u,u<g.ids.length->ldR g r u (c.getD u [])):ldR g (r+1) v (ldT g c v):=by
 have hpl:=hg.2.2.1;have h24:=hg.2.1;have hvp:v<g.ports.length:=by omega
 have nb:∀ l ∈ g.ports.getD v [],(r:Int)<=endP c 1 l\/ybvm g l.1.toNat (c.getD l.1.toNat []):=fun l hl=>by
  obtain⟨_,h2,_⟩:=h.link hg hv hl;exact(hall _ h2).1
 constructor
 ·unfold ldT
  by_cases h0:g.ids.getD v 0 * (g.ids.length:Int)<=ldM g c v
  ·rw[if_pos h0];exact .inr ⟨v,0,hv,rfl,rfl,rfl⟩
  ·rw[if_neg h0];obtain⟨l,hl,e1,e2,e3,e4⟩:=ybxz h hg hv h0;rw[e3,e4];obtain⟨_,_,ha,_⟩:=h.link hg hv hl;rcases nb l hl with q | ⟨u,k,hu,hid,hk,hw⟩
   ·left
    show((r+1:Nat):Int)<=endP c 1 l+1;omega
   ·right
    refine⟨u,k+1,hu,hid,?_,⟨_,hw,hg.adj_symm ha⟩⟩;show endP c 1 l+1=((k+1:Nat):Int);unfold endP;omega
 ·intro hr;obtain⟨m,hm⟩:∃ m,ybp g.ids=m:=⟨_,rfl⟩;have hml:=ykj hg;rw[hm]at hml hr;have hmp:m<g.ports.length:=by omega
  have hle:∀ u,u<g.ids.length->g.ids.getD m 0<=g.ids.getD u 0:=fun u hu=>by rw[<- hm];exact least_le hg hu
  have hD:=yun hg hc hmp hvp;have hidm:=hg.id_in m;have htop:=ybea hg hml;obtain⟨n,hn⟩:∃ n:Int,(g.ids.length:Int)=n:=⟨_,rfl⟩;rw[hn]at hr
  have nb2:∀ l ∈ g.ports.getD v [],n - 1<=endP c 1 l\/(g.ids.getD m 0<endP c 0 l\/(endP c 0 l=g.ids.getD m 0/\(ybu g m).getD l.1.toNat 0<=endP c 1 l)):=fun l hl=>by
   obtain⟨_,h2,_⟩:=h.link hg hv hl;rcases nb l hl with q | ⟨u,k,hu,hid,hk,hw⟩
   ·left;omega
   ·right
    have hid:g.ids.getD u 0=endP c 0 l:=hid;have hk:endP c 1 l=(k:Int):=hk;rcases Int.lt_or_le (g.ids.getD m 0) (endP c 0 l)with q | q
    ·exact .inl q
    ·right
     have e:u=m:=ybrh hg hu hml (by have:=hle u hu;omega)
     subst e;obtain⟨j,e,_,h5,_⟩:=yej hg hc hmp (v:=l.1.toNat) (by omega)
     refine⟨hid.symm,?_⟩;rw[e,hk];rcases Nat.lt_or_ge k j with q | q
     ·exact absurd hw (h5 k q)
     ·omega
  have hK:∀ l ∈ g.ports.getD v [],ldK g c l=endP c 0 l * n+endP c 1 l:=fun l hl=>by unfold ldK;rw[hn]
  have hT:(g.ids.getD m 0+1) * n<=(yjo g+1) * n:=Int.mul_le_mul_of_nonneg_right (by omega) (by omega)
  rw[Int.add_mul (g.ids.getD m 0),Int.one_mul]at hT
  have lowH:∀ b:Int,b<=n->(∀ l ∈ g.ports.getD v [],b<=(ybu g m).getD l.1.toNat 0) -> ∀ l ∈ g.ports.getD v [],g.ids.getD m 0 * n+b<=ldH g c l:=fun b hbn hb l hl=>by
   obtain⟨_,_,_,a1,a2⟩:=h.link hg hv hl;rw[hn]at a2;unfold ldH;rw[hn,hK l hl];split
   ·rcases nb2 l hl with q | q | ⟨q1,q2⟩
    ·omega
    ·have:=ycxi q (n:=n) (by omega);omega
    ·have:=hb l hl;rw[q1];omega
   ·omega
  have hM0:ldM g c v=ygi ((g.ports.getD v []).map (ldH g c)):=rfl;have hsm:=yim (a:=g.ids.getD m 0) (n:=n) (by omega) (by omega)
  by_cases hvm:v=m
  ·subst hvm
   have h0:g.ids.getD v 0 * (g.ids.length:Int)<=ldM g c v:=by
    rw[hn,hM0];refine yir (by omega) fun x hx=>?_
    obtain⟨l,hl,rfl⟩:=List.mem_map.1 hx
    have:=lowH 0 (by omega) (fun l hl=>by
     obtain⟨_,h2,_⟩:=h.link hg hv hl;exact(yun hg hc hmp (by omega)).1) l hl
    omega
   unfold ldT;rw[if_pos h0];unfold ytj;rw[hm,ybax hg hc hmp,ycdm hg hc hmp]
  ·have hpos:=ycft hg hc hmp hvp hvm
   have near:∀ l ∈ g.ports.getD v [],(ybu g m).getD v 0 - 1<=(ybu g m).getD l.1.toNat 0:=fun l hl=>by
    obtain⟨_,h2,h3,_⟩:=h.link hg hv hl;have:=ybjh hg hc hmp (hg.adj_symm h3);omega
   have right:∀ l ∈ g.ports.getD v [],(ybu g m).getD l.1.toNat 0=(ybu g m).getD v 0 - 1->endP c 0 l=g.ids.getD m 0/\endP c 1 l=(ybu g m).getD v 0 - 1:=fun l hl e=>by
    obtain⟨_,h2,_⟩:=h.link hg hv hl;have h4:=(hall _ h2).2 (by rw[hm,e,hn];omega)
    unfold endP;rw[h4];unfold ytj;rw[hm];exact⟨rfl,e⟩
   obtain⟨u,hu,hd⟩:=ybyc hg hc hmp hvp hvm;obtain⟨l0,hl0,hlu⟩:=ybhr hu;subst hlu;obtain⟨r1,r2⟩:=right l0 hl0 hd
   have hH0:ldH g c l0=g.ids.getD m 0 * n+((ybu g m).getD v 0 - 1):=by
    unfold ldH;rw[hn,hK l0 hl0,if_pos (by omega),r1,r2]
   have hM:ldM g c v=g.ids.getD m 0 * n+((ybu g m).getD v 0 - 1):=by
    refine Int.le_antisymm ?_ ?_
    ·rw[<- hH0];exact ybek (List.mem_map.2 ⟨l0,hl0,rfl⟩)
    ·refine yir (by omega) fun x hx=>?_
     obtain⟨l,hl,rfl⟩:=List.mem_map.1 hx;exact lowH _ (by omega) near l hl
   have hlt:g.ids.getD m 0<g.ids.getD v 0:=by
    rcases Int.lt_or_le (g.ids.getD m 0) (g.ids.getD v 0)with q | q
    ·exact q
    ·exact absurd (ybrh hg hv hml (by have:=hle v hv;omega)) hvm
   have hkl:=ycxi hlt (n:=n) (by omega)
   have hF:ldF g c v=wayP g (ybu g m) v:=by
    unfold ldF wayP;refine yqq fun l hl=>?_;obtain⟨_,_,_,a1,a2⟩:=h.link hg hv hl;rw[hn]at a2;unfold yoq;rw[hM,hK l hl,Bool.eq_iff_iff];simp only[beq_iff_eq];rw[key_eq a2 (by omega)]
    constructor
    ·rintro⟨q1,q2⟩;have:=near l hl;rcases nb2 l hl with q | q | ⟨q3,q4⟩<;>omega
    ·intro q;exact right l hl q
   unfold ldT;rw[if_neg (by rw[hn];omega)]
   unfold ytj;rw[hm,hF,hM,hn,Int.add_comm (g.ids.getD m 0 * n),Int.add_mul_ediv_right _ _ (by omega),Int.ediv_eq_zero_of_lt (by omega) (by omega),Int.zero_add,Int.add_mul_emod_self_right,Int.emod_eq_of_lt (by omega) (by omega)]
   congr 2;omega
theorem ycgs(r v:Nat)(s:List Int)(h:ldR g (r+1) v s):ldR g r v s:=by
 refine⟨?_,fun q=>h.2 (by omega)⟩
 rcases h.1 with q | q
 ·left;omega
 ·exact .inr q
theorem ybkn(hg:yba g)(hc:yby g=true)(h:LdC g c)(hv:v<g.ids.length):ldR g 0 v (c.getD v []):=by
 have hpl:=hg.2.2.1;have hml:=ykj hg;have:=yun hg hc (a:=ybp g.ids) (v:=v) (by omega) (by omega)
 exact⟨.inl (h.row v hv).2.2.1.1,fun q=>by omega⟩
theorem yns(hg:yba g)(hc:yby g=true){res:Nat->Nat->Nat}(hr:ybcf res){ws:List Nat}{c:Conf}(hv:ych (yco nm nl nd np no nj) g c=true):∀ p ∈ (ybk (yco nm nl nd np no nj) g).runs res ws c,RInv (ybk (yco nm nl nd np no nj) g) (fun c=>ych (yco nm nl nd np no nj) g c=true) (ldR g) p.1 p.2 :=
 ((ybxu hg).rounds (fun c v r hc' hn hall=>ld_next hg hc (yfg hg hc') hn r hall) ycgs).runs hr hv fun v h=>ybkn hg hc (yfg hg hv) h
def ybhq(g:Gr)(c:Conf):Prop:=∀ v,v<g.ids.length->c.getD v []=ytj g v
theorem ybkq(hg:yba g)(hc:yby g=true){c:Conf}(hv:ych (yco nm nl nd np no nj) g c=true):ybt g c=true ↔ ybhq g c:=by
 have hpl:=hg.2.2.1;have hl:=(yfg hg hv).len
 have hb:yio g c=true:=by
  unfold yio;rw[hc,Bool.true_and,<- hv];unfold ych;rw[hpl];congr 1
  funext v
  have hm0:(maxI g.ids = -1)=False:=by
   refine eq_false fun q=>?_;have h1:=yda hg;have h2:=yjv hg;omega
  have hn0:((g.ports.length:Int) - 1 = -1)=False:=eq_false (by have:=hg.1;omega)
  simp[ydm,yco,ybf,ybsm,hpl,hm0,hn0];omega
 unfold ybt;rw[hb,Bool.true_and,hl];constructor
 ·intro h v hlt;exact of_decide_eq_true (List.all_eq_true.1 h v (List.mem_range.2 hlt))
 ·intro h;exact List.all_eq_true.2 fun v hq=>decide_eq_true (h v (List.mem_range.1 hq))
theorem yduh(hg:yba g)(hc:yby g=true):eccP g (ybp g.ids)=ybs (ybu g (ybp g.ids)):=by
 have hml:=ykj hg;have hpl:=hg.2.2.1;unfold eccP;rw[if_pos ⟨hc,by omega,by omega⟩,Int.toNat_natCast]
theorem ybbz(hg:yba g)(hc:yby g=true){c:Conf}{r:Nat}(hr:eccP g (ybp g.ids)+(g.ids.length:Int) - 1<(r:Int))(h:∀ v,v<g.ids.length->ldR g r v (c.getD v [])):ybhq g c:=fun v hv=>by
 have hml:=ykj hg;have hpl:=hg.2.2.1
 have hle:(ybu g (ybp g.ids)).getD v 0<=ybs (ybu g (ybp g.ids)):=by
  have hvl:v<(ybu g (ybp g.ids)).length:=by rw[yfv hg (by omega)];omega
  refine yqn _ _ ?_;rw[List.getD_eq_getElem?_getD,List.getElem?_eq_getElem hvl];exact List.getElem_mem hvl
 rw[yduh hg hc]at hr;exact(h v hv).2 (by omega)
theorem ybwq(hg:yba g)(hc:yby g=true){c:Conf}(h:ybhq g c)(r:Nat)(v:Nat)(hv:v<g.ids.length):ldR g r v (c.getD v []):=by
 have hml:=ykj hg;have hpl:=hg.2.2.1;obtain⟨k,e,h1,_,_⟩:=yej hg hc (a:=ybp g.ids) (v:=v) (by omega) (by omega)
 rw[h v hv];exact⟨.inr ⟨ybp g.ids,k,hml,rfl,e,h1⟩,fun _=>rfl⟩
theorem yblh(hg:yba g)(hc:yby g=true){c:Conf}(hv:ych (yco nm nl nd np no nj) g c=true):ybn (yco nm nl nd np no nj) g c=0 ↔ ybt g c=true:=by
 rw[ybkq hg hc hv];constructor
 ·intro he;have:=(ybxu (nm:=nm) (nl:=nl) (nd:=nd) (np:=np) (no:=no) (nj:=nj) hg).silent (P:=ldR g) (fun c v r hc' hn hall=>ld_next hg hc (yfg hg hc') hn r hall) hv (fun v h=>ybkn hg hc (yfg hg hv) h) he;refine ybbz hg hc (r:=1101) (by have:=(ybub g (ybp g.ids)).2;have:=hg.2.1;have:=hg.2.2.1;omega) fun v hn=>this 1101 v hn
 ·intro h;refine(ybxu (nm:=nm) (nl:=nl) (nd:=nd) (np:=np) (no:=no) (nj:=nj) hg).en_zero hv (Sh.ybth _ g c) fun v hn=>?_;have hn:v<g.ids.length:=hn;have h1:=ld_next hg hc (yfg hg hv) hn 1101 fun u hu=>ybwq hg hc h 1101 u hu;have hml:=ykj hg;have hpl:=hg.2.2.1;have:=yun hg hc (a:=ybp g.ids) (v:=v) (by omega) (by omega)
  have:=hg.2.1;rw[h1.2 (by omega)]
  exact h v hn
theorem ydce (hg:yba g) (hc:yby g=true) {res:Nat->Nat->Nat} (hr:ybcf res) {ws:List Nat} {c:Conf} (hv:ych (yco nm nl nd np no nj) g c=true) {ended:Bool}
  (he:ended=true -> ∀ p,((ybk (yco nm nl nd np no nj) g).runs res ws c)[((ybk (yco nm nl nd np no nj) g).runs res ws c).length - 1]? = some p->ybn (yco nm nl nd np no nj) g p.1=0) :
  Sh.HeldOk (((ybk (yco nm nl nd np no nj) g).runs res ws c).map fun p=>ybt g p.1) (((ybk (yco nm nl nd np no nj) g).runs res ws c).map (·.2)) ((g.ids.length:Int)+eccP g (ybp g.ids)) (-1) ended:=by
 refine Sh.ydet (S:=ybk (yco nm nl nd np no nj) g) (J:=RInv (ybk (yco nm nl nd np no nj) g) (fun c=>ych (yco nm nl nd np no nj) g c=true) (ldR g)) (yns hg hc hr hv) (fun c k h=>yblh hg hc h.valid) (fun c k h hL=>?_) (fun c k h hL hm=>by omega) he
 have h1:=h.begun;rcases Int.lt_or_le (eccP g (ybp g.ids)+(g.ids.length:Int) - 1) (k.rounds:Int)with h2 | h2
 ·have h3:=(ybkq hg hc h.valid).2 (ybbz hg hc h2 h.all);rw[h3]at hL;cases hL
 ·omega
end
end Go.Proofs.YtpngeppkgoaimaaGreatDoor

namespace Go.Proofs.YtpngeppkgoaimaaGreatDoor
namespace Sh
open Go Ev
def ydhu:LO:=[o3 (.mv (.const (.string (ByteArray.mk #[])))) 0 0]
def ydvl:LO:=[o3 (.mv (.const (.string (ByteArray.mk #[112,114,111,103,114,97,109,32,108,101,97,100,101,114,59,10,118,97,114,32,108,101,97,100,32,58,32,48,32,46,46,32,105,100,115,59,10,118,97,114,32,100,32,58,32,48,32,46,46,32,110,32,45,32,49,59,10,118,97,114,32,112,32,58,32,112,111,114,116,59,10,114,117,108,101,32,111,119,110,58,32,105,100,32,42,32,110,32,60,61,32,109,105,110,40,113,46,100,32,43,32,49,32,60,32,110,32,63,32,113,46,108,101,97,100,32,42,32,110,32,43,32,113,46,100,32,58,32,40,105,100,115,32,43,32,49,41,32,42,32,110,41,32,38,38,32,40,108,101,97,100,32,33,61,32,105,100,32,124,124,32,100,32,33,61,32,48,32,124,124,32,112,32,33,61,32,110,111,110,101,41,32,45,62,32,108,101,97,100,32,58,61,32,105,100,44,32,100,32,58,61,32,48,44,32,112,32,58,61,32,110,111,110,101,59,10,114,117,108,101,32,106,111,105,110,58,32,105,100,32,42,32,110,32,62,32,109,105,110,40,113,46,100,32,43,32,49,32,60,32,110,32,63,32,113,46,108,101,97,100,32,42,32,110,32,43,32,113,46,100,32,58,32,40,105,100,115,32,43,32,49,41,32,42,32,110,41,32,38,38,32,40,108,101,97,100,32,33,61,32,109,105,110,40,113,46,100,32,43,32,49,32,60,32,110,32,63,32,113,46,108,101,97,100,32,42,32,110,32,43,32,113,46,100,32,58,32,40,105,100,115,32,43,32,49,41,32,42,32,110,41,32,47,32,110,32,124,124,32,100,32,33,61,32,109,105,110,40,113,46,100,32,43,32,49,32,60,32,110,32,63,32,113,46,108,101,97,100,32,42,32,110,32,43,32,113,46,100,32,58,32,40,105,100,115,32,43,32,49,41,32,42,32,110,41,32,37,32,110,32,43,32,49,32,124,124,32,112,32,33,61,32,102,105,114,115,116,40,113,46,108,101,97,100,32,42,32,110,32,43,32,113,46,100,32,61,61,32,109,105,110,40,113,46,100,32,43,32,49,32,60,32,110,32,63,32,113,46,108,101,97,100,32,42,32,110,32,43,32,113,46,100,32,58,32,40,105,100,115,32,43,32,49,41,32,42,32,110,41,41,41,10,32,32,45,62,32,108,101,97,100,32,58,61,32,109,105,110,40,113,46,100,32,43,32,49,32,60,32,110,32,63,32,113,46,108,101,97,100,32,42,32,110,32,43,32,113,46,100,32,58,32,40,105,100,115,32,43,32,49,41,32,42,32,110,41,32,47,32,110,44,32,100,32,58,61,32,109,105,110,40,113,46,100,32,43,32,49,32,60,32,110,32,63,32,113,46,108,101,97,100,32,42,32,110,32,43,32,113,46,100,32,58,32,40,105,100,115,32,43,32,49,41,32,42,32,110,41,32,37,32,110,32,43,32,49,44,32,112,32,58,61,32,102,105,114,115,116,40,113,46,108,101,97,100,32,42,32,110,32,43,32,113,46,100,32,61,61,32,109,105,110,40,113,46,100,32,43,32,49,32,60,32,110,32,63,32,113,46,108,101,97,100,32,42,32,110,32,43,32,113,46,100,32,58,32,40,105,100,115,32,43,32,49,41,32,42,32,110,41,41,59,10])))) 0 0]
def c28:SC:=(.seq (.reg false ydhu) (.seq (.reg false ydvl) .ret))
theorem ydod:Fn 28 c28 [.t 0]:=fn_0 Tryz.func28 (by kernel_rfl) (by kernel_rfl)
def ydve:LO:=[o3 (.box 24 (.tmp 0)) 3 0,o3 (.mv (.const (.bool false))) 6 0]
def ydgj:LO:=[ld' true 6 3 15 0,o3 (.call (.func 15) [(.tmp 15),(ci' 7)]) 16 1,o3 (.alloc 28 1 [.a (.slice none 0 0),.a (.slice none 0 0)]) 7 0,o0 (.store 2 (.tmp 7) (.tmp 16)) 7]
def ydok:LO:=[ld' true 2 7 17 0,cl' 29 [] 18 0,mv' 1 19 0,cl' 18 [17,18,19] 20 7,mv' 20 8 15]
def ydle:LO:=[cl' 28 [] 22 0,ld' true 2 7 23 0,ld' true 2 7 24 0,cl' 38 [24] 25 5,o3 (.field false 0 1 (.tmp 25)) 26 13,mv' 8 27 0,mv' 2 28 0,o3 (.call (.func 20) [(.tmp 28),(ci' 120)]) 29 77,cl' 16 [22,23,26,27,29] 30 255,mv' 30 21 511,xt' 21 0 31 1023,xt' 21 1 32 1023,xt' 21 2 33 1023,mv' 31 9 2047,mv' 32 10 12287,mv' 33 11 32767]
def ydtk:LO:=[mv' 11 34 0,o3 (.un .not (.tmp 34)) 35 1,mv' 35 36 3,⟨.load true 2 (.tmp 7),some 37,some (36,false),7⟩,⟨.call (.func 38) [(.tmp 37)],some 38,some (36,false),15⟩,⟨.load true 2 (.tmp 7),some 39,some (36,false),7⟩,⟨.call (.func 39) [(.tmp 39)],some 40,some (36,false),63⟩,⟨.seq true [false,true,true,false,false] (.tmp 38) (.tmp 40),some 41,some (36,false),127⟩,o3 (.pick (.tmp 36) (.const (.bool true)) (.tmp 41)) 42 255]
def ydwe:LO:=[o3 (.mv (.const (.bool false))) 6 0]
def ydtx:LO:=[o3 (.mv (.const (.slice none 0 0))) 12 0]
def ydvd:LO:=[o3 (.mv (ci' 0)) 13 0]
def yddc:LO:=[mv' 13 43 0,mv' 9 44 0,ln' 44 45 2,bn' .lss 43 45 46 7]
def yctt:LO:=[mv' 12 49 0,ld' true 2 7 50 0,mv' 9 51 0,mv' 13 52 0,ix' 1 51 52 53 12,ld' false 1 53 54 28,cl' 40 [50,54] 55 62,o3 (.bslice 4 1 1 [.b false] [(0,1,(.tmp 55))]) 56 126,o3 (.app 4 1 1 (.tmp 49) (.tmp 56)) 57 255,mv' 57 12 511]
def yduv:LO:=[mv' 13 47 0,o3 (.bin .add (.tmp 47) (ci' 1)) 48 1,mv' 48 13 3]
def yciw:LO:=[cl' 28 [] 58 0,cl' 25 [58] 59 1,ld' true 2 7 60 0,mv' 9 61 0,mv' 9 62 0,ln' 62 63 16,o3 (.bin .sub (.tmp 63) (ci' 1)) 64 48,ix' 1 61 64 65 120,ld' false 1 65 66 248,cl' 27 [59,60,66] 67 511,o3 (.bin .eql (.tmp 67) (.const (.int .u32 0))) 68 1023,mv' 68 14 2047]
def ycjx:LO:=[cl' 31 [] 69 0,mv' 69 70 1,⟨.mv (.tmp 12),some 71,some (70,true),3⟩,⟨.mv (.tmp 10),some 72,some (70,true),3⟩,⟨.load true 2 (.tmp 7),some 73,some (70,true),3⟩,⟨.call (.func 38) [(.tmp 73)],some 74,some (70,true),19⟩,⟨.mv (.tmp 14),some 75,some (70,true),3⟩,⟨.call (.func 41) [(.tmp 71),(.tmp 72),(.tmp 74),(.tmp 75)],some 76,some (70,true),127⟩,o3 (.pick (.tmp 70) (.tmp 76) (.const (.bool false))) 77 255,mv' 77 6 511]
def c10:SC:=(.seq (.reg false ydve) (.seq (.reg false ydgj) (.seq (.reg true ydok) (.seq (.reg true ydle) (.seq (.seq (.reg true ydtk) (.cond (.tmp 42) (.seq (.reg false ydwe) .ret) .skip)) (.seq (.reg false ydtx) (.seq (.seq (.reg false ydvd) (.block 0 (.loop (.seq (.seq (.reg false yddc) (.cond (.tmp 46) .skip (.exit 0))) (.seq (.block 1 (.reg true yctt)) (.reg false yduv)))))) (.seq (.reg true yciw) (.seq (.reg false ycjx) .ret)))))))))
theorem ydow:Fn 10 c10 [.t 6]:=fn_0 Tryz.func10 (by kernel_rfl) (by kernel_rfl)
def ydhm:LO:=[o3 (.box 24 (.tmp 0)) 3 0,o3 (.mv (.const (.bool false))) 6 0]
def ydvi:LO:=[ld' true 6 3 13 0,o3 (.call (.func 15) [(.tmp 13),(ci' 7)]) 14 1,o3 (.alloc 28 1 [.a (.slice none 0 0),.a (.slice none 0 0)]) 7 0,o0 (.store 2 (.tmp 7) (.tmp 14)) 7]
def ydtd:LO:=[cl' 28 [] 15 0,cl' 25 [15] 16 1,o3 (.alloc 53 1 [.a (.string (ByteArray.mk #[])),.a (.slice none 0 0),.a (.slice none 0 0)]) 8 0,o0 (.store 3 (.tmp 8) (.tmp 16)) 7]
def ydqo:LO:=[cl' 28 [] 18 0,ld' true 2 7 19 0,ld' true 2 7 20 0,cl' 38 [20] 21 5,o3 (.field false 0 1 (.tmp 21)) 22 13,ld' true 2 7 23 0,cl' 29 [] 24 13,mv' 1 25 0,cl' 18 [23,24,25] 26 237,mv' 2 27 0,o3 (.call (.func 20) [(.tmp 27),(ci' 60)]) 28 1005,cl' 16 [18,19,22,26,28] 29 2047,mv' 29 17 4095,xt' 17 0 30 8191,xt' 17 1 31 8191,xt' 17 2 32 8191,mv' 30 9 16383,mv' 31 10 98303,mv' 32 11 262143]
def ydhg:LO:=[o3 (.mv (ci' 0)) 12 0]
def ycyp:LO:=[mv' 12 33 0,mv' 9 34 0,ln' 34 35 2,bn' .lss 33 35 36 7]
def ydma:LO:=[ld' true 3 8 39 0,ld' true 2 7 40 0,mv' 9 41 0,mv' 12 42 0,ix' 1 41 42 43 12,ld' false 1 43 44 28,cl' 27 [39,40,44] 45 63,o3 (.bin .eql (.tmp 45) (.const (.int .u32 0))) 46 127,ld' true 2 7 47 0,mv' 9 48 0,mv' 12 49 0,ix' 1 48 49 50 1536,ld' false 1 50 51 3584,cl' 40 [47,51] 52 8063,o3 (.beq true (.tmp 46) (.tmp 52)) 53 16383]
def ydxo:LO:=[o3 (.mv (.const (.bool false))) 6 0]
def ydsz:LO:=[mv' 12 37 0,o3 (.bin .add (.tmp 37) (ci' 1)) 38 1,mv' 38 12 3]
def ydgq:LO:=[cl' 31 [] 54 0,mv' 54 55 1,⟨.mv (.tmp 11),some 56,some (55,true),3⟩,o3 (.pick (.tmp 55) (.tmp 56) (.const (.bool false))) 57 7,mv' 57 6 15]
def c11:SC:=(.seq (.reg false ydhm) (.seq (.reg false ydvi) (.seq (.reg false ydtd) (.seq (.reg true ydqo) (.seq (.seq (.reg false ydhg) (.block 0 (.loop (.seq (.seq (.reg false ycyp) (.cond (.tmp 36) .skip (.exit 0))) (.seq (.block 1 (.seq (.reg true ydma) (.cond (.tmp 53) (.seq (.reg false ydxo) .ret) .skip))) (.reg false ydsz)))))) (.seq (.reg false ydgq) .ret))))))
theorem ydna:Fn 11 c11 [.t 6]:=fn_0 Tryz.func11 (by kernel_rfl) (by kernel_rfl)
def c6_0:LO:=[o3 (.box 24 (.tmp 0)) 3 0,o3 (.mv (.const (.bool false))) 6 0]
def c6_1:LO:=[ld' true 6 3 14 0,o3 (.call (.func 15) [(.tmp 14),(ci' 7)]) 15 1,o3 (.alloc 28 1 [.a (.slice none 0 0),.a (.slice none 0 0)]) 7 0,o0 (.store 2 (.tmp 7) (.tmp 15)) 7]
def c6_2:LO:=[fa' 1 1 7 16 0,ld' false 1 16 17 1,ln' 17 18 3,mv' 18 8 7]
def c6_3:LO:=[cl' 28 [] 20 0,ld' true 2 7 21 0,ld' true 2 7 22 0,cl' 29 [] 23 1,mv' 1 24 0,cl' 18 [22,23,24] 25 29,mv' 2 26 0,o3 (.call (.func 20) [(.tmp 26),(ci' 120)]) 27 125,o3 (.call (.func 16) [(.tmp 20),(.tmp 21),(ci' 3),(.tmp 25),(.tmp 27)]) 28 255,mv' 28 19 511,xt' 19 0 29 1023,xt' 19 1 30 1023,xt' 19 2 31 1023,mv' 29 9 2047,mv' 30 10 12287,mv' 31 11 32767]
def c6_4:LO:=[o3 (.mv (ci' 0)) 12 0]
def c6_5:LO:=[mv' 12 32 0,mv' 9 33 0,ln' 33 34 2,bn' .lss 32 34 35 7]
def c6_7:LO:=[o3 (.mv (ci' 0)) 13 0]
def c6_8:LO:=[mv' 13 38 0,mv' 8 39 0,bn' .lss 38 39 40 3]
def ydcu:LO:=[mv' 9 43 0,mv' 12 44 0,ix' 1 43 44 45 3,ld' false 1 45 46 7,ln' 46 47 15,mv' 8 48 0,bn' .neq 47 48 49 63,mv' 49 50 127,⟨.mv (.tmp 9),some 51,some (50,false),255⟩,⟨.mv (.tmp 12),some 52,some (50,false),255⟩,⟨.idx 1 (.tmp 51) (.tmp 52),some 53,some (50,false),1023⟩,⟨.load false 1 (.tmp 53),some 54,some (50,false),2047⟩,⟨.mv (.tmp 13),some 55,some (50,false),255⟩,⟨.idx 1 (.tmp 54) (.tmp 55),some 56,some (50,false),8191⟩,⟨.load false 1 (.tmp 56),some 57,some (50,false),16383⟩,⟨.len (.tmp 57),some 58,some (50,false),32767⟩,⟨.bin .neq (.tmp 58) (ci' 3),some 59,some (50,false),65535⟩,o3 (.pick (.tmp 50) (.const (.bool true)) (.tmp 59)) 60 131071]
def ydyu:LO:=[o3 (.mv (.const (.bool false))) 6 0]
def ycxr:LO:=[mv' 9 61 0,mv' 12 62 0,ix' 1 61 62 63 3,ld' false 1 63 64 7,mv' 13 65 0,ix' 1 64 65 66 31,ld' false 1 66 67 63,o3 (.idx 1 (.tmp 67) (ci' 1)) 68 127,ld' false 1 68 69 255,mv' 10 70 0,mv' 12 71 0,ix' 5 70 71 72 1536,fa' 2 1 72 73 3584,ld' false 1 73 74 7680,bn' .lss 69 74 75 16383,mv' 75 76 32767,⟨.load true 2 (.tmp 7),some 77,some (76,true),65535⟩,⟨.mv (.tmp 9),some 78,some (76,true),65535⟩,⟨.mv (.tmp 12),some 79,some (76,true),65535⟩,⟨.idx 1 (.tmp 78) (.tmp 79),some 80,some (76,true),458751⟩,⟨.load false 1 (.tmp 80),some 81,some (76,true),983039⟩,⟨.mv (.tmp 13),some 82,some (76,true),65535⟩,⟨.idx 1 (.tmp 81) (.tmp 82),some 83,some (76,true),4128767⟩,⟨.load false 1 (.tmp 83),some 84,some (76,true),8323071⟩,⟨.idx 1 (.tmp 84) (ci' 0),some 85,some (76,true),16711679⟩,⟨.load false 1 (.tmp 85),some 86,some (76,true),33488895⟩,⟨.mv (.tmp 9),some 87,some (76,true),65535⟩,⟨.mv (.tmp 12),some 88,some (76,true),65535⟩,⟨.idx 1 (.tmp 87) (.tmp 88),some 89,some (76,true),201392127⟩,⟨.load false 1 (.tmp 89),some 90,some (76,true),469827583⟩,⟨.mv (.tmp 13),some 91,some (76,true),65535⟩,⟨.idx 1 (.tmp 90) (.tmp 91),some 92,some (76,true),2080440319⟩,⟨.load false 1 (.tmp 92),some 93,some (76,true),4227923967⟩,⟨.idx 1 (.tmp 93) (ci' 1),some 94,some (76,true),8522891263⟩,⟨.load false 1 (.tmp 94),some 95,some (76,true),17112825855⟩,⟨.mv (.tmp 13),some 96,some (76,true),65535⟩,⟨.call (.func 30) [(.tmp 77),(.tmp 86),(.tmp 95),(.tmp 96)],some 97,some (76,true),68719476735⟩,⟨.un .not (.tmp 97),some 98,some (76,true),137438953471⟩,o3 (.pick (.tmp 76) (.tmp 98) (.const (.bool false))) 99 274877906943]
def ydzg:LO:=[o3 (.mv (.const (.bool false))) 6 0]
def c6_9:LO:=[mv' 13 41 0,o3 (.bin .add (.tmp 41) (ci' 1)) 42 1,mv' 42 13 3]
def c6_6:LO:=[mv' 12 36 0,o3 (.bin .add (.tmp 36) (ci' 1)) 37 1,mv' 37 12 3]
def ydpg:LO:=[cl' 31 [] 100 0,mv' 100 101 1,⟨.mv (.tmp 11),some 102,some (101,true),3⟩,o3 (.pick (.tmp 101) (.tmp 102) (.const (.bool false))) 103 7,mv' 103 6 15]
def c6:SC:=(.seq (.reg false c6_0) (.seq (.reg false c6_1) (.seq (.reg false c6_2) (.seq (.reg true c6_3) (.seq (.seq (.reg false c6_4) (.block 0 (.loop (.seq (.seq (.reg false c6_5) (.cond (.tmp 35) .skip (.exit 0))) (.seq (.block 1 (.seq (.reg false c6_7) (.block 2 (.loop (.seq (.seq (.reg false c6_8) (.cond (.tmp 40) .skip (.exit 2))) (.seq (.block 3 (.seq (.seq (.reg false ydcu) (.cond (.tmp 60) (.seq (.reg false ydyu) .ret) .skip)) (.seq (.reg true ycxr) (.cond (.tmp 99) (.seq (.reg false ydzg) .ret) .skip)))) (.reg false c6_9))))))) (.reg false c6_6)))))) (.seq (.reg false ydpg) .ret))))))
theorem ydxu:Fn 6 c6 [.t 6]:=fn_0 Tryz.func6 (by kernel_rfl) (by kernel_rfl)
def ydmo:LO:=[o3 (.box 28 (.tmp 0)) 4 0,o3 (.mv (.const (.bool false))) 8 0]
def ydug:LO:=[o3 (.mv (.const (.int .u32 0))) 9 0]
def ydlm:LO:=[o3 (.mv (ci' 0)) 10 0]
def ycfz:LO:=[mv' 10 12 0,fa' 0 1 4 13 0,ld' false 1 13 14 2,ln' 14 15 6,bn' .lss 12 15 16 15]
def ydar:LO:=[fa' 0 1 4 19 0,ld' false 1 19 20 1,mv' 10 21 0,ix' 1 20 21 22 7,ld' false 1 22 23 15,mv' 1 24 0,bn' .eql 23 24 25 63]
def ydpc:LO:=[mv' 10 26 0,o3 (.conv .u64 (.tmp 26)) 27 1,o3 (.bin .shl (.const (.int .u32 1)) (.tmp 27)) 28 3,mv' 28 9 7]
def ydfo:LO:=[mv' 10 17 0,o3 (.bin .add (.tmp 17) (ci' 1)) 18 1,mv' 18 10 3]
def ydrk:LO:=[o3 (.mv (ci' 0)) 11 0]
def ydes:LO:=[mv' 11 29 0,mv' 2 30 0,bn' .lss 29 30 31 3]
def yckv:LO:=[ld' true 2 4 34 0,mv' 9 35 0,cl' 66 [34,35] 36 3,mv' 36 9 7]
def ydpl:LO:=[mv' 11 32 0,o3 (.bin .add (.tmp 32) (ci' 1)) 33 1,mv' 33 11 3]
def ycxd:LO:=[mv' 9 37 0,mv' 3 38 0,cl' 67 [37,38] 39 3,mv' 39 8 7]
def c30:SC:=(.seq (.reg false ydmo) (.seq (.reg false ydug) (.seq (.seq (.reg false ydlm) (.block 0 (.loop (.seq (.seq (.reg false ycfz) (.cond (.tmp 16) .skip (.exit 0))) (.seq (.block 1 (.seq (.reg false ydar) (.cond (.tmp 25) (.reg false ydpc) .skip))) (.reg false ydfo)))))) (.seq (.seq (.reg false ydrk) (.block 2 (.loop (.seq (.seq (.reg false ydes) (.cond (.tmp 31) .skip (.exit 2))) (.seq (.block 3 (.reg false yckv)) (.reg false ydpl)))))) (.seq (.reg false ycxd) .ret)))))
theorem yduq:Fn 30 c30 [.t 8]:=fn_0 Tryz.func30 (by kernel_rfl) (by kernel_rfl)
def ydtf:LO:=[o3 (.mv (.const (.bool false))) 4 0]
def ydum:LO:=[mv' 1 5 0,o3 (.bin .geq (.tmp 5) (ci' 0)) 6 1,mv' 6 7 3,⟨.mv (.tmp 1),some 8,some (7,true),7⟩,⟨.bin .lss (.tmp 8) (ci' 32),some 9,some (7,true),15⟩,o3 (.pick (.tmp 7) (.tmp 9) (.const (.bool false))) 10 31,mv' 10 11 63,⟨.mv (.tmp 0),some 12,some (11,true),127⟩,⟨.mv (.tmp 1),some 13,some (11,true),127⟩,⟨.conv .u64 (.tmp 13),some 14,some (11,true),383⟩,⟨.bin .shr (.tmp 12) (.tmp 14),some 15,some (11,true),1023⟩,⟨.bin .and (.tmp 15) (.const (.int .u32 1)),some 16,some (11,true),2047⟩,⟨.bin .eql (.tmp 16) (.const (.int .u32 1)),some 17,some (11,true),4095⟩,o3 (.pick (.tmp 11) (.tmp 17) (.const (.bool false))) 18 8191,mv' 18 4 16383]
def c67:SC:=(.seq (.reg false ydtf) (.seq (.reg false ydum) .ret))
theorem yduk:Fn 67 c67 [.t 4]:=fn_0 Tryz.func67 (by kernel_rfl) (by kernel_rfl)
def ydqw:LO:=[o3 (.box 28 (.tmp 0)) 2 0,o3 (.mv (.const (.int .u32 0))) 4 0]
def ydli:LO:=[ld' true 2 2 8 0,cl' 53 [8] 9 1,o3 (.un .not (.tmp 9)) 10 3]
def ydxh:LO:=[o3 (.mv (.const (.int .u32 0))) 4 0]
def ydig:LO:=[o3 (.mv (.const (.int .u32 0))) 5 0]
def ydus:LO:=[o3 (.mv (ci' 0)) 6 0]
def ydev:LO:=[mv' 6 11 0,fa' 1 1 2 12 0,ld' false 1 12 13 2,ln' 13 14 6,bn' .lss 11 14 15 15]
def ydji:LO:=[o3 (.mv (ci' 0)) 7 0]
def ycxp:LO:=[mv' 7 18 0,fa' 1 1 2 19 0,ld' false 1 19 20 2,mv' 6 21 0,ix' 1 20 21 22 14,ld' false 1 22 23 30,ln' 23 24 62,bn' .lss 18 24 25 127]
def ycsh:LO:=[mv' 1 28 0,fa' 1 1 2 29 0,ld' false 1 29 30 2,mv' 6 31 0,ix' 1 30 31 32 14,ld' false 1 32 33 30,mv' 7 34 0,ix' 2 33 34 35 126,fa' 0 1 35 36 254,ld' false 1 36 37 510,cl' 67 [28,37] 38 1023]
def ycon:LO:=[mv' 5 39 0,mv' 6 40 0,o3 (.conv .u64 (.tmp 40)) 41 2,o3 (.bin .shl (.const (.int .u32 1)) (.tmp 41)) 42 6,bn' .or 39 42 43 15,mv' 43 5 31]
def yddp:LO:=[mv' 7 26 0,o3 (.bin .add (.tmp 26) (ci' 1)) 27 1,mv' 27 7 3]
def ydou:LO:=[mv' 6 16 0,o3 (.bin .add (.tmp 16) (ci' 1)) 17 1,mv' 17 6 3]
def ycli:LO:=[mv' 5 44 0,mv' 44 4 1]
def c66:SC:=(.seq (.reg false ydqw) (.seq (.seq (.reg false ydli) (.cond (.tmp 10) (.seq (.reg false ydxh) .ret) .skip)) (.seq (.reg false ydig) (.seq (.seq (.reg false ydus) (.block 0 (.loop (.seq (.seq (.reg false ydev) (.cond (.tmp 15) .skip (.exit 0))) (.seq (.block 1 (.seq (.reg false ydji) (.block 2 (.loop (.seq (.seq (.reg false ycxp) (.cond (.tmp 25) .skip (.exit 2))) (.seq (.block 3 (.seq (.reg false ycsh) (.cond (.tmp 38) (.reg false ycon) .skip))) (.reg false yddp))))))) (.reg false ydou)))))) (.seq (.reg false ycli) .ret)))))
theorem ydqm:Fn 66 c66 [.t 4]:=fn_0 Tryz.func66 (by kernel_rfl) (by kernel_rfl)
end Sh
end Go.Proofs.YtpngeppkgoaimaaGreatDoor

namespace Go.Proofs.YtpngeppkgoaimaaGreatDoor
open Go
namespace Sh
open Ev Go.RowKit
set_option maxRecDepth 8000
theorem ysv:Returns Tryz.prog 28 [] (.a (.string Lqt)):=by
 refine Returns.of (ydod _ _ ?_);simp only[c28,ydhu,ydvl,go_sem,↓reduceIte];exact Sim.refl _
theorem yud{g:Gr}(hI:GrI g)(hc:yby g=true):Returns Tryz.prog 38 [grV g] (.ag (ydo 3 false true ((g.ids.length:Int)+eccP g (ybp g.ids)) (-1))):=by
 have h:=ybpi hI;unfold yih at h;rw[if_pos hc]at h;exact h
theorem ybgo{g:Gr}(hI:GrI g)(hc:yby g=true):Returns Tryz.prog 39 [grV g] (.ag (ydo 3 false true ((g.ids.length:Int)+eccP g (ybp g.ids)) (-1))):=by
 have h:=ybas hI;unfold yih at h;rw[if_pos hc]at h;exact h
theorem yov:Returns Tryz.prog 29 [] (ydf LqP.vars):=by
 have e:LqP.vars=yyk:=by kernel_rfl
 rw[e];exact ycce
end Sh
end Go.Proofs.YtpngeppkgoaimaaGreatDoor

namespace Go.Proofs.YtpngeppkgoaimaaGreatDoor
open Go
namespace Sh
open Ev Go.RowKit
set_option maxRecDepth 8000
set_option maxHeartbeats 4000000 in
theorem ybdh{x:NetR}(hx:x.ok){raw:List Int}(hr:∀ k,inK .i64 (raw.getD k 0)){l:List Nat}(hb:∀ k,l.getD k 0<2 ^ 32):Returns Tryz.prog 11 [.ag (netC x),yu raw,usV l] (.b true):=by
 refine Returns.of (ydna _ _ ?_);have hC:=ydx hx (most:=7) (by omega)
 simp only[netC]at hC;simp only[c11,ydhm,ydvi,netC,clash,go_sem,Nat.reduceEqDiff,Nat.reduceAdd,Nat.reduceLT,↓reduceIte];refine hC.found (V:=grV) (fun r g h=>h.2.2.2) fun r g h=>?_;obtain⟨hg,hcn,hn8,-⟩:=h;have hI:=yqu hg;have hCh:Checked (Lies LqB Lqv) (Lies LqC Lqr) LqP g:=⟨hg,yzy,yxf hg,yzf⟩;have hTx:=ysv;have hVs:=yov;have hCf:=ygs hg yzy hCh.hf hr;have hCl:=yud hI hcn
 have hClen:∀ c,ych LqP g c=true->c.length=g.ids.length:=fun c h=>(yfg hg h).len;have hids:g.ids.length<=24:=by have:=hg.2.1;have:=hg.2.2.1;omega
 simp only[grV]at hCf hCl;have hPr:=yij;simp(maxSteps:=5000000) only [thenO,ydtd,grV,clash,go_sem,Nat.reduceEqDiff,Nat.reduceAdd,Nat.reduceLT,↓reduceIte];refine hTx.use ?_;simp(maxSteps:=5000000) only [go_sem,↓reduceIte];refine hPr.use ?_;simp(maxSteps:=5000000) only [thenO,ydqo,clash,ycn,go_sem,Nat.reduceEqDiff,Nat.reduceAdd,↓reduceIte,reduceCtorEq];refine hTx.use ?_;simp(maxSteps:=5000000) only [go_sem]
 refine hCl.use ?_;simp(maxSteps:=5000000) only [ydo,clash,go_sem,Nat.reduceEqDiff,Nat.reduceAdd,Nat.reduceLeDiff,↓reduceIte,reduceCtorEq];refine hVs.use ?_;simp(maxSteps:=5000000) only [usV,go_sem,↓reduceIte];refine⟨by decide,hCf.found (V:=ybg) (fun r c h=>h.2) fun r c h=>?_⟩
 obtain⟨hcv,-⟩:=h;have hWs:=ygo l hb 60 (by omega)
 simp only[usV]at hWs;simp(maxSteps:=5000000) only [go_sem];refine⟨by decide,hWs.found (V:=usV) (fun r ws h=>h.2.2) fun r ws h=>?_⟩
 obtain⟨hwl,hw,-⟩:=h;have hRun:=yop yij hCh (kind:=3) (by omega) (yjz _) hcv hw (by omega)
 obtain⟨n,Cs,Ks,hD⟩:=runD (ybk LqP g) ylh ws c;have hlen:=hD.le;have hpos:=hD.pos;have hCv:∀ k,k<n->ych LqP g (Cs.getD k [])=true:=fun k hk=>(yns hg hcn yha hcv _ (hD.at_ hk).1).valid;rw[hD.cs,hD.ks]at hRun;simp only[grV,usV,ydg,ydq,hD.lC,hD.lK]at hRun;simp(maxSteps:=5000000) only [usV,go_sem,↓reduceIte];refine⟨by decide,hRun.use ?_⟩
 simp(maxSteps:=5000000) only [go_sem,Nat.reduceEqDiff,↓reduceIte];refine⟨by decide,?_⟩
 simp(maxSteps:=5000000) only [ydhg,go_sem];refine ybd (σ:=Nat) (fun k=>⟨[(12,.i .i64 k),(11,.b true),(9,.sl 1 n fun i=>[ybg (Cs.getD i [])]),(8,.pt (8,0) 0 0),(7,.pt (7,0) 0 0)],[(8,.one (some ⟨53,true,3,1,fun _=>ycn (Lies LqB Lqv) (Lies LqC Lqr) LqP.raw⟩)),(7,.one (some ⟨28,true,2,1,fun _=>[yu g.ids,yx g.ports]⟩))]⟩) (fun k=>k<=n) (fun k=>n - k) 0 (Nat.zero_le _) ?_ ?_
 ·refine yh [] [] [] ?_;simp only[ycn,allQ,live,yg,Int.natCast_zero,go_sem,Nat.reduceEqDiff,↓reduceIte,reduceCtorEq]
 ·intro k hk
  by_cases hlt:k<n
  ·have t1:decide ((k:Int)<(n:Int))=true:=decide_eq_true (by omega)
   have hLg:=ywk hI (yyf (yhp hg yzy (hCv k hlt))) (by have:=hClen _ (hCv k hlt);omega)
   have hE:=ygz hCh (hCv k hlt)
   have e2:((((ybn LqP g (Cs.getD k []):Nat):Int)) == 0)=ybt g (Cs.getD k []):=by
    have hb:ybn LqP g (Cs.getD k [])=0 ↔ ybt g (Cs.getD k [])=true:=yblh hg hcn (hCv k hlt);rw[Bool.eq_iff_iff,beq_iff_eq,<- hb];omega
   simp only[grV,ycn]at hLg hE;obtain⟨lg,hlg⟩:∃ b,ybt g (Cs.getD k [])=b:=⟨_,rfl⟩;rw[hlg]at hLg e2;have e3:(lg != lg)=false:=by cases lg<;>rfl
   simp(maxSteps:=5000000) only [ycyp,ydma,t1,ycn,clash,go_sem,Nat.reduceEqDiff,Nat.reduceAdd,↓reduceIte,reduceCtorEq];refine⟨⟨by omega,by omega⟩,hE.use ?_⟩
   simp(maxSteps:=5000000) only [thenO,clash,e2,go_sem,Nat.reduceEqDiff,Nat.reduceAdd,↓reduceIte,reduceCtorEq];refine⟨⟨by omega,by omega⟩,hLg.use ?_⟩
   simp(maxSteps:=5000000) only [e3,go_sem];simp(maxSteps:=5000000) only [ydsz,clash,go_sem,Nat.reduceEqDiff,Nat.reduceAdd,↓reduceIte,reduceCtorEq];refine⟨ikw (by omega) (by omega),?_⟩
   refine yj (k+1) (by omega) (by omega) ?_
   refine yh [] [] [] ?_;simp only[allQ,live,yg,ybb,go_sem,Nat.reduceEqDiff,↓reduceIte,reduceCtorEq];omega
  ·obtain rfl:k=n:=by omega
   have t1:decide ((k:Int)<(k:Int))=false:=decide_eq_false (by omega)
   have hK:=yma;simp(maxSteps:=5000000) only [ycyp,ydgq,t1,clash,go_sem,Nat.reduceEqDiff,Nat.reduceAdd,↓reduceIte,reduceCtorEq];refine hK.use ?_;simp(maxSteps:=5000000) only [thenO,clash,go_sem,Nat.reduceEqDiff,Nat.reduceAdd,↓reduceIte,reduceCtorEq];exact Sim.refl _
end Sh
end Go.Proofs.YtpngeppkgoaimaaGreatDoor

