/- Lemmas, joined: WpA WpB ScPq PwA ShZ Fl PwB RdB Pp. -/
import Derived.Test.YtpngeppkgoaimaaGreatDoorPkPp16
import Derived.Test.YtpngeppkgoaimaaGreatDoorPkPp15
import Derived.Test.YtpngeppkgoaimaaGreatDoorPkPp11
import Derived.Test.YtpngeppkgoaimaaGreatDoorPkPp14
import Derived.Test.YtpngeppkgoaimaaGreatDoorPkPp9
import Derived.Test.YtpngeppkgoaimaaGreatDoorPkPp10
import Derived.Test.YtpngeppkgoaimaaGreatDoorPkPp17
set_option linter.unusedSimpArgs false
set_option linter.unusedVariables false
namespace Go.Proofs.YtpngeppkgoaimaaGreatDoor
structure IsW(g:Gr)(W:List Int):Prop where
 len:W.length=g.ports.length
 root:W.getD 0 0=0
 pos:∀ v,v<g.ports.length->0<=W.getD v 0
 from_:∀ v,v<g.ports.length->v ≠ 0 -> ∃ l ∈ g.ports.getD v [],W.getD l.1.toNat 0+l.2=W.getD v 0
 le:∀ v,v<g.ports.length -> ∀ l ∈ g.ports.getD v [],W.getD v 0<=W.getD l.1.toNat 0+l.2
 small:∀ v,v<g.ports.length->W.getD v 0+15<=15 * (g.ports.length:Int)
theorem IsW.le_of{g:Gr}(hg:yx g){W V:List Int}(h:IsW g W)(h':IsW g V):∀ (n v:Nat),(V.getD v 0).toNat<n->v<g.ports.length->W.getD v 0<=V.getD v 0
 | 0,v,hn,_=>by omega
 | n+1,v,hn,hv=>by
  by_cases h0:v=0
  ·subst h0;rw[h.root];exact h'.pos 0 hv
  ·obtain⟨l,hl,e⟩:=h'.from_ v hv h0;obtain⟨_,h2,_,h4,_⟩:=ybz hg hv hl;have:=h'.pos _ h2;have:=IsW.le_of hg h h' n l.1.toNat (by omega) h2
   have:=h.le v hv l hl;omega
theorem IsW.unique{g:Gr}(hg:yx g){W V:List Int}(h:IsW g W)(h':IsW g V):W=V:=by
 refine List.ext_getElem (by rw[h.len,h'.len]) fun v h1 h2=>?_
 have hv:v<g.ports.length:=by rw[<- h.len];exact h1
 have a:=IsW.le_of hg h h' _ v (Nat.lt_succ_self _) hv;have b:=IsW.le_of hg h' h _ v (Nat.lt_succ_self _) hv;have e1:W.getD v 0=W[v]:=by simp[List.getD,h1]
 have e2:V.getD v 0=V[v]:=by simp[List.getD,h2]
 omega
inductive Wk (g:Gr):Nat->Nat->Prop
 | zero:Wk g 0 0
 | step (x u v:Nat) (l:Int × Int):Wk g x u->v<g.ports.length->l ∈ g.ports.getD v []->l.1.toNat=u->Wk g (x+l.2.toNat) v
theorem ybep{p:Nat->Prop}:∀ n,p n -> ∃ m,p m /\ ∀ j,j<m -> ¬ p j
 | n,h=>by
  by_cases q:∃ j,j<n/\p j
  ·obtain⟨j,hj,hp⟩:=q;exact ybep j hp
  ·exact⟨n,h,fun j hj hp=>q ⟨j,hj,hp⟩⟩
termination_by n=>n
theorem yczn{g:Gr}(hg:yx g):∀ (k v:Nat),Walk g 0 k v->v<g.ports.length -> ∃ x,x<=15 * k/\Wk g x v
 | 0,v,h,_=>by
  have h:v=0:=h;subst h;exact⟨0,by omega,.zero⟩
 | k+1,v,⟨u,h1,h2⟩,hv=>by
  obtain⟨hu,_⟩:=hg.adj_lt h2;obtain⟨x,hx,hw⟩:=yczn hg k u h1 hu;obtain⟨l,hl,e⟩:=ybtg (hg.adj_symm h2);obtain⟨_,_,_,h4,h5⟩:=ybz hg hv hl;exact⟨x+l.2.toNat,by omega,.step x u v l hw hv hl e⟩
theorem exW{g:Gr}(hg:yx g)(hc:yey g=true):∃ W,IsW g W:=by
 have h0:0<g.ports.length:=by have:=hg.1;omega
 have ex:∀ v,v<g.ports.length -> ∃ x,Wk g x v/\(∀ j,j<x -> ¬ Wk g j v)/\x+15<=15 * g.ports.length:=fun v hv=>by
  obtain⟨k,_,h1,_,h2⟩:=yfo hg hc h0 hv;obtain⟨x,hx,hw⟩:=yczn hg k v h1 hv;obtain⟨m,h3,h4⟩:=ybep (p:=fun x=>Wk g x v) x hw;refine⟨m,h3,h4,?_⟩
  have:m<=x:=by
   rcases Nat.lt_or_ge x m with q | q
   ·exact absurd hw (h4 x q)
   ·exact q
  omega
 have hf:∃ f:Nat->Nat,∀ v,v<g.ports.length->Wk g (f v) v/\(∀ j,j<f v -> ¬ Wk g j v)/\f v+15<=15 * g.ports.length:=by
  refine⟨fun v=>if h:v<g.ports.length then Classical.choose (ex v h)else 0,fun v hv=>?_⟩
  simp only[dif_pos hv];exact Classical.choose_spec (ex v hv)
 obtain⟨f,hf⟩:=hf;have gt:∀ v,v<g.ports.length->((List.range g.ports.length).map fun v=>(f v:Int)).getD v 0=f v:=fun v hv=>by simp[List.getD,hv]
 have min:∀ v x,v<g.ports.length->Wk g x v->f v<=x:=fun v x hv hw=>by
  rcases Nat.lt_or_ge x (f v)with q | q
  ·exact absurd hw ((hf v hv).2.1 x q)
  ·exact q
 have hle:∀ v,v<g.ports.length -> ∀ l ∈ g.ports.getD v [],(f v:Int)<=f l.1.toNat+l.2:=fun v hv l hl=>by
  obtain⟨_,h2,_,h4,_⟩:=ybz hg hv hl;have:=min v _ hv (.step _ _ v l (hf l.1.toNat h2).1 hv hl rfl);omega
 refine⟨(List.range g.ports.length).map fun v=>(f v:Int),by simp,?_,fun v hv=>?_,fun v hv hne=>?_,fun v hv l hl=>?_,fun v hv=>?_⟩
 ·rw[gt 0 h0];have:=min 0 0 h0 .zero;omega
 ·rw[gt v hv];omega
 ·have h1:=(hf v hv).1;rw[gt v hv]
  generalize hx:f v=x at h1
  cases h1 with
  | zero=>exact absurd rfl hne
  | step y u _ l hw _ hl e =>
   obtain⟨_,h2,_,h4,_⟩:=ybz hg hv hl;refine⟨l,hl,?_⟩;rw[gt _ h2];subst e;have a:=min _ _ h2 hw;have b:=hle v hv l hl;omega
 ·obtain⟨_,h2,_,_⟩:=ybz hg hv hl;rw[gt v hv,gt _ h2];exact hle v hv l hl
 ·rw[gt v hv];have:=(hf v hv).2.2;omega

def ybxg:Ex:=.bin 33 (eQ 0) (.leaf 16 0)
def ybmr:Ex:=.bin 30 (eNum 15) eN
def ybeg:Ex:=.agg 24 ybxg
def ybjk:Ex:=.ite (.bin 37 ybeg ybmr) ybeg ybmr
def ybjl:Ex:=.agg 23 (.bin 35 ybxg ybeg)
def ycwi:Ex:=.bin 41 (.un 19 ybrg) (.bin 42 (.bin 36 (eVar 0) ybjk) (.bin 36 (eVar 1) ybjl))
def ycy(nm d p t l:ByteArray):ProgT:=⟨nm,[⟨d,1,0,0,15,0⟩,⟨p,3,0,0,0,0⟩],[⟨t,yceh,[(0,eNum 0),(1,ycvq)]⟩,⟨l,ycwi,[(0,ybjk),(1,ybjl)]⟩]⟩
def ptK(c:Conf)(l:Int × Int):Int:=endP c 0 l+l.2
def ptM(g:Gr)(c:Conf)(v:Nat):Int:=yig ((g.ports.getD v []).map (ptK c))
def ptD(g:Gr)(c:Conf)(v:Nat):Int:=if ptM g c v<15 * (g.ids.length:Int)then ptM g c v else 15 * (g.ids.length:Int)
def ptF(g:Gr)(c:Conf)(v:Nat):Int:=ygb (fun l=>ptK c l == ptM g c v) (g.ports.getD v [])
def ptT(g:Gr)(c:Conf)(v:Nat):List Int:=if v=0 then[0,-1]else[ptD g c v,ptF g c v]
structure PtC(g:Gr)(c:Conf):Prop where
 len:c.length=g.ids.length
 row:∀ v,v<g.ids.length->(c.getD v []).length=2/\(0<=(c.getD v []).getD 0 0/\(c.getD v []).getD 0 0<=15 * g.ids.length)/\(-1<=(c.getD v []).getD 1 0/\(c.getD v []).getD 1 0<(g.ports.getD v []).length)
section
variable {nm nd np nt nl:ByteArray} {g:Gr} {c:Conf} {v:Nat}
theorem bTP{x:ByteArray}:ybg g v ⟨x,1,0,0,15,0⟩=(0,0+15 * (g.ids.length:Int)+0 * maxI g.ids):=by
 show(if (1:Int)=1 then _ else _)=_
 rw[if_pos rfl]
theorem ycu(hc:ydk (ycy nm nd np nt nl) g c=true):PtC g c:=by
 have h:=(yft _ _ _).1 hc;refine⟨h.1,fun v hv=>?_⟩;have hlt:v<c.length:=by rw[h.1];exact hv
 have e:c.getD v []=c[v]:=by simp[List.getD,hlt]
 have h2:=h.2 v _ (List.getElem?_eq_getElem hlt);rw[e];have hl:c[v].length=2:=h2.1;have a0:(ybg g v ⟨nd,1,0,0,15,0⟩).1<=c[v][0]/\c[v][0]<=(ybg g v ⟨nd,1,0,0,15,0⟩).2:=h2.2 0 _ _ rfl (List.getElem?_eq_getElem (by omega))
 have a1:(ybg g v ⟨np,3,0,0,0,0⟩).1<=c[v][1]/\c[v][1]<=(ybg g v ⟨np,3,0,0,0,0⟩).2:=h2.2 1 _ _ rfl (List.getElem?_eq_getElem (by omega))
 have e0:c[v].getD 0 0=c[v][0]:=by simp[List.getD,hl]
 have e1:c[v].getD 1 0=c[v][1]:=by simp[List.getD,hl]
 rw[e0,e1];rw[bTP]at a0;rw[bT3]at a1;simp only at a0 a1;exact⟨hl,⟨by omega,by omega⟩,⟨by omega,by omega⟩⟩
theorem PtC.link(h:PtC g c)(hg:yx g)(hv:v<g.ids.length){l:Int × Int}(hl:l ∈ g.ports.getD v []):0<=l.1/\l.1.toNat<g.ids.length/\(1<=l.2/\l.2<=15)/\(0<=endP c 0 l/\endP c 0 l<=15 * g.ids.length):=by
 have hpl:=hg.2.2.1;obtain⟨h1,h2,_,h3,h4⟩:=ybz hg (by omega) hl
 have h5:=h.row l.1.toNat (by omega)
 exact⟨h1,by omega,⟨h3,h4⟩,h5.2.1⟩
theorem ycqx(h:PtC g c)(hg:yx g)(hv:v<g.ids.length):1<=ptM g c v:=ypx (by omega) fun x hx=>by
 obtain⟨l,hl,rfl⟩:=List.mem_map.1 hx;obtain⟨_,_,h3,h4⟩:=h.link hg hv hl;unfold ptK;omega
theorem ycoc{x:Int}(h:InB x):satP x=x:=by unfold InB at h;unfold satP;omega
theorem ybey(h:PtC g c)(hg:yx g)(hv:v<g.ids.length){q:Nat}(hq:q<(g.ports.getD v []).length):ybu g c v ybxg q=ptK c (ybo g v q):=by
 have hm:ybo g v q ∈ g.ports.getD v []:=by unfold ybo;rw[Sh.getD_at hq];exact List.getElem_mem hq
 obtain⟨_,_,h3,h4⟩:=h.link hg hv hm;have h5:=hg.2.1;have h6:=hg.2.2.1;show satP (endP c 0 (ybo g v q)+(ybo g v q).2)=_;rw[ycoc (by unfold InB;omega)]
 rfl
theorem ybgj(h:PtC g c)(hg:yx g)(hv:v<g.ids.length)(p:Int):ybu g c v ybeg p=ptM g c v:=by
 show ygm 24 _=_;unfold ptM ygm;rw[if_neg (by decide),if_neg (by decide),if_neg (by decide),if_neg (by decide),if_pos rfl]
 congr 1;exact ybae g v _ _ fun q hq=>ybey h hg hv hq
theorem ybxj(hg:yx g)(p:Int):ybu g c v ybmr p=15 * (g.ids.length:Int):=by
 have h5:=hg.2.1;have h6:=hg.2.2.1;show satP (15 * (g.ids.length:Int))=_;exact ycoc (by unfold InB;omega)
theorem ybfo(h:PtC g c)(hg:yx g)(hv:v<g.ids.length)(p:Int):ybu g c v ybjk p=ptD g c v:=by
 show(if binP 37 (ybu g c v ybeg p) (ybu g c v ybmr p) ≠ 0 then ybu g c v ybeg p else ybu g c v ybmr p)=_
 rw[ybgj h hg hv,ybxj hg];have e3:binP 37 (ptM g c v) (15 * (g.ids.length:Int))=ybv (decide (ptM g c v<15 * (g.ids.length:Int))):=rfl;rw[e3];unfold ptD
 by_cases h:ptM g c v<15 * (g.ids.length:Int)
 ·rw[if_pos h,if_pos (by simp[ybv,h])]
 ·rw[if_neg h,if_neg (by simp[ybv,h])]
theorem ybfn(h:PtC g c)(hg:yx g)(hv:v<g.ids.length)(p:Int):ybu g c v ybjl p=ptF g c v:=by
 show ygm 23 _=_;unfold ptF ygm;rw[if_neg (by decide),if_neg (by decide),if_neg (by decide),if_pos rfl,<- yvk]
 congr 1;refine ybae g v _ _ fun q hq=>?_;show binP 35 (ybu g c v ybxg q) (ybu g c v ybeg q)=_;rw[ybgj h hg hv,ybey h hg hv hq];rfl
theorem ydet:-1<=ptF g c v/\ptF g c v<(g.ports.getD v []).length:=by
 unfold ptF ygb;split
 ·rename_i i hi
  obtain⟨h,_⟩:=List.findIdx?_eq_some_iff_getElem.1 hi;omega
 ·omega
theorem ydag(h:PtC g c)(hg:yx g)(hv:v<g.ids.length):0<=ptD g c v/\ptD g c v<=15 * g.ids.length:=by
 have:=ycqx h hg hv;unfold ptD;split<;>omega
theorem ybpj(h:PtC g c)(hg:yx g)(hv:v<g.ids.length) :
  yjl g c v ⟨nt,yceh,[(0,eNum 0),(1,ycvq)]⟩=(decide (v=0) && !decide (c.getD v [] = [0,-1])) /\
  yjl g c v ⟨nl,ycwi,[(0,ybjk),(1,ybjl)]⟩=(!decide (v=0) && !decide (c.getD v [] = [ptD g c v,ptF g c v])):=by
 have h2:=(h.row v hv).1;have er:∀ p,ybu g c v ybrg p=ybv ((v:Int) == 0):=fun p=>rfl
 have ez:((v:Int) == 0)=decide (v=0):=by
  cases v with
  | zero=>rfl
  | succ k=>simp;omega
 have e0:∀ p,ybu g c v (eVar 0) p=(c.getD v []).getD 0 0:=fun p=>rfl;have e1:∀ p,ybu g c v (eVar 1) p=(c.getD v []).getD 1 0:=fun p=>rfl
 have dd:∀ x y:Int,(decide (c.getD v [] = [x,y]))=(((c.getD v []).getD 0 0 == x) && ((c.getD v []).getD 1 0 == y)):=fun x y=>by
  rw[Bool.eq_iff_iff];simp only[decide_eq_true_eq,Bool.and_eq_true,beq_iff_eq];exact ycgq h2 x y
 have b41:∀ a b:Bool,binP 41 (ybv a) (ybv b)=ybv (a && b):=fun a b=>by cases a<;>cases b<;>rfl
 have b42:∀ a b:Bool,binP 42 (ybv a) (ybv b)=ybv (a || b):=fun a b=>by cases a<;>cases b<;>rfl
 have b36:∀ a b:Int,binP 36 a b=ybv (a != b):=fun a b=>rfl;have u19:∀ a:Bool,unP 19 (ybv a)=ybv (!a):=fun a=>by cases a<;>rfl
 have key:∀ t a b:Bool,(t && (!a || !b))=(t && !(a && b)):=by decide
 constructor
 ·show(binP 41 (ybu g c v ybrg (-1)) (binP 42 (binP 36 (ybu g c v (eVar 0) (-1)) 0) (binP 36 (ybu g c v (eVar 1) (-1)) (-1))) != 0)=_;rw[er,e0,e1,b36,b36,b42,b41,yzi,dd,ez];exact key _ _ _
 ·show(binP 41 (unP 19 (ybu g c v ybrg (-1))) (binP 42 (binP 36 (ybu g c v (eVar 0) (-1)) (ybu g c v ybjk (-1))) (binP 36 (ybu g c v (eVar 1) (-1)) (ybu g c v ybjl (-1)))) != 0)=_;rw[er,u19,ybfo h hg hv,ybfn h hg hv,e0,e1,b36,b36,b42,b41,yzi,dd,ez];exact key _ _ _
theorem ybej(h:PtC g c)(hg:yx g)(hv:v<g.ids.length):yfv (ycy nm nd np nt nl) g c v=if c.getD v []=ptT g c v then -1 else if v=0 then 0 else 1:=by
 obtain⟨h1,h2⟩:=ybpj (nt:=nt) (nl:=nl) h hg hv;unfold yfv ycy;simp only[List.findIdx?_cons,h1,h2,List.findIdx?_nil];unfold ptT
 generalize c.getD v []=s
 by_cases h0:v=0
 ·rw[if_pos h0,if_pos h0,decide_eq_true h0]
  by_cases hs:s = [0,-1]
  ·rw[if_pos hs,decide_eq_true hs];rfl
  ·rw[if_neg hs,decide_eq_false hs];rfl
 ·rw[if_neg h0,if_neg h0,decide_eq_false h0]
  by_cases hs:s = [ptD g c v,ptF g c v]
  ·rw[if_pos hs,decide_eq_true hs];rfl
  ·rw[if_neg hs,decide_eq_false hs];rfl
theorem yop{k:Int}{b:Int × Int}{x:Int}(h:b.1<=x/\x<=b.2):ygc k b x=x:=by unfold ygc;rw[if_pos ⟨h.1,h.2⟩]
theorem yctg(h:PtC g c)(hg:yx g)(hv:v<g.ids.length)(hne:c.getD v [] ≠ ptT g c v):yzt (ycy nm nd np nt nl) g c v (yfv (ycy nm nd np nt nl) g c v).toNat=ptT g c v:=by
 rw[ybej h hg hv,if_neg hne];have h3:=(h.row v hv).1
 obtain⟨x,y,hxy⟩:∃ x y,c.getD v [] = [x,y]:=by
  match hq:c.getD v [],h3 with
  | [x,y],_=>exact⟨x,y,rfl⟩
 obtain⟨f1,f2⟩:=ydet (g:=g) (c:=c) (v:=v);obtain⟨d1,d2⟩:=ydag h hg hv;unfold yzt ynb ptT;rw[hxy]
 by_cases h0:v=0
 ·rw[if_pos h0,if_pos h0];show[ygc 1 (ybg g v ⟨nd,1,0,0,15,0⟩) 0,ygc 3 (ybg g v ⟨np,3,0,0,0,0⟩) (-1)]=_;rw[yop (by rw[bTP];simp only;omega),yop (by rw[bT3];simp only;omega)]
 ·rw[if_neg h0,if_neg h0];show[ygc 1 (ybg g v ⟨nd,1,0,0,15,0⟩) (ybu g c v ybjk (-1)),ygc 3 (ybg g v ⟨np,3,0,0,0,0⟩) (ybu g c v ybjl (-1))]=_;rw[ybfo h hg hv,ybfn h hg hv,yop (by rw[bTP];simp only;omega),yop (by rw[bT3];simp only;omega)]
theorem ypz(hg:yx g):Sh.yuj (ycy nm nd np nt nl) g=true:=by
 have h1:=hg.1;have h2:=hg.2.1;have h3:=hg.2.2.1;simp[Sh.yuj,ycy,ybg];omega
theorem ydhk:(ycy nm nd np nt nl).ok=true:=by kernel_rfl
theorem ybqd(hg:yx g):Tgt (ybk (ycy nm nd np nt nl) g) (fun c=>ydk (ycy nm nd np nt nl) g c=true) (ptT g) where
 valid:=fun c s hc _ _=>Sh.ytx hg ydhk (ypz hg) hc s
 stay:=fun c s v hc hv hb=>by
  have hl:=(ycu hc).len;show(ykp _ g c s).getD v []=_;rw[Sh.yls _ g c s (by rw[hl];exact hv),hb]
  rfl
 move:=fun c s v hc hv hb hs=>by
  have hl:=(ycu hc).len;have hv:v<g.ids.length:=hv;show(ykp _ g c s).getD v []=_;rw[Sh.yls _ g c s (by rw[hl];exact hv),hb,if_pos rfl]
  refine yctg (ycu hc) hg hv fun he=>?_;have h1:=hs v hb;have h1:(yim _ g.ids.length).testBit v=true:=h1;rw[yih]at h1;simp only[Bool.and_eq_true,decide_eq_true_eq]at h1;rw[ybej (ycu hc) hg hv,if_pos he]at h1;omega
 en:=fun c v hc hv=>by
  have hv:v<g.ids.length:=hv;show(yim _ g.ids.length).testBit v=false ↔ _;rw[yih,ybej (ycu hc) hg hv,decide_eq_true hv,Bool.true_and,decide_eq_false_iff_not]
  by_cases he:c.getD v []=ptT g c v
  ·rw[if_pos he];exact⟨fun _=>he,fun _=>by omega⟩
  ·rw[if_neg he];exact⟨fun h=>(h (by split<;>omega)).elim,fun h=>absurd h he⟩
def lgV(g:Gr):Nat->Int
 | 0=>15
 | v+1=>(g.ports.getD v []).foldl (fun a l=>min a l.2) (lgV g v)
def yei(g:Gr):Int:=lgV g g.ports.length
theorem lgF(ls:List (Int × Int))(a:Int):ls.foldl (fun a l=>min a l.2) a<=a/\(∀ l ∈ ls,ls.foldl (fun a l=>min a l.2) a<=l.2) /\ ∀ b:Int,b<=a->(∀ l ∈ ls,b<=l.2)->b<=ls.foldl (fun a l=>min a l.2) a:=by
 have e:ls.foldl (fun a l=>min a l.2) a=(ls.map (·.2)).foldl min a:=by rw[List.foldl_map]
 obtain⟨h1,h2,h3⟩:=yid (ls.map (·.2)) a;rw[e];refine⟨h1,fun l hl=>h2 _ (List.mem_map.2 ⟨l,hl,rfl⟩),fun b hb hl=>h3 b hb fun x hx=>?_⟩;obtain⟨l,hl',rfl⟩:=List.mem_map.1 hx;exact hl l hl'
theorem yccb(hg:yx g):∀ k,k<=g.ports.length->1<=lgV g k/\lgV g k<=15 /\ ∀ v l,v<k->l ∈ g.ports.getD v []->lgV g k<=l.2
 | 0,_=>⟨show(1:Int)<=15 by decide,Int.le_refl _,fun v l hv=>absurd hv (Nat.not_lt_zero v)⟩
 | k+1,hk=>by
  obtain⟨h1,h2,h3⟩:=yccb hg k (by omega)
  obtain⟨q1,q2,q3⟩:=lgF (g.ports.getD k []) (lgV g k);show 1<=List.foldl _ _ _/\List.foldl _ _ _<=15 /\ ∀ v l,v<k+1->l ∈ g.ports.getD v []->List.foldl _ _ _<=l.2;refine⟨q3 1 h1 fun l hl=>(ybz hg (by omega) hl).2.2.2.1,by omega,fun v l hv hl=>?_⟩
  by_cases e:v=k
  ·subst e;exact q2 l hl
  ·have:=h3 v l (by omega) hl;omega
theorem yhk(hg:yx g):1<=yei g/\yei g<=15 /\ ∀ v l,v<g.ports.length->l ∈ g.ports.getD v []->yei g<=l.2:=yccb hg _ (Nat.le_refl _)
def ygq(g:Gr)(W:List Int)(v:Nat):Int:=if v=0 then -1 else ygb (fun l=>W.getD l.1.toNat 0+l.2 == W.getD v 0) (g.ports.getD v [])
def ptS(g:Gr)(W:List Int)(v:Nat):List Int:=[W.getD v 0,ygq g W v]
def ptR(g:Gr)(W:List Int)(r v:Nat)(s:List Int):Prop:=if W.getD v 0<(r:Int) * yei g then s=ptS g W v else(r:Int) * yei g<=s.getD 0 0
theorem ybdg{W:List Int}(hg:yx g)(hW:IsW g W)(h:PtC g c)(hv:v<g.ids.length)(r:Nat)(hall:∀ u,u<g.ids.length->ptR g W r u (c.getD u [])):ptR g W (r+1) v (ptT g c v):=by
 have hpl:=hg.2.2.1;have h24:=hg.2.1;have hvp:v<g.ports.length:=by omega
 obtain⟨w1,w2,w3⟩:=yhk hg;obtain⟨w,hw⟩:∃ w,yei g=w:=⟨_,rfl⟩;rw[hw]at w1 w2 w3;obtain⟨k,hk⟩:∃ k:Int,(r:Int) * w=k:=⟨_,rfl⟩;have hk1:((r+1:Nat):Int) * w=k+w:=by rw[<- hk,Int.natCast_add,Int.add_mul];omega
 have hk0:0<=k:=by rw[<- hk];exact Int.mul_nonneg (by omega) (by omega)
 unfold ptR ptT;rw[hw,hk1]
 by_cases hv0:v=0
 ·subst hv0;rw[if_pos rfl,hW.root,if_pos (by omega)]
  unfold ptS ygq;rw[hW.root,if_pos rfl]
 ·rw[if_neg hv0];have hsm:=hW.small v hvp
  have near:∀ l ∈ g.ports.getD v [],w<=l.2/\W.getD v 0<=W.getD l.1.toNat 0+l.2/\((W.getD l.1.toNat 0<k/\endP c 0 l=W.getD l.1.toNat 0)\/(k<=W.getD l.1.toNat 0/\k<=endP c 0 l)):=fun l hl=>by
   obtain⟨_,h1,h2,_⟩:=ybz hg hvp hl;refine⟨w3 v l hvp hl,hW.le v hvp l hl,?_⟩;have h4:=hall l.1.toNat (by omega)
   unfold ptR at h4;rw[hw,hk]at h4;split at h4
   ·rename_i hlt
    refine .inl ⟨hlt,?_⟩;unfold endP;rw[h4];rfl
   ·exact .inr ⟨by omega,h4⟩
  by_cases hq:W.getD v 0<k+w
  ·rw[if_pos hq]
   have hM:ptM g c v=W.getD v 0:=by
    obtain⟨l,hl,e⟩:=hW.from_ v hvp hv0;have h5:=near l hl
    have h6:ptK c l=W.getD v 0:=by
     unfold ptK;rcases h5.2.2 with⟨_,h⟩ | ⟨h,_⟩
     ·rw[h,e]
     ·omega
    refine Int.le_antisymm ?_ (ypx (by omega) fun x hx=>?_)
    ·rw[<- h6];exact ybps (List.mem_map.2 ⟨l,hl,rfl⟩)
    ·obtain⟨l',hl',rfl⟩:=List.mem_map.1 hx;have h7:=near l' hl';unfold ptK;rcases h7.2.2 with⟨_,h⟩ | ⟨_,h⟩<;>omega
   have e1:ptD g c v=W.getD v 0:=by
    unfold ptD;rw[hM,if_pos (by omega)]
   have e2:ptF g c v=ygq g W v:=by
    unfold ptF ygq;rw[if_neg hv0];refine ybaa fun l hl=>?_;have h7:=near l hl;unfold ptK;rw[hM,Bool.eq_iff_iff];simp only[beq_iff_eq];rcases h7.2.2 with⟨h8,h⟩ | ⟨h8,h⟩<;>omega
   rw[e1,e2];rfl
  ·rw[if_neg hq]
   have hM:k+w<=ptM g c v:=ypx (by omega) fun x hx=>by
    obtain⟨l',hl',rfl⟩:=List.mem_map.1 hx;have h7:=near l' hl';unfold ptK;rcases h7.2.2 with⟨_,h⟩ | ⟨_,h⟩<;>omega
   show k+w<=ptD g c v;unfold ptD;split<;>omega
theorem ybzd{W:List Int}(hg:yx g)(r v:Nat)(s:List Int)(h:ptR g W (r+1) v s):ptR g W r v s:=by
 obtain⟨w1,_,_⟩:=yhk hg;have hk1:((r+1:Nat):Int) * yei g=(r:Int) * yei g+yei g:=by rw[Int.natCast_add,Int.add_mul];omega
 unfold ptR at *;rw[hk1]at h;split at h
 ·rename_i h1
  split
  ·exact h
  ·rw[h];show(r:Int) * yei g<=W.getD v 0;omega
 ·rw[if_neg (by omega)];omega
theorem ybfb{W:List Int}(hW:IsW g W)(hg:yx g)(h:PtC g c)(hv:v<g.ids.length):ptR g W 0 v (c.getD v []):=by
 have hpl:=hg.2.2.1;have:=hW.pos v (by omega)
 unfold ptR;rw[show((0:Nat):Int) * yei g=0 by simp,if_neg (by omega)]
 exact(h.row v hv).2.1.1
theorem yqo{W:List Int}(hW:IsW g W)(hg:yx g){res:Nat->Nat->Nat}(hr:ybki res){ws:List Nat}{c:Conf}(hv:ydk (ycy nm nd np nt nl) g c=true):∀ p ∈ (ybk (ycy nm nd np nt nl) g).runs res ws c,RInv (ybk (ycy nm nd np nt nl) g) (fun c=>ydk (ycy nm nd np nt nl) g c=true) (ptR g W) p.1 p.2 :=
 ((ybqd hg).rounds (fun c v r hc' hn hall=>ybdg hg hW (ycu hc') hn r hall) (ybzd hg)).runs hr hv fun v h=>ybfb hW hg (ycu hv) h
def ylw(g:Gr)(W:List Int)(c:Conf):Prop:=∀ v,v<g.ids.length->c.getD v []=ptS g W v
theorem ybng{W:List Int}(hW:IsW g W)(hg:yx g){c:Conf}{r:Nat}(hr:g.ports.length * 15<=r)(h:∀ v,v<g.ids.length->ptR g W r v (c.getD v [])):ylw g W c:=fun v hv=>by
 have hpl:=hg.2.2.1;obtain⟨w1,_,_⟩:=yhk hg;have h1:=h v hv;have:=hW.small v (by omega)
 have:(r:Int) * 1<=(r:Int) * yei g:=Int.mul_le_mul_of_nonneg_left w1 (by omega)
 unfold ptR at h1;rw[if_pos (by omega)]at h1
 exact h1
theorem yblm{W:List Int}(hW:IsW g W)(hg:yx g){c:Conf}(h:ylw g W c)(r:Nat)(v:Nat)(hv:v<g.ids.length):ptR g W r v (c.getD v []):=by
 rw[h v hv];unfold ptR;split
 ·rfl
 ·show _<=W.getD v 0;omega
theorem ybeq{W:List Int}(hW:IsW g W)(hg:yx g){c:Conf}(hv:ydk (ycy nm nd np nt nl) g c=true):ybm (ycy nm nd np nt nl) g c=0 ↔ ylw g W c:=by
 have hpl:=hg.2.2.1;have h24:=hg.2.1;constructor
 ·intro he;have:=(ybqd (nm:=nm) (nd:=nd) (np:=np) (nt:=nt) (nl:=nl) hg).silent (P:=ptR g W) (fun c v r hc' hn hall=>ybdg hg hW (ycu hc') hn r hall) hv (fun v h=>ybfb hW hg (ycu hv) h) he;refine ybng hW hg (r:=1000) (by omega) fun v hn=>this 1000 v hn
 ·intro h;refine(ybqd (nm:=nm) (nd:=nd) (np:=np) (nt:=nt) (nl:=nl) hg).en_zero hv (Sh.ybvs _ g c) fun v hn=>?_;have hn:v<g.ids.length:=hn;have h1:=ybdg hg hW (ycu hv) hn 1000 fun u hu=>yblm hW hg h 1000 u hu;obtain⟨w1,_,_⟩:=yhk hg;have:=hW.small v (by omega)
  have:((1000+1:Nat):Int) * 1<=((1000+1:Nat):Int) * yei g:=Int.mul_le_mul_of_nonneg_left w1 (by omega)
  unfold ptR at h1;rw[if_pos (by omega)]at h1
  rw[h1];exact h v hn
end
end Go.Proofs.YtpngeppkgoaimaaGreatDoor

namespace Go.Proofs.YtpngeppkgoaimaaGreatDoor
def relax(v:Nat)(R:List Int)(l:Int × Int):List Int:=R.set v (min (R.getD v 0) (R.getD l.1.toNat 0+l.2))
def relV(g:Gr)(R:List Int)(v:Nat):List Int:=(g.ports.getD v []).foldl (relax v) R
def relN(g:Gr)(R:List Int)(k:Nat):List Int:=(List.range k).foldl (relV g) R
def ygd(g:Gr)(T:Int):List Int:=(List.range g.ports.length).map fun v=>if v=0 then 0 else T
def ydn(g:Gr)(T:Int):Nat->List Int
 | 0=>ygd g T
 | r+1=>relN g (ydn g T r) g.ports.length
theorem yix{R:List Int}{v x:Nat}{a:Int}(hv:v<R.length):(R.set v a).getD x 0=if x=v then a else R.getD x 0:=by
 rw[List.getD_eq_getElem?_getD,List.getElem?_set]
 by_cases h:v=x
 ·subst h;simp[hv]
 ·rw[if_neg h,if_neg (fun e=>h e.symm),List.getD_eq_getElem?_getD]
theorem yrr(v:Nat)(R:List Int)(l:Int × Int):(relax v R l).length=R.length:=by unfold relax;simp
theorem yqj(v:Nat):∀ (ls:List (Int × Int)) (R:List Int),(ls.foldl (relax v) R).length=R.length
 | [],_=>rfl
 | l :: ls,R=>by rw[List.foldl_cons,yqj v ls,yrr]
theorem ycan(g:Gr)(R:List Int)(v:Nat):(relV g R v).length=R.length:=yqj v _ R
theorem ykj(g:Gr)(R:List Int)(k:Nat):relN g R (k+1)=relV g (relN g R k) k:=by
 unfold relN;rw[List.range_succ,List.foldl_append];rfl
theorem ybfd(g:Gr)(R:List Int):∀ k,(relN g R k).length=R.length
 | 0=>rfl
 | k+1=>by rw[ykj,ycan,ybfd g R k]
theorem yic(g:Gr)(T:Int):∀ r,(ydn g T r).length=g.ports.length
 | 0=>by simp[ydn,ygd]
 | r+1=>by show(relN g _ _).length=_;rw[ybfd,yic g T r]
theorem ywq{α:Type}{p q:α->Bool}:∀ {l:List α},(∀ x ∈ l,p x=true->q x=true)->(∃ y ∈ l,q y=true/\p y=false)->l.countP p<l.countP q
 | [],_,h=>by obtain⟨y,hy,_⟩:=h;exact absurd hy List.not_mem_nil
 | x :: l,h,⟨y,hy,h1,h2⟩=>by
  have hle:l.countP p<=l.countP q:=List.countP_mono_left fun z hz=>h z (List.mem_cons_of_mem _ hz);rcases List.mem_cons.1 hy with rfl | hy
  ·rw[List.countP_cons_of_pos h1,List.countP_cons_of_neg (by rw[h2];simp)]
   omega
  ·have:=ywq (l:=l) (fun z hz=>h z (List.mem_cons_of_mem _ hz)) ⟨y,hy,h1,h2⟩;rw[List.countP_cons,List.countP_cons];have hx:=h x List.mem_cons_self
   by_cases e:p x=true
   ·rw[if_pos e,if_pos (hx e)];omega
   ·rw[if_neg e];omega
section
variable {g:Gr} {W R:List Int} {v:Nat}
def ybcw(g:Gr)(W:List Int)(v:Nat):Nat:=(List.range g.ports.length).countP fun u=>decide (W.getD u 0<W.getD v 0)
theorem ybol{u:Nat}(hu:u<g.ports.length)(h:W.getD u 0<W.getD v 0):ybcw g W u<ybcw g W v :=
 ywq (fun x _ hx=>decide_eq_true (by have:=of_decide_eq_true hx;omega)) ⟨u,List.mem_range.2 hu,decide_eq_true h,decide_eq_false (by omega)⟩
theorem yctx:ybcw g W v<=g.ports.length:=by
 have:=List.countP_le_length (p:=fun u=>decide (W.getD u 0<W.getD v 0)) (l:=List.range g.ports.length)
 rwa [List.length_range]at this
structure RelOk(g:Gr)(W R:List Int):Prop where
 len:R.length=g.ports.length
 ge:∀ v,v<g.ports.length->W.getD v 0<=R.getD v 0
theorem yut(h:RelOk g W R)(hv:v<g.ports.length)(l:Int × Int)(x:Nat):(relax v R l).getD x 0=if x=v then min (R.getD v 0) (R.getD l.1.toNat 0+l.2)else R.getD x 0:=by
 unfold relax;exact yix (by rw[h.len];exact hv)
theorem ybyr(hg:yx g)(hW:IsW g W)(h:RelOk g W R)(hv:v<g.ports.length){l:Int × Int}(hl:l ∈ g.ports.getD v []):RelOk g W (relax v R l):=by
 refine⟨by rw[yrr,h.len],fun x hx=>?_⟩
 obtain⟨_,h2,_⟩:=ybz hg hv hl;rw[yut h hv];split
 ·rename_i e;subst e;have:=hW.le x hx l hl;have:=h.ge x hx;have:=h.ge _ h2;omega
 ·exact h.ge x hx
theorem yty(hg:yx g)(hW:IsW g W)(h:RelOk g W R)(hv:v<g.ports.length){l:Int × Int}(hl:l ∈ g.ports.getD v []){x:Nat}(e:R.getD x 0=W.getD x 0):(relax v R l).getD x 0=W.getD x 0:=by
 obtain⟨_,h2,_⟩:=ybz hg hv hl;rw[yut h hv];split
 ·rename_i q;subst q;have:=hW.le x hv l hl;have:=h.ge _ h2;omega
 ·exact e
theorem ybpc(hg:yx g)(hW:IsW g W)(hv:v<g.ports.length):∀ (ls:List (Int × Int)) (R:List Int),(∀ l ∈ ls,l ∈ g.ports.getD v [])->RelOk g W R ->
  RelOk g W (ls.foldl (relax v) R)/\(∀ x,R.getD x 0=W.getD x 0->(ls.foldl (relax v) R).getD x 0=W.getD x 0) /\
   ((∃ l ∈ ls,W.getD l.1.toNat 0+l.2=W.getD v 0/\R.getD l.1.toNat 0=W.getD l.1.toNat 0)->(ls.foldl (relax v) R).getD v 0=W.getD v 0)
 | [],R,_,h=>⟨h,fun _ e=>e,fun⟨l,hl,_⟩=>absurd hl List.not_mem_nil⟩
 | l :: ls,R,hs,h=>by
  have hl:=hs l List.mem_cons_self;obtain⟨a,b,d⟩:=ybpc hg hW hv ls (relax v R l) (fun x hx=>hs x (List.mem_cons_of_mem _ hx)) (ybyr hg hW h hv hl);refine⟨a,fun x e=>b x (yty hg hW h hv hl e),?_⟩;rintro⟨l',hl',e1,e2⟩;rw[List.foldl_cons];rcases List.mem_cons.1 hl' with rfl | hl'
  ·refine b v ?_;rw[yut h hv,if_pos rfl];have:=h.ge v hv;omega
  ·exact d ⟨l',hl',e1,yty hg hW h hv hl e2⟩
theorem ybpb(hg:yx g)(hW:IsW g W)(h:RelOk g W R):∀ k,k<=g.ports.length ->
  RelOk g W (relN g R k)/\(∀ x,R.getD x 0=W.getD x 0->(relN g R k).getD x 0=W.getD x 0) /\
   ∀ v,v<k->(∃ l ∈ g.ports.getD v [],W.getD l.1.toNat 0+l.2=W.getD v 0/\R.getD l.1.toNat 0=W.getD l.1.toNat 0)->(relN g R k).getD v 0=W.getD v 0
 | 0,_=>⟨h,fun _ e=>e,fun v hv=>absurd hv (Nat.not_lt_zero v)⟩
 | k+1,hk=>by
  obtain⟨a,b,d⟩:=ybpb hg hW h k (by omega)
  obtain⟨a',b',d'⟩:=ybpc hg hW (v:=k) (by omega) (g.ports.getD k []) (relN g R k) (fun _ h=>h) a
  rw[ykj];refine⟨a',fun x e=>b' x (b x e),fun v hv hx=>?_⟩
  by_cases q:v=k
  ·subst q;obtain⟨l,hl,e1,e2⟩:=hx;exact d' ⟨l,hl,e1,b _ e2⟩
  ·exact b' v (d v (by omega) hx)
theorem ybgu(hg:yx g)(hW:IsW g W){T:Int}(hT:15 * (g.ports.length:Int)<=T):∀ r,RelOk g W (ydn g T r) /\ ∀ v,v<g.ports.length->ybcw g W v<=r->(ydn g T r).getD v 0=W.getD v 0
 | 0=>by
  have at0:∀ v,v<g.ports.length->(ydn g T 0).getD v 0=if v=0 then 0 else T:=fun v hv=>by simp[ydn,ygd,List.getD,hv]
  refine⟨⟨yic g T 0,fun v hv=>?_⟩,fun v hv hr=>?_⟩
  ·rw[at0 v hv];have:=hW.small v hv;split
   ·rename_i e;rw[e,hW.root];omega
   ·omega
  ·rw[at0 v hv]
   by_cases h0:v=0
   ·rw[if_pos h0,h0,hW.root]
   ·exfalso
    obtain⟨l,hl,e⟩:=hW.from_ v hv h0;obtain⟨_,h2,_,h4,_⟩:=ybz hg hv hl;have:=ybol (g:=g) (W:=W) h2 (v:=v) (by omega)
    omega
 | r+1=>by
  obtain⟨a,b⟩:=ybgu hg hW hT r;obtain⟨a',b',d'⟩:=ybpb hg hW a g.ports.length (Nat.le_refl _);refine⟨a',fun v hv hr=>?_⟩
  by_cases h0:ybcw g W v<=r
  ·exact b' v (b v hv h0)
  ·have hne:v ≠ 0:=fun e=>by
    subst e;refine h0 ?_
    have:ybcw g W 0=0:=by
     unfold ybcw;rw[List.countP_eq_zero];intro u hu;have:=hW.pos u (List.mem_range.1 hu);rw[hW.root]
     simpa using this
    omega
   obtain⟨l,hl,e⟩:=hW.from_ v hv hne;obtain⟨_,h2,_,h4,_⟩:=ybz hg hv hl;have:=ybol (g:=g) (W:=W) h2 (v:=v) (by omega)
   exact d' v hv ⟨l,hl,e,b _ h2 (by omega)⟩
theorem ybot(hg:yx g)(hW:IsW g W){T:Int}(hT:15 * (g.ports.length:Int)<=T){r:Nat}(hr:g.ports.length<=r):ydn g T r=W:=by
 obtain⟨a,b⟩:=ybgu hg hW hT r;refine List.ext_getElem (by rw[a.len,hW.len]) fun v h1 h2=>?_
 have hv:v<g.ports.length:=by rw[<- hW.len];exact h2
 have e:=b v hv (Nat.le_trans yctx hr);have e1:(ydn g T r).getD v 0=(ydn g T r)[v]:=by simp[List.getD,h1]
 have e2:W.getD v 0=W[v]:=by simp[List.getD,h2]
 omega
end
structure RelB(g:Gr)(T:Int)(R:List Int):Prop where
 len:R.length=g.ports.length
 in_:∀ x,x<g.ports.length->0<=R.getD x 0/\R.getD x 0<=T
section
variable {g:Gr} {T:Int} {R:List Int} {v:Nat}
theorem RelB.start(h0:0<=T):RelB g T (ygd g T):=by
 refine⟨yic g T 0,fun x hx=>?_⟩;have e:(ygd g T).getD x 0=if x=0 then 0 else T:=by simp[ygd,List.getD,hx]
 rw[e];split<;>omega
theorem RelB.relax(hg:yx g)(h:RelB g T R)(hv:v<g.ports.length){l:Int × Int}(hl:l ∈ g.ports.getD v []):RelB g T (relax v R l):=by
 obtain⟨_,h2,_,h4,_⟩:=ybz hg hv hl;refine⟨by rw[yrr,h.len],fun x hx=>?_⟩
 unfold Proofs.YtpngeppkgoaimaaGreatDoor.relax;rw[yix (by rw[h.len];exact hv)]
 have a:=h.in_ v hv;have b:=h.in_ _ h2;split
 ·omega
 ·exact h.in_ x hx
theorem RelB.fold(hg:yx g)(hv:v<g.ports.length):∀ (ls:List (Int × Int)) (R:List Int),(∀ l ∈ ls,l ∈ g.ports.getD v [])->RelB g T R->RelB g T (ls.foldl (Proofs.YtpngeppkgoaimaaGreatDoor.relax v) R)
 | [],_,_,h=>h
 | l :: ls,R,hs,h=>RelB.fold hg hv ls _ (fun x hx=>hs x (List.mem_cons_of_mem _ hx)) (RelB.relax hg h hv (hs l List.mem_cons_self))
theorem RelB.relN(hg:yx g)(h:RelB g T R):∀ k,k<=g.ports.length->RelB g T (relN g R k)
 | 0,_=>h
 | k+1,hk=>by
  rw[ykj];exact RelB.fold hg (by omega) _ _ (fun _ h=>h) (RelB.relN hg h k (by omega))
theorem RelB.ydn(hg:yx g)(h0:0<=T):∀ r,RelB g T (ydn g T r)
 | 0=>RelB.start h0
 | r+1=>RelB.relN hg (RelB.ydn hg h0 r) _ (Nat.le_refl _)
def yhm(g:Gr)(T:Int)(r v i:Nat):List Int:=((g.ports.getD v []).take i).foldl (relax v) (relN g (ydn g T r) v)
theorem ybqw(hg:yx g)(h0:0<=T)(r i:Nat)(hv:v<g.ports.length):RelB g T (yhm g T r v i) :=
 RelB.fold hg hv _ _ (fun _ h=>List.mem_of_mem_take h) (RelB.relN hg (RelB.ydn hg h0 r) v (by omega))
theorem ybap{r i:Nat}(hi:i<(g.ports.getD v []).length):yhm g T r v (i+1)=relax v (yhm g T r v i) ((g.ports.getD v []).getD i (0,0)):=by
 unfold yhm;rw[List.take_succ_eq_append_getElem hi,List.foldl_append,Sh.getD_at hi];rfl
theorem ybbk(r:Nat):yhm g T r v (g.ports.getD v []).length=relN g (ydn g T r) (v+1):=by
 unfold yhm;rw[List.take_length,ykj];rfl
theorem ybao(r:Nat):yhm g T r v 0=relN g (ydn g T r) v:=rfl
end
end Go.Proofs.YtpngeppkgoaimaaGreatDoor

namespace Go.Proofs.YtpngeppkgoaimaaGreatDoor
namespace Sh
open Go Ev
def ycyr:LO:=[o3 (.mv (.const (.string (ByteArray.mk #[])))) 0 0]
def ycxd:LO:=[o3 (.mv (.const (.string (ByteArray.mk #[112,114,111,103,114,97,109,32,112,97,116,104,115,59,10,118,97,114,32,100,32,58,32,48,32,46,46,32,49,53,32,42,32,110,59,10,118,97,114,32,112,32,58,32,112,111,114,116,59,10,114,117,108,101,32,116,111,112,58,32,114,111,111,116,32,38,38,32,40,100,32,33,61,32,48,32,124,124,32,112,32,33,61,32,110,111,110,101,41,32,45,62,32,100,32,58,61,32,48,44,32,112,32,58,61,32,110,111,110,101,59,10,114,117,108,101,32,108,111,119,58,32,33,114,111,111,116,32,38,38,32,40,100,32,33,61,32,40,109,105,110,40,113,46,100,32,43,32,113,46,119,101,105,103,104,116,41,32,60,32,49,53,32,42,32,110,32,63,32,109,105,110,40,113,46,100,32,43,32,113,46,119,101,105,103,104,116,41,32,58,32,49,53,32,42,32,110,41,32,124,124,32,112,32,33,61,32,102,105,114,115,116,40,113,46,100,32,43,32,113,46,119,101,105,103,104,116,32,61,61,32,109,105,110,40,113,46,100,32,43,32,113,46,119,101,105,103,104,116,41,41,41,10,32,32,45,62,32,100,32,58,61,32,40,109,105,110,40,113,46,100,32,43,32,113,46,119,101,105,103,104,116,41,32,60,32,49,53,32,42,32,110,32,63,32,109,105,110,40,113,46,100,32,43,32,113,46,119,101,105,103,104,116,41,32,58,32,49,53,32,42,32,110,41,44,32,112,32,58,61,32,102,105,114,115,116,40,113,46,100,32,43,32,113,46,119,101,105,103,104,116,32,61,61,32,109,105,110,40,113,46,100,32,43,32,113,46,119,101,105,103,104,116,41,41,59,10])))) 0 0]
def c17:SC:=(.seq (.reg false ycyr) (.seq (.reg false ycxd) .ret))
theorem ycyz:Fn 17 c17 [.t 0]:=fn_0 Tryz.func17 (by kernel_rfl) (by kernel_rfl)
def ycwt:LO:=[o3 (.box 28 (.tmp 0)) 1 0,o3 (.mv (.const (.bool false))) 2 0]
def ycyh:LO:=[ld' true 2 1 3 0,cl' 100 [3] 4 1,mv' 4 2 3]
def c60:SC:=(.seq (.reg false ycwt) (.seq (.reg false ycyh) .ret))
theorem ycxq:Fn 60 c60 [.t 2]:=fn_0 Tryz.func60 (by kernel_rfl) (by kernel_rfl)
def yczw:LO:=[o3 (.box 28 (.tmp 0)) 2 0,o3 (.mv (.const (.bool false))) 4 0]
def ydeu:LO:=[ld' true 2 2 5 0,cl' 60 [5] 6 1,mv' 6 7 3,⟨.load true 2 (.tmp 2),some 8,some (7,true),7⟩,⟨.mv (.tmp 1),some 9,some (7,true),7⟩,⟨.faddr 0 1 (.tmp 2),some 10,some (7,true),7⟩,⟨.load false 1 (.tmp 10),some 11,some (7,true),39⟩,⟨.len (.tmp 11),some 12,some (7,true),103⟩,⟨.bin .mul (ci' 15) (.tmp 12),some 13,some (7,true),231⟩,⟨.bslice 3 1 2 [.i .i64 0,.i .i64 0] [(0,1,(.tmp 13)),(1,1,(.const (.int .i64 (-1))))],some 14,some (7,true),487⟩,⟨.call (.func 79) [(.tmp 8),(.tmp 9),(.tmp 14)],some 15,some (7,true),1023⟩,o3 (.pick (.tmp 7) (.tmp 15) (.const (.bool false))) 16 2047,mv' 16 4 4095]
def c55:SC:=(.seq (.reg false yczw) (.seq (.reg false ydeu) .ret))
theorem ycyt:Fn 55 c55 [.t 4]:=fn_0 Tryz.func55 (by kernel_rfl) (by kernel_rfl)
def ycxu:LO:=[o3 (.box 28 (.tmp 0)) 1 0,o3 (.mv (.const (.slice none 0 0))) 2 0]
def ycwo:LO:=[fa' 0 1 1 7 0,ld' false 1 7 8 1,ln' 8 9 3,o3 (.mk 3 1 8 [.i .i64 0] (.tmp 9) (.tmp 9)) 10 7,o3 (.alloc 22 1 [.a (.slice none 0 0)]) 3 0,o0 (.store 1 (.tmp 3) (.tmp 10)) 31]
def ydcz:LO:=[ld' false 1 3 11 0,ln' 11 12 1,o3 (.mv (ci' 0)) 13 0]
def ycpi:LO:=[bn' .lss 13 12 14 0]
def ydck:LO:=[mv' 13 15 0,mv' 15 4 1]
def ycwy:LO:=[ld' false 1 3 16 0,mv' 4 17 0,fa' 0 1 1 18 0,ld' false 1 18 19 4,ln' 19 20 12,o3 (.bin .mul (ci' 15) (.tmp 20)) 21 28,ix' 1 16 17 22 63,o0 (.store 1 (.tmp 22) (.tmp 21)) 127]
def ydgh:LO:=[o3 (.bin .add (.tmp 13) (ci' 1)) 23 0,mv' 23 13 1]
def yddj:LO:=[ld' false 1 3 24 0,o3 (.idx 1 (.tmp 24) (ci' 0)) 25 1,o0 (.store 1 (.tmp 25) (ci' 0)) 3]
def yczl:LO:=[fa' 0 1 1 26 0,ld' false 1 26 27 1,ln' 27 28 3,o3 (.mv (ci' 0)) 29 0]
def ycqq:LO:=[bn' .lss 29 28 30 0]
def ycgj:LO:=[ld' true 2 1 31 0,cl' 61 [31] 32 1]
def ycnr:LO:=[mv' 33 5 0]
def ycau:LO:=[o3 (.alloc 43 1 [.i .i64 0,.i .i64 0]) 6 0,o0 (.store 2 (.tmp 6) (.tmp 34)) 1]
def ycgt:LO:=[ld' false 1 3 35 0,mv' 5 36 0,ld' false 1 3 37 0,mv' 5 38 0,ix' 1 37 38 39 12,ld' false 1 39 40 28,ld' false 1 3 41 0,fa' 0 1 6 42 0,ld' false 1 42 43 128,ix' 1 41 43 44 448,ld' false 1 44 45 960,fa' 1 1 6 46 0,ld' false 1 46 47 2048,bn' .add 45 47 48 8128,o3 (.mm false (.tmp 40) (.tmp 48)) 49 16380,ix' 1 35 36 50 32767,o0 (.store 1 (.tmp 50) (.tmp 49)) 65535]
def ycdi:LO:=[o3 (.bin .add (.tmp 29) (ci' 1)) 51 0,mv' 51 29 1]
def ycir:LO:=[ld' false 1 3 52 0,mv' 52 2 1]
def c56:SC:=(.seq (.reg false ycxu) (.seq (.reg false ycwo) (.seq (.seq (.reg false ydcz) (.block 0 (.loop (.seq (.reg false ycpi) (.seq (.cond (.tmp 14) .skip (.exit 0)) (.seq (.block 1 (.seq (.reg false ydck) (.reg false ycwy))) (.reg false ydgh))))))) (.seq (.reg false yddj) (.seq (.seq (.reg false yczl) (.block 2 (.loop (.seq (.reg false ycqq) (.seq (.cond (.tmp 30) .skip (.exit 2)) (.seq (.block 3 (.seq (.reg false ycgj) (.block 4 (.range (.tmp 32) [33,34] (.seq (.reg false ycnr) (.reg false ycau)) (.block 5 (.reg true ycgt)))))) (.reg false ycdi))))))) (.seq (.reg false ycir) .ret))))))
theorem ycyw:Fn 56 c56 [.t 2]:=fn_0 Tryz.func56 (by kernel_rfl) (by kernel_rfl)
def ycxb:LO:=[o3 (.box 28 (.tmp 0)) 2 0,o3 (.mv (.const (.bool false))) 4 0]
def ycxv:LO:=[ld' true 2 2 9 0,mv' 1 10 0,cl' 55 [9,10] 11 3,o3 (.un .not (.tmp 11)) 12 7]
def ydjs:LO:=[o3 (.mv (.const (.bool false))) 4 0]
def ycxa:LO:=[ld' true 2 2 13 0,cl' 56 [13] 14 1,o3 (.alloc 22 1 [.a (.slice none 0 0)]) 5 0,o0 (.store 1 (.tmp 5) (.tmp 14)) 7]
def yddk:LO:=[mv' 1 15 0,ln' 15 16 1,o3 (.mv (ci' 0)) 17 0]
def ybhn:LO:=[bn' .lss 17 16 18 0]
def yblr:LO:=[mv' 17 19 0,ix' 1 15 17 20 0,ld' false 1 20 21 2,o3 (.alloc 3 1 [.i .i64 0]) 6 0,o0 (.store 1 (.tmp 6) (.tmp 19)) 15,mv' 21 7 31]
def ybmu:LO:=[o3 (.mv (.const (.int .i64 (-1)))) 8 0]
def ybsg:LO:=[ld' false 1 6 22 0,o3 (.bin .neq (.tmp 22) (ci' 0)) 23 1]
def ydee:LO:=[ld' true 2 2 24 0,ld' false 1 6 25 0,o3 (.mkfn 58 [] [(.tmp 5),(.tmp 6)]) 26 0,cl' 57 [24,25,26] 27 7,mv' 27 8 15]
def ypy:LO:=[mv' 7 28 0,o3 (.idx 1 (.tmp 28) (ci' 0)) 29 1,ld' false 1 29 30 3,ld' false 1 5 31 0,ld' false 1 6 32 0,ix' 1 31 32 33 24,ld' false 1 33 34 56,bn' .neq 30 34 35 127,mv' 35 36 255,⟨.mv (.tmp 7),some 37,some (36,false),511⟩,⟨.idx 1 (.tmp 37) (ci' 1),some 38,some (36,false),1023⟩,⟨.load false 1 (.tmp 38),some 39,some (36,false),2047⟩,⟨.mv (.tmp 8),some 40,some (36,false),511⟩,⟨.bin .neq (.tmp 39) (.tmp 40),some 41,some (36,false),8191⟩,o3 (.pick (.tmp 36) (.const (.bool true)) (.tmp 41)) 42 16383]
def yzm:LO:=[o3 (.mv (.const (.bool false))) 4 0]
def ybqb:LO:=[o3 (.bin .add (.tmp 17) (ci' 1)) 43 0,mv' 43 17 1]
def ycnw:LO:=[o3 (.mv (.const (.bool true))) 4 0]
def c24:SC:=(.seq (.reg false ycxb) (.seq (.seq (.reg false ycxv) (.cond (.tmp 12) (.seq (.reg false ydjs) .ret) .skip)) (.seq (.reg false ycxa) (.seq (.seq (.reg false yddk) (.block 0 (.loop (.seq (.reg false ybhn) (.seq (.cond (.tmp 18) .skip (.exit 0)) (.seq (.block 1 (.seq (.reg false yblr) (.seq (.reg false ybmu) (.seq (.seq (.reg false ybsg) (.cond (.tmp 23) (.reg false ydee) .skip)) (.seq (.reg true ypy) (.cond (.tmp 42) (.seq (.reg false yzm) .ret) .skip)))))) (.reg false ybqb))))))) (.seq (.reg false ycnw) .ret)))))
theorem yczh:Fn 24 c24 [.t 4]:=fn_0 Tryz.func24 (by kernel_rfl) (by kernel_rfl)
def ydco:LO:=[o3 (.box 43 (.tmp 0)) 3 0,o3 (.mv (.const (.bool false))) 4 0]
def yczq:LO:=[ld' false 1 1 5 0,fa' 0 1 3 6 0,ld' false 1 6 7 2,ix' 1 5 7 8 7,ld' false 1 8 9 15,fa' 1 1 3 10 0,ld' false 1 10 11 32,bn' .add 9 11 12 127,ld' false 1 1 13 0,ld' false 1 2 14 0,ix' 1 13 14 15 768,ld' false 1 15 16 1792,bn' .eql 12 16 17 4095,mv' 17 4 8191]
def c58:SC:=(.seq (.reg false ydco) (.seq (.reg true yczq) .ret))
theorem yddw:Fn 58 c58 [.t 4]:=fn_0 Tryz.func58 (by kernel_rfl) (by kernel_rfl)
def ydgz:LO:=[o3 (.box 28 (.tmp 0)) 1 0,o3 (.alloc 56 1 [.i .i64 0,.b false,.b false,.i .i64 0,.i .i64 0]) 2 0]
def ydfz:LO:=[ld' true 2 1 7 0,cl' 60 [7] 8 1,o3 (.un .not (.tmp 8)) 9 3]
def ydjl:LO:=[o3 (.build [.i .i64 0,.b false,.b false,.i .i64 0,.i .i64 0] []) 10 0,o0 (.store 5 (.tmp 2) (.tmp 10)) 1]
def ydar:LO:=[o3 (.alloc 3 1 [.i .i64 0]) 3 0,o0 (.store 1 (.tmp 3) (ci' 0)) 1]
def ydft:LO:=[ld' true 2 1 11 0,cl' 61 [11] 12 1]
def ybwf:LO:=[o3 (.alloc 43 1 [.i .i64 0,.i .i64 0]) 5 0,o0 (.store 2 (.tmp 5) (.tmp 14)) 1]
def ycap:LO:=[ld' false 1 3 15 0,o3 (.bin .eql (.tmp 15) (ci' 0)) 16 1,mv' 16 17 3,⟨.faddr 1 1 (.tmp 5),some 18,some (17,false),7⟩,⟨.load false 1 (.tmp 18),some 19,some (17,false),15⟩,⟨.load false 1 (.tmp 3),some 20,some (17,false),7⟩,⟨.bin .lss (.tmp 19) (.tmp 20),some 21,some (17,false),63⟩,o3 (.pick (.tmp 17) (.const (.bool true)) (.tmp 21)) 22 127]
def yctn:LO:=[fa' 1 1 5 23 0,ld' false 1 23 24 1,o0 (.store 1 (.tmp 3) (.tmp 24)) 3]
def ydce:LO:=[ld' true 2 1 25 0,cl' 56 [25] 26 1,cl' 62 [26] 27 3,ld' false 1 3 28 0,o3 (.mm true (.tmp 28) (ci' 1)) 29 8,bn' .quo 27 29 30 31,o3 (.bin .add (.tmp 30) (ci' 1)) 31 63,mv' 31 6 127]
def ydec:LO:=[mv' 6 32 0,o3 (.build [.i .i64 0,.b false,.b false,.i .i64 0,.i .i64 0] [(0,1,(ci' 3)),(2,1,(.const (.bool true))),(3,1,(.tmp 32)),(4,1,(.const (.int .i64 (-1))))]) 33 1,o0 (.store 5 (.tmp 2) (.tmp 33)) 3]
def c26:SC:=(.seq (.reg false ydgz) (.seq (.seq (.reg false ydfz) (.cond (.tmp 9) (.seq (.reg false ydjl) .ret) .skip)) (.seq (.reg false ydar) (.seq (.seq (.reg false ydft) (.block 0 (.range (.tmp 12) [13,14] (.reg false ybwf) (.block 1 (.seq (.reg false ycap) (.cond (.tmp 22) (.reg false yctn) .skip)))))) (.seq (.reg true ydce) (.seq (.reg false ydec) .ret))))))
theorem ycxk:Fn 26 c26 [.c 2 true 5]:=fn_0 Tryz.func26 (by kernel_rfl) (by kernel_rfl)
def ydga:LO:=[o3 (.box 28 (.tmp 0)) 2 0,o3 (.mv (.const (.slice none 0 0))) 4 0]
def ydbv:LO:=[ld' true 2 2 5 0,mv' 1 6 0,cl' 55 [5,6] 7 3,o3 (.un .not (.tmp 7)) 8 7]
def ydix:LO:=[o3 (.mv (.const (.slice none 0 0))) 4 0]
def ydev:LO:=[ld' true 2 2 9 0,mv' 1 10 0,o3 (.call (.func 70) [(.tmp 9),(.tmp 10),(ci' 1)]) 11 3,mv' 11 4 7]
def c37:SC:=(.seq (.reg false ydga) (.seq (.seq (.reg false ydbv) (.cond (.tmp 8) (.seq (.reg false ydix) .ret) .skip)) (.seq (.reg false ydev) .ret)))
theorem ydaz:Fn 37 c37 [.t 4]:=fn_0 Tryz.func37 (by kernel_rfl) (by kernel_rfl)
def ydbw:LO:=[o3 (.mv (.const (.slice none 0 0))) 0 0]
def ydaq:LO:=[o3 (.call (.func 51) [(.const (.string (ByteArray.mk #[100]))),(ci' 0),(ci' 15),(ci' 0)]) 1 0,o3 (.call (.func 52) [(.const (.string (ByteArray.mk #[112])))]) 2 1,o3 (.bslice 73 6 2 [.a (.string (ByteArray.mk #[])),.i .i64 0,.i .i64 0,.i .i64 0,.i .i64 0,.i .i64 0,.a (.string (ByteArray.mk #[])),.i .i64 0,.i .i64 0,.i .i64 0,.i .i64 0,.i .i64 0] [(0,6,(.tmp 1)),(6,6,(.tmp 2))]) 3 3,mv' 3 0 7]
def c19:SC:=(.seq (.reg false ydbw) (.seq (.reg false ydaq) .ret))
theorem yddp:Fn 19 c19 [.t 0]:=fn_0 Tryz.func19 (by kernel_rfl) (by kernel_rfl)
def ydcs:LO:=[o3 (.box 28 (.tmp 0)) 1 0,o3 (.mv (.const (.slice none 0 0))) 2 0]
def yddq:LO:=[o3 (.mv (.const (.slice none 0 0))) 3 0]
def yddz:LO:=[o3 (.mv (ci' 0)) 4 0]
def yctf:LO:=[mv' 4 9 0,fa' 1 1 1 10 0,ld' false 1 10 11 2,ln' 11 12 6,bn' .lss 9 12 13 15]
def ydeh:LO:=[mv' 3 16 0,o3 (.bslice 3 1 1 [.i .i64 0] [(0,1,(ci' 1073741824))]) 17 0,o3 (.app 3 1 8 (.tmp 16) (.tmp 17)) 18 3,mv' 18 3 7]
def ydca:LO:=[mv' 4 14 0,o3 (.bin .add (.tmp 14) (ci' 1)) 15 1,mv' 15 4 3]
def yczt:LO:=[mv' 3 19 0,o3 (.idx 1 (.tmp 19) (ci' 0)) 20 1,o0 (.store 1 (.tmp 20) (ci' 0)) 3]
def ydea:LO:=[o3 (.mv (ci' 0)) 5 0]
def ycqk:LO:=[mv' 5 21 0,fa' 1 1 1 22 0,ld' false 1 22 23 2,ln' 23 24 6,bn' .lss 21 24 25 15]
def ycix:LO:=[o3 (.mv (ci' 0)) 6 0]
def ybmx:LO:=[mv' 6 28 0,fa' 1 1 1 29 0,ld' false 1 29 30 2,ln' 30 31 6,bn' .lss 28 31 32 15]
def ycnn:LO:=[o3 (.mv (ci' 0)) 7 0]
def ybnq:LO:=[mv' 7 35 0,fa' 1 1 1 36 0,ld' false 1 36 37 2,mv' 6 38 0,ix' 1 37 38 39 14,ld' false 1 39 40 30,ln' 40 41 62,bn' .lss 35 41 42 127]
def yciy:LO:=[fa' 1 1 1 45 0,ld' false 1 45 46 1,mv' 6 47 0,ix' 1 46 47 48 7,ld' false 1 48 49 15,mv' 7 50 0,ix' 2 49 50 51 63,ld' true 2 51 52 127,o3 (.alloc 43 1 [.i .i64 0,.i .i64 0]) 8 0,o0 (.store 2 (.tmp 8) (.tmp 52)) 511]
def yccp:LO:=[mv' 3 53 0,mv' 6 54 0,mv' 3 55 0,mv' 6 56 0,ix' 1 55 56 57 12,ld' false 1 57 58 28,mv' 3 59 0,fa' 0 1 8 60 0,ld' false 1 60 61 128,ix' 1 59 61 62 448,ld' false 1 62 63 960,fa' 1 1 8 64 0,ld' false 1 64 65 2048,bn' .add 63 65 66 8128,o3 (.mm false (.tmp 58) (.tmp 66)) 67 16380,ix' 1 53 54 68 32767,o0 (.store 1 (.tmp 68) (.tmp 67)) 65535]
def yccz:LO:=[mv' 7 43 0,o3 (.bin .add (.tmp 43) (ci' 1)) 44 1,mv' 44 7 3]
def ycjq:LO:=[mv' 6 33 0,o3 (.bin .add (.tmp 33) (ci' 1)) 34 1,mv' 34 6 3]
def ydby:LO:=[mv' 5 26 0,o3 (.bin .add (.tmp 26) (ci' 1)) 27 1,mv' 27 5 3]
def ycjf:LO:=[mv' 3 69 0,mv' 69 2 1]
def c21:SC:=(.seq (.reg false ydcs) (.seq (.reg false yddq) (.seq (.seq (.reg false yddz) (.block 0 (.loop (.seq (.seq (.reg false yctf) (.cond (.tmp 13) .skip (.exit 0))) (.seq (.block 1 (.reg false ydeh)) (.reg false ydca)))))) (.seq (.reg false yczt) (.seq (.seq (.reg false ydea) (.block 2 (.loop (.seq (.seq (.reg false ycqk) (.cond (.tmp 25) .skip (.exit 2))) (.seq (.block 3 (.seq (.reg false ycix) (.block 4 (.loop (.seq (.seq (.reg false ybmx) (.cond (.tmp 32) .skip (.exit 4))) (.seq (.block 5 (.seq (.reg false ycnn) (.block 6 (.loop (.seq (.seq (.reg false ybnq) (.cond (.tmp 42) .skip (.exit 6))) (.seq (.block 7 (.seq (.reg false yciy) (.reg true yccp))) (.reg false yccz))))))) (.reg false ycjq))))))) (.reg false ydby)))))) (.seq (.reg false ycjf) .ret))))))
theorem ydbd:Fn 21 c21 [.t 2]:=fn_0 Tryz.func21 (by kernel_rfl) (by kernel_rfl)
def c5_0:LO:=[o3 (.box 24 (.tmp 0)) 3 0,o3 (.mv (.const (.bool false))) 6 0]
def c5_1:LO:=[ld' true 6 3 13 0,o3 (.call (.func 15) [(.tmp 13),(ci' 7)]) 14 1,o3 (.alloc 28 1 [.a (.slice none 0 0),.a (.slice none 0 0)]) 7 0,o0 (.store 2 (.tmp 7) (.tmp 14)) 7]
def c5_2:LO:=[cl' 17 [] 15 0,cl' 25 [15] 16 1,o3 (.alloc 53 1 [.a (.string (ByteArray.mk #[])),.a (.slice none 0 0),.a (.slice none 0 0)]) 8 0,o0 (.store 3 (.tmp 8) (.tmp 16)) 7]
def c5_3:LO:=[cl' 17 [] 18 0,ld' true 2 7 19 0,ld' true 2 7 20 0,cl' 26 [20] 21 5,o3 (.field false 0 1 (.tmp 21)) 22 13,ld' true 2 7 23 0,cl' 19 [] 24 13,mv' 1 25 0,cl' 18 [23,24,25] 26 237,mv' 2 27 0,o3 (.call (.func 20) [(.tmp 27),(ci' 60)]) 28 1005,cl' 16 [18,19,22,26,28] 29 2047,mv' 29 17 4095,xt' 17 0 30 8191,xt' 17 1 31 8191,xt' 17 2 32 8191,mv' 30 9 16383,mv' 31 10 98303,mv' 32 11 262143]
def c5_4:LO:=[o3 (.mv (ci' 0)) 12 0]
def c5_5:LO:=[mv' 12 33 0,mv' 9 34 0,ln' 34 35 2,bn' .lss 33 35 36 7]
def c5_7:LO:=[ld' true 3 8 39 0,ld' true 2 7 40 0,mv' 9 41 0,mv' 12 42 0,ix' 1 41 42 43 12,ld' false 1 43 44 28,cl' 27 [39,40,44] 45 63,o3 (.bin .eql (.tmp 45) (.const (.int .u32 0))) 46 127,ld' true 2 7 47 0,mv' 9 48 0,mv' 12 49 0,ix' 1 48 49 50 1536,ld' false 1 50 51 3584,cl' 24 [47,51] 52 8063,o3 (.beq true (.tmp 46) (.tmp 52)) 53 16383]
def c5_8:LO:=[o3 (.mv (.const (.bool false))) 6 0]
def c5_6:LO:=[mv' 12 37 0,o3 (.bin .add (.tmp 37) (ci' 1)) 38 1,mv' 38 12 3]
def c5_9:LO:=[cl' 22 [] 54 0,mv' 54 55 1,⟨.mv (.tmp 11),some 56,some (55,true),3⟩,o3 (.pick (.tmp 55) (.tmp 56) (.const (.bool false))) 57 7,mv' 57 6 15]
def c5:SC:=(.seq (.reg false c5_0) (.seq (.reg false c5_1) (.seq (.reg false c5_2) (.seq (.reg true c5_3) (.seq (.seq (.reg false c5_4) (.block 0 (.loop (.seq (.seq (.reg false c5_5) (.cond (.tmp 36) .skip (.exit 0))) (.seq (.block 1 (.seq (.reg true c5_7) (.cond (.tmp 53) (.seq (.reg false c5_8) .ret) .skip))) (.reg false c5_6)))))) (.seq (.reg false c5_9) .ret))))))
theorem ydiz:Fn 5 c5 [.t 6]:=fn_0 Tryz.func5 (by kernel_rfl) (by kernel_rfl)
def c3_0:LO:=[o3 (.box 24 (.tmp 0)) 3 0,o3 (.mv (.const (.bool false))) 6 0]
def c3_1:LO:=[ld' true 6 3 19 0,o3 (.call (.func 15) [(.tmp 19),(ci' 7)]) 20 1,o3 (.alloc 28 1 [.a (.slice none 0 0),.a (.slice none 0 0)]) 7 0,o0 (.store 2 (.tmp 7) (.tmp 20)) 7]
def c3_2:LO:=[cl' 17 [] 22 0,ld' true 2 7 23 0,ld' true 2 7 24 0,cl' 19 [] 25 1,mv' 1 26 0,cl' 18 [24,25,26] 27 29,mv' 2 28 0,o3 (.call (.func 20) [(.tmp 28),(ci' 120)]) 29 125,o3 (.call (.func 16) [(.tmp 22),(.tmp 23),(ci' 3),(.tmp 27),(.tmp 29)]) 30 255,mv' 30 21 511,xt' 21 0 31 1023,xt' 21 1 32 1023,xt' 21 2 33 1023,mv' 31 8 2047,mv' 32 9 12287,mv' 33 10 32767]
def c3_3:LO:=[ld' true 2 7 34 0,cl' 21 [34] 35 1,mv' 35 11 3,o3 (.mv (ci' 15)) 12 7]
def c3_4:LO:=[o3 (.mv (ci' 0)) 13 0]
def c3_5:LO:=[mv' 13 36 0,fa' 1 1 7 37 0,ld' false 1 37 38 2,ln' 38 39 6,bn' .lss 36 39 40 15]
def c3_7:LO:=[o3 (.mv (ci' 0)) 14 0]
def c3_8:LO:=[mv' 14 43 0,fa' 1 1 7 44 0,ld' false 1 44 45 2,mv' 13 46 0,ix' 1 45 46 47 14,ld' false 1 47 48 30,ln' 48 49 62,bn' .lss 43 49 50 127]
def ycxj:LO:=[mv' 12 53 0,fa' 1 1 7 54 0,ld' false 1 54 55 2,mv' 13 56 0,ix' 1 55 56 57 14,ld' false 1 57 58 30,mv' 14 59 0,ix' 2 58 59 60 126,fa' 1 1 60 61 254,ld' false 1 61 62 510,o3 (.mm false (.tmp 53) (.tmp 62)) 63 1023,mv' 63 12 2047]
def c3_9:LO:=[mv' 14 51 0,o3 (.bin .add (.tmp 51) (ci' 1)) 52 1,mv' 52 14 3]
def c3_6:LO:=[mv' 13 41 0,o3 (.bin .add (.tmp 41) (ci' 1)) 42 1,mv' 42 13 3]
def ydgg:LO:=[o3 (.mv (ci' 0)) 15 0]
def ycvi:LO:=[mv' 15 64 0,mv' 8 65 0,ln' 65 66 2,bn' .lss 64 66 67 7]
def ydas:LO:=[o3 (.mv (ci' 0)) 16 0]
def ybqy:LO:=[mv' 16 70 0,mv' 11 71 0,ln' 71 72 2,bn' .lss 70 72 73 7,mv' 73 74 15,⟨.mv (.tmp 9),some 75,some (74,true),31⟩,⟨.mv (.tmp 15),some 76,some (74,true),31⟩,⟨.idx 5 (.tmp 75) (.tmp 76),some 77,some (74,true),127⟩,⟨.faddr 2 1 (.tmp 77),some 78,some (74,true),255⟩,⟨.load false 1 (.tmp 78),some 79,some (74,true),511⟩,⟨.bin .gtr (.tmp 79) (ci' 0),some 80,some (74,true),1023⟩,o3 (.pick (.tmp 74) (.tmp 80) (.const (.bool false))) 81 2047]
def ycte:LO:=[mv' 8 84 0,mv' 15 85 0,ix' 1 84 85 86 3,ld' false 1 86 87 7,ln' 87 88 15,mv' 11 89 0,ln' 89 90 32,bn' .neq 88 90 91 127,mv' 91 92 255,⟨.mv (.tmp 8),some 93,some (92,false),511⟩,⟨.mv (.tmp 15),some 94,some (92,false),511⟩,⟨.idx 1 (.tmp 93) (.tmp 94),some 95,some (92,false),2047⟩,⟨.load false 1 (.tmp 95),some 96,some (92,false),4095⟩,⟨.mv (.tmp 16),some 97,some (92,false),511⟩,⟨.idx 1 (.tmp 96) (.tmp 97),some 98,some (92,false),16383⟩,⟨.load false 1 (.tmp 98),some 99,some (92,false),32767⟩,⟨.len (.tmp 99),some 100,some (92,false),65535⟩,⟨.bin .neq (.tmp 100) (ci' 2),some 101,some (92,false),131071⟩,o3 (.pick (.tmp 92) (.const (.bool true)) (.tmp 101)) 102 262143]
def ydjx:LO:=[o3 (.mv (.const (.bool false))) 6 0]
def ycwc:LO:=[mv' 8 103 0,mv' 15 104 0,ix' 1 103 104 105 3,ld' false 1 105 106 7,mv' 16 107 0,ix' 1 106 107 108 31,ld' false 1 108 109 63,o3 (.idx 1 (.tmp 109) (ci' 0)) 110 127,ld' false 1 110 111 255,mv' 9 112 0,mv' 15 113 0,ix' 5 112 113 114 1536,fa' 2 1 114 115 3584,ld' false 1 115 116 7680,mv' 12 117 0,bn' .mul 116 117 118 32256,mv' 111 17 511,mv' 118 18 131071]
def ycse:LO:=[mv' 11 119 0,mv' 16 120 0,ix' 1 119 120 121 3,ld' false 1 121 122 7,mv' 18 123 0,bn' .lss 122 123 124 31,mv' 124 125 63,⟨.mv (.tmp 17),some 126,some (125,true),127⟩,⟨.mv (.tmp 11),some 127,some (125,true),127⟩,⟨.mv (.tmp 16),some 128,some (125,true),127⟩,⟨.idx 1 (.tmp 127) (.tmp 128),some 129,some (125,true),895⟩,⟨.load false 1 (.tmp 129),some 130,some (125,true),1919⟩,⟨.bin .neq (.tmp 126) (.tmp 130),some 131,some (125,true),4095⟩,o3 (.pick (.tmp 125) (.tmp 131) (.const (.bool false))) 132 8191,mv' 132 133 16383,⟨.mv (.tmp 11),some 134,some (133,false),32767⟩,⟨.mv (.tmp 16),some 135,some (133,false),32767⟩,⟨.idx 1 (.tmp 134) (.tmp 135),some 136,some (133,false),131071⟩,⟨.load false 1 (.tmp 136),some 137,some (133,false),262143⟩,⟨.mv (.tmp 18),some 138,some (133,false),32767⟩,⟨.bin .geq (.tmp 137) (.tmp 138),some 139,some (133,false),1048575⟩,⟨.mv (.tmp 139),some 140,some (133,false),2097151⟩,⟨.mv (.tmp 17),some 141,some (140,true),4194303⟩,⟨.mv (.tmp 18),some 142,some (140,true),4194303⟩,⟨.bin .lss (.tmp 141) (.tmp 142),some 143,some (140,true),16777215⟩,⟨.pick (.tmp 140) (.tmp 143) (.const (.bool false)),some 144,some (133,false),33554431⟩,o3 (.pick (.tmp 133) (.const (.bool true)) (.tmp 144)) 145 67108863]
def ydin:LO:=[o3 (.mv (.const (.bool false))) 6 0]
def ycth:LO:=[mv' 16 82 0,o3 (.bin .add (.tmp 82) (ci' 1)) 83 1,mv' 83 16 3]
def ycqy:LO:=[mv' 15 68 0,o3 (.bin .add (.tmp 68) (ci' 1)) 69 1,mv' 69 15 3]
def ydcg:LO:=[cl' 22 [] 146 0,mv' 146 147 1,⟨.mv (.tmp 10),some 148,some (147,true),3⟩,o3 (.pick (.tmp 147) (.tmp 148) (.const (.bool false))) 149 7,mv' 149 6 15]
def c3:SC:=(.seq (.reg false c3_0) (.seq (.reg false c3_1) (.seq (.reg true c3_2) (.seq (.reg false c3_3) (.seq (.seq (.reg false c3_4) (.block 0 (.loop (.seq (.seq (.reg false c3_5) (.cond (.tmp 40) .skip (.exit 0))) (.seq (.block 1 (.seq (.reg false c3_7) (.block 2 (.loop (.seq (.seq (.reg false c3_8) (.cond (.tmp 50) .skip (.exit 2))) (.seq (.block 3 (.reg false ycxj)) (.reg false c3_9))))))) (.reg false c3_6)))))) (.seq (.seq (.reg false ydgg) (.block 4 (.loop (.seq (.seq (.reg false ycvi) (.cond (.tmp 67) .skip (.exit 4))) (.seq (.block 5 (.seq (.reg false ydas) (.block 6 (.loop (.seq (.seq (.reg false ybqy) (.cond (.tmp 81) .skip (.exit 6))) (.seq (.block 7 (.seq (.seq (.reg false ycte) (.cond (.tmp 102) (.seq (.reg false ydjx) .ret) .skip)) (.seq (.reg true ycwc) (.seq (.reg false ycse) (.cond (.tmp 145) (.seq (.reg false ydin) .ret) .skip))))) (.reg false ycth))))))) (.reg false ycqy)))))) (.seq (.reg false ydcg) .ret)))))))
theorem ydjo:Fn 3 c3 [.t 6]:=fn_0 Tryz.func3 (by kernel_rfl) (by kernel_rfl)
def c4_0:LO:=[o3 (.box 24 (.tmp 0)) 3 0,o3 (.mv (.const (.bool false))) 6 0]
def c4_1:LO:=[fa' 2 1 3 14 0,o0 (.store 1 (.tmp 14) (.const (.slice none 0 0))) 1]
def c4_2:LO:=[ld' true 6 3 15 0,o3 (.call (.func 15) [(.tmp 15),(ci' 7)]) 16 1,o3 (.alloc 28 1 [.a (.slice none 0 0),.a (.slice none 0 0)]) 7 0,o0 (.store 2 (.tmp 7) (.tmp 16)) 7]
def c4_3:LO:=[cl' 17 [] 18 0,ld' true 2 7 19 0,ld' true 2 7 20 0,cl' 19 [] 21 1,mv' 1 22 0,cl' 18 [20,21,22] 23 29,mv' 2 24 0,o3 (.call (.func 20) [(.tmp 24),(ci' 12)]) 25 125,o3 (.call (.func 16) [(.tmp 18),(.tmp 19),(ci' 4),(.tmp 23),(.tmp 25)]) 26 255,mv' 26 17 511,xt' 17 0 27 1023,xt' 17 1 28 1023,xt' 17 2 29 1023,mv' 27 8 2047,mv' 28 9 12287,mv' 29 10 32767]
def c4_4:LO:=[mv' 10 30 0,o3 (.un .not (.tmp 30)) 31 1]
def c4_5:LO:=[o3 (.mv (.const (.bool false))) 6 0]
def c4_6:LO:=[mv' 8 32 0,mv' 8 33 0,ln' 33 34 2,o3 (.bin .sub (.tmp 34) (ci' 1)) 35 6,ix' 1 32 35 36 15,ld' false 1 36 37 31,mv' 37 11 63]
def c4_7:LO:=[ld' true 2 7 38 0,o3 (.call (.func 23) [(.tmp 38),(ci' 0)]) 39 1,mv' 39 12 3]
def c4_8:LO:=[o3 (.mv (ci' 0)) 13 0]
def c4_9:LO:=[mv' 13 40 0,mv' 12 41 0,ln' 41 42 2,bn' .lss 40 42 43 7]
def ycxr:LO:=[mv' 11 46 0,ln' 46 47 1,mv' 12 48 0,ln' 48 49 4,bn' .neq 47 49 50 15,mv' 50 51 31,⟨.mv (.tmp 11),some 52,some (51,false),63⟩,⟨.mv (.tmp 13),some 53,some (51,false),63⟩,⟨.idx 1 (.tmp 52) (.tmp 53),some 54,some (51,false),255⟩,⟨.load false 1 (.tmp 54),some 55,some (51,false),511⟩,⟨.len (.tmp 55),some 56,some (51,false),1023⟩,⟨.bin .neq (.tmp 56) (ci' 2),some 57,some (51,false),2047⟩,o3 (.pick (.tmp 51) (.const (.bool true)) (.tmp 57)) 58 4095,mv' 58 59 8191,⟨.mv (.tmp 11),some 60,some (59,false),16383⟩,⟨.mv (.tmp 13),some 61,some (59,false),16383⟩,⟨.idx 1 (.tmp 60) (.tmp 61),some 62,some (59,false),65535⟩,⟨.load false 1 (.tmp 62),some 63,some (59,false),131071⟩,⟨.idx 1 (.tmp 63) (ci' 0),some 64,some (59,false),262143⟩,⟨.load false 1 (.tmp 64),some 65,some (59,false),524287⟩,⟨.mv (.tmp 12),some 66,some (59,false),16383⟩,⟨.mv (.tmp 13),some 67,some (59,false),16383⟩,⟨.idx 1 (.tmp 66) (.tmp 67),some 68,some (59,false),3162111⟩,⟨.load false 1 (.tmp 68),some 69,some (59,false),7356415⟩,⟨.bin .neq (.tmp 65) (.tmp 69),some 70,some (59,false),16777215⟩,o3 (.pick (.tmp 59) (.const (.bool true)) (.tmp 70)) 71 33554431]
def ydiq:LO:=[o3 (.mv (.const (.bool false))) 6 0]
def ydek:LO:=[mv' 13 44 0,o3 (.bin .add (.tmp 44) (ci' 1)) 45 1,mv' 45 13 3]
def ydgd:LO:=[cl' 22 [] 72 0,mv' 72 73 1,⟨.load true 2 (.tmp 7),some 74,some (73,true),3⟩,⟨.mv (.tmp 11),some 75,some (73,true),3⟩,⟨.call (.func 24) [(.tmp 74),(.tmp 75)],some 76,some (73,true),15⟩,o3 (.pick (.tmp 73) (.tmp 76) (.const (.bool false))) 77 31,mv' 77 6 63]
def c4:SC:=(.seq (.reg false c4_0) (.seq (.reg false c4_1) (.seq (.reg false c4_2) (.seq (.reg true c4_3) (.seq (.seq (.reg false c4_4) (.cond (.tmp 31) (.seq (.reg false c4_5) .ret) .skip)) (.seq (.reg false c4_6) (.seq (.reg false c4_7) (.seq (.seq (.reg false c4_8) (.block 0 (.loop (.seq (.seq (.reg false c4_9) (.cond (.tmp 43) .skip (.exit 0))) (.seq (.block 1 (.seq (.reg true ycxr) (.cond (.tmp 71) (.seq (.reg false ydiq) .ret) .skip))) (.reg false ydek)))))) (.seq (.reg false ydgd) .ret)))))))))
theorem ydjw:Fn 4 c4 [.t 6]:=fn_0 Tryz.func4 (by kernel_rfl) (by kernel_rfl)
def c9_0:LO:=[o3 (.box 24 (.tmp 0)) 3 0,o3 (.mv (.const (.bool false))) 6 0]
def c9_1:LO:=[ld' true 6 3 17 0,o3 (.call (.func 15) [(.tmp 17),(ci' 7)]) 18 1,o3 (.alloc 28 1 [.a (.slice none 0 0),.a (.slice none 0 0)]) 7 0,o0 (.store 2 (.tmp 7) (.tmp 18)) 7]
def c9_2:LO:=[cl' 17 [] 20 0,ld' true 2 7 21 0,ld' true 2 7 22 0,cl' 19 [] 23 1,mv' 1 24 0,cl' 18 [22,23,24] 25 29,mv' 2 26 0,o3 (.call (.func 20) [(.tmp 26),(ci' 130)]) 27 125,o3 (.call (.func 16) [(.tmp 20),(.tmp 21),(ci' 4),(.tmp 25),(.tmp 27)]) 28 255,mv' 28 19 511,xt' 19 0 29 1023,xt' 19 1 30 1023,xt' 19 2 31 1023,mv' 29 8 2047,mv' 30 9 12287,mv' 31 10 32767]
def c9_3:LO:=[mv' 10 32 0,o3 (.un .not (.tmp 32)) 33 1]
def c9_4:LO:=[o3 (.mv (.const (.bool false))) 6 0]
def c9_5:LO:=[mv' 8 34 0,mv' 8 35 0,ln' 35 36 2,o3 (.bin .sub (.tmp 36) (ci' 1)) 37 6,ix' 1 34 37 38 15,ld' false 1 38 39 31,mv' 39 11 63]
def c9_6:LO:=[ld' true 2 7 40 0,mv' 11 41 0,cl' 37 [40,41] 42 3,mv' 42 12 7]
def c9_7:LO:=[ld' true 2 7 43 0,mv' 11 44 0,cl' 24 [43,44] 45 3,o3 (.un .not (.tmp 45)) 46 7,mv' 46 47 15,⟨.mv (.tmp 12),some 48,some (47,false),31⟩,⟨.len (.tmp 48),some 49,some (47,false),63⟩,⟨.faddr 1 1 (.tmp 7),some 50,some (47,false),31⟩,⟨.load false 1 (.tmp 50),some 51,some (47,false),159⟩,⟨.len (.tmp 51),some 52,some (47,false),415⟩,⟨.bin .neq (.tmp 49) (.tmp 52),some 53,some (47,false),1023⟩,o3 (.pick (.tmp 47) (.const (.bool true)) (.tmp 53)) 54 2047]
def c9_8:LO:=[o3 (.mv (.const (.bool false))) 6 0]
def c9_9:LO:=[o3 (.mv (ci' 0)) 13 0]
def ycvv:LO:=[mv' 13 55 0,mv' 12 56 0,ln' 56 57 2,bn' .lss 55 57 58 7]
def ydej:LO:=[o3 (.mv (ci' 0)) 14 0]
def ybuu:LO:=[mv' 14 61 0,fa' 1 1 7 62 0,ld' false 1 62 63 2,mv' 13 64 0,ix' 1 63 64 65 14,ld' false 1 65 66 30,ln' 66 67 62,bn' .lss 61 67 68 127]
def ycqa:LO:=[fa' 1 1 7 71 0,ld' false 1 71 72 1,mv' 13 73 0,ix' 1 72 73 74 7,ld' false 1 74 75 15,mv' 14 76 0,ix' 2 75 76 77 63,fa' 0 1 77 78 127,ld' false 1 78 79 255,fa' 1 1 7 80 0,ld' false 1 80 81 512,mv' 13 82 0,ix' 1 81 82 83 3584,ld' false 1 83 84 7680,mv' 14 85 0,ix' 2 84 85 86 32256,fa' 1 1 86 87 65024,ld' false 1 87 88 130560,mv' 79 15 511,mv' 88 16 524287]
def ycto:LO:=[mv' 11 89 0,mv' 15 90 0,ix' 1 89 90 91 3,ld' false 1 91 92 7,o3 (.idx 1 (.tmp 92) (ci' 0)) 93 15,ld' false 1 93 94 31,mv' 16 95 0,bn' .add 94 95 96 127,mv' 11 97 0,mv' 13 98 0,ix' 1 97 98 99 768,ld' false 1 99 100 1792,o3 (.idx 1 (.tmp 100) (ci' 0)) 101 3840,ld' false 1 101 102 7936,bn' .lss 96 102 103 16383,mv' 103 104 32767,⟨.mv (.tmp 12),some 105,some (104,false),65535⟩,⟨.mv (.tmp 13),some 106,some (104,false),65535⟩,⟨.idx 1 (.tmp 105) (.tmp 106),some 107,some (104,false),262143⟩,⟨.load false 1 (.tmp 107),some 108,some (104,false),524287⟩,⟨.mv (.tmp 15),some 109,some (104,false),65535⟩,⟨.bin .eql (.tmp 108) (.tmp 109),some 110,some (104,false),2097151⟩,⟨.mv (.tmp 110),some 111,some (104,false),4194303⟩,⟨.mv (.tmp 11),some 112,some (111,true),8388607⟩,⟨.mv (.tmp 15),some 113,some (111,true),8388607⟩,⟨.idx 1 (.tmp 112) (.tmp 113),some 114,some (111,true),33554431⟩,⟨.load false 1 (.tmp 114),some 115,some (111,true),67108863⟩,⟨.idx 1 (.tmp 115) (ci' 0),some 116,some (111,true),134217727⟩,⟨.load false 1 (.tmp 116),some 117,some (111,true),268435455⟩,⟨.mv (.tmp 16),some 118,some (111,true),8388607⟩,⟨.bin .add (.tmp 117) (.tmp 118),some 119,some (111,true),1073741823⟩,⟨.mv (.tmp 11),some 120,some (111,true),8388607⟩,⟨.mv (.tmp 13),some 121,some (111,true),8388607⟩,⟨.idx 1 (.tmp 120) (.tmp 121),some 122,some (111,true),6450839551⟩,⟨.load false 1 (.tmp 122),some 123,some (111,true),15040774143⟩,⟨.idx 1 (.tmp 123) (ci' 0),some 124,some (111,true),32220643327⟩,⟨.load false 1 (.tmp 124),some 125,some (111,true),66580381695⟩,⟨.bin .neq (.tmp 119) (.tmp 125),some 126,some (111,true),137438953471⟩,⟨.pick (.tmp 111) (.tmp 126) (.const (.bool false)),some 127,some (104,false),274877906943⟩,o3 (.pick (.tmp 104) (.const (.bool true)) (.tmp 127)) 128 549755813887]
def ydja:LO:=[o3 (.mv (.const (.bool false))) 6 0]
def ycuj:LO:=[mv' 14 69 0,o3 (.bin .add (.tmp 69) (ci' 1)) 70 1,mv' 70 14 3]
def ycus:LO:=[mv' 12 129 0,mv' 13 130 0,ix' 1 129 130 131 3,ld' false 1 131 132 7,o3 (.bin .lss (.tmp 132) (ci' 0)) 133 15,mv' 13 134 0,o3 (.bin .eql (.tmp 134) (ci' 0)) 135 32,o3 (.beq true (.tmp 133) (.tmp 135)) 136 127]
def ydij:LO:=[o3 (.mv (.const (.bool false))) 6 0]
def yctp:LO:=[mv' 13 59 0,o3 (.bin .add (.tmp 59) (ci' 1)) 60 1,mv' 60 13 3]
def yczb:LO:=[cl' 22 [] 137 0,mv' 137 138 1,⟨.mv (.tmp 11),some 139,some (138,true),3⟩,⟨.idx 1 (.tmp 139) (ci' 0),some 140,some (138,true),7⟩,⟨.load false 1 (.tmp 140),some 141,some (138,true),15⟩,⟨.idx 1 (.tmp 141) (ci' 0),some 142,some (138,true),31⟩,⟨.load false 1 (.tmp 142),some 143,some (138,true),63⟩,⟨.bin .eql (.tmp 143) (ci' 0),some 144,some (138,true),127⟩,o3 (.pick (.tmp 138) (.tmp 144) (.const (.bool false))) 145 255,mv' 145 6 511]
def c9:SC:=(.seq (.reg false c9_0) (.seq (.reg false c9_1) (.seq (.reg true c9_2) (.seq (.seq (.reg false c9_3) (.cond (.tmp 33) (.seq (.reg false c9_4) .ret) .skip)) (.seq (.reg false c9_5) (.seq (.reg false c9_6) (.seq (.seq (.reg false c9_7) (.cond (.tmp 54) (.seq (.reg false c9_8) .ret) .skip)) (.seq (.seq (.reg false c9_9) (.block 0 (.loop (.seq (.seq (.reg false ycvv) (.cond (.tmp 58) .skip (.exit 0))) (.seq (.block 1 (.seq (.seq (.reg false ydej) (.block 2 (.loop (.seq (.seq (.reg false ybuu) (.cond (.tmp 68) .skip (.exit 2))) (.seq (.block 3 (.seq (.reg true ycqa) (.seq (.reg true ycto) (.cond (.tmp 128) (.seq (.reg false ydja) .ret) .skip)))) (.reg false ycuj)))))) (.seq (.reg false ycus) (.cond (.tmp 136) (.seq (.reg false ydij) .ret) .skip)))) (.reg false yctp)))))) (.seq (.reg false yczb) .ret)))))))))
theorem ydjh:Fn 9 c9 [.t 6]:=fn_0 Tryz.func9 (by kernel_rfl) (by kernel_rfl)
def ycxf:LO:=[o3 (.box 28 (.tmp 0)) 1 0,o3 (.mv (.const (.nilFunc))) 2 0]
def ydeb:LO:=[o3 (.mkfn 101 [] [(.tmp 1)]) 3 0,mv' 3 2 1]
def c61:SC:=(.seq (.reg false ycxf) (.seq (.reg false ydeb) .ret))
theorem ycxy:Fn 61 c61 [.t 2]:=fn_0 Tryz.func61 (by kernel_rfl) (by kernel_rfl)
end Sh
end Go.Proofs.YtpngeppkgoaimaaGreatDoor

namespace Go.Proofs.YtpngeppkgoaimaaGreatDoor
open Go
namespace Sh
open Ev Go.RowKit
set_option maxRecDepth 8000
def intsO(n:Nat)(f:Nat->Int):OB:=⟨3,false,1,n,fun j=>[.i .i64 (f j)]⟩
theorem yqn{g:Gr}{T:Int}{j:Nat}(hj:j<g.ports.length):(ygd g T).getD j 0=if j=0 then 0 else T:=by simp[ygd,List.getD,hj]
set_option maxHeartbeats 1000000 in
theorem yvf{g:Gr}(hg:yx g):Returns Tryz.prog 21 [grV g] (yj (ydn g 1073741824 g.ports.length)):=by
 refine Returns.of (ydbd _ _ ?_);obtain⟨n,hn⟩:∃ n,g.ports.length=n:=⟨_,rfl⟩;have h1:=hg.1;have h24:=hg.2.1;rw[hn]at h1 h24;have hlen:=fun r=>yic g 1073741824 r;simp only[c21,ydcs,yddq,yddz,grV,clash,go_sem,Nat.reduceAdd,Nat.reduceLT,↓reduceIte];refine ybc (σ:=Nat) (fun k=>⟨[(4,.i .i64 k),(3,.os (100,0) 0 k true),(1,.pt (1,0) 0 0)],[(100,.one (some (intsO k fun _=>1073741824))),(1,.one (some ⟨28,true,2,1,fun _=>[yj g.ids,yu g.ports]⟩))]⟩) (fun k=>k<=n) (fun k=>n - k) 0 (Nat.zero_le _) ?_ ?_
 ·refine yg [] [100] [] ?_;simp only[intsO,allQ,live,yc,Int.natCast_zero,go_sem,Nat.reduceEqDiff,Nat.reduceBEq,↓reduceIte,reduceCtorEq];exact⟨(100,0),rfl,rfl,rfl⟩
 intro k hk
 by_cases hlt:k<n
 ·have t1:decide ((k:Int)<(n:Int))=true:=decide_eq_true (by omega)
  simp only[yctf,ydca,ydeh,yu,hn,t1,intsO,clash,splice,go_sem,Nat.reduceEqDiff,Nat.reduceAdd,Nat.reduceLeDiff,Nat.reduceLT,↓reduceIte,reduceCtorEq];refine⟨⟨by omega,by omega⟩,ikw (by omega) (by omega),?_⟩
  refine yh (k+1) (by omega) (by omega) ?_
  refine yg [(100,fun i=>(18,i))] [] [] ?_;simp only[allQ,live,yc,yw,go_sem,Nat.reduceEqDiff,↓reduceIte,reduceCtorEq];refine⟨by omega,fun i hi=>?_⟩
  by_cases q:i<k
  ·simp only[if_pos q];simp only[go_sem,live,yc,go_sem,reduceCtorEq]
  ·obtain rfl:i=k:=by omega
   simp only[if_neg q,Nat.sub_self,Nat.zero_mul];simp only[go_sem,live,yc,go_sem,reduceCtorEq]
 ·obtain rfl:k=n:=by omega
  have t1:decide ((k:Int)<(k:Int))=false:=decide_eq_false (by omega)
  simp only[yctf,yczt,ydea,yu,hn,t1,intsO,clash,splice,go_sem,Int.reduceToNat,Nat.reduceEqDiff,Nat.reduceAdd,↓reduceIte,reduceCtorEq];refine⟨⟨by omega,by omega⟩,by omega,?_⟩
  refine ybc (σ:=Nat) (fun r=>⟨[(5,.i .i64 r),(3,.os (100,0) 0 k true),(1,.pt (1,0) 0 0)],[(100,.one (some (intsO k fun j=>(ydn g 1073741824 r).getD j 0))),(1,.one (some ⟨28,true,2,1,fun _=>[yj g.ids,yu g.ports]⟩))]⟩) (fun r=>r<=k) (fun r=>k - r) 0 (Nat.zero_le _) ?_ ?_
  ·refine yg [] [] [] ?_;simp only[intsO,yu,hn,allQ,live,yc,Int.natCast_zero,go_sem,Nat.reduceEqDiff,↓reduceIte,reduceCtorEq];intro j hj;have e:(ydn g 1073741824 0).getD j 0=if j=0 then 0 else 1073741824:=yqn (by omega)
   rw[e];split<;>simp only[go_sem,live,yc,go_sem,reduceCtorEq]
  intro r hr
  by_cases hltr:r<k
  ·have t2:decide ((r:Int)<(k:Int))=true:=decide_eq_true (by omega)
   simp only[ycqk,ycix,yu,hn,t2,intsO,clash,go_sem,Nat.reduceEqDiff,Nat.reduceAdd,↓reduceIte,reduceCtorEq];refine ybc (σ:=Nat) (fun v=>⟨[(6,.i .i64 v),(5,.i .i64 r),(3,.os (100,0) 0 k true),(1,.pt (1,0) 0 0)],[(100,.one (some (intsO k fun j=>(relN g (ydn g 1073741824 r) v).getD j 0))),(1,.one (some ⟨28,true,2,1,fun _=>[yj g.ids,yu g.ports]⟩))]⟩) (fun v=>v<=k) (fun v=>k - v) 0 (Nat.zero_le _) ?_ ?_
   ·refine yg [] [] [] ?_;simp only[intsO,yu,hn,relN,List.range_zero,List.foldl_nil,allQ,live,yc,Int.natCast_zero,go_sem,Nat.reduceEqDiff,↓reduceIte,reduceCtorEq]
   intro v hv
   by_cases hltv:v<k
   ·have t3:decide ((v:Int)<(k:Int))=true:=decide_eq_true (by omega)
    obtain⟨d,hd⟩:∃ d,(g.ports.getD v []).length=d:=⟨_,rfl⟩;have hdeg:=hg.deg_lt (v:=v);rw[hd]at hdeg;simp only[ybmx,ycnn,yu,hn,t3,intsO,clash,go_sem,Nat.reduceEqDiff,Nat.reduceAdd,↓reduceIte,reduceCtorEq];refine ybc (σ:=Nat) (fun i=>⟨[(7,.i .i64 i),(6,.i .i64 v),(5,.i .i64 r),(3,.os (100,0) 0 k true),(1,.pt (1,0) 0 0)],[(100,.one (some (intsO k fun j=>(yhm g 1073741824 r v i).getD j 0))),(1,.one (some ⟨28,true,2,1,fun _=>[yj g.ids,yu g.ports]⟩))]⟩) (fun i=>i<=d) (fun i=>d - i) 0 (Nat.zero_le _) ?_ ?_
    ·refine yg [] [] [] ?_;simp only[intsO,yu,hn,ybao,allQ,live,yc,Int.natCast_zero,go_sem,Nat.reduceEqDiff,↓reduceIte,reduceCtorEq]
    intro i hi
    by_cases hlti:i<d
    ·have t4:decide ((i:Int)<(d:Int))=true:=decide_eq_true (by omega)
     have hB:=ybqw (T:=1073741824) hg (by omega) r i (v:=v) (by omega)
     have hm:(g.ports.getD v []).getD i (0,0) ∈ g.ports.getD v []:=by rw[getD_at (show i<(g.ports.getD v []).length by omega)];exact List.getElem_mem _
     obtain⟨m1,m2,_,m4,m5⟩:=ybz hg (by omega) hm
     have b1:=hB.in_ v (by omega)
     have b2:=hB.in_ _ m2;have hs:=ybap (g:=g) (T:=1073741824) (v:=v) (r:=r) (i:=i) (by omega)
     have hBl:=hB.len;obtain⟨R,hR⟩:∃ R,yhm g 1073741824 r v i=R:=⟨_,rfl⟩;obtain⟨L,hL⟩:∃ L,(g.ports.getD v []).getD i (0,0)=L:=⟨_,rfl⟩;rw[hL]at m1 m2 m4 m5 b2 hs;rw[hR]at b1 b2 hs hBl;simp only[ybnq,yciy,yccp,yccz,yu,yba,hn,hd,hR,hL,t4,intsO,clash,splice,go_sem,Nat.reduceEqDiff,Nat.reduceAdd,Nat.reduceLeDiff,Nat.reduceLT,↓reduceIte,reduceCtorEq];refine⟨⟨by omega,by omega⟩,⟨by omega,by omega⟩,⟨by omega,by omega⟩,⟨by omega,by omega⟩,by omega,⟨by omega,by omega⟩,by omega,ikw (by omega) (by omega),⟨by omega,by omega⟩,by omega,by decide,ikw (by omega) (by omega),?_⟩
     refine yh (i+1) (by omega) (by omega) ?_
     refine yg [] [] [] ?_;simp only[allQ,live,yc,yw,go_sem,Nat.reduceEqDiff,↓reduceIte,reduceCtorEq];refine⟨by omega,fun j hj=>?_⟩
     rw[hs];unfold relax;rw[yix (by omega)]
     split<;>simp only[go_sem,live,yc,go_sem,reduceCtorEq]
    ·obtain rfl:i=d:=by omega
     have t4:decide ((i:Int)<(i:Int))=false:=decide_eq_false (by omega)
     simp only[ybnq,ycjq,yu,yba,hn,hd,t4,intsO,clash,go_sem,Nat.reduceEqDiff,Nat.reduceAdd,↓reduceIte,reduceCtorEq];refine⟨⟨by omega,by omega⟩,ikw (by omega) (by omega),?_⟩
     refine yh (v+1) (by omega) (by omega) ?_
     refine yg [] [] [] ?_;have he:=ybbk (g:=g) (T:=1073741824) (v:=v) r;rw[hd]at he;rw[he];simp only[allQ,live,yc,yw,go_sem,Nat.reduceEqDiff,↓reduceIte,reduceCtorEq];omega
   ·obtain rfl:v=k:=by omega
    have t3:decide ((v:Int)<(v:Int))=false:=decide_eq_false (by omega)
    simp only[ybmx,ydby,yu,hn,t3,intsO,clash,go_sem,Nat.reduceEqDiff,Nat.reduceAdd,↓reduceIte,reduceCtorEq];refine⟨ikw (by omega) (by omega),?_⟩
    refine yh (r+1) (by omega) (by omega) ?_
    refine yg [] [] [] ?_
    have he:ydn g 1073741824 (r+1)=relN g (ydn g 1073741824 r) v:=by
     show relN g _ g.ports.length=_;rw[hn]
    rw[he];simp only[yba,allQ,live,yc,yw,go_sem,Nat.reduceEqDiff,↓reduceIte,reduceCtorEq];omega
  ·obtain rfl:r=k:=by omega
   have t2:decide ((r:Int)<(r:Int))=false:=decide_eq_false (by omega)
   simp only[ycqk,ycjf,yu,hn,t2,intsO,clash,go_sem,Nat.reduceEqDiff,Nat.reduceAdd,↓reduceIte,reduceCtorEq];unfold yj;rw[hlen,hn];exact Sim.refl _
end Sh
end Go.Proofs.YtpngeppkgoaimaaGreatDoor

namespace Go.Proofs.YtpngeppkgoaimaaGreatDoor
namespace Sh
open Go Ev Go.RowKit
section
variable {m:Mem} {F:AM}
theorem row_of{z bk p n cp N e zz:Nat}{Tb:Ev.T Value}{L:Nat->List Value}(h1:m.b.get bk=some (.cells Tb N e zz))(h2:0<n)(h3:p+n * z<=N)(h4:∀ a,a<n->(L a).length=z)(h5:∀ a,a<n -> ∀ j,j<z->Tb.get (p+a * z+j)=(L a)[j]?) :
  rowOf m z (.slice (some ⟨bk,p,none⟩) n cp)=some (ybq L n,[bk]):=by
 have hl:=ycg h4;show(bif Nat.beq n 0 then _ else _)=_;rw[show Nat.beq n 0=false by cases n with | zero=>omega | succ n=>rfl]
 simp only[cond_false];rw[h1];simp only;rw[Nat.ble_eq_true_of_le h3];simp only[cond_true]
 have hg:=yfp (T:=Tb) (L:=ybq L n) (o:=p) (fun j hj=>by
  rw[hl]at hj;rcases Nat.eq_zero_or_pos z with hz | hz
  ·subst hz;omega
  ·have hd:=Nat.div_add_mod j z;have hm:=Nat.mod_lt j hz;have hk:j / z<n:=Nat.div_lt_of_lt_mul (by rwa [Nat.mul_comm]at hj)
   have e1:j=j / z * z+j % z:=by rw[Nat.mul_comm];exact hd.symm
   rw[e1,yeu h4 _ _ hk hm,<- Nat.add_assoc];exact h5 _ hk _ hm)
 rw[hl]at hg;rw[hg]
theorem row_zero{u:Value}(h:Z0 u)(z:Nat):rowOf m z u=some ([],[]):=by
 rcases h with rfl | ⟨b,o,c,rfl⟩
 ·rfl
 ·rfl
theorem in64{n:Int}(h:I64 n):inI64 n=true:=by
 unfold I64 at h;unfold inI64;split
 ·rename_i k;exact Nat.ble_eq_true_of_le (by simp only[Int.ofNat_eq_natCast]at h;omega)
 ·rename_i k;exact Nat.ble_eq_true_of_le (by omega)
theorem ynv{a b:Int}(ha:I64 a)(hb:I64 b):∀ {l:List Value} {r:List (Int × Int)},pairsOf l=some r->pairsOf (l ++ [.int .i64 a,.int .i64 b])=some (r ++ [(a,b)])
 | [],r,h=>by
  cases h
  show(bif inI64 a && inI64 b then _ else _)=_;rw[in64 ha,in64 hb];rfl
 | .int .i64 x :: .int .i64 y :: l,r,h=>by
  unfold pairsOf at h;split at h
  ·rename_i r' hr
   rw[Bool.cond_eq_ite]at h;split at h
   ·rename_i hc
    cases h
    show(match pairsOf (l ++ [.int .i64 a,.int .i64 b])with | some r=>bif inI64 x && inI64 y then some ((x,y) :: r)else none | none=>none)=_
    rw[ynv ha hb hr];simp only[hc,cond_true];rfl
   ·cases h
  ·cases h
theorem ybiv(hF:Le F m.b.get){ls:List (Int × Int)}{u:Value}(h:RV F om0 (yba ls) u)(hI:∀ l ∈ ls,I64 l.1/\I64 l.2):linksOf m u=some ls:=by
 unfold linksOf;rcases h.sl_inv with⟨h0,hz⟩ | ⟨bk,p,cp,T,N,e,zz,L,rfl,g1,g2,g3,g4,g5,g6,g7⟩
 ·rw[row_zero hz];have:ls = []:=List.eq_nil_of_length_eq_zero h0;subst this;rfl
 ·rcases Nat.eq_zero_or_pos ls.length with h0 | h0
  ·have:ls = []:=List.eq_nil_of_length_eq_zero h0;subst this;rfl
  ·rw[row_of (hF _ _ g1) h0 g3 g4 g5]
   have:∀ n,n<=ls.length->pairsOf (ybq L n)=some (ls.take n):=by
    intro n
    induction n with
    | zero=>intro _;rfl
    | succ n ih =>
     intro hn;have hn':n<ls.length:=by omega
     have hl:=g6 n hn'
     have e1:L n = [.int .i64 ls[n].1,.int .i64 ls[n].2]:=by
      have e0:ls.getD n (0,0)=ls[n]:=by simp[List.getD,hn']
      rw[e0]at hl;obtain⟨x,y,e2,hx,hy⟩:=rvl2 hl;rw[e2,hx.int_inv,hy.int_inv]
     show pairsOf (ybq L n ++ L n)=_;rw[e1,List.take_succ_eq_append_getElem hn'];have:=hI ls[n] (List.getElem_mem hn');exact ynv this.1 this.2 (ih (by omega))
   simp only;rw[this _ (Nat.le_refl _),List.take_length]
theorem ybvj{α β:Type}{f:α->Option β}:∀ {l:List α} {r:List β},l.length=r.length->(∀ (k:Nat) x y,l[k]? = some x->r[k]? = some y->f x=some y)->mapO f l=some r
 | [],[],_,_=>rfl
 | x :: l,y :: r,hl,h=>by
  unfold mapO;rw[h 0 x y rfl rfl];simp only;rw[ybvj (by simpa using hl) fun k a b h1 h2=>h (k+1) a b (by simpa using h1) (by simpa using h2)]
 | [],_ :: _,hl,_=>by simp at hl
 | _ :: _,[],hl,_=>by simp at hl
theorem ybqe{L:Nat->List Value}{n:Nat}(h:∀ a,a<n->(L a).length=1){k:Nat}(hk:k<n):(ybq L n)[k]? = (L k)[0]?:=by
 have:=yeu h k 0 hk (by omega)
 simpa using this
theorem ybkg{ids:SV}{P:List (List (Int × Int))}{u:Value}(h:RV F om0 (.rf [ids,yu P]) u)(hI:∀ ls ∈ P,∀ l ∈ ls,I64 l.1/\I64 l.2) :
  ∃ A v us,u = .pointer (some A) /\ ∀ m:Mem,Le F m.b.get->graphOf m A=some ⟨v,us,P⟩:=by
 obtain⟨bk,p,T,N,e,zz,L,rfl,h1,h2,h3,h4,_⟩:=h.rf_inv;cases h4 with
 | cons a0 b0 =>
  cases b0 with
  | cons a1 b1 =>
   rename_i u0 _ u1 _
   cases b1
   have hbox:∀ m:Mem,Le F m.b.get->boxPorts m ⟨bk,p,none⟩=some u1:=fun m hF=>by
    unfold boxPorts;simp only;rw[hF _ _ h1];simp only;rw[show Nat.blt (p+1) N=true from Nat.ble_eq_true_of_le (show p+1+1<=N by simp at h2;omega)]
    simp only[cond_true];exact h3 1 (by simp)
   have fin:∀ (us:List Value) (ft:List Nat),(∀ m:Mem,Le F m.b.get->rowOf m 1 u1=some (us,ft))->us.length=P.length->(∀ (k:Nat) x y,us[k]? = some x->P[k]? = some y->RV F om0 (yba y) x) ->
     ∃ A v us,Value.pointer (some ⟨bk,p,none⟩) = .pointer (some A) /\ ∀ m:Mem,Le F m.b.get->graphOf m A=some ⟨v,us,P⟩:=fun us ft hr hl hx=>by
    refine⟨_,u1,us,rfl,fun m hF=>?_⟩;unfold graphOf;rw[hbox m hF];show ob (rowOf m 1 u1) _=_;rw[hr m hF];show ob (mapO (linksOf m) us) _=_;rw[ybvj hl fun k x y q1 q2=>ybiv hF (hx k x y q1 q2) (hI y (List.mem_of_getElem? q2))];rfl
   rcases a1.sl_inv with⟨k0,hz⟩ | ⟨bk',p',cp,T',N',e',zz',L',rfl,g1,g2,g3,g4,g5,g6,g7⟩
   ·have:P = []:=List.eq_nil_of_length_eq_zero k0;subst this;exact fin [] [] (fun m _=>row_zero hz 1) rfl (fun k x y q _=>by simp at q)
   ·rcases Nat.eq_zero_or_pos P.length with h0 | h0
    ·have:P = []:=List.eq_nil_of_length_eq_zero h0;subst this;exact fin [] [] (fun m _=>rfl) rfl (fun k x y q _=>by simp at q)
    ·refine fin (ybq L' P.length) [bk'] (fun m hF=>row_of (hF _ _ g1) h0 g3 g4 g5) (by rw[ycg g4,Nat.mul_one]) fun k x y q1 q2=>?_
     have hk:k<P.length:=(List.getElem?_eq_some_iff.1 q2).1;rw[ybqe g4 hk]at q1;have hl:=g6 k hk;have e0:P.getD k []=y:=by simp[List.getD,q2]
     rw[e0]at hl;obtain⟨v,e1,hv⟩:=rvl1 hl;rw[e1]at q1;cases q1
     exact hv
end
def ydz(P:List (List (Int × Int)))(k:Nat):El:=(flatAt 0 P).getD k ⟨0,0,0⟩
def yye(P:List (List (Int × Int))):ItS:=⟨(flatAt 0 P).length,fun k=>[.i .i64 (ydz P k).v,.ag [.i .i64 (ydz P k).a,.i .i64 (ydz P k).b]],[],fun _ _=>True,fun _ o=>o⟩
theorem ybha{ids:SV}{P:List (List (Int × Int))}(hI:∀ ls ∈ P,∀ l ∈ ls,I64 l.1/\I64 l.2):ItC Tryz.prog 101 [.rf [ids,yu P]] (yye P):=by
 intro lo F ω s f m us hc hr _;obtain⟨u,rfl,hu⟩:=rvl1 hr
 have hu0:RV F om0 (.rf [ids,yu P]) u:=by
  obtain⟨bk,p,T,N,e,zz,L,rfl,h1,h2,h3,h4,h5⟩:=hu.rf_inv;exact .rf h1 h2 h3 h4 h5
 obtain⟨A,v,vs,rfl,hg⟩:=ybkg hu0 hI;have el0:∀ k,k<(flatAt 0 P).length->(flatAt 0 P)[k]? = some (ydz P k):=fun k hk=>by simp[ydz,List.getD,hk]
 refine⟨⟨(flatAt 0 P).length,fun k=>[(ydz P k).v0,(ydz P k).v1],fun _ m=>graphOf m A=some ⟨v,vs,P⟩,fun _ m=>m,fun _ _ M w M' w'=>M'=M/\w'=w⟩,⟨yvd.1,fun k m hk hw _=>Grow.refl hw,?_,?_⟩,rfl,fun F' ω' s' f' m' k hF _ hc' hk _=>⟨hg m' (hF.trans hc'.sub),fun hk=>⟨.cons .i (.cons (.ag (.cons .i (.cons .i .nil))) .nil),hc'⟩⟩⟩
 ·rintro k φ M w m M' w' hk hw hR hs hp ⟨rfl,rfl⟩;exact Good.refl hR hs
 ·intro l St Stop φ M w cap' hread hgrow hyield h0 hcap;obtain⟨box,rfl,hbox⟩:=yez hcap;refine CallsIn.mono (yvd.2 l A ⟨v,vs,P⟩ (fun pre φ' M' w'=>φ.le φ'/\(∃ post,flatAt 0 P=pre ++ post)/\St pre.length φ' M' w') Stop φ M w box ?_ ?_ ?_ ⟨φ.le_refl,⟨_,rfl⟩,h0⟩ hbox) ?_
  ·rintro pre φ' M' w' ⟨_,_,hst⟩;exact(hread _ _ _ _ hst).2
  ·rintro pre φ' M' w' w'' ⟨h1,h2,hst⟩ hb;exact⟨h1,h2,hgrow _ _ _ _ _ hst hb⟩
  ·rintro pre x post φ' M' w' ⟨h1,_,hst⟩ hfl;have hfl:flatAt 0 P=pre ++ x :: post:=hfl;have hk:pre.length<(flatAt 0 P).length:=by rw[hfl];simp
   have ex:ydz P pre.length=x:=by
    have:=el0 _ hk;rw[hfl,List.getElem?_append_right (Nat.le_refl _)]at this
    simpa using this.symm
   obtain⟨fn,tmps,asg,bd,hy1,hy2⟩:=hyield pre.length φ' M' w' [x.v0,x.v1] hk hst (by
    show VRL φ' [(ydz P pre.length).v0,(ydz P pre.length).v1] _;rw[ex];exact .cons (.simple rfl) (.cons (VR.atomA (v:=x.v1) rfl) .nil))
   refine⟨fn,tmps,asg,bd,hy1,hy2.mono ?_⟩
   ·rintro e w'' (⟨he,φ'',M'',h3,_,h4⟩ | h)
    ·refine .inl ⟨he,φ'',M'',h3,Phi.le_trans h1 h3,⟨post,by rw[hfl];simp⟩,?_⟩
     rw[List.length_append];exact h4 M'' w'' ⟨rfl,rfl⟩
    ·exact .inr h
  ·rintro e w' ⟨h1,(⟨φ',M',_,_,hst⟩ | h)⟩
   ·exact⟨h1,.inl ⟨φ',M',hst⟩⟩
   ·exact⟨h1,.inr h⟩
end Sh
end Go.Proofs.YtpngeppkgoaimaaGreatDoor

namespace Go.Proofs.YtpngeppkgoaimaaGreatDoor
open Ev
theorem yzj:∀ (ps:List (List (Int × Int))) (v:Nat) (x:El),x ∈ flatAt v ps->v<=x.v/\x.v<v+ps.length/\(x.a,x.b) ∈ ps.getD (x.v - v) []
 | [],_,_,h=>absurd h List.not_mem_nil
 | ls :: l,v,x,h=>by
  rcases List.mem_append.1 h with h | h
  ·obtain⟨y,hy,rfl⟩:=List.mem_map.1 h;refine⟨Nat.le_refl _,by simp,?_⟩
   simp only[Nat.sub_self,List.getD_cons_zero];exact hy
  ·obtain⟨h1,h2,h3⟩:=yzj l (v+1) x h;refine⟨by omega,by simp only[List.length_cons];omega,?_⟩
   have e:x.v - v=(x.v - (v+1))+1:=by omega
   rw[e,List.getD_cons_succ];exact h3
theorem yblp{g:Gr}{k:Nat}(hk:k<g.ports.length):flatAt 0 (g.ports.take (k+1))=flatAt 0 (g.ports.take k) ++ (g.ports.getD k []).map fun x=>(⟨k,x.1,x.2⟩:El):=by
 have h:=ykg (ps:=g.ports) (k:=k) (ls:=g.ports.getD k []) (by simp[List.getD,hk])
 rw[<- h];unfold yfa;rw[List.take_length]
theorem yzf{α:Type}{g:Gr}(f:α->El->α)(a:α):∀ k,k<=g.ports.length->(flatAt 0 (g.ports.take k)).foldl f a=(List.range k).foldl (fun a v=>(g.ports.getD v []).foldl (fun a l=>f a ⟨v,l.1,l.2⟩) a) a
 | 0,_=>by simp[flatAt]
 | k+1,hk=>by
  rw[yblp (by omega),List.foldl_append,yzf f a k (by omega),List.range_succ,List.foldl_append,List.foldl_map]
  rfl
theorem ybvw{α:Type}{g:Gr}(f:α->El->α)(a:α):(flatAt 0 g.ports).foldl f a=(List.range g.ports.length).foldl (fun a v=>(g.ports.getD v []).foldl (fun a l=>f a ⟨v,l.1,l.2⟩) a) a:=by
 have:=yzf (g:=g) f a g.ports.length (Nat.le_refl _)
 rwa [List.take_length]at this
theorem yld{g:Gr}(hg:yx g){k:Nat}(hk:k<(flatAt 0 g.ports).length):(Sh.ydz g.ports k).v<g.ports.length/\((Sh.ydz g.ports k).a,(Sh.ydz g.ports k).b) ∈ g.ports.getD (Sh.ydz g.ports k).v []:=by
 have hm:Sh.ydz g.ports k ∈ flatAt 0 g.ports:=by unfold Sh.ydz;rw[Sh.getD_at hk];exact List.getElem_mem hk
 obtain⟨_,h2,h3⟩:=yzj _ _ _ hm;exact⟨by omega,by simpa using h3⟩
theorem ykr{α:Type}{g:Gr}(f:α->El->α)(a:α){k:Nat}(hk:k<(flatAt 0 g.ports).length):((flatAt 0 g.ports).take (k+1)).foldl f a=f (((flatAt 0 g.ports).take k).foldl f a) (Sh.ydz g.ports k):=by
 rw[List.take_succ_eq_append_getElem hk,List.foldl_append];unfold Sh.ydz;rw[Sh.getD_at hk];rfl
theorem yzl{g:Gr}(hg:yx g):∀ ls ∈ g.ports,∀ l ∈ ls,I64 l.1/\I64 l.2:=fun ls hls l hl=>by
 obtain⟨v,hv,e⟩:=List.getElem_of_mem hls;have h24:=hg.2.1;have:g.ports.getD v []=ls:=by simp[List.getD,hv,e]
 obtain⟨h1,h2,_,h4,h5⟩:=ybz hg hv (by rw[this];exact hl)
 exact⟨Sh.yep (by omega),Sh.yep (by omega)⟩
end Go.Proofs.YtpngeppkgoaimaaGreatDoor

namespace Go.Proofs.YtpngeppkgoaimaaGreatDoor
open Go
namespace Sh
open Ev Go.RowKit
set_option maxRecDepth 8000
theorem ybad{g:Gr}:Returns Tryz.prog 61 [grV g] (.fn 101 [] [.rf [yj g.ids,yu g.ports]]):=by
 refine Returns.of (ycxy _ _ ?_);simp only[c61,ycxf,ydeb,grV,clash,go_sem,Nat.reduceEqDiff,Nat.reduceAdd,Nat.reduceLeDiff,Nat.reduceLT,↓reduceIte,reduceCtorEq];exact Sim.refl _
def yzr(R:List Int)(e:El):List Int:=relax e.v R (e.a,e.b)
theorem ybny(g:Gr)(R:List Int):(flatAt 0 g.ports).foldl yzr R=relN g R g.ports.length:=by
 rw[ybvw];rfl
theorem ybsi{g:Gr}(hg:yx g){T:Int}{R:List Int}(h:RelB g T R):∀ k,k<=(flatAt 0 g.ports).length->RelB g T (((flatAt 0 g.ports).take k).foldl yzr R)
 | 0,_=>by simpa using h
 | k+1,hk=>by
  rw[ykr yzr R (by omega)]
  obtain⟨h1,h2⟩:=yld hg (k:=k) (by omega)
  exact RelB.relax hg (ybsi hg h k (by omega)) h1 h2
set_option maxHeartbeats 1000000 in
theorem yyl{g:Gr}(hg:yx g):Returns Tryz.prog 56 [grV g] (yj (ydn g (15 * (g.ports.length:Int)) g.ports.length)):=by
 refine Returns.of (ycyw _ _ ?_);obtain⟨n,hn⟩:∃ n,g.ports.length=n:=⟨_,rfl⟩;have h1:=hg.1;have h24:=hg.2.1;have hpl:=hg.2.2.1;rw[hn]at h1 h24 hpl;obtain⟨T,hT⟩:∃ T,15 * (n:Int)=T:=⟨_,rfl⟩;have hlen:=fun r=>yic g T r;have hLk:=ybad (g:=g);rw[hn,hT];simp only[grV,yj,hpl]at hLk;simp only[c56,ycxu,ycwo,ydcz,grV,yj,hpl,clash,go_sem,Nat.reduceEqDiff,Nat.reduceAdd,Nat.reduceLeDiff,Nat.reduceLT,↓reduceIte,reduceCtorEq]
 refine⟨⟨by omega,by omega,by omega⟩,?_⟩
 refine ybc (σ:=Nat) (fun k=>⟨[(13,.i .i64 k),(12,.i .i64 n),(3,.pt (3,0) 0 0),(1,.pt (1,0) 0 0)],[(3,.one (some ⟨22,true,1,1,fun _=>[.os (10,0) 0 n true]⟩)),(10,.one (some (intsO n fun j=>if j<k then T else 0))),(1,.one (some ⟨28,true,2,1,fun _=>[yj g.ids,yu g.ports]⟩))]⟩) (fun k=>k<=n) (fun k=>n - k) 0 (Nat.zero_le _) ?_ ?_
 ·refine yg [] [] [] ?_;simp only[intsO,yj,hpl,Nat.not_lt_zero,allQ,live,yc,Int.natCast_zero,go_sem,Nat.reduceEqDiff,↓reduceIte,reduceCtorEq]
 intro k hk
 by_cases hlt:k<n
 ·have t1:decide ((k:Int)<(n:Int))=true:=decide_eq_true (by omega)
  simp only[ycpi,ydck,ycwy,ydgh,yj,hpl,t1,intsO,clash,splice,hT,go_sem,Nat.reduceEqDiff,Nat.reduceAdd,Nat.reduceLeDiff,↓reduceIte,reduceCtorEq];refine⟨ikw (by omega) (by omega),⟨by omega,by omega⟩,by omega,ikw (by omega) (by omega),?_⟩
  refine yh (k+1) (by omega) (by omega) ?_
  refine yg [] [] [] ?_;simp only[allQ,live,yc,yw,go_sem,Nat.reduceEqDiff,↓reduceIte,reduceCtorEq];refine⟨by omega,fun j hj=>?_⟩
  by_cases q:j=k
  ·subst q;simp only[if_pos (Nat.lt_succ_self j)];simp only[go_sem,live,yc,go_sem,↓reduceIte,reduceCtorEq]
  ·have e:(if j<k+1 then T else 0)=if j<k then T else 0:=by
    by_cases q1:j<k
    ·rw[if_pos q1,if_pos (by omega)]
    ·rw[if_neg q1,if_neg (by omega)]
   simp only[if_neg q,e];simp only[go_sem,live,yc,go_sem,reduceCtorEq]
 ·obtain rfl:k=n:=by omega
  have t1:decide ((k:Int)<(k:Int))=false:=decide_eq_false (by omega)
  simp only[ycpi,yddj,yczl,yj,hpl,t1,intsO,clash,splice,go_sem,Int.reduceToNat,Nat.reduceEqDiff,Nat.reduceAdd,Nat.reduceLeDiff,↓reduceIte,reduceCtorEq];refine⟨by omega,by omega,?_⟩
  refine ybc (σ:=Nat) (fun r=>⟨[(29,.i .i64 r),(28,.i .i64 k),(3,.pt (3,0) 0 0),(1,.pt (1,0) 0 0)],[(3,.one (some ⟨22,true,1,1,fun _=>[.os (10,0) 0 k true]⟩)),(10,.one (some (intsO k fun j=>(ydn g T r).getD j 0))),(1,.one (some ⟨28,true,2,1,fun _=>[yj g.ids,yu g.ports]⟩))]⟩) (fun r=>r<=k) (fun r=>k - r) 0 (Nat.zero_le _) ?_ ?_
  ·refine yg [] [] [] ?_;simp only[intsO,yj,hpl,allQ,live,yc,Int.natCast_zero,go_sem,Nat.reduceEqDiff,↓reduceIte,reduceCtorEq];intro j hj;have e:(ydn g T 0).getD j 0=if j=0 then 0 else T:=yqn (by omega)
   rw[e,if_pos hj];split<;>simp only[go_sem,live,yc,go_sem,reduceCtorEq]
  intro r hr
  by_cases hltr:r<k
  ·have t2:decide ((r:Int)<(k:Int))=true:=decide_eq_true (by omega)
   simp only[ycqq,ycgj,yj,hpl,t2,intsO,go_sem,Nat.reduceEqDiff,Nat.reduceAdd,↓reduceIte];refine hLk.use ?_;simp only[thenO,clash,go_sem];have hRB:=RelB.ydn (T:=T) hg (by omega) r
   refine ybfs (ybha (yzl hg)) [(3,0),(1,0)] (fun i (_:Unit)=>⟨[(32,.fn 101 [] [.rf [.sl 1 k fun j=>[.i .i64 (g.ids.getD j 0)],yu g.ports]]),(29,.i .i64 r),(28,.i .i64 k),(3,.pt (3,0) 0 0),(1,.pt (1,0) 0 0)],
    [(3,.one (some ⟨22,true,1,1,fun _=>[.os (10,0) 0 k true]⟩)),(10,.one (some (intsO k fun j=>(((flatAt 0 g.ports).take i).foldl yzr (ydn g T r)).getD j 0))),(1,.one (some ⟨28,true,2,1,fun _=>[yj g.ids,yu g.ports]⟩))]⟩) (fun i _=>i<=(flatAt 0 g.ports).length) () (Nat.zero_le _) ⟨fun _ h=>absurd h List.not_mem_nil,fun _ h=>absurd h List.not_mem_nil⟩ ?_ (fun _=>rfl) ?_ ?_ ?_
   ·refine yg [] [] [] ?_;simp only[intsO,yj,hpl,List.foldl_nil,allQ,live,yc,go_sem,Nat.reduceEqDiff,↓reduceIte,reduceCtorEq]
   ·intro i _ hi _;refine⟨trivial,?_⟩;simp only[go_sem,allQ,go_sem,Nat.reduceEqDiff]
   ·intro i _ hi hlti;have hlti:i<(flatAt 0 g.ports).length:=hlti;obtain⟨e1,e2⟩:=yld hg hlti;have hB:=ybsi hg hRB i hi;have hs:=ykr yzr (ydn g T r) hlti;refine⟨_,rfl,?_⟩;show vc _ _ _ ⟨_,_⟩;simp only[yye];simp only[ycnr,ycau,ycgt,intsO,clash,splice,go_sem,Nat.reduceEqDiff,Nat.reduceAdd,Nat.reduceLeDiff,Nat.reduceLT,↓reduceIte,reduceCtorEq];obtain⟨R,hR⟩:∃ R,((flatAt 0 g.ports).take i).foldl yzr (ydn g T r)=R:=⟨_,rfl⟩
    obtain⟨E,hE⟩:∃ E,ydz g.ports i=E:=⟨_,rfl⟩;obtain⟨m1,m2,_,m4,m5⟩:=ybz hg e1 e2;rw[hR]at hB hs ⊢;rw[hE]at e1 e2 hs m1 m2 m4 m5 ⊢;have b1:=hB.in_ _ e1;have b2:=hB.in_ _ m2;have hBl:=hB.len;simp only at b2;refine⟨⟨by omega,by omega⟩,by omega,⟨by omega,by omega⟩,by omega,ikw (by omega) (by omega),⟨by omega,by omega⟩,by omega,by decide,by omega,?_⟩
    refine ycm [] [] [] ?_;simp only[yj,hpl,hs,allQ,live,yc,go_sem,Nat.reduceEqDiff,↓reduceIte,reduceCtorEq];intro j hj
    have e:(yzr R E).getD j 0=if j=E.v then min (R.getD E.v 0) (R.getD E.a.toNat 0+E.b)else R.getD j 0:=by
     unfold yzr relax;exact yix (by omega)
    rw[e];split<;>simp only[go_sem,live,yc,go_sem,reduceCtorEq]
   ·intro _ _;simp only[ycdi,intsO,clash,yye,List.take_length,ybny,go_sem,Nat.reduceEqDiff,Nat.reduceAdd,↓reduceIte,reduceCtorEq];refine⟨ikw (by omega) (by omega),?_⟩
    refine yh (r+1) (by omega) (by omega) ?_
    refine yg [] [] [] ?_;have he:ydn g T (r+1)=relN g (ydn g T r) g.ports.length:=rfl;rw[he];simp only[yj,hpl,allQ,live,yc,yw,go_sem,Nat.reduceEqDiff,↓reduceIte,reduceCtorEq];omega
  ·obtain rfl:r=k:=by omega
   have t2:decide ((r:Int)<(r:Int))=false:=decide_eq_false (by omega)
   simp only[ycqq,ycir,yj,hpl,t2,intsO,clash,go_sem,Nat.reduceEqDiff,Nat.reduceAdd,↓reduceIte,reduceCtorEq];rw[hlen,hn];exact Sim.refl _
end Sh
end Go.Proofs.YtpngeppkgoaimaaGreatDoor

namespace Go.Proofs.YtpngeppkgoaimaaGreatDoor
open Go
namespace Sh
open Ev Go.RowKit
set_option maxRecDepth 8000
def towP(g:Gr)(c:Conf)(x:Nat):List Int:=mapR c.length fun v=>if (c.getD v []).getD x 0 >= 0 then((g.ports.getD v []).getD ((c.getD v []).getD x 0).toNat (0,0)).1 else -1
theorem ybes(g:Gr)(c:Conf)(x:Nat):(towP g c x).length=c.length:=ywh _ _
theorem ybso{g:Gr}{c:Conf}{x v:Nat}(hv:v<c.length):(towP g c x).getD v 0=if (c.getD v []).getD x 0 >= 0 then((g.ports.getD v []).getD ((c.getD v []).getD x 0).toNat (0,0)).1 else -1:=gmR _ _ _ _ hv
set_option maxHeartbeats 1000000 in
theorem ybbq{g:Gr}{c:Conf}{x:Nat}(hl:c.length<=g.ports.length)(h1:g.ports.length<=1000)(hx:x<=1000)(hc:∀ v,v<c.length->x<(c.getD v []).length/\(c.getD v []).getD x 0<(g.ports.getD v []).length) :
  Returns Tryz.prog 70 [grV g,ybe c,.i .i64 x] (yj (towP g c x)):=by
 refine Returns.of (ydbe _ _ ?_);obtain⟨n,hn⟩:∃ n,c.length=n:=⟨_,rfl⟩;obtain⟨T,hT⟩:∃ T,towP g c x=T:=⟨_,rfl⟩;have hTl:T.length=n:=by rw[<- hT,ybes,hn]
 rw[hn]at hl hc;simp only[c70,ydcr,ydcc,ydgr,grV,ybe,hn,clash,go_sem,Nat.reduceEqDiff,Nat.reduceAdd,Nat.reduceLT,↓reduceIte,reduceCtorEq];refine⟨⟨by omega,by omega⟩,?_⟩
 refine ybc (σ:=Nat) (fun k=>⟨[(15,.i .i64 k),(14,.i .i64 n),(13,.sl 1 n fun v=>[yj (c.getD v [])]),(2,.i .i64 x),(3,.pt (3,0) 0 0),(7,.os (12,0) 0 n true)],[(12,.one (some ⟨3,false,1,n,fun i=>[.i .i64 (if i<k then T.getD i 0 else 0)]⟩)),(3,.one (some ⟨28,true,2,1,fun _=>[yj g.ids,yu g.ports]⟩))]⟩) (fun k=>k<=n) (fun k=>n - k) 0 (Nat.zero_le _) ?_ ?_
 ·refine yg [] [] [] ?_;simp only[Nat.not_lt_zero,allQ,live,yc,Int.natCast_zero,go_sem,Nat.reduceEqDiff,↓reduceIte,reduceCtorEq]
 intro k hk
 by_cases hlt:k<n
 ·have t1:decide ((k:Int)<(n:Int))=true:=decide_eq_true (by omega)
  obtain⟨hcx,hcp⟩:=hc k hlt;have hat:=ybso (g:=g) (x:=x) (show k<c.length by omega)
  rw[hT]at hat
  by_cases hp:(c.getD k []).getD x 0 >= 0
  ·have t2:decide ((c.getD k []).getD x 0 >= 0)=true:=decide_eq_true hp;rw[if_pos hp]at hat;simp only[ybze,ycro,ycrt,ycwf,ycxl,yctk,t1,t2,yj,yu,yba,splice,clash,go_sem,Nat.reduceEqDiff,Nat.reduceAdd,Nat.reduceLeDiff,↓reduceIte,reduceCtorEq]
   repeat (refine⟨by omega,?_⟩)
   refine⟨ikw (by omega) (by omega),?_⟩
   refine yh (k+1) (by omega) (by omega) ?_
   refine yg [] [] [] ?_;simp only[go_sem,allQ,live,yc,yw,go_sem,Nat.reduceEqDiff,↓reduceIte,reduceCtorEq];refine⟨by omega,fun i hi=>?_⟩
   by_cases q:i=k
   ·subst q;simp only[if_pos (Nat.lt_succ_self i),hat];simp only[go_sem,live,yc,go_sem,↓reduceIte,reduceCtorEq]
   ·have e:(if i<k+1 then T.getD i 0 else 0)=if i<k then T.getD i 0 else 0:=by
     by_cases q1:i<k
     ·rw[if_pos q1,if_pos (by omega)]
     ·rw[if_neg q1,if_neg (by omega)]
    simp only[if_neg q,e];simp only[go_sem,live,yc,go_sem,reduceCtorEq]
  ·have t2:decide ((c.getD k []).getD x 0 >= 0)=false:=decide_eq_false hp;rw[if_neg hp]at hat;simp only[ybze,ycro,ycrt,ycwf,yctk,t1,t2,yj,splice,clash,go_sem,Nat.reduceEqDiff,Nat.reduceAdd,↓reduceIte,reduceCtorEq]
   repeat (refine⟨by omega,?_⟩)
   refine⟨ikw (by omega) (by omega),?_⟩
   refine yh (k+1) (by omega) (by omega) ?_
   refine yg [] [] [] ?_;simp only[go_sem,allQ,live,yc,yw,go_sem,Nat.reduceEqDiff,↓reduceIte,reduceCtorEq];refine⟨by omega,fun i hi=>?_⟩
   by_cases q:i=k
   ·subst q;simp only[if_pos (Nat.lt_succ_self i),hat];simp only[go_sem,live,yc,go_sem,↓reduceIte,reduceCtorEq]
   ·have e:(if i<k+1 then T.getD i 0 else 0)=if i<k then T.getD i 0 else 0:=by
     by_cases q1:i<k
     ·rw[if_pos q1,if_pos (by omega)]
     ·rw[if_neg q1,if_neg (by omega)]
    simp only[if_neg q,e];simp only[go_sem,live,yc,go_sem,reduceCtorEq]
 ·obtain rfl:k=n:=by omega
  have t1:decide ((k:Int)<(k:Int))=false:=decide_eq_false (by omega)
  simp only[ybze,ydgc,t1,clash,go_sem,Nat.reduceEqDiff,Nat.reduceAdd,↓reduceIte,reduceCtorEq];rw[hT];unfold yj;rw[hTl];exact sim_sl fun i hi=>by rw[if_pos hi]
end Sh
end Go.Proofs.YtpngeppkgoaimaaGreatDoor

namespace Go.Proofs.YtpngeppkgoaimaaGreatDoor
namespace Sh
open Go Ev
set_option maxRecDepth 1000000
def PqP:ProgT:=ycy (by8 [112,97,116,104,115]) (by8 [100]) (by8 [112]) (by8 [116,111,112]) (by8 [108,111,119])
def Pqt:ByteArray:=ybd
def Pqv:Value:=.slice (some ⟨1118,0,none⟩) 2 CU
def Pqr:Value:=.slice (some ⟨1813,0,none⟩) 2 CU
def PqB:List BlkL:=ymk.post.take 1
def PqC:List BlkL:=ymk.post.drop 1
theorem ygs:Returns Tryz.prog 25 [.a (.string Pqt)] (.ag (ydb (Lies PqB Pqv) (Lies PqC Pqr) PqP.raw)) :=
 ycar (fp:=ymk) (ybh.at_ ybtz 0 rfl) ⟨rfl,rfl,rfl,by kernel_rfl,fun _ h=>List.mem_of_mem_take h,fun _ h=>List.mem_of_mem_drop h,by kernel_rfl,by kernel_rfl⟩
theorem ydaa:ybbh.pre=ymk.post:=rfl
theorem yov:Returns Tryz.prog 169 [.ag (ydb (Lies PqB Pqv) (Lies PqC Pqr) PqP.raw)] (.b true) :=
 ybzf (fv:=ybbh) (ybh.at_ ybln 0 rfl) ⟨rfl,fun b h=>by
  rw[ydaa,<- List.take_append_drop 1 ymk.post]at h;exact List.mem_append.1 h,fun _ h=>List.mem_of_mem_take h,fun _ h=>List.mem_of_mem_drop h,rfl,rfl,by kernel_rfl,by kernel_rfl,by kernel_rfl,by kernel_rfl,by kernel_rfl,by kernel_rfl,by kernel_rfl⟩
theorem yvt:PqP.ok=true:=by kernel_rfl
end Sh
end Go.Proofs.YtpngeppkgoaimaaGreatDoor

