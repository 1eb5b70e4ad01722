/- Joined. -/
import Derived.Test.YtiejahgklcjhkaaGreatDoorPkT17
import Derived.Test.YtiejahgklcjhkaaGreatDoorPkT11
set_option linter.unusedSimpArgs false
set_option linter.unusedVariables false
set_option maxRecDepth 1000000
open Nat renaming reduceEqDiff→zA,reduceAdd→zB,reduceLeDiff→zI,le_refl→zM,reduceBEq→zN,not_lt_zero→zX,reduceLT→zY,lt_succ_self→zAK,zero_le→zAP,mod_eq_of_lt→zAV,sub_le→zBC
open List renaming getElem?_eq_getElem→zC,getElem_mem→zF,mem_cons_of_mem→zH,range→zJ,take_length→zO,take_succ_eq_append_getElem→zQ,foldl_cons→zU,mem_cons_self→zZ,getElem_range→zAB,getD_eq_getElem?_getD→zAC,pairwise_map→zAD,not_mem_nil→zAF,getElem_inj→zAH,length_cons→zAJ,getElem_map→zAL,getElem?_cons_zero→zAM,getD→zAN,mem_of_mem_take→zAQ,mem_of_mem_drop→zAR,countP_cons→zAU,countP_nil→zAX,take→zBD,drop→zBE
open Int renaming mul_le_mul_of_nonneg_right→zD,toNat_natCast→zG,add_mul_ediv_right→zK,ediv_eq_zero_of_lt→zL,natCast_zero→zS,add_comm→zW,add_mul_emod_self_right→zAA,zero_add→zAG,lt_or_le→zAI,le_refl→zAO,emod_eq_of_lt→zAT,le_antisymm→zAW,le_total→zAZ,add_mul→zBA,one_mul→zBB
open Go.Proofs.Tryz renaming prog→zT
open Bool renaming eq_iff_iff→zV,and_eq_true→zAE,true_and→zAS
open Classical renaming byContradiction→zAY
open Go
namespace Go.Proofs.YtiejahgklcjhkaaGreatDoor
section
def ybrd:Ex:=.bin 33 (.bin 30 (eQ 0) eN) (eQ 1)
def ydqb:Ex:=.bin 30 (.bin 33 (.leaf 7 0) (eNum 1)) eN
def ygy:Ex:=.agg 24 (.ite (.bin 37 (.bin 33 (eQ 1) (eNum 1)) eN) ybrd ydqb)
def ybkb:Ex:=.agg 23 (.bin 35 ybrd ygy)
def ydnn:Ex:=.bin 41 (.bin 38 (.bin 30 (.leaf 8 0) eN) ygy) (.bin 42 (.bin 42 (.bin 36 (eVar 0) (.leaf 8 0)) (.bin 36 (eVar 1) (eNum 0))) (.bin 36 (eVar 2) yddn))
def ycnu:Ex:=.bin 41 (.bin 39 (.bin 30 (.leaf 8 0) eN) ygy) (.bin 42 (.bin 42 (.bin 36 (eVar 0) (.bin 31 ygy eN)) (.bin 36 (eVar 1) (.bin 33 (.bin 32 ygy eN) (eNum 1)))) (.bin 36 (eVar 2) ybkb))
def yec(nm l d p o j:ByteArray):ProgT:=⟨nm,[⟨l,1,0,0,0,1⟩,⟨d,1,0,-1,1,0⟩,⟨p,3,0,0,0,0⟩],[⟨o,ydnn,[(0,.leaf 8 0),(1,eNum 0),(2,yddn)]⟩,⟨j,ycnu,[(0,.bin 31 ygy eN),(1,.bin 33 (.bin 32 ygy eN) (eNum 1)),(2,ybkb)]⟩]⟩
def ldK(g:Gr)(c:Conf)(l:Int×Int):Int:=endP c 0 l*(g.ids.length:Int)+endP c 1 l
def ldH(g:Gr)(c:Conf)(l:Int×Int):Int:=if endP c 1 l+1<(g.ids.length:Int)then ldK g c l else(yjh g+1)*(g.ids.length:Int)
def ldM(g:Gr)(c:Conf)(v:Nat):Int:=ygq ((g.ports.getD v []).map (ldH g c))
def ldF(g:Gr)(c:Conf)(v:Nat):Int:=yhf (fun l=>ldK g c l==ldM g c v) (g.ports.getD v [])
def ldT(g:Gr)(c:Conf)(v:Nat):List Int:=if g.ids.getD v 0*(g.ids.length:Int)<=ldM g c v then[g.ids.getD v 0,0,-1]else[ldM g c v/(g.ids.length:Int),ldM g c v%(g.ids.length:Int)+1,ldF g c v]
structure LdC(g:Gr)(c:Conf):Prop where
 len:c.length=g.ids.length
 row:∀v,v<g.ids.length->(c.getD v []).length=3/\(0<=(c.getD v []).getD 0 0/\(c.getD v []).getD 0 0<=yjh g)/\(0<=(c.getD v []).getD 1 0/\(c.getD v []).getD 1 0<g.ids.length)/\(-1<=(c.getD v []).getD 2 0/\(c.getD v []).getD 2 0<(g.ports.getD v []).length)
section
variable {nm nl nd np no nj:ByteArray}{g:Gr}{c:Conf}{v:Nat}
theorem yjj(hg:ybc g):maxI g.ids=yjh g:=by
 have h:=Sh.ysl (l:=g.ids) (fun x hx=>hg.2.2.2.1 x hx) (by have:=hg.1;have:=hg.2.2.1;omega)
 rw[<-h];unfold Sh.yqc yjh;rw[zO]
theorem ymm{x:Int}(h:InB x):satP x=x:=by unfold InB at h;unfold satP;omega
theorem yfj(hg:ybc g)(hc:yga (yec nm nl nd np no nj) g c=true):LdC g c:=by
 have h:=(yff _ _ _).1 hc;refine⟨h.1,fun v hv=>?_⟩;have hlt:v<c.length:=by rw[h.1];exact hv
 have e:c.getD v []=c[v]:=by simp[zAN,hlt]
 have h2:=h.2 v _ (zC hlt);rw[e];have hl:c[v].length=3:=h2.1;have a0:(ybh g v ⟨nl,1,0,0,0,1⟩).1<=c[v][0]/\c[v][0]<=(ybh g v ⟨nl,1,0,0,0,1⟩).2:=h2.2 0 _ _ rfl (zC (by omega))
 have a1:(ybh g v ⟨nd,1,0,-1,1,0⟩).1<=c[v][1]/\c[v][1]<=(ybh g v ⟨nd,1,0,-1,1,0⟩).2:=h2.2 1 _ _ rfl (zC (by omega))
 have a2:(ybh g v ⟨np,3,0,0,0,0⟩).1<=c[v][2]/\c[v][2]<=(ybh g v ⟨np,3,0,0,0,0⟩).2:=h2.2 2 _ _ rfl (zC (by omega))
 have e0:c[v].getD 0 0=c[v][0]:=by simp[zAN,hl]
 have e1:c[v].getD 1 0=c[v][1]:=by simp[zAN,hl]
 have e2:c[v].getD 2 0=c[v][2]:=by simp[zAN,hl]
 rw[e0,e1,e2];rw[bT3]at a2
 have b0:ybh g v ⟨nl,1,0,0,0,1⟩=(0,0+0*(g.ids.length:Int)+1*maxI g.ids):=by
  show(if (1:Int)=1 then _ else _)=_
  rw[if_pos rfl]
 have b1:ybh g v ⟨nd,1,0,-1,1,0⟩=(0,-1+1*(g.ids.length:Int)+0*maxI g.ids):=by
  show(if (1:Int)=1 then _ else _)=_
  rw[if_pos rfl]
 rw[b0,yjj hg]at a0;rw[b1]at a1;simp only at a0 a1 a2;exact⟨hl,⟨by omega,by omega⟩,⟨by omega,by omega⟩,⟨by omega,by omega⟩⟩
theorem LdC.link(h:LdC g c)(hg:ybc g)(hv:v<g.ids.length){l:Int×Int}(hl:l∈g.ports.getD v []):0<=l.1/\l.1.toNat<g.ids.length/\adj g v l.1.toNat/\(0<=endP c 0 l/\endP c 0 l<=yjh g)/\(0<=endP c 1 l/\endP c 1 l<g.ids.length):=by
 have hpl:=hg.2.2.1;obtain⟨h1,h2,h3,_⟩:=yhn hg (by omega) hl
 have h4:=h.row l.1.toNat (by omega)
 exact⟨h1,by omega,h3,h4.2.1,h4.2.2.1⟩
theorem yia{a n:Int}(ha:0<=a/\a<=256)(hn:1<=n/\n<=24):0<=a*n/\a*n<=6144:=by
 refine⟨Int.mul_nonneg ha.1 (by omega),?_⟩
 have h1:a*n<=256*n:=zD ha.2 (by omega)
 omega
theorem ydka(h:LdC g c)(hg:ybc g)(hv:v<g.ids.length){l:Int×Int}(hl:l∈g.ports.getD v []):0<=ldK g c l/\ldK g c l<=7000:=by
 obtain⟨_,_,_,h1,h2⟩:=h.link hg hv hl;have h3:=ydh hg;have h4:=hg.2.1;have h5:=hg.2.2.1;have h6:=yia (a:=endP c 0 l) (n:=(g.ids.length:Int)) (by omega) (by omega)
 unfold ldK;omega
theorem ycrq(hg:ybc g):0<=(yjh g+1)*(g.ids.length:Int)/\(yjh g+1)*(g.ids.length:Int)<=6144:=by
 have h3:=ydh hg;have h4:=hg.2.1;have h5:=hg.2.2.1;have h6:=hg.1;exact yia (by omega) (by omega)
theorem ydgx(h:LdC g c)(hg:ybc g)(hv:v<g.ids.length){l:Int×Int}(hl:l∈g.ports.getD v []):0<=ldH g c l/\ldH g c l<=7000:=by
 have h1:=ydka h hg hv hl;have h2:=ycrq hg;unfold ldH;split<;>omega
theorem yue(h:LdC g c)(hg:ybc g)(hv:v<g.ids.length):0<=ldM g c v:=ysf (by omega) fun x hx=>by
 obtain⟨l,hl,rfl⟩:=List.mem_map.1 hx;exact(ydgx h hg hv hl).1
theorem ev_q(g:Gr)(c:Conf)(v q:Nat)(k:Nat):ybx g c v (eQ (k:Int)) (q:Int)=endP c k (ybr g v q):=by
 show(c.getD (ybr g v (q:Int).toNat).1.toNat []).getD (k:Int).toNat 0=_;rw[zG,zG];rfl
theorem ybik(h:LdC g c)(hg:ybc g)(hv:v<g.ids.length){q:Nat}(hq:q<(g.ports.getD v []).length):ybx g c v ybrd q=ldK g c (ybr g v q):=by
 have hm:ybr g v q∈g.ports.getD v []:=by unfold ybr;rw[Sh.getD_at hq];exact zF hq
 obtain⟨_,_,_,h1,h2⟩:=h.link hg hv hm;have h3:=ydh hg;have h4:=hg.2.1;have h5:=hg.2.2.1;have h6:=yia (a:=endP c 0 (ybr g v q)) (n:=(g.ids.length:Int)) (by omega) (by omega)
 show satP (satP (ybx g c v (eQ ((0:Nat):Int)) q*(g.ids.length:Int))+ybx g c v (eQ ((1:Nat):Int)) q)=_;rw[ev_q,ev_q,ymm (x:=endP c 0 (ybr g v q)*(g.ids.length:Int)) (by unfold InB;omega),ymm (by unfold InB;omega)]
 rfl
theorem ylv(h:LdC g c)(hg:ybc g)(hv:v<g.ids.length)(p:Int):ybx g c v ygy p=ldM g c v:=by
 show yhm 24 _=_;unfold ldM yhm;rw[if_neg (by decide),if_neg (by decide),if_neg (by decide),if_neg (by decide),if_pos rfl]
 congr 1;refine ybck g v _ _ fun q hq=>?_;have hm:ybr g v q∈g.ports.getD v []:=by unfold ybr;rw[Sh.getD_at hq];exact zF hq
 obtain⟨_,_,_,h1,h2⟩:=h.link hg hv hm;have h4:=hg.2.1;have h5:=hg.2.2.1;have h7:=ycrq hg;have h8:=ydh hg;show(if binP 37 (satP (ybx g c v (eQ ((1:Nat):Int)) q+1)) (g.ids.length:Int)≠0 then ybx g c v ybrd q else satP (satP (yjh g+1)*(g.ids.length:Int)))=ldH g c (ybr g v q)
 rw[ev_q,ybik h hg hv hq,ymm (by unfold InB;omega),ymm (x:=yjh g+1) (by unfold InB;omega),ymm (by unfold InB;omega)]
 have e3:binP 37 (endP c 1 (ybr g v q)+1) (g.ids.length:Int)=ycm (decide (endP c 1 (ybr g v q)+1<(g.ids.length:Int))):=rfl;rw[e3];unfold ldH
 by_cases hh:endP c 1 (ybr g v q)+1<(g.ids.length:Int)
 ·rw[if_pos hh,if_pos (by simp[ycm,hh])]
 ·rw[if_neg hh,if_neg (by simp[ycm,hh])]
theorem ybhh(h:LdC g c)(hg:ybc g)(hv:v<g.ids.length)(p:Int):ybx g c v ybkb p=ldF g c v:=by
 show yhm 23 _=_;unfold ldF yhm;rw[if_neg (by decide),if_neg (by decide),if_neg (by decide),if_pos rfl,<-ywf]
 congr 1;refine ybck g v _ _ fun q hq=>?_;show binP 35 (ybx g c v ybrd q) (ybx g c v ygy q)=_;rw[ylv h hg hv,ybik h hg hv hq];rfl
theorem yccm{s:List Int}(h:s.length=3)(x y z:Int):s=[x,y,z]↔(s.getD 0 0=x/\s.getD 1 0=y)/\s.getD 2 0=z:=by
 match s,h with
 |[a,b,d],_=>simp[and_assoc]
theorem ybmt{l:List Int}(h:ygq l≠1073741824):ygq l∈l:=by
 have:∀(l:List Int) (a:Int),l.foldl min a=a\/l.foldl min a∈l:=by
  intro l
  induction l with
  |nil=>intro a;exact .inl rfl
  | cons x l ih =>
    intro a;rcases ih (min a x)with e|e
    ·rw[zU,e];rcases zAZ a x with q|q
     ·left;omega
     ·right;rw[Int.min_eq_right q];exact zZ
    ·exact .inr (zH _ e)
 exact(this l 1073741824).resolve_left h
theorem ybmg(l:List Int):ygq l<=1073741824:=(yjo l 1073741824).1
theorem ybil{a b:Int}(ha:0<=a)(hb:0<b):ymd a b=a/b:=by
 unfold ymd;rw[if_neg (by omega),if_neg (by simp;omega),Int.tdiv_eq_ediv_of_nonneg ha]
theorem yclr(h:LdC g c)(hg:ybc g)(hv:v<g.ids.length)(p:Int):ybx g c v (.bin 31 ygy eN) p=ldM g c v/(g.ids.length:Int):=by
 have h1:=yue h hg hv;have h2:=ybmg ((g.ports.getD v []).map (ldH g c));have h2:ldM g c v<=1073741824:=h2;have h3:0<(g.ids.length:Int):=by omega
 show satP (ymd (ybx g c v ygy p) (g.ids.length:Int))=_;rw[ylv h hg hv,ybil h1 h3];have h4:0<=ldM g c v/(g.ids.length:Int):=Int.ediv_nonneg h1 (by omega)
 have h5:ldM g c v/(g.ids.length:Int)<=ldM g c v:=Int.ediv_le_self _ h1;exact ymm (by unfold InB;omega)
theorem ycrd(h:LdC g c)(hg:ybc g)(hv:v<g.ids.length)(p:Int):ybx g c v (.bin 33 (.bin 32 ygy eN) (eNum 1)) p=ldM g c v%(g.ids.length:Int)+1:=by
 have h1:=yue h hg hv;have h3:0<(g.ids.length:Int):=by omega
 have h4:=hg.2.1;have h5:=hg.2.2.1;show satP ((if (g.ids.length:Int)=0 then 0 else satP (ybx g c v ygy p-(g.ids.length:Int)*ymd (ybx g c v ygy p) (g.ids.length:Int)))+1)=_
 rw[ylv h hg hv,ybil h1 h3,if_neg (by omega)]
 have h6:=Int.emod_nonneg (ldM g c v) (show(g.ids.length:Int)≠0 by omega)
 have h7:=Int.emod_lt_of_pos (ldM g c v) h3;have h8:ldM g c v-(g.ids.length:Int)*(ldM g c v/(g.ids.length:Int))=ldM g c v%(g.ids.length:Int):=by rw[Int.emod_def]
 rw[h8,ymm (x:=ldM g c v%(g.ids.length:Int)) (by unfold InB;omega)]
 exact ymm (by unfold InB;omega)
theorem ybps(h:LdC g c)(hg:ybc g)(hv:v<g.ids.length) :
 ykt g c v ⟨no,ydnn,[(0,.leaf 8 0),(1,eNum 0),(2,yddn)]⟩=(decide (g.ids.getD v 0*(g.ids.length:Int)<=ldM g c v) && !decide (c.getD v []=[g.ids.getD v 0,0,-1])) /\
 ykt g c v ⟨nj,ycnu,[(0,.bin 31 ygy eN),(1,.bin 33 (.bin 32 ygy eN) (eNum 1)),(2,ybkb)]⟩=(!decide (g.ids.getD v 0*(g.ids.length:Int)<=ldM g c v) && !decide (c.getD v []=[ldM g c v/(g.ids.length:Int),ldM g c v%(g.ids.length:Int)+1,ldF g c v])):=by
 have h3:=(h.row v hv).1;have h4:=hg.2.1;have h5:=hg.2.2.1;have hid:=hg.id_in v;have hm:=yia (a:=g.ids.getD v 0) (n:=(g.ids.length:Int)) (by omega) (by omega)
 have e0:∀p,ybx g c v (eVar 0) p=(c.getD v []).getD 0 0:=fun p=>rfl;have e1:∀p,ybx g c v (eVar 1) p=(c.getD v []).getD 1 0:=fun p=>rfl;have e2:∀p,ybx g c v (eVar 2) p=(c.getD v []).getD 2 0:=fun p=>rfl
 have dd:∀x y z:Int,(decide (c.getD v []=[x,y,z]))=((((c.getD v []).getD 0 0==x)&&((c.getD v []).getD 1 0==y))&&((c.getD v []).getD 2 0==z)):=fun x y z=>by
  rw[zV];simp only[decide_eq_true_eq,zAE,beq_iff_eq];exact yccm h3 x y z
 have b41:∀a b:Bool,binP 41 (ycm a) (ycm b)=ycm (a&&b):=fun a b=>by cases a<;>cases b<;>rfl
 have b42:∀a b:Bool,binP 42 (ycm a) (ycm b)=ycm (a||b):=fun a b=>by cases a<;>cases b<;>rfl
 have b36:∀a b:Int,binP 36 a b=ycm (a != b):=fun a b=>rfl;have key:∀t a b d:Bool,(t&&((!a || !b) || !d))=(t && !((a&&b)&&d)):=by decide
 have em:satP (g.ids.getD v 0*(g.ids.length:Int))=g.ids.getD v 0*(g.ids.length:Int):=ymm (by unfold InB;omega)
 constructor
 ·show(binP 41 (binP 38 (satP (g.ids.getD v 0*(g.ids.length:Int))) (ybx g c v ygy (-1))) (binP 42 (binP 42 (binP 36 (ybx g c v (eVar 0) (-1)) (g.ids.getD v 0)) (binP 36 (ybx g c v (eVar 1) (-1)) 0)) (binP 36 (ybx g c v (eVar 2) (-1)) (-1)))!=0)=_;have b38:∀a b:Int,binP 38 a b=ycm (decide (a<=b)):=fun a b=>rfl;rw[em,ylv h hg hv,e0,e1,e2,b38,b36,b36,b36,b42,b42,b41,ybbh,dd];exact key _ _ _ _
 ·show(binP 41 (binP 39 (satP (g.ids.getD v 0*(g.ids.length:Int))) (ybx g c v ygy (-1))) (binP 42 (binP 42 (binP 36 (ybx g c v (eVar 0) (-1)) (ybx g c v (.bin 31 ygy eN) (-1))) (binP 36 (ybx g c v (eVar 1) (-1)) (ybx g c v (.bin 33 (.bin 32 ygy eN) (eNum 1)) (-1)))) (binP 36 (ybx g c v (eVar 2) (-1)) (ybx g c v ybkb (-1))))!=0)=_;have b39:∀a b:Int,binP 39 a b=ycm (decide (a>b)):=fun a b=>rfl
  have e9:decide (g.ids.getD v 0*(g.ids.length:Int)>ldM g c v) = !decide (g.ids.getD v 0*(g.ids.length:Int)<=ldM g c v):=by
   rw[zV];simp
  rw[em,ylv h hg hv,yclr h hg hv,ycrd h hg hv,ybhh h hg hv,e0,e1,e2,b39,b36,b36,b36,b42,b42,b41,ybbh,dd,e9];exact key _ _ _ _
theorem ybgl(h:LdC g c)(hg:ybc g)(hv:v<g.ids.length):ygx (yec nm nl nd np no nj) g c v=if c.getD v []=ldT g c v then -1 else if g.ids.getD v 0*(g.ids.length:Int)<=ldM g c v then 0 else 1:=by
 obtain⟨h1,h2⟩:=ybps (no:=no) (nj:=nj) h hg hv;unfold ygx yec;simp only[List.findIdx?_cons,h1,h2,List.findIdx?_nil];unfold ldT
 generalize c.getD v []=s
 generalize [g.ids.getD v 0,0,-1]=X
 generalize [ldM g c v/(g.ids.length:Int),ldM g c v%(g.ids.length:Int)+1,ldF g c v]=Y
 by_cases h0:g.ids.getD v 0*(g.ids.length:Int)<=ldM g c v
 ·rw[if_pos h0,if_pos h0,decide_eq_true h0]
  by_cases hs:s=X
  ·rw[if_pos hs,decide_eq_true hs];rfl
  ·rw[if_neg hs,decide_eq_false hs];rfl
 ·rw[if_neg h0,if_neg h0,decide_eq_false h0]
  by_cases hs:s=Y
  ·rw[if_pos hs,decide_eq_true hs];rfl
  ·rw[if_neg hs,decide_eq_false hs];rfl
theorem ybxx(h:LdC g c)(hg:ybc g)(hv:v<g.ids.length)(hj:¬g.ids.getD v 0*(g.ids.length:Int)<=ldM g c v) :
 ∃l∈g.ports.getD v [],endP c 1 l+1<(g.ids.length:Int)/\ldM g c v=ldK g c l/\ldM g c v/(g.ids.length:Int)=endP c 0 l/\ldM g c v%(g.ids.length:Int)=endP c 1 l:=by
 have hid:=hg.id_in v;have h4:=hg.2.1;have h5:=hg.2.2.1
 have htop:g.ids.getD v 0<=yjh g:=by
  rw[<-yjj hg];have h6:=Sh.ysl (l:=g.ids) (fun x hx=>hg.2.2.2.1 x hx) (by omega)
  have hm:g.ids.getD v 0∈g.ids:=by rw[Sh.getD_at hv];exact zF hv
  have:∀(l:List Int) (a x:Int),x∈l->x<=l.foldl max a:=by
   intro l
   induction l with
   |nil=>intro a x hx;exact(zAF hx).elim
   | cons y l ih =>
     intro a x hx;rcases List.mem_cons.1 hx with rfl|hx
     ·have:=yfo l (max a x);simp only[zU];omega
     ·exact ih _ _ hx
  rw[<-h6];unfold Sh.yqc;rw[zO];exact this _ _ _ hm
 have hm:=yia (a:=g.ids.getD v 0) (n:=(g.ids.length:Int)) (by omega) (by omega)
 have h7:g.ids.getD v 0*(g.ids.length:Int)<=(yjh g+1)*(g.ids.length:Int):=zD (by omega) (by omega)
 obtain⟨l,hl,e⟩:∃l∈g.ports.getD v [],ldH g c l=ldM g c v:=by
  have hne:ldM g c v≠1073741824:=by omega
  have:ldM g c v∈(g.ports.getD v []).map (ldH g c):=ybmt hne;obtain⟨l,hl,e⟩:=List.mem_map.1 this;exact⟨l,hl,e⟩
 obtain⟨_,_,_,a1,a2⟩:=h.link hg hv hl
 have hlt:endP c 1 l+1<(g.ids.length:Int):=by
  refine zAY fun q=>?_;unfold ldH at e;rw[if_neg q]at e;omega
 unfold ldH at e;rw[if_pos hlt]at e;refine⟨l,hl,hlt,e.symm,?_,?_⟩
 ·rw[<-e];unfold ldK;rw[zW,zK _ _ (by omega),zL a2.1 a2.2,zAG]
 ·rw[<-e];unfold ldK;rw[zW,zAA,zAT a2.1 a2.2]
end
end
section
namespace Sh
open Go Ev
def LqP:ProgT:=yec (by8 [108,101,97,100,101,114]) (by8 [108,101,97,100]) (by8 [100]) (by8 [112]) (by8 [111,119,110]) (by8 [106,111,105,110])
def Lqt:ByteArray:=yc
def Lqv:Value:=.slice (some ⟨2339,0,none⟩) 3 CU
def Lqr:Value:=.slice (some ⟨3959,0,none⟩) 2 CU
def LqB:List BlkL:=yoi.post.take 1
def LqC:List BlkL:=yoi.post.drop 1
theorem yva:Returns zT 37 [.a (.string Lqt)] (.ag (ygo (Lies LqB Lqv) (Lies LqC Lqr) LqP.raw)) :=
 ycbj (fp:=yoi) (yu.at_ ybus 0 rfl) ⟨rfl,rfl,rfl,by kernel_rfl,fun _ h=>zAQ h,fun _ h=>zAR h,by kernel_rfl,by kernel_rfl⟩
theorem ydgh:ybge.pre=yoi.post:=rfl
theorem ybjl:Returns zT 191 [.ag (ygo (Lies LqB Lqv) (Lies LqC Lqr) LqP.raw)] (.b true) :=
 yceh (fv:=ybge) (yu.at_ ybzy 0 rfl) ⟨rfl,fun b h=>by
  rw[ydgh,<-List.take_append_drop 1 yoi.post]at h;exact List.mem_append.1 h,fun _ h=>zAQ h,fun _ h=>zAR h,rfl,rfl,by kernel_rfl,by kernel_rfl,by kernel_rfl,by kernel_rfl,by kernel_rfl,by kernel_rfl,by kernel_rfl⟩
theorem ybkt:LqP.ok=true:=by kernel_rfl
end Sh
end
section
section
variable {nm nl nd np no nj:ByteArray}{g:Gr}{c:Conf}{v:Nat}
theorem ykk{k:Int}{b:Int×Int}{x:Int}(h:b.1<=x/\x<=b.2):ygc k b x=x:=by unfold ygc;rw[if_pos ⟨h.1,h.2⟩]
theorem bTL{x:ByteArray}:ybh g v ⟨x,1,0,0,0,1⟩=(0,0+0*(g.ids.length:Int)+1*maxI g.ids):=by
 show(if (1:Int)=1 then _ else _)=_
 rw[if_pos rfl]
theorem bTD{x:ByteArray}:ybh g v ⟨x,1,0,-1,1,0⟩=(0,-1+1*(g.ids.length:Int)+0*maxI g.ids):=by
 show(if (1:Int)=1 then _ else _)=_
 rw[if_pos rfl]
theorem ybbr(hg:ybc g)(hv:v<g.ids.length):g.ids.getD v 0<=yjh g:=by
 have hm:g.ids.getD v 0∈g.ids:=by rw[Sh.getD_at hv];exact zF hv
 have:∀(l:List Int) (a x:Int),x∈l->x<=l.foldl max a:=by
  intro l
  induction l with
  |nil=>intro a x hx;exact(zAF hx).elim
  | cons y l ih =>
    intro a x hx;rcases List.mem_cons.1 hx with rfl|hx
    ·have:=yfo l (max a x);simp only[zU];omega
    ·exact ih _ _ hx
 exact this _ _ _ hm
theorem ydfj:-1<=ldF g c v/\ldF g c v<(g.ports.getD v []).length:=by
 unfold ldF yhf;split
 ·rename_i i hi
  obtain⟨h,_⟩:=List.findIdx?_eq_some_iff_getElem.1 hi;omega
 ·omega
theorem ydcl(h:LdC g c)(hg:ybc g)(hv:v<g.ids.length)(hne:c.getD v []≠ldT g c v):yyv (yec nm nl nd np no nj) g c v (ygx (yec nm nl nd np no nj) g c v).toNat=ldT g c v:=by
 rw[ybgl h hg hv,if_neg hne];have h3:=(h.row v hv).1;have hn:(g.ids.length:Int)<=24:=by have:=hg.2.1;have:=hg.2.2.1;omega
 obtain⟨x,y,z,hxyz⟩:∃x y z,c.getD v []=[x,y,z]:=by
  match hq:c.getD v [],h3 with
  |[x,y,z],_=>exact⟨x,y,z,rfl⟩
 obtain⟨f1,f2⟩:=ydfj (g:=g) (c:=c) (v:=v);have hid:=hg.id_in v;have htop:=ybbr hg hv;have hmx:=yjj hg;unfold yyv yot ldT;rw[hxyz]
 by_cases h0:g.ids.getD v 0*(g.ids.length:Int)<=ldM g c v
 ·rw[if_pos h0,if_pos h0];show[ygc 1 (ybh g v ⟨nl,1,0,0,0,1⟩) (g.ids.getD v 0),ygc 1 (ybh g v ⟨nd,1,0,-1,1,0⟩) 0,ygc 3 (ybh g v ⟨np,3,0,0,0,0⟩) (-1)]=_;rw[ykk (by rw[bTL,hmx];simp only;omega),ykk (by rw[bTD];simp only;omega),ykk (by rw[bT3];simp only;omega)]
 ·rw[if_neg h0,if_neg h0];obtain⟨l,hl,e1,e2,e3,e4⟩:=ybxx h hg hv h0;obtain⟨_,_,_,a1,a2⟩:=h.link hg hv hl;show[ygc 1 (ybh g v ⟨nl,1,0,0,0,1⟩) (ybx g c v (.bin 31 ygy eN) (-1)),ygc 1 (ybh g v ⟨nd,1,0,-1,1,0⟩) (ybx g c v (.bin 33 (.bin 32 ygy eN) (eNum 1)) (-1)),ygc 3 (ybh g v ⟨np,3,0,0,0,0⟩) (ybx g c v ybkb (-1))]=_;rw[yclr h hg hv,ycrd h hg hv,ybhh h hg hv];rw[ykk (by rw[bTL,hmx];simp only;omega),ykk (by rw[bTD];simp only;omega),ykk (by rw[bT3];simp only;omega)]
theorem ybfr(hg:ybc g):Sh.ytq (yec nm nl nd np no nj) g=true:=by
 have h1:=hg.1;have h2:=hg.2.1;have h3:=hg.2.2.1;have h4:=ydh hg;have h5:=yjj hg;simp[Sh.ytq,yec,ybh];omega
theorem ydpt:(yec nm nl nd np no nj).ok=true:=by kernel_rfl
theorem ybrj(hg:ybc g):Tgt (yby (yec nm nl nd np no nj) g) (fun c=>yga (yec nm nl nd np no nj) g c=true) (ldT g) where
 valid:=fun c s hc _ _=>Sh.yup hg ydpt (ybfr hg) hc s
 stay:=fun c s v hc hv hb=>by
  have hl:=(yfj hg hc).len;show(ync _ g c s).getD v []=_;rw[Sh.ymb _ g c s (by rw[hl];exact hv),hb]
  rfl
 move:=fun c s v hc hv hb hs=>by
  have hl:=(yfj hg hc).len;have hv:v<g.ids.length:=hv;show(ync _ g c s).getD v []=_;rw[Sh.ymb _ g c s (by rw[hl];exact hv),hb,if_pos rfl]
  refine ydcl (yfj hg hc) hg hv fun he=>?_;have h1:=hs v hb;have h1:(yjs _ g.ids.length).testBit v=true:=h1;rw[yjq]at h1;simp only[zAE,decide_eq_true_eq]at h1;rw[ybgl (yfj hg hc) hg hv,if_pos he]at h1;omega
 en:=fun c v hc hv=>by
  have hv:v<g.ids.length:=hv;show(yjs _ g.ids.length).testBit v=false↔_;rw[yjq,ybgl (yfj hg hc) hg hv,decide_eq_true hv,zAS,decide_eq_false_iff_not]
  by_cases he:c.getD v []=ldT g c v
  ·rw[if_pos he];exact⟨fun _=>he,fun _=>by omega⟩
  ·rw[if_neg he];exact⟨fun h=>(h (by split<;>omega)).elim,fun h=>absurd h he⟩
def ycub(g:Gr)(v:Nat)(s:List Int):Prop:=∃u k:Nat,u<g.ids.length/\g.ids.getD u 0=s.getD 0 0/\s.getD 1 0=k/\Walk g u k v
def ldR(g:Gr)(r v:Nat)(s:List Int):Prop:=((r:Int)<=s.getD 1 0\/ycub g v s)/\((ybt g (ybp g.ids)).getD v 0+(g.ids.length:Int)-1<r->s=ytc g v)
theorem least_le(hg:ybc g){u:Nat}(hu:u<g.ids.length):g.ids.getD (ybp g.ids) 0<=g.ids.getD u 0:=by
 have h0:0<g.ids.length:=by omega
 have:=(yeu g.ids g.ids.length h0 (zM _)).2.1;exact this u hu
theorem ycwy(hg:ybc g){u w:Nat}(hu:u<g.ids.length)(hw:w<g.ids.length)(h:g.ids.getD u 0=g.ids.getD w 0):u=w:=by
 rw[Sh.getD_at hu,Sh.getD_at hw]at h;exact(zAH hg.2.2.2.2.1).1 h
end
end
section
section
variable {nm nl nd np no nj:ByteArray}{g:Gr}{c:Conf}{v:Nat}
theorem yhc(hg:ybc g):ybp g.ids<g.ids.length:=by
 have h0:0<g.ids.length:=by have:=hg.1;have:=hg.2.2.1;omega
 exact(yeu g.ids g.ids.length h0 (zM _)).1
theorem key_eq{a b x y n:Int}(hx:0<=x/\x<n)(hy:0<=y/\y<n):a*n+x=b*n+y↔a=b/\x=y:=by
 constructor
 ·intro h;have h1:(a*n+x)/n=a:=by rw[zW,zK _ _ (by omega),zL hx.1 hx.2,zAG]
  have h2:(b*n+y)/n=b:=by rw[zW,zK _ _ (by omega),zL hy.1 hy.2,zAG]
  have h3:a=b:=by rw[<-h1,<-h2,h]
  subst h3;exact⟨rfl,by omega⟩
 ·rintro⟨rfl,rfl⟩;rfl
theorem ycjy{a b n:Int}(h:a<b)(hn:0<=n):a*n+n<=b*n:=by
 have:(a+1)*n<=b*n:=zD (by omega) hn
 rw[zBA,zBB]at this;exact this
theorem ld_next(hg:ybc g)(hc:ydf g=true)(h:LdC g c)(hv:v<g.ids.length)(r:Nat)(hall:∀u,u<g.ids.length->ldR g r u (c.getD u [])):ldR g (r+1) v (ldT g c v):=by
 have hpl:=hg.2.2.1;have h24:=hg.2.1;have hvp:v<g.ports.length:=by omega
 have nb:∀l∈g.ports.getD v [],(r:Int)<=endP c 1 l\/ycub g l.1.toNat (c.getD l.1.toNat []):=fun l hl=>by
  obtain⟨_,h2,_⟩:=h.link hg hv hl;exact(hall _ h2).1
 constructor
 ·unfold ldT
  by_cases h0:g.ids.getD v 0*(g.ids.length:Int)<=ldM g c v
  ·rw[if_pos h0];exact .inr ⟨v,0,hv,rfl,rfl,rfl⟩
  ·rw[if_neg h0];obtain⟨l,hl,e1,e2,e3,e4⟩:=ybxx h hg hv h0;rw[e3,e4];obtain⟨_,_,ha,_⟩:=h.link hg hv hl;rcases nb l hl with q|⟨u,k,hu,hid,hk,hw⟩
   ·left
    show((r+1:Nat):Int)<=endP c 1 l+1;omega
   ·right
    refine⟨u,k+1,hu,hid,?_,⟨_,hw,hg.adj_symm ha⟩⟩;show endP c 1 l+1=((k+1:Nat):Int);unfold endP;omega
 ·intro hr;obtain⟨m,hm⟩:∃m,ybp g.ids=m:=⟨_,rfl⟩;have hml:=yhc hg;rw[hm]at hml hr;have hmp:m<g.ports.length:=by omega
  have hle:∀u,u<g.ids.length->g.ids.getD m 0<=g.ids.getD u 0:=fun u hu=>by rw[<-hm];exact least_le hg hu
  have hD:=ylf hg hc hmp hvp;have hidm:=hg.id_in m;have htop:=ybbr hg hml;obtain⟨n,hn⟩:∃n:Int,(g.ids.length:Int)=n:=⟨_,rfl⟩;rw[hn]at hr
  have nb2:∀l∈g.ports.getD v [],n-1<=endP c 1 l\/(g.ids.getD m 0<endP c 0 l\/(endP c 0 l=g.ids.getD m 0/\(ybt g m).getD l.1.toNat 0<=endP c 1 l)):=fun l hl=>by
   obtain⟨_,h2,_⟩:=h.link hg hv hl;rcases nb l hl with q|⟨u,k,hu,hid,hk,hw⟩
   ·left;omega
   ·right
    have hid:g.ids.getD u 0=endP c 0 l:=hid;have hk:endP c 1 l=(k:Int):=hk;rcases zAI (g.ids.getD m 0) (endP c 0 l)with q|q
    ·exact .inl q
    ·right
     have e:u=m:=ycwy hg hu hml (by have:=hle u hu;omega)
     subst e;obtain⟨j,e,_,h5,_⟩:=yfg hg hc hmp (v:=l.1.toNat) (by omega)
     refine⟨hid.symm,?_⟩;rw[e,hk];rcases Nat.lt_or_ge k j with q|q
     ·exact absurd hw (h5 k q)
     ·omega
  have hK:∀l∈g.ports.getD v [],ldK g c l=endP c 0 l*n+endP c 1 l:=fun l hl=>by unfold ldK;rw[hn]
  have hT:(g.ids.getD m 0+1)*n<=(yjh g+1)*n:=zD (by omega) (by omega)
  rw[zBA (g.ids.getD m 0),zBB]at hT
  have lowH:∀b:Int,b<=n->(∀l∈g.ports.getD v [],b<=(ybt g m).getD l.1.toNat 0)->∀l∈g.ports.getD v [],g.ids.getD m 0*n+b<=ldH g c l:=fun b hbn hb l hl=>by
   obtain⟨_,_,_,a1,a2⟩:=h.link hg hv hl;rw[hn]at a2;unfold ldH;rw[hn,hK l hl];split
   ·rcases nb2 l hl with q|q|⟨q1,q2⟩
    ·omega
    ·have:=ycjy q (n:=n) (by omega);omega
    ·have:=hb l hl;rw[q1];omega
   ·omega
  have hM0:ldM g c v=ygq ((g.ports.getD v []).map (ldH g c)):=rfl;have hsm:=yia (a:=g.ids.getD m 0) (n:=n) (by omega) (by omega)
  by_cases hvm:v=m
  ·subst hvm
   have h0:g.ids.getD v 0*(g.ids.length:Int)<=ldM g c v:=by
    rw[hn,hM0];refine ysf (by omega) fun x hx=>?_
    obtain⟨l,hl,rfl⟩:=List.mem_map.1 hx
    have:=lowH 0 (by omega) (fun l hl=>by
     obtain⟨_,h2,_⟩:=h.link hg hv hl;exact(ylf hg hc hmp (by omega)).1) l hl
    omega
   unfold ldT;rw[if_pos h0];unfold ytc;rw[hm,ytd hg hc hmp,ycaz hg hc hmp]
  ·have hpos:=ybir hg hc hmp hvp hvm
   have near:∀l∈g.ports.getD v [],(ybt g m).getD v 0-1<=(ybt g m).getD l.1.toNat 0:=fun l hl=>by
    obtain⟨_,h2,h3,_⟩:=h.link hg hv hl;have:=ybja hg hc hmp (hg.adj_symm h3);omega
   have right:∀l∈g.ports.getD v [],(ybt g m).getD l.1.toNat 0=(ybt g m).getD v 0-1->endP c 0 l=g.ids.getD m 0/\endP c 1 l=(ybt g m).getD v 0-1:=fun l hl e=>by
    obtain⟨_,h2,_⟩:=h.link hg hv hl;have h4:=(hall _ h2).2 (by rw[hm,e,hn];omega)
    unfold endP;rw[h4];unfold ytc;rw[hm];exact⟨rfl,e⟩
   obtain⟨u,hu,hd⟩:=yyw hg hc hmp hvp hvm;obtain⟨l0,hl0,hlu⟩:=ybez hu;subst hlu;obtain⟨r1,r2⟩:=right l0 hl0 hd
   have hH0:ldH g c l0=g.ids.getD m 0*n+((ybt g m).getD v 0-1):=by
    unfold ldH;rw[hn,hK l0 hl0,if_pos (by omega),r1,r2]
   have hM:ldM g c v=g.ids.getD m 0*n+((ybt g m).getD v 0-1):=by
    refine zAW ?_ ?_
    ·rw[<-hH0];exact ybpy (List.mem_map.2 ⟨l0,hl0,rfl⟩)
    ·refine ysf (by omega) fun x hx=>?_
     obtain⟨l,hl,rfl⟩:=List.mem_map.1 hx;exact lowH _ (by omega) near l hl
   have hlt:g.ids.getD m 0<g.ids.getD v 0:=by
    rcases zAI (g.ids.getD m 0) (g.ids.getD v 0)with q|q
    ·exact q
    ·exact absurd (ycwy hg hv hml (by have:=hle v hv;omega)) hvm
   have hkl:=ycjy hlt (n:=n) (by omega)
   have hF:ldF g c v=wayP g (ybt g m) v:=by
    unfold ldF wayP;refine ybbj fun l hl=>?_;obtain⟨_,_,_,a1,a2⟩:=h.link hg hv hl;rw[hn]at a2;unfold ynr;rw[hM,hK l hl,zV];simp only[beq_iff_eq];rw[key_eq a2 (by omega)]
    constructor
    ·rintro⟨q1,q2⟩;have:=near l hl;rcases nb2 l hl with q|q|⟨q3,q4⟩<;>omega
    ·intro q;exact right l hl q
   unfold ldT;rw[if_neg (by rw[hn];omega)]
   unfold ytc;rw[hm,hF,hM,hn,zW (g.ids.getD m 0*n),zK _ _ (by omega),zL (by omega) (by omega),zAG,zAA,zAT (by omega) (by omega)]
   congr 2;omega
theorem ycfs(r v:Nat)(s:List Int)(h:ldR g (r+1) v s):ldR g r v s:=by
 refine⟨?_,fun q=>h.2 (by omega)⟩
 rcases h.1 with q|q
 ·left;omega
 ·exact .inr q
theorem ybhb(hg:ybc g)(hc:ydf g=true)(h:LdC g c)(hv:v<g.ids.length):ldR g 0 v (c.getD v []):=by
 have hpl:=hg.2.2.1;have hml:=yhc hg;have:=ylf hg hc (a:=ybp g.ids) (v:=v) (by omega) (by omega)
 exact⟨.inl (h.row v hv).2.2.1.1,fun q=>by omega⟩
theorem yru(hg:ybc g)(hc:ydf g=true){res:Nat->Nat->Nat}(hr:ybye res){ws:List Nat}{c:Conf}(hv:yga (yec nm nl nd np no nj) g c=true):∀p∈(yby (yec nm nl nd np no nj) g).runs res ws c,RInv (yby (yec nm nl nd np no nj) g) (fun c=>yga (yec nm nl nd np no nj) g c=true) (ldR g) p.1 p.2 :=
 ((ybrj hg).rounds (fun c v r hc' hn hall=>ld_next hg hc (yfj hg hc') hn r hall) ycfs).runs hr hv fun v h=>ybhb hg hc (yfj hg hv) h
def yoz(g:Gr)(c:Conf):Prop:=∀v,v<g.ids.length->c.getD v []=ytc g v
theorem yqh(hg:ybc g)(hc:ydf g=true){c:Conf}(hv:yga (yec nm nl nd np no nj) g c=true):ybv g c=true↔yoz g c:=by
 have hpl:=hg.2.2.1;have hl:=(yfj hg hv).len
 have hb:ygm g c=true:=by
  unfold ygm;rw[hc,zAS,<-hv];unfold yga;rw[hpl];congr 1
  funext v
  have hm0:(maxI g.ids = -1)=False:=by
   refine eq_false fun q=>?_;have h1:=ydh hg;have h2:=yjj hg;omega
  have hn0:((g.ports.length:Int)-1 = -1)=False:=eq_false (by have:=hg.1;omega)
  simp[ydz,yec,ybh,yccb,hpl,hm0,hn0];omega
 unfold ybv;rw[hb,zAS,hl];constructor
 ·intro h v hlt;exact of_decide_eq_true (List.all_eq_true.1 h v (List.mem_range.2 hlt))
 ·intro h;exact List.all_eq_true.2 fun v hq=>decide_eq_true (h v (List.mem_range.1 hq))
theorem ycks(hg:ybc g)(hc:ydf g=true):eccP g (ybp g.ids)=yfq (ybt g (ybp g.ids)):=by
 have hml:=yhc hg;have hpl:=hg.2.2.1;unfold eccP;rw[if_pos ⟨hc,by omega,by omega⟩,zG]
theorem yyo(hg:ybc g)(hc:ydf g=true){c:Conf}{r:Nat}(hr:eccP g (ybp g.ids)+(g.ids.length:Int)-1<(r:Int))(h:∀v,v<g.ids.length->ldR g r v (c.getD v [])):yoz g c:=fun v hv=>by
 have hml:=yhc hg;have hpl:=hg.2.2.1
 have hle:(ybt g (ybp g.ids)).getD v 0<=yfq (ybt g (ybp g.ids)):=by
  have hvl:v<(ybt g (ybp g.ids)).length:=by rw[yfx hg (by omega)];omega
  refine ybbv _ _ ?_;rw[zAC,zC hvl];exact zF hvl
 rw[ycks hg hc]at hr;exact(h v hv).2 (by omega)
theorem ycag(hg:ybc g)(hc:ydf g=true){c:Conf}(h:yoz g c)(r:Nat)(v:Nat)(hv:v<g.ids.length):ldR g r v (c.getD v []):=by
 have hml:=yhc hg;have hpl:=hg.2.2.1;obtain⟨k,e,h1,_,_⟩:=yfg hg hc (a:=ybp g.ids) (v:=v) (by omega) (by omega)
 rw[h v hv];exact⟨.inr ⟨ybp g.ids,k,hml,rfl,e,h1⟩,fun _=>rfl⟩
theorem ycej(hg:ybc g)(hc:ydf g=true){c:Conf}(hv:yga (yec nm nl nd np no nj) g c=true):ycc (yec nm nl nd np no nj) g c=0↔ybv g c=true:=by
 rw[yqh hg hc hv];constructor
 ·intro he;have:=(ybrj (nm:=nm) (nl:=nl) (nd:=nd) (np:=np) (no:=no) (nj:=nj) hg).silent (P:=ldR g) (fun c v r hc' hn hall=>ld_next hg hc (yfj hg hc') hn r hall) hv (fun v h=>ybhb hg hc (yfj hg hv) h) he;refine yyo hg hc (r:=1101) (by have:=(ybsu g (ybp g.ids)).2;have:=hg.2.1;have:=hg.2.2.1;omega) fun v hn=>this 1101 v hn
 ·intro h;refine(ybrj (nm:=nm) (nl:=nl) (nd:=nd) (np:=np) (no:=no) (nj:=nj) hg).en_zero hv (Sh.yced _ g c) fun v hn=>?_;have hn:v<g.ids.length:=hn;have h1:=ld_next hg hc (yfj hg hv) hn 1101 fun u hu=>ycag hg hc h 1101 u hu;have hml:=yhc hg;have hpl:=hg.2.2.1;have:=ylf hg hc (a:=ybp g.ids) (v:=v) (by omega) (by omega)
  have:=hg.2.1;rw[h1.2 (by omega)]
  exact h v hn
end
end
section
namespace Sh
open Go Ev
def ydih:LO:=[o3 (.mv (.const (.string (ByteArray.mk #[])))) 0 0]
def ydgu:LO:=[o3 (.mv (.const (.string (ByteArray.mk #[112,114,111,103,114,97,109,32,108,101,97,100,101,114,59,10,118,97,114,32,108,101,97,100,32,58,32,48,32,46,46,32,105,100,115,59,10,118,97,114,32,100,32,58,32,48,32,46,46,32,110,32,45,32,49,59,10,118,97,114,32,112,32,58,32,112,111,114,116,59,10,114,117,108,101,32,111,119,110,58,32,105,100,32,42,32,110,32,60,61,32,109,105,110,40,113,46,100,32,43,32,49,32,60,32,110,32,63,32,113,46,108,101,97,100,32,42,32,110,32,43,32,113,46,100,32,58,32,40,105,100,115,32,43,32,49,41,32,42,32,110,41,32,38,38,32,40,108,101,97,100,32,33,61,32,105,100,32,124,124,32,100,32,33,61,32,48,32,124,124,32,112,32,33,61,32,110,111,110,101,41,32,45,62,32,108,101,97,100,32,58,61,32,105,100,44,32,100,32,58,61,32,48,44,32,112,32,58,61,32,110,111,110,101,59,10,114,117,108,101,32,106,111,105,110,58,32,105,100,32,42,32,110,32,62,32,109,105,110,40,113,46,100,32,43,32,49,32,60,32,110,32,63,32,113,46,108,101,97,100,32,42,32,110,32,43,32,113,46,100,32,58,32,40,105,100,115,32,43,32,49,41,32,42,32,110,41,32,38,38,32,40,108,101,97,100,32,33,61,32,109,105,110,40,113,46,100,32,43,32,49,32,60,32,110,32,63,32,113,46,108,101,97,100,32,42,32,110,32,43,32,113,46,100,32,58,32,40,105,100,115,32,43,32,49,41,32,42,32,110,41,32,47,32,110,32,124,124,32,100,32,33,61,32,109,105,110,40,113,46,100,32,43,32,49,32,60,32,110,32,63,32,113,46,108,101,97,100,32,42,32,110,32,43,32,113,46,100,32,58,32,40,105,100,115,32,43,32,49,41,32,42,32,110,41,32,37,32,110,32,43,32,49,32,124,124,32,112,32,33,61,32,102,105,114,115,116,40,113,46,108,101,97,100,32,42,32,110,32,43,32,113,46,100,32,61,61,32,109,105,110,40,113,46,100,32,43,32,49,32,60,32,110,32,63,32,113,46,108,101,97,100,32,42,32,110,32,43,32,113,46,100,32,58,32,40,105,100,115,32,43,32,49,41,32,42,32,110,41,41,41,10,32,32,45,62,32,108,101,97,100,32,58,61,32,109,105,110,40,113,46,100,32,43,32,49,32,60,32,110,32,63,32,113,46,108,101,97,100,32,42,32,110,32,43,32,113,46,100,32,58,32,40,105,100,115,32,43,32,49,41,32,42,32,110,41,32,47,32,110,44,32,100,32,58,61,32,109,105,110,40,113,46,100,32,43,32,49,32,60,32,110,32,63,32,113,46,108,101,97,100,32,42,32,110,32,43,32,113,46,100,32,58,32,40,105,100,115,32,43,32,49,41,32,42,32,110,41,32,37,32,110,32,43,32,49,44,32,112,32,58,61,32,102,105,114,115,116,40,113,46,108,101,97,100,32,42,32,110,32,43,32,113,46,100,32,61,61,32,109,105,110,40,113,46,100,32,43,32,49,32,60,32,110,32,63,32,113,46,108,101,97,100,32,42,32,110,32,43,32,113,46,100,32,58,32,40,105,100,115,32,43,32,49,41,32,42,32,110,41,41,59,10])))) 0 0]
def c71:SC:=(.seq (.reg false ydih) (.seq (.reg false ydgu) .ret))
theorem ydki:Fn 71 c71 [.t 0]:=fn_0 Tryz.func71 (by kernel_rfl) (by kernel_rfl)
def ydny:LO:=[o3 (.box 24 (.tmp 0)) 3 0,o3 (.mv (.const (.bool false))) 6 0]
def ydmr:LO:=[ld' true 6 3 21 0,o3 (.call (.func 70) [(.tmp 21),(ci' 7)]) 22 1,o3 (.alloc 27 1 [.a (.slice none 0 0),.a (.slice none 0 0)]) 7 0,o0 (.store 2 (.tmp 7) (.tmp 22)) 7]
def ydnc:LO:=[fa' 1 1 7 23 0,ld' false 1 23 24 1,ln' 24 25 3,mv' 25 8 7]
def ydnr:LO:=[mv' 2 26 0,mv' 8 27 0,cl' 39 [26,27] 28 3,mv' 28 2 7]
def ydfz:LO:=[mv' 8 29 0,o3 (.mk 3 1 8 [.i .i64 0] (.tmp 29) (.tmp 29)) 30 1,mv' 30 9 3]
def ydfy:LO:=[o3 (.mv (ci' 0)) 10 0]
def ydci:LO:=[mv' 10 31 0,mv' 8 32 0,bn' .lss 31 32 33 3]
def ydkk:LO:=[mv' 9 36 0,mv' 10 37 0,mv' 10 38 0,mv' 2 39 0,bn' .add 38 39 40 12,mv' 8 41 0,bn' .rem 40 41 42 60,ix' 1 36 37 43 127,o0 (.store 1 (.tmp 43) (.tmp 42)) 255]
def ydlw:LO:=[mv' 10 34 0,o3 (.bin .add (.tmp 34) (ci' 1)) 35 1,mv' 35 10 3]
def ydhq:LO:=[ld' true 2 7 45 0,mv' 9 46 0,cl' 40 [45,46] 47 3,mv' 47 44 7,xt' 44 0 48 15,xt' 44 1 49 15,o3 (.alloc 27 1 [.a (.slice none 0 0),.a (.slice none 0 0)]) 11 0,o0 (.store 2 (.tmp 11) (.tmp 48)) 95,mv' 49 12 255]
def ycqr:LO:=[cl' 71 [] 51 0,ld' true 2 7 52 0,ld' true 2 7 53 0,cl' 72 [] 54 1,mv' 1 55 0,cl' 24 [53,54,55] 56 29,mv' 8 57 0,o3 (.bin .mul (ci' 2) (.tmp 57)) 58 64,o3 (.call (.func 26) [(.const (.slice none 0 0)),(.tmp 58)]) 59 253,o3 (.call (.func 22) [(.tmp 51),(.tmp 52),(ci' 4),(.tmp 56),(.tmp 59)]) 60 511,mv' 60 50 1023,xt' 50 0 61 2047,xt' 50 1 62 2047,xt' 50 2 63 2047,mv' 61 13 4095,mv' 62 14 24575,mv' 63 15 65535]
def ychy:LO:=[cl' 71 [] 65 0,ld' true 2 11 66 0,ld' true 2 11 67 0,cl' 72 [] 68 1,mv' 1 69 0,cl' 24 [67,68,69] 70 29,mv' 8 71 0,o3 (.bin .mul (ci' 2) (.tmp 71)) 72 64,o3 (.call (.func 26) [(.const (.slice none 0 0)),(.tmp 72)]) 73 253,o3 (.call (.func 22) [(.tmp 65),(.tmp 66),(ci' 4),(.tmp 70),(.tmp 73)]) 74 511,mv' 74 64 1023,xt' 64 0 75 2047,xt' 64 1 76 2047,xt' 64 2 77 2047,mv' 75 16 4095,mv' 76 17 24575,mv' 77 18 65535]
def ycin:LO:=[mv' 12 78 0,o3 (.bin .neq (.tmp 78) (ci' 0)) 79 1,mv' 79 80 3,⟨.mv (.tmp 15),some 81,some (80,false),7⟩,⟨.un .not (.tmp 81),some 82,some (80,false),15⟩,o3 (.pick (.tmp 80) (.const (.bool true)) (.tmp 82)) 83 31,mv' 83 84 63,⟨.mv (.tmp 18),some 85,some (84,false),127⟩,⟨.un .not (.tmp 85),some 86,some (84,false),255⟩,o3 (.pick (.tmp 84) (.const (.bool true)) (.tmp 86)) 87 511]
def ydnp:LO:=[o3 (.mv (.const (.bool false))) 6 0]
def ychr:LO:=[ld' true 2 7 88 0,mv' 13 89 0,mv' 13 90 0,ln' 90 91 4,o3 (.bin .sub (.tmp 91) (ci' 1)) 92 12,ix' 1 89 92 93 30,ld' false 1 93 94 62,cl' 73 [88,94] 95 127,ld' true 2 11 96 0,mv' 16 97 0,mv' 16 98 0,ln' 98 99 1024,o3 (.bin .sub (.tmp 99) (ci' 1)) 100 3072,ix' 1 97 100 101 7680,ld' false 1 101 102 15872,cl' 73 [96,102] 103 32767,mv' 95 19 65535,mv' 103 20 131071]
def ycvz:LO:=[cl' 74 [] 104 0,mv' 104 105 1,⟨.mv (.tmp 19),some 106,some (105,true),3⟩,⟨.bin .geq (.tmp 106) (ci' 0),some 107,some (105,true),7⟩,o3 (.pick (.tmp 105) (.tmp 107) (.const (.bool false))) 108 15,mv' 108 109 31,⟨.mv (.tmp 19),some 110,some (109,true),63⟩,⟨.mv (.tmp 8),some 111,some (109,true),63⟩,⟨.bin .lss (.tmp 110) (.tmp 111),some 112,some (109,true),255⟩,o3 (.pick (.tmp 109) (.tmp 112) (.const (.bool false))) 113 511,mv' 113 114 1023,⟨.mv (.tmp 20),some 115,some (114,true),2047⟩,⟨.mv (.tmp 9),some 116,some (114,true),2047⟩,⟨.mv (.tmp 19),some 117,some (114,true),2047⟩,⟨.idx 1 (.tmp 116) (.tmp 117),some 118,some (114,true),14335⟩,⟨.load false 1 (.tmp 118),some 119,some (114,true),30719⟩,⟨.bin .eql (.tmp 115) (.tmp 119),some 120,some (114,true),65535⟩,o3 (.pick (.tmp 114) (.tmp 120) (.const (.bool false))) 121 131071,mv' 121 122 262143,⟨.faddr 0 1 (.tmp 7),some 123,some (122,true),524287⟩,⟨.load false 1 (.tmp 123),some 124,some (122,true),1048575⟩,⟨.mv (.tmp 19),some 125,some (122,true),524287⟩,⟨.idx 1 (.tmp 124) (.tmp 125),some 126,some (122,true),4194303⟩,⟨.load false 1 (.tmp 126),some 127,some (122,true),8388607⟩,⟨.faddr 0 1 (.tmp 11),some 128,some (122,true),524287⟩,⟨.load false 1 (.tmp 128),some 129,some (122,true),17301503⟩,⟨.mv (.tmp 20),some 130,some (122,true),524287⟩,⟨.idx 1 (.tmp 129) (.tmp 130),some 131,some (122,true),117964799⟩,⟨.load false 1 (.tmp 131),some 132,some (122,true),252182527⟩,⟨.bin .eql (.tmp 127) (.tmp 132),some 133,some (122,true),536870911⟩,o3 (.pick (.tmp 122) (.tmp 133) (.const (.bool false))) 134 1073741823,mv' 134 6 2147483647]
def c20:SC:=(.seq (.reg false ydny) (.seq (.reg false ydmr) (.seq (.reg false ydnc) (.seq (.reg false ydnr) (.seq (.reg false ydfz) (.seq (.seq (.reg false ydfy) (.block 0 (.loop (.seq (.seq (.reg false ydci) (.cond (.tmp 33) .skip (.exit 0))) (.seq (.block 1 (.reg false ydkk)) (.reg false ydlw)))))) (.seq (.reg false ydhq) (.seq (.reg true ycqr) (.seq (.reg true ychy) (.seq (.seq (.reg false ycin) (.cond (.tmp 87) (.seq (.reg false ydnp) .ret) .skip)) (.seq (.reg true ychr) (.seq (.reg true ycvz) .ret))))))))))))
theorem ydmf:Fn 20 c20 [.t 6]:=fn_0 Tryz.func20 (by kernel_rfl) (by kernel_rfl)
def ydnt:LO:=[o3 (.box 27 (.tmp 0)) 2 0,o3 (.alloc 27 1 [.a (.slice none 0 0),.a (.slice none 0 0)]) 4 0,o3 (.mv (ci' 0)) 5 0]
def ydhv:LO:=[ld' true 2 2 11 0,cl' 96 [11] 12 1,o3 (.un .not (.tmp 12)) 13 3]
def ydpa:LO:=[o3 (.build [.a (.slice none 0 0),.a (.slice none 0 0)] []) 14 0,o0 (.store 2 (.tmp 4) (.tmp 14)) 1,o3 (.mv (ci' 1)) 5 3]
def ydif:LO:=[mv' 1 15 0,fa' 0 1 2 16 0,ld' false 1 16 17 2,ln' 17 18 6,cl' 97 [15,18] 19 15,o3 (.un .not (.tmp 19)) 20 31]
def ydps:LO:=[o3 (.build [.a (.slice none 0 0),.a (.slice none 0 0)] []) 21 0,o0 (.store 2 (.tmp 4) (.tmp 21)) 1,o3 (.mv (ci' 2)) 5 3]
def ydfg:LO:=[fa' 0 1 2 22 0,ld' false 1 22 23 1,ln' 23 24 3,cl' 98 [24] 25 7,o3 (.alloc 27 1 [.a (.slice none 0 0),.a (.slice none 0 0)]) 6 0,o0 (.store 2 (.tmp 6) (.tmp 25)) 31]
def ydmj:LO:=[fa' 1 1 2 26 0,ld' false 1 26 27 1,ln' 27 28 3,o3 (.mv (ci' 0)) 29 0]
def ydeg:LO:=[bn' .lss 29 28 30 0]
def ydnb:LO:=[mv' 29 31 0,ix' 1 27 29 32 0,ld' false 1 32 33 2,mv' 31 7 7,mv' 33 8 15]
def ydio:LO:=[fa' 0 1 6 34 0,ld' false 1 34 35 1,mv' 1 36 0,mv' 7 37 0,ix' 1 36 37 38 12,ld' false 1 38 39 28,fa' 0 1 2 40 0,ld' false 1 40 41 64,mv' 7 42 0,ix' 1 41 42 43 448,ld' false 1 43 44 960,ix' 1 35 39 45 2047,o0 (.store 1 (.tmp 45) (.tmp 44)) 4095]
def yciv:LO:=[mv' 8 46 0,ln' 46 47 1,o3 (.mv (ci' 0)) 48 0]
def ybrp:LO:=[bn' .lss 48 47 49 0]
def yckt:LO:=[ix' 2 46 48 50 0,ld' true 2 50 51 1,o3 (.alloc 95 1 [.i .i64 0,.i .i64 0]) 10 0,o0 (.store 2 (.tmp 10) (.tmp 51)) 7]
def ycwm:LO:=[fa' 1 1 6 52 0,ld' false 1 52 53 1,mv' 1 54 0,mv' 7 55 0,ix' 1 54 55 56 12,ld' false 1 56 57 28,fa' 1 1 6 58 0,ld' false 1 58 59 64,mv' 1 60 0,mv' 7 61 0,ix' 1 60 61 62 768,ld' false 1 62 63 1792,ix' 1 59 63 64 4032,ld' false 1 64 65 8128,mv' 1 66 0,fa' 0 1 10 67 0,ld' false 1 67 68 32768,ix' 1 66 68 69 114688,ld' false 1 69 70 245760,fa' 1 1 10 71 0,ld' false 1 71 72 524288,o3 (.build [.i .i64 0,.i .i64 0] [(0,1,(.tmp 70)),(1,1,(.tmp 72))]) 73 2080768,o3 (.bslice 95 2 1 [.i .i64 0,.i .i64 0] [(0,2,(.tmp 73))]) 74 4177920,o3 (.app 95 2 16 (.tmp 65) (.tmp 74)) 75 8388544,ix' 1 53 57 76 16777215,o0 (.store 1 (.tmp 76) (.tmp 75)) 33554431]
def ycha:LO:=[o3 (.bin .add (.tmp 48) (ci' 1)) 77 0,mv' 77 48 1]
def ycng:LO:=[o3 (.bin .add (.tmp 29) (ci' 1)) 78 0,mv' 78 29 1]
def ycxf:LO:=[ld' true 2 6 79 0,o0 (.store 2 (.tmp 4) (.tmp 79)) 1,o3 (.mv (ci' 0)) 5 3]
def c40:SC:=(.seq (.reg false ydnt) (.seq (.seq (.reg false ydhv) (.cond (.tmp 13) (.seq (.reg false ydpa) .ret) .skip)) (.seq (.seq (.reg false ydif) (.cond (.tmp 20) (.seq (.reg false ydps) .ret) .skip)) (.seq (.reg false ydfg) (.seq (.seq (.reg false ydmj) (.block 0 (.loop (.seq (.reg false ydeg) (.seq (.cond (.tmp 30) .skip (.exit 0)) (.seq (.block 1 (.seq (.reg false ydnb) (.seq (.reg true ydio) (.seq (.reg false yciv) (.block 2 (.loop (.seq (.reg false ybrp) (.seq (.cond (.tmp 49) .skip (.exit 2)) (.seq (.block 3 (.seq (.reg false yckt) (.reg true ycwm))) (.reg false ycha)))))))))) (.reg false ycng))))))) (.seq (.reg false ycxf) .ret))))))
theorem yddj:FnU 40 c40 [.c 4 true 2,.t 5]:=fn_u Tryz.func40 (by kernel_rfl) (by kernel_rfl)
def ydfu:LO:=[o3 (.mv (.const (.bool false))) 4 0]
def ydey:LO:=[mv' 0 8 0,ln' 8 9 1,mv' 1 10 0,bn' .neq 9 10 11 7]
def ydph:LO:=[o3 (.mv (.const (.bool false))) 4 0]
def ydjc:LO:=[mv' 1 12 0,o3 (.mk 4 1 1 [.b false] (.tmp 12) (.tmp 12)) 13 1,mv' 13 5 3]
def ydnu:LO:=[mv' 0 14 0,ln' 14 15 1,o3 (.mv (ci' 0)) 16 0]
def yddd:LO:=[bn' .lss 16 15 17 0]
def ydjm:LO:=[ix' 1 14 16 18 0,ld' false 1 18 19 1,mv' 19 7 3]
def ydjd:LO:=[mv' 7 20 0,o3 (.bin .lss (.tmp 20) (ci' 0)) 21 1,mv' 21 22 3,⟨.mv (.tmp 7),some 23,some (22,false),7⟩,⟨.mv (.tmp 1),some 24,some (22,false),7⟩,⟨.bin .geq (.tmp 23) (.tmp 24),some 25,some (22,false),31⟩,o3 (.pick (.tmp 22) (.const (.bool true)) (.tmp 25)) 26 63,mv' 26 27 127,⟨.mv (.tmp 5),some 28,some (27,false),255⟩,⟨.mv (.tmp 7),some 29,some (27,false),255⟩,⟨.idx 1 (.tmp 28) (.tmp 29),some 30,some (27,false),1023⟩,⟨.load false 1 (.tmp 30),some 31,some (27,false),2047⟩,o3 (.pick (.tmp 27) (.const (.bool true)) (.tmp 31)) 32 4095]
def ydpn:LO:=[o3 (.mv (.const (.bool false))) 4 0]
def ydmw:LO:=[mv' 5 33 0,mv' 7 34 0,ix' 1 33 34 35 3,o0 (.store 1 (.tmp 35) (.const (.bool true))) 7]
def ycoc:LO:=[o3 (.bin .add (.tmp 16) (ci' 1)) 36 0,mv' 36 16 1]
def ycql:LO:=[o3 (.mv (.const (.bool true))) 4 0]
def c97:SC:=(.seq (.reg false ydfu) (.seq (.seq (.reg false ydey) (.cond (.tmp 11) (.seq (.reg false ydph) .ret) .skip)) (.seq (.reg false ydjc) (.seq (.seq (.reg false ydnu) (.block 0 (.loop (.seq (.reg false yddd) (.seq (.cond (.tmp 17) .skip (.exit 0)) (.seq (.block 1 (.seq (.reg false ydjm) (.seq (.seq (.reg false ydjd) (.cond (.tmp 32) (.seq (.reg false ydpn) .ret) .skip)) (.reg false ydmw)))) (.reg false ycoc))))))) (.seq (.reg false ycql) .ret)))))
theorem ydfp:Fn 97 c97 [.t 4]:=fn_0 Tryz.func97 (by kernel_rfl) (by kernel_rfl)
def ydnv:LO:=[o3 (.alloc 27 1 [.a (.slice none 0 0),.a (.slice none 0 0)]) 2 0]
def ydnq:LO:=[mv' 0 5 0,o3 (.mk 3 1 8 [.i .i64 0] (.tmp 5) (.tmp 5)) 6 1,mv' 0 7 0,o3 (.mk 71 1 24 [.a (.slice none 0 0)] (.tmp 7) (.tmp 7)) 8 4,o3 (.build [.a (.slice none 0 0),.a (.slice none 0 0)] [(0,1,(.tmp 6)),(1,1,(.tmp 8))]) 9 15,o3 (.alloc 27 1 [.a (.slice none 0 0),.a (.slice none 0 0)]) 3 0,o0 (.store 2 (.tmp 3) (.tmp 9)) 63]
def ydkm:LO:=[fa' 0 1 3 10 0,ld' false 1 10 11 1,ln' 11 12 3,o3 (.mv (ci' 0)) 13 0]
def ycyi:LO:=[bn' .lss 13 12 14 0]
def ydii:LO:=[mv' 13 15 0,mv' 15 4 1]
def ydmq:LO:=[fa' 0 1 3 16 0,ld' false 1 16 17 1,mv' 4 18 0,mv' 4 19 0,ix' 1 17 18 20 15,o0 (.store 1 (.tmp 20) (.tmp 19)) 31]
def ydlt:LO:=[o3 (.bin .add (.tmp 13) (ci' 1)) 21 0,mv' 21 13 1]
def ydgt:LO:=[ld' true 2 3 22 0,o0 (.store 2 (.tmp 2) (.tmp 22)) 1]
def c98:SC:=(.seq (.reg false ydnv) (.seq (.reg true ydnq) (.seq (.seq (.reg false ydkm) (.block 0 (.loop (.seq (.reg false ycyi) (.seq (.cond (.tmp 14) .skip (.exit 0)) (.seq (.block 1 (.seq (.reg false ydii) (.reg false ydmq))) (.reg false ydlt))))))) (.seq (.reg false ydgt) .ret))))
theorem ydbu:FnM 98 c98 [.c 2 true 2]:=fn_m Tryz.func98 (by kernel_rfl) (by kernel_rfl)
end Sh
end
section
namespace Sh
open Ev Go.RowKit
theorem ybzn:Returns zT 71 [] (.a (.string Lqt)):=by
 refine Returns.of (ydki _ _ ?_);simp only[c71,ydih,ydgu,go_sem,↓reduceIte];exact Sim.refl _
theorem ybky:Returns zT 72 [] (ydd LqP.vars):=by
 have e:LqP.vars=yye:=by kernel_rfl
 rw[e];exact ybvx
end Sh
end
section
namespace Sh
theorem ybxf(a:Nat):difB a a=0:=(yel _).2 fun i=>by rw[ymk];cases a.testBit i<;>rfl
theorem ybjb(S:Sys):∀(ws:List Nat) (c:Conf) (k:Cnt),k.pend=S.en c->∀(i:Nat) p,(S.run resS ws c k)[i]?=some p->p.2.rounds=k.rounds+i+1/\p.2.pend=S.en p.1
 |[],c,k,_,i,p,h=>by simp[Sys.run]at h
 | w :: ws,c,k,hk,i,p,h=>by
   unfold Sys.run at h;split at h
   ·simp at h
   ·have e:resS (S.en c) w=S.en c:=rfl;rw[e]at h
    have hr:(addP k (S.en c) (S.en (S.mv c (S.en c)))).rounds=k.rounds+1/\(addP k (S.en c) (S.en (S.mv c (S.en c)))).pend=S.en (S.mv c (S.en c)):=by
     unfold addP;rw[hk,ybxf];simp
    cases i with
    | zero =>
      simp only[zAM]at h;cases h
      exact⟨hr.1,hr.2⟩
    | succ i =>
      have:=ybjb S ws _ _ hr.2 i p (by simpa using h)
      rw[hr.1]at this;exact⟨by omega,this.2⟩
theorem ybwo{S:Sys}{ws:List Nat}{c:Conf}{i:Nat}{p:Conf×Cnt}(h:(S.runs resS ws c)[i]?=some p):p.2.rounds=i:=by
 cases i with
 | zero =>
   simp only[Sys.runs,zAM]at h;cases h
   rfl
 | succ i =>
   have:=(ybjb S ws c (ydx (S.en c)) rfl i p (by simpa[Sys.runs]using h)).1
   have e:(ydx (S.en c)).rounds=0:=rfl;omega
theorem ybgw(S:Sys)(res:Nat->Nat->Nat):∀(ws:List Nat) (c:Conf) (k:Cnt),(S.run res ws c k).length<ws.length->S.en (((c,k)::S.run res ws c k).getD (S.run res ws c k).length default).1=0
 |[],c,k,h=>by simp at h
 | w :: ws,c,k,h=>by
   unfold Sys.run at h ⊢
   by_cases h0:S.en c=0
   ·simp only[if_pos h0];exact h0
   ·simp only[if_neg h0,zAJ]at h ⊢;exact ybgw S res ws _ _ (by omega)
theorem RunD.over{S:Sys}{res:Nat->Nat->Nat}{ws:List Nat}{c:Conf}{n:Nat}{Cs:List Conf}{Ks:List Cnt}(h:RunD S res ws c n Cs Ks):S.en (Cs.getD (n-1) [])=0\/n=ws.length+1:=by
 by_cases q:n=ws.length+1
 ·exact .inr q
 ·left
  have hl:=h.len;have h1:=h.le
  have h2:=ybgw S res ws c (ydx (S.en c)) (by
   simp only[Sys.runs,zAJ]at hl;omega)
  have e:(S.run res ws c (ydx (S.en c))).length=n-1:=by simp only[Sys.runs,zAJ]at hl;omega
  rw[e]at h2;have h3:=(h.at_ (show n-1<n by have:=h.pos;omega)).2
  have e2:((c,ydx (S.en c))::S.run res ws c (ydx (S.en c))).getD (n-1) default=(Cs.getD (n-1) [],Ks.getD (n-1) default):=by
   rw[zAC];have h3:((c,ydx (S.en c))::S.run res ws c (ydx (S.en c)))[n-1]?=some (Cs.getD (n-1) [],Ks.getD (n-1) default):=h3;rw[h3];rfl
  rw[e2]at h2;exact h2
end Sh
end
section
structure TreeM(g:Gr):Prop where
 up:∀a v u,a<g.ports.length->adj g v u->(ybt g a).getD u 0=(ybt g a).getD v 0-1\/(ybt g a).getD u 0=(ybt g a).getD v 0+1
 one:∀a v u w,a<g.ports.length->adj g v u->adj g v w->(ybt g a).getD u 0=(ybt g a).getD v 0-1->(ybt g a).getD w 0=(ybt g a).getD v 0-1->u=w
end
section
def dP(g:Gr)(a v:Nat):Int:=(ybt g a).getD v 0
structure Tr(g:Gr):Prop where
 good:ybc g
 conn:ydf g=true
 m:TreeM g
section
variable {g:Gr}{a b u v w x:Nat}
theorem Tr.self(h:Tr g)(ha:a<g.ports.length):dP g a a=0:=ytd h.good h.conn ha
theorem Tr.nonneg(h:Tr g)(ha:a<g.ports.length)(hv:v<g.ports.length):0<=dP g a v:=(ylf h.good h.conn ha hv).1
theorem Tr.pos(h:Tr g)(ha:a<g.ports.length)(hv:v<g.ports.length)(hne:v≠a):1<=dP g a v:=ybir h.good h.conn ha hv hne
theorem Tr.up(h:Tr g)(ha:a<g.ports.length)(hu:adj g v u):dP g a u=dP g a v-1\/dP g a u=dP g a v+1:=h.m.up a v u ha hu
theorem Tr.one(h:Tr g)(ha:a<g.ports.length)(hu:adj g v u)(hx:adj g v x)(e1:dP g a u=dP g a v-1)(e2:dP g a x=dP g a v-1):u=x:=h.m.one a v u x ha hu hx e1 e2
theorem Tr.back(h:Tr g)(ha:a<g.ports.length)(hv:v<g.ports.length)(hne:v≠a):∃u,adj g v u/\dP g a u=dP g a v-1:=yyw h.good h.conn ha hv hne
theorem Tr.adj1(h:Tr g)(hu:adj g v u):dP g v u=1:=by
 obtain⟨hv,hu'⟩:=h.good.adj_lt hu;have h1:=h.up hv hu;have h2:=h.self hv;have h3:=h.nonneg hv hu';omega
theorem Tr.ne(h:Tr g)(hu:adj g v u):v≠u:=fun e=>by
 subst e;have:=h.adj1 hu;have:=h.self (h.good.adj_lt hu).1;omega
def rchP(g:Gr)(v u:Nat):Int:=(zJ g.ports.length).foldl (fun m w=>if dP g w u<dP g w v then max m (dP g w v)else m) 0
theorem yxs(f:Nat->Int)(p:Nat->Prop)[DecidablePred p]:∀(l:List Nat) (m:Int),m<=l.foldl (fun m w=>if p w then max m (f w)else m) m/\(∀w∈l,p w->f w<=l.foldl (fun m w=>if p w then max m (f w)else m) m)/\(l.foldl (fun m w=>if p w then max m (f w)else m) m=m\/∃w∈l,p w/\f w=l.foldl (fun m w=>if p w then max m (f w)else m) m)
 |[],m=>⟨zAO _,fun w hw=>absurd hw zAF,.inl rfl⟩
 | x :: l,m=>by
   obtain⟨h1,h2,h3⟩:=yxs f p l (if p x then max m (f x)else m)
   simp only[zU];refine⟨?_,fun w hw hp=>?_,?_⟩
   ·clear h2 h3
    have:m<=if p x then max m (f x)else m:=by split<;>omega
    omega
   ·rcases List.mem_cons.1 hw with rfl|hw
    ·rw[if_pos hp]at h1 ⊢;omega
    ·exact h2 w hw hp
   ·clear h2
    rcases h3 with h3|⟨w,hw,hp,e⟩
    ·by_cases hp:p x
     ·rw[if_pos hp]at h3 ⊢;rcases zAZ (f x) m with q|q
      ·left;rw[h3];omega
      ·right;exact⟨x,zZ,hp,by rw[h3];omega⟩
     ·rw[if_neg hp]at h3 ⊢;exact .inl h3
    ·exact .inr ⟨w,zH _ hw,hp,e⟩
theorem ybcb(hw:w<g.ports.length)(h:dP g w u<dP g w v):dP g w v<=rchP g v u :=
 (yxs (fun w=>dP g w v) (fun w=>dP g w u<dP g w v) (zJ g.ports.length) 0).2.1 w (List.mem_range.2 hw) h
theorem Tr.rch_pos(h:Tr g)(hu:adj g v u):1<=rchP g v u:=by
 obtain⟨hv,hu'⟩:=h.good.adj_lt hu;have h1:=h.adj1 (h.good.adj_symm hu);have h2:=h.self hu';have:=ybcb (g:=g) (w:=u) (u:=u) (v:=v) hu' (by omega)
 omega
theorem Tr.rch_ex(h:Tr g)(hu:adj g v u):∃w,w<g.ports.length/\dP g w u<dP g w v/\dP g w v=rchP g v u:=by
 rcases(yxs (fun w=>dP g w v) (fun w=>dP g w u<dP g w v) (zJ g.ports.length) 0).2.2 with e|⟨w,hw,hp,e⟩
 ·have:=h.rch_pos hu;have e:rchP g v u=0:=e;omega
 ·exact⟨w,List.mem_range.1 hw,hp,e⟩
theorem Tr.into(h:Tr g)(hu:adj g v u)(hx:adj g u x)(hne:x≠v)(hw:w<g.ports.length)(hs:dP g w x<dP g w u):dP g w u<dP g w v/\dP g w v=dP g w u+1:=by
 have h1:=h.up hw hx;have h2:=h.up hw (h.good.adj_symm hu);rcases h2 with h2|h2
 ·exact absurd (h.one hw hx (h.good.adj_symm hu) (by omega) h2) hne
 ·omega
theorem Tr.rch_step(h:Tr g)(hu:adj g v u)(hx:adj g u x)(hne:x≠v):1+rchP g u x<=rchP g v u:=by
 obtain⟨w,hw,h1,h2⟩:=h.rch_ex hx;obtain⟨h3,h4⟩:=h.into hu hx hne hw h1;have:=ybcb hw h3;omega
theorem Tr.rch_from(h:Tr g)(hu:adj g v u)(h2:2<=rchP g v u):∃x,adj g u x/\x≠v/\rchP g v u=1+rchP g u x:=by
 obtain⟨hv,hu'⟩:=h.good.adj_lt hu;obtain⟨w,hw,h3,h4⟩:=h.rch_ex hu;have h5:=h.up hw (h.good.adj_symm hu)
 have hne:w≠u:=fun e=>by
  subst e;have:=h.self hw;omega
 obtain⟨x,hx,h6⟩:=h.back hw hu' (fun e=>hne e.symm);have hxv:x≠v:=fun e=>by subst e;omega
 refine⟨x,hx,hxv,?_⟩;have a:=h.rch_step hu hx hxv;have b:=ybcb (g:=g) (u:=x) (v:=u) hw (by omega)
 omega
def step2(p:Int×Int)(a:Int):Int×Int:=if a>p.1 then(a,p.1)else(p.1,max p.2 a)
def top2(b:Int)(l:List Int):Int×Int:=l.foldl step2 (b,b)
theorem ybok(b:Int)(l:List Int)(a:Int):top2 b (l++[a])=step2 (top2 b l) a:=by unfold top2;rw[List.foldl_append];rfl
theorem yzv(b:Int)(l:List Int):∀k,k<=l.length->b<=(top2 b (l.take k)).2/\(top2 b (l.take k)).2<=(top2 b (l.take k)).1/\∀m,b<m->(m<=(top2 b (l.take k)).1↔1<=(l.take k).countP fun x=>decide (m<=x))/\(m<=(top2 b (l.take k)).2↔2<=(l.take k).countP fun x=>decide (m<=x))
 | 0,_=>by
   refine⟨zAO _,zAO _,fun m hm=>?_⟩;have e:(top2 b (l.take 0))=(b,b):=rfl;rw[e];simp only[List.take_zero,zAX];omega
 | k + 1,hk=>by
   obtain⟨h1,h2,h3⟩:=yzv b l k (by omega)
   rw[zQ (show k<l.length by omega),ybok]
   generalize l[k]=a
   have hc:∀m,(l.take k++[a]).countP (fun x=>decide (m<=x))=(l.take k).countP (fun x=>decide (m<=x))+if m<=a then 1 else 0:=fun m=>by
    rw[List.countP_append,zAU,zAX];simp
   generalize top2 b (l.take k)=P at *
   unfold step2;split
   ·refine⟨by simp only;omega,by simp only;omega,fun m hm=>?_⟩
    obtain⟨h4,h5⟩:=h3 m hm;rw[hc];simp only;constructor
    ·split<;>omega
    ·split<;>omega
   ·refine⟨by simp only;omega,by simp only;omega,fun m hm=>?_⟩
    obtain⟨h4,h5⟩:=h3 m hm;rw[hc];simp only;constructor
    ·split<;>omega
    ·split<;>omega
theorem ybhl(b:Int)(l:List Int):b<=(top2 b l).2/\(top2 b l).2<=(top2 b l).1/\∀m,b<m->(m<=(top2 b l).1↔1<=l.countP fun x=>decide (m<=x))/\(m<=(top2 b l).2↔2<=l.countP fun x=>decide (m<=x)):=by
 have h:=yzv b l l.length (zM _)
 rwa [zO]at h
theorem yzp{p:Int×Int->Bool}:∀{ls:List (Int×Int)},(ls.map (·.1)).Nodup->(2<=ls.countP p↔∃a∈ls,∃b∈ls,a.1≠b.1/\p a=true/\p b=true)
 |[],_=>by simp
 | l :: ls,hn=>by
   have hn:=List.nodup_cons.1 hn;have ih:=yzp (p:=p) hn.2
   have one:1<=ls.countP p↔∃a∈ls,p a=true:=by
    rw[Nat.one_le_iff_ne_zero,Nat.ne_zero_iff_zero_lt,List.countP_pos_iff]
   have hno:∀a∈ls,l.1≠a.1:=fun a ha e=>hn.1 (List.mem_map.2 ⟨a,ha,e.symm⟩);rw[zAU];constructor
   ·intro h
    by_cases hp:p l=true
    ·rw[if_pos hp]at h;obtain⟨a,ha,hpa⟩:=one.1 (by omega)
     exact⟨l,zZ,a,zH _ ha,hno a ha,hp,hpa⟩
    ·rw[if_neg hp]at h;obtain⟨a,ha,b,hb,q⟩:=ih.1 (by omega)
     exact⟨a,zH _ ha,b,zH _ hb,q⟩
   ·rintro⟨a,ha,b,hb,hab,hpa,hpb⟩;rcases List.mem_cons.1 ha with ea|ha
    ·rcases List.mem_cons.1 hb with eb|hb
     ·exact absurd (by rw[ea,eb]) hab
     ·have:=one.2 ⟨b,hb,hpb⟩;rw[<-ea,if_pos hpa];omega
    ·rcases List.mem_cons.1 hb with eb|hb
     ·have:=one.2 ⟨a,ha,hpa⟩;rw[<-eb,if_pos hpb];omega
     ·have:=ih.2 ⟨a,ha,b,hb,hab,hpa,hpb⟩;omega
theorem yrt(hg:ybc g)(hv:v<g.ports.length):((g.ports.getD v []).map (·.1)).Nodup:=by
 have h:=(hg.2.2.2.2.2.1 ⟨v,hv⟩).2;have e0:g.ports[v]=g.ports.getD v []:=by rw[Sh.getD_at hv]
 have h:((g.ports[v]).map (·.1)).Nodup:=h
 rwa [e0]at h
theorem ydmc(hg:ybc g)(hv:v<g.ports.length){f:Nat->Int}{m:Int}:2<=((g.ports.getD v []).map fun l=>f l.1.toNat).countP (fun x=>decide (m<=x))↔∃a b,adj g v a/\adj g v b/\a≠b/\m<=f a/\m<=f b:=by
 rw[List.countP_map,yzp (yrt hg hv)];constructor
 ·rintro⟨a,ha,b,hb,hne,hpa,hpb⟩;obtain⟨a1,_,a3,_⟩:=yhn hg hv ha;obtain⟨b1,_,b3,_⟩:=yhn hg hv hb;exact⟨_,_,a3,b3,by omega,of_decide_eq_true hpa,of_decide_eq_true hpb⟩
 ·rintro⟨a,b,ha,hb,hne,hpa,hpb⟩;obtain⟨la,hla,ea⟩:=ybez ha;obtain⟨lb,hlb,eb⟩:=ybez hb;exact⟨la,hla,lb,hlb,fun e=>hne (by rw[<-ea,<-eb,e]),decide_eq_true (by show m<=f la.1.toNat;rw[ea];exact hpa),decide_eq_true (by show m<=f lb.1.toNat;rw[eb];exact hpb)⟩
def htP(g:Gr)(v:Nat):Int:=(top2 0 ((g.ports.getD v []).map fun l=>rchP g v l.1.toNat)).2
theorem ybpn(g:Gr)(v:Nat):0<=htP g v:=(ybhl 0 _).1
theorem ybpd(hg:ybc g)(hv:v<g.ports.length){m:Int}(hm:1<=m):m<=htP g v↔∃a b,adj g v a/\adj g v b/\a≠b/\m<=rchP g v a/\m<=rchP g v b:=by
 rw[<-ydmc hg hv (f:=fun u=>rchP g v u)];exact((ybhl 0 _).2.2 m (by omega)).2
theorem Tr.thru(h:Tr g)(hw:w<g.ports.length):∀(k:Nat) (v u x:Nat),adj g v u->dP g w u=dP g w v+1->x<g.ports.length->dP g x u<dP g x v->(dP g x u).toNat<k->dP g w x=dP g w u+dP g x u
 |0,v,u,x,_,_,_,_,hk=>by omega
 | k + 1,v,u,x,hu,hwu,hx,hs,hk=>by
   obtain⟨hv,hu'⟩:=h.good.adj_lt hu
   by_cases e:x=u
   ·subst e;rw[h.self hx];omega
   ·obtain⟨y,hy,h1⟩:=h.back hx hu' (fun q=>e q.symm);have hyv:y≠v:=fun q=>by subst q;omega
    have h2:=h.up hw hy
    have hw1:dP g w y=dP g w u+1:=by
     rcases h2 with h2|h2
     ·exact absurd (h.one hw hy (h.good.adj_symm hu) h2 (by omega)) hyv
     ·exact h2
    have:=h.nonneg hx (h.good.adj_lt hy).2;have ih:=Tr.thru h hw k u y x hy hw1 hx (by omega) (by omega)
    omega
theorem Tr.apart(h:Tr g)(ha:adj g v a)(hb:adj g v b)(hne:a≠b)(hw:w<g.ports.length)(hx:x<g.ports.length)(h1:dP g w a<dP g w v)(h2:dP g x b<dP g x v):dP g w x=dP g w v+dP g x v:=by
 have a1:=h.up hw ha;have b1:=h.up hw hb;have b2:=h.up hx hb
 have hwb:dP g w b=dP g w v+1:=by
  rcases b1 with q|q
  ·exact absurd (h.one hw ha hb (by omega) q) hne
  ·exact q
 have:=h.thru hw _ v b x hb hwb hx h2 (zAK _);omega
end
end
section
section
variable {nm nh nr:ByteArray}{g:Gr}{c:Conf}{v:Nat}
structure CnC(g:Gr)(c:Conf):Prop where
 len:c.length=g.ids.length
 row:∀v,v<g.ids.length->(c.getD v []).length=1/\(0<=(c.getD v []).getD 0 0/\(c.getD v []).getD 0 0<=g.ids.length)
end
end
section
section
variable {nm nl nd np no nj nh nr:ByteArray}{g:Gr}
theorem ybxe(hg:ybc g)(hc:ydf g=true):eccP g (ybp g.ids)<=(g.ids.length:Int)-1:=by
 have hml:=yhc hg;have hpl:=hg.2.2.1;rw[ycks hg hc];refine ypg _ _ (by omega) fun x hx=>?_
 obtain⟨i,hi,rfl⟩:=List.getElem_of_mem hx;have hi':i<g.ports.length:=by rwa [yfx hg (by omega)]at hi
 have:=(ylf hg hc (a:=ybp g.ids) (v:=i) (by omega) hi').2
 rw[Sh.getD_at hi]at this;omega
theorem ypp(hg:ybc g)(hc:ydf g=true){ws:List Nat}{c:Conf}{n:Nat}{Cs:List Conf}{Ks:List Cnt}(hv:yga (yec nm nl nd np no nj) g c=true)(hD:Sh.RunD (yby (yec nm nl nd np no nj) g) resS ws c n Cs Ks)(hw:2*g.ports.length<=ws.length) :
 yoz g (Cs.getD (n-1) []):=by
 have hn:=hD.pos;have hpl:=hg.2.2.1;have h0:=hg.1;have hi:=yru hg hc Sh.ybgb hv _ (hD.at_ (show n-1<n by omega)).1
 rcases hD.over with h|h
 ·exact(yqh hg hc hi.valid).1 ((ycej hg hc hi.valid).1 h)
 ·have hr:=Sh.ybwo (hD.at_ (show n-1<n by omega)).2
  have he:=ybxe hg hc;exact yyo hg hc (r:=(Ks.getD (n-1) default).rounds) (by simp only at hr;omega) hi.all
end
end
section
def rotN(n t v:Nat):Nat:=if v+t<n then v+t else v+t-n
theorem yft{n t v:Nat}(ht:t<=n)(hv:v<n):rotN n t v<n:=by unfold rotN;split<;>omega
theorem yiq{n t v:Nat}(ht:t<=n)(hv:v<n):rotN n (n-t) (rotN n t v)=v:=by unfold rotN;split<;>split<;>omega
theorem yek{n t v:Nat}(ht:t<=n)(hv:v<n):rotN n t (rotN n (n-t) v)=v:=by unfold rotN;split<;>split<;>omega
theorem ycyt{n t v:Nat}(ht:t<n)(hv:v<n):(v+t)%n=rotN n t v:=by
 unfold rotN;split
 ·exact zAV (by assumption)
 ·rw[Nat.mod_eq_sub_mod (by omega),zAV (by omega)]
theorem yss{n t u v:Nat}(ht:t<=n)(hu:u<n)(hv:v<n)(e:rotN n t u=rotN n t v):u=v:=by
 rw[<-yiq ht hu,e,yiq ht hv]
def rotL(n t:Nat)(l:Int×Int):Int×Int:=(((rotN n t l.1.toNat:Nat):Int),l.2)
def rotG(g:Gr)(t:Nat):Gr :=
 ⟨(zJ g.ports.length).map fun w=>g.ids.getD (rotN g.ports.length (g.ports.length-t) w) 0,(zJ g.ports.length).map fun w=>(g.ports.getD (rotN g.ports.length (g.ports.length-t) w) []).map (rotL g.ports.length t)⟩
section
variable {g:Gr}{t u v:Nat}
theorem ydr:(rotG g t).ports.length=g.ports.length:=by simp[rotG]
theorem ywo:(rotG g t).ids.length=g.ports.length:=by simp[rotG]
theorem ywx(ht:t<=g.ports.length)(hv:v<g.ports.length):(rotG g t).ports.getD (rotN g.ports.length t v) []=(g.ports.getD v []).map (rotL g.ports.length t):=by
 show((zJ g.ports.length).map fun w=>(g.ports.getD (rotN g.ports.length (g.ports.length-t) w) []).map (rotL g.ports.length t)).getD (rotN g.ports.length t v) []=_;rw[Sh.getD_at (by simpa using yft ht hv),zAL,zAB,yiq ht hv]
theorem ybij(ht:t<=g.ports.length)(hv:v<g.ports.length):(rotG g t).ids.getD (rotN g.ports.length t v) 0=g.ids.getD v 0:=by
 show((zJ g.ports.length).map fun w=>g.ids.getD (rotN g.ports.length (g.ports.length-t) w) 0).getD (rotN g.ports.length t v) 0=_;rw[Sh.getD_at (by simpa using yft ht hv),zAL,zAB,yiq ht hv]
theorem yvx(hg:ybc g)(ht:t<=g.ports.length)(hv:v<g.ports.length){l:Int×Int}:l∈(rotG g t).ports.getD (rotN g.ports.length t v) []↔∃l'∈g.ports.getD v [],l=rotL g.ports.length t l':=by
 rw[ywx ht hv,List.mem_map];exact⟨fun⟨a,h1,h2⟩=>⟨a,h1,h2.symm⟩,fun⟨a,h1,h2⟩=>⟨a,h1,h2.symm⟩⟩
theorem ybte(hg:ybc g)(ht:t<=g.ports.length)(hu:u<g.ports.length)(hv:v<g.ports.length):adj (rotG g t) (rotN g.ports.length t u) (rotN g.ports.length t v)↔adj g u v:=by
 rw[yho,yho];constructor
 ·rintro⟨l,hl,e⟩;obtain⟨l',hl',rfl⟩:=(yvx hg ht hu).1 hl;obtain⟨h1,h2,_⟩:=yhn hg hu hl'
  have:rotN g.ports.length t l'.1.toNat=rotN g.ports.length t v:=by
   have e:((rotN g.ports.length t l'.1.toNat:Nat):Int)=_:=e;omega
  have:=yss ht h2 hv this;exact⟨l',hl',by omega⟩
 ·rintro⟨l,hl,e⟩;refine⟨rotL g.ports.length t l,(yvx hg ht hu).2 ⟨l,hl,rfl⟩,?_⟩;show((rotN g.ports.length t l.1.toNat:Nat):Int)=_;rw[e,zG]
theorem yqd(hg:ybc g)(ht:t<=g.ports.length):ybc (rotG g t):=by
 obtain⟨h1,h2,h3,h4,h5,h6,h7⟩:=hg;have hg:ybc g:=⟨h1,h2,h3,h4,h5,h6,h7⟩;have ht':g.ports.length-t<=g.ports.length:=by omega
 have at_:∀w,w<g.ports.length->(rotG g t).ports.getD w []=(g.ports.getD (rotN g.ports.length (g.ports.length-t) w) []).map (rotL g.ports.length t):=fun w hw=>by
  have:=ywx (g:=g) ht (yft ht' hw)
  rwa [yek ht hw]at this
 refine⟨by rw[ydr];exact h1,by rw[ydr];exact h2,by rw[ydr,ywo],?_,?_,?_,?_⟩
 ·intro x hx;obtain⟨w,hw,rfl⟩:=List.mem_map.1 hx;have hl:rotN g.ports.length (g.ports.length-t) w<g.ids.length:=by rw[h3];exact yft ht' (List.mem_range.1 hw)
  rw[Sh.getD_at hl];exact h4 _ (zF hl)
 ·show((zJ g.ports.length).map _).Nodup;rw[List.Nodup,zAD];refine(List.Pairwise.and_mem.1 (List.nodup_range (n:=g.ports.length))).imp ?_;rintro a b ⟨ha,hb,hne⟩ e;have la:rotN g.ports.length (g.ports.length-t) a<g.ids.length:=by rw[h3];exact yft ht' (List.mem_range.1 ha)
  have lb:rotN g.ports.length (g.ports.length-t) b<g.ids.length:=by rw[h3];exact yft ht' (List.mem_range.1 hb)
  rw[Sh.getD_at la,Sh.getD_at lb]at e;exact hne (yss ht' (List.mem_range.1 ha) (List.mem_range.1 hb) ((zAH (h₀:=la) (h₁:=lb) h5).1 e))
 ·rintro⟨w,hw⟩;have hw':w<g.ports.length:=by rwa [ydr]at hw
  have e0:(rotG g t).ports[w]=(rotG g t).ports.getD w []:=by rw[Sh.getD_at hw]
  show ycl (rotG g t).ports[w] (w:Int) ((rotG g t).ports.length:Int);rw[e0,at_ w hw',ydr];have hb:=yft ht' hw';refine⟨fun l hl=>?_,?_⟩
  ·obtain⟨l',hl',rfl⟩:=List.mem_map.1 hl;obtain⟨a1,a2,a3,a4,a5⟩:=yhn hg hb hl';have a6:=yft ht a2;refine⟨Int.natCast_nonneg _,?_,?_,a4,a5⟩
   ·show((rotN g.ports.length t l'.1.toNat:Nat):Int)<=_;omega
   ·intro e;have e:((rotN g.ports.length t l'.1.toNat:Nat):Int)=(w:Int):=e;have e1:rotN g.ports.length t l'.1.toNat=rotN g.ports.length t (rotN g.ports.length (g.ports.length-t) w):=by rw[yek ht hw'];omega
    have e2:=yss ht a2 hb e1;obtain⟨l2,hl2,e3⟩:=yho.1 a3;have e4:g.ports[rotN g.ports.length (g.ports.length-t) w]?=some (g.ports.getD (rotN g.ports.length (g.ports.length-t) w) []):=by simp[zAN,hb]
    exact(hg.link e4 hl2).2.2.1 (by rw[e3,e2])
  ·rw[List.map_map,List.Nodup,zAD];have hn:=yrt hg hb;rw[List.Nodup,zAD]at hn;refine(List.Pairwise.and_mem.1 hn).imp ?_;rintro a b ⟨ha,hb',hne⟩ e;obtain⟨a1,a2,_⟩:=yhn hg hb ha;obtain⟨b1,b2,_⟩:=yhn hg hb hb';have e:((rotN g.ports.length t a.1.toNat:Nat):Int)=((rotN g.ports.length t b.1.toNat:Nat):Int):=e;have:=yss ht a2 b2 (by omega)
   exact hne (by omega)
 ·rintro⟨w,hw⟩ l hl;have hw':w<g.ports.length:=by rwa [ydr]at hw
  have e0:(rotG g t).ports[w]=(rotG g t).ports.getD w []:=by rw[Sh.getD_at hw]
  have hl:l∈(rotG g t).ports[w]:=hl;rw[e0,at_ w hw']at hl;obtain⟨l',hl',rfl⟩:=List.mem_map.1 hl;have hb:=yft ht' hw';obtain⟨a1,a2,_⟩:=yhn hg hb hl'
  have back:=h7 ⟨rotN g.ports.length (g.ports.length-t) w,hb⟩ l' (by
   show l'∈g.ports[rotN g.ports.length (g.ports.length-t) w];rw[<-Sh.getD_at hb (d:=[])];exact hl')
  show((w:Int),l'.2)∈(rotG g t).ports.getD ((rotN g.ports.length t l'.1.toNat:Nat):Int).toNat [];rw[zG];refine(yvx hg ht a2).2 ⟨_,back,?_⟩;show _=(((rotN g.ports.length t ((rotN g.ports.length (g.ports.length-t) w:Nat):Int).toNat:Nat):Int),l'.2);rw[zG,yek ht hw']
theorem yvv(hg:ybc g)(ht:t<=g.ports.length)(hu:u<g.ports.length):∀(k v:Nat),v<g.ports.length->(Walk (rotG g t) (rotN g.ports.length t u) k (rotN g.ports.length t v)↔Walk g u k v)
 |0,v,hv=>⟨fun e=>yss ht hv hu e,fun e=>by have e:v=u:=e;rw[e];rfl⟩
 | k + 1,v,hv=>by
   constructor
   ·rintro⟨x,hx,ha⟩;have hxl:=((yqd hg ht).adj_lt ha).1;rw[ydr]at hxl;have hb:=yft (show g.ports.length-t<=g.ports.length by omega) hxl
    rw[<-yek ht hxl]at hx ha;exact⟨_,(yvv hg ht hu k _ hb).1 hx,(ybte hg ht hb hv).1 ha⟩
   ·rintro⟨x,hx,ha⟩;have hxl:=(hg.adj_lt ha).1;exact⟨_,(yvv hg ht hu k x hxl).2 hx,(ybte hg ht hxl hv).2 ha⟩
end
end
section
section
variable {g:Gr}{a b u v w x:Nat}
def ybuc(g:Gr)(v:Nat)(e:Int):Prop:=(∀w,w<g.ports.length->dP g w v<=e)/\∃w,w<g.ports.length/\dP g w v=e
theorem Tr.side(h:Tr g)(hu:adj g v u)(hw:w<g.ports.length):(dP g w u<dP g w v/\dP g w v=dP g w u+1)\/(dP g w v<dP g w u/\dP g w u=dP g w v+1):=by
 rcases h.up hw hu with q|q<;>omega
theorem Tr.link(h:Tr g)(hu:adj g v u){ev eu:Int}(he:ybuc g v ev)(he':ybuc g u eu) :
 ev=max (rchP g u v-1) (rchP g v u)/\eu=max (rchP g v u-1) (rchP g u v):=by
 have key:∀{v u:Nat}{ev:Int},adj g v u->ybuc g v ev->ev=max (rchP g u v-1) (rchP g v u):=fun {v u ev} hu he=>by
  obtain⟨hv,hu'⟩:=h.good.adj_lt hu;obtain⟨e1,w,hw,e2⟩:=he
  have hle:ev<=max (rchP g u v-1) (rchP g v u):=by
   rcases h.side hu hw with⟨q,q2⟩|⟨q,q2⟩
   ·have:=ybcb hw q;omega
   ·have:=ybcb (u:=v) (v:=u) hw q;omega
  obtain⟨x,hx,x1,x2⟩:=h.rch_ex hu;obtain⟨y,hy,y1,y2⟩:=h.rch_ex (h.good.adj_symm hu);have a1:=e1 x hx;have a2:=e1 y hy;rcases h.side hu hy with⟨q,q2⟩|⟨q,q2⟩<;>omega
 exact⟨key hu he,key (h.good.adj_symm hu) he'⟩
theorem Tr.ht_link(h:Tr g)(hu:adj g v u):(rchP g u v-1<=rchP g v u->htP g v=rchP g u v-1)/\(rchP g v u<=rchP g u v-1->rchP g v u<=htP g v):=by
 obtain⟨hv,hu'⟩:=h.good.adj_lt hu;have p1:=h.rch_pos hu;have p2:=h.rch_pos (h.good.adj_symm hu);have from_:2<=rchP g u v->∃x,adj g v x/\x≠u/\rchP g u v=1+rchP g v x:=fun q=>h.rch_from (h.good.adj_symm hu) q;constructor
 ·intro hq;refine zAW ?_ ?_
  ·rcases zAI (htP g v) 1 with q|q
   ·omega
   ·obtain⟨a,b,ha,hb,hne,r1,r2⟩:=(ybpd h.good hv q).1 (zAO _)
    by_cases e:a=u
    ·have:=h.rch_step (h.good.adj_symm hu) hb (fun e2=>hne (by rw[e,e2]))
     omega
    ·have:=h.rch_step (h.good.adj_symm hu) ha e;omega
  ·rcases zAI (rchP g u v) 2 with q|q
   ·have:=ybpn g v;omega
   ·obtain⟨x,hx,hne,e⟩:=from_ q;exact(ybpd h.good hv (by omega)).2 ⟨x,u,hx,hu,hne,by omega,by omega⟩
 ·intro hq;obtain⟨x,hx,hne,e⟩:=from_ (by omega)
  exact(ybpd h.good hv p1).2 ⟨x,u,hx,hu,hne,by omega,by omega⟩
theorem Tr.higher(h:Tr g)(hu:adj g v u){ev eu:Int}(he:ybuc g v ev)(he':ybuc g u eu):(htP g v<htP g u↔eu<ev)/\(htP g v=htP g u↔eu=ev):=by
 obtain⟨l1,l2⟩:=h.link hu he he';obtain⟨a1,a2⟩:=h.ht_link hu;obtain⟨b1,b2⟩:=h.ht_link (h.good.adj_symm hu);rcases Int.lt_trichotomy (rchP g v u) (rchP g u v)with q|q|q
 ·have:=b1 (by omega)
  have:=a2 (by omega)
  omega
 ·have:=a1 (by omega)
  have:=b1 (by omega)
  omega
 ·have:=a1 (by omega)
  have:=b2 (by omega)
  omega
end
end
section
section
variable {g:Gr}{t u v a:Nat}
theorem ybyk(ht:t<=g.ports.length){w:Nat}(hw:w<(rotG g t).ports.length):∃v,v<g.ports.length/\w=rotN g.ports.length t v:=by
 rw[ydr]at hw;exact⟨rotN g.ports.length (g.ports.length-t) w,yft (by omega) hw,(yek ht hw).symm⟩
theorem ycey(hg:ybc g)(ht:t<=g.ports.length)(hc:ydf g=true):ydf (rotG g t)=true:=by
 have hh:=yqd hg ht;have h0:=hg.1;unfold ydf at hc ⊢;rw[zAE]at hc ⊢;refine⟨(ydw _).2 hh,?_⟩;obtain⟨z,hz,e⟩:=ybyk (g:=g) ht (w:=0) (by rw[ydr];exact h0)
 have all:=(yrh hg hz).1 (ybix hg h0 hz hc.2);refine(yrh hh (by rw[ydr];exact h0)).2 fun w hw=>?_
 obtain⟨v,hv,rfl⟩:=ybyk ht hw;obtain⟨k,hk⟩:=all v hv;refine⟨k,?_⟩;rw[e];exact(yvv hg ht hz k v hv).2 hk
theorem ybwh(hg:ybc g)(ht:t<=g.ports.length):ybp (rotG g t).ids=rotN g.ports.length t (ybp g.ids):=by
 have hh:=yqd hg ht;have h0:=hg.1;have h3:=hg.2.2.1;have l3:=ywo (g:=g) (t:=t);obtain⟨a1,a2,_⟩:=yeu g.ids g.ids.length (by omega) (zM _)
 obtain⟨b1,b2,_⟩:=yeu (rotG g t).ids (rotG g t).ids.length (by omega) (zM _)
 have a1:ybp g.ids<g.ids.length:=a1;have b1:ybp (rotG g t).ids<(rotG g t).ids.length:=b1;obtain⟨x,hx,e⟩:=ybyk (g:=g) ht (w:=ybp (rotG g t).ids) (by rw[ydr];omega)
 have c1:=a2 x (by omega)
 have c2:=b2 (rotN g.ports.length t (ybp g.ids)) (by rw[l3];exact yft ht (by omega))
 have c2:(rotG g t).ids.getD (ybp (rotG g t).ids) 0<=_:=c2;have c1:g.ids.getD (ybp g.ids) 0<=_:=c1;rw[e,ybij ht hx,ybij ht (by omega)]at c2
 rw[e];congr 1;have la:ybp g.ids<g.ids.length:=a1;have lx:x<g.ids.length:=by omega
 rw[Sh.getD_at la,Sh.getD_at lx]at c1 c2;exact(zAH (h₀:=lx) (h₁:=la) hg.2.2.2.2.1).1 (by omega)
end
end
section
section
variable {g:Gr}{t:Nat}
def rotV(n t:Nat):List Int:=(zJ n).map fun v=>((rotN n t v:Nat):Int)
theorem yxt(n t:Nat):(rotV n t).length=n:=by simp[rotV]
theorem ybfc{n t v:Nat}(hv:v<n):(rotV n t).getD v 0=((rotN n t v:Nat):Int):=by
 unfold rotV;rw[Sh.getD_at (by simpa using hv),zAL,zAB]
end
end
section
def rotRow(g:Gr)(t k i w:Nat):List (Int×Int) :=
 if rotN g.ports.length (g.ports.length-t) w<k then(g.ports.getD (rotN g.ports.length (g.ports.length-t) w) []).map (rotL g.ports.length t)
 else if rotN g.ports.length (g.ports.length-t) w=k then((g.ports.getD k []).take i).map (rotL g.ports.length t)else[]
def ywn(g:Gr)(t k w:Nat):Int:=if rotN g.ports.length (g.ports.length-t) w<k then g.ids.getD (rotN g.ports.length (g.ports.length-t) w) 0 else(w:Int)
section
variable {g:Gr}{t k i w:Nat}
theorem ybfj:rotRow g t 0 0 w=[]:=by
 unfold rotRow;rw[if_neg (zX _)];split<;>rfl
theorem ybct(ht:t<=g.ports.length)(hw:w<g.ports.length)(hne:w≠rotN g.ports.length t k):rotRow g t k i w=rotRow g t k 0 w:=by
 unfold rotRow;have:¬rotN g.ports.length (g.ports.length-t) w=k:=fun e=>hne (by rw[<-e,yek ht hw])
 rw[if_neg this,if_neg this]
theorem ybvi(ht:t<=g.ports.length)(hk:k<g.ports.length)(i:Nat):rotRow g t k i (rotN g.ports.length t k)=((g.ports.getD k []).take i).map (rotL g.ports.length t):=by
 unfold rotRow;rw[yiq ht hk,if_neg (Nat.lt_irrefl k),if_pos rfl]
theorem ybdf:rotRow g t k (g.ports.getD k []).length w=rotRow g t (k+1) 0 w:=by
 unfold rotRow
 by_cases q:rotN g.ports.length (g.ports.length-t) w<k
 ·rw[if_pos q,if_pos (by omega)]
 ·rw[if_neg q]
  by_cases r:rotN g.ports.length (g.ports.length-t) w=k
  ·rw[if_pos r,if_pos (by omega),zO,r]
  ·rw[if_neg r,if_neg (by omega)]
   split<;>rfl
theorem ybmb(ht:t<=g.ports.length)(hw:w<g.ports.length):rotRow g t g.ports.length 0 w=(rotG g t).ports.getD w []:=by
 have h:=yft (zBC g.ports.length t) hw;have e:=ywx (g:=g) (t:=t) (v:=rotN g.ports.length (g.ports.length-t) w) ht h;rw[yek ht hw]at e;unfold rotRow;rw[if_pos h,e]
theorem ybjm:ywn g t 0 w=(w:Int):=by
 unfold ywn;rw[if_neg (zX _)]
theorem ybkr(ht:t<=g.ports.length)(hk:k<g.ports.length)(hw:w<g.ports.length):ywn g t (k+1) w=if w=rotN g.ports.length t k then g.ids.getD k 0 else ywn g t k w:=by
 unfold ywn
 by_cases q:w=rotN g.ports.length t k
 ·rw[if_pos q,q,yiq ht hk,if_pos (zAK k)]
 ·have:¬rotN g.ports.length (g.ports.length-t) w=k:=fun e=>q (by rw[<-e,yek ht hw])
  rw[if_neg q]
  by_cases r:rotN g.ports.length (g.ports.length-t) w<k
  ·rw[if_pos r,if_pos (by omega)]
  ·rw[if_neg r,if_neg (by omega)]
theorem ybxj(ht:t<=g.ports.length)(hw:w<g.ports.length):ywn g t g.ports.length w=(rotG g t).ids.getD w 0:=by
 have h:=yft (zBC g.ports.length t) hw;have e:=ybij (g:=g) (t:=t) (v:=rotN g.ports.length (g.ports.length-t) w) ht h;rw[yek ht hw]at e;unfold ywn;rw[if_pos h,e]
end
namespace Sh
open Ev Go.RowKit
theorem ycdx{n t:Nat}(h0:0<n)(h24:n<=24)(ht:t<=n):Returns zT 97 [yx (rotV n t),.i .i64 n] (.b true):=by
 refine Returns.of (ydfp _ _ ?_);have hlen:=yxt n t;have hat:=fun v (hv:v<n)=>ybfc (t:=t) hv;obtain⟨P,hP⟩:∃P,rotV n t=P:=⟨_,rfl⟩;rw[hP]at hlen;simp only[hP]at hat;have f1:((n:Int)!=(n:Int))=false:=by simp
 simp only[c97,ydfu,ydey,ydjc,ydnu,yx,hP,hlen,f1,clash,go_sem,zA,zB,zY,↓reduceIte,reduceCtorEq];refine⟨⟨by omega,by omega,by omega⟩,?_⟩
 refine ybj (σ:=Nat) (fun k=>⟨[(16,.i .i64 k),(15,.i .i64 n),(14,yx P),(5,.os (13,0) 0 n true),(1,.i .i64 n)],[(13,.one (some ⟨4,false,1,n,fun j=>[.b (decide (rotN n (n-t) j<k))]⟩))]⟩) (fun k=>k<=n) (fun k=>n-k) 0 (zAP _) ?_ ?_
 ·refine yj [] [] [] ?_;simp only[yx,hlen,zX,allQ,live,yg,zS,go_sem,zA,↓reduceIte,reduceCtorEq]
 intro k hk
 by_cases hlt:k<n
 ·have t1:decide ((k:Int)<(n:Int))=true:=decide_eq_true (by omega)
  have hx:=hat k hlt;have hr:=yft ht hlt;have hb:=yiq ht hlt;obtain⟨r,hre⟩:∃r,rotN n t k=r:=⟨_,rfl⟩;rw[hre]at hx hr hb;have t2:decide ((r:Int)<0)=false:=decide_eq_false (by omega)
  have t3:decide ((r:Int)>=(n:Int))=false:=decide_eq_false (by omega)
  have t4:decide (rotN n (n-t) r<k)=false:=decide_eq_false (by omega)
  simp only[yddd,ydjm,ydjd,ydmw,ycoc,yx,hlen,hx,t1,t2,t3,t4,splice,clash,go_sem,zA,zB,↓reduceIte,reduceCtorEq];refine⟨by omega,⟨by omega,by omega⟩,by omega,⟨by omega,by omega⟩,by omega,ikw (by omega) (by omega),?_⟩
  refine yw (k+1) (by omega) (by omega) ?_
  refine yj [] [] [] ?_;simp only[allQ,live,yg,ybb,go_sem,zA,↓reduceIte,reduceCtorEq];refine⟨by omega,fun j hj=>?_⟩
  by_cases q:j=r
  ·subst q;have e:decide (rotN n (n-t) j<k+1)=true:=decide_eq_true (by omega)
   simp only[if_pos,e];simp only[go_sem,live,yg,go_sem,reduceCtorEq]
  ·have e:decide (rotN n (n-t) j<k+1)=decide (rotN n (n-t) j<k):=by
    have:rotN n (n-t) j≠k:=fun h=>q (by rw[<-hre,<-h,yek ht hj])
    rw[zV,decide_eq_true_iff,decide_eq_true_iff];omega
   simp only[if_neg q,e];simp only[go_sem,live,yg,go_sem,reduceCtorEq]
 ·obtain rfl:k=n:=by omega
  have t1:decide ((k:Int)<(k:Int))=false:=decide_eq_false (by omega)
  simp only[yddd,ycql,t1,go_sem,zA,↓reduceIte];exact Sim.refl _
theorem ycek{n:Nat}(h24:n<=24):Cm zT 98 [] [] [.i .i64 n] fun r o=>r = .ag [.os (6,0) 0 n true,.os (8,0) 0 n true]/\o=[(6,.one (some ⟨3,false,1,n,fun j=>[.i .i64 j]⟩)),(8,.one (some ⟨71,false,1,n,fun _=>[.a (.slice none 0 0)]⟩))]:=by
 refine ydbu [] [] _ _ _ ?_;simp only[c98,ydnv,ydnq,ydkm,splice,clash,go_sem,zA,zB,zI,zY,↓reduceIte,reduceCtorEq];refine⟨⟨by omega,by omega,by omega⟩,⟨by omega,by omega,by omega⟩,by decide,?_⟩
 refine ybj (σ:=Nat) (fun k=>⟨[(13,.i .i64 k),(12,.i .i64 n),(3,.pt (3,0) 0 0),(2,.pt (2,0) 0 0)],[(6,.one (some ⟨3,false,1,n,fun j=>[.i .i64 (if j<k then(j:Int)else 0)]⟩)),(8,.one (some ⟨71,false,1,n,fun _=>[.a (.slice none 0 0)]⟩)),
  (3,.one (some ⟨27,true,2,1,fun _=>[.os (6,0) 0 n true,.os (8,0) 0 n true]⟩)),(2,.one (some ⟨27,true,2,1,fun _=>[.a (.slice none 0 0),.a (.slice none 0 0)]⟩))]⟩) (fun k=>k<=n) (fun k=>n-k) 0 (zAP _) ?_ ?_
 ·refine yj [] [] [] ?_;simp only[zX,allQ,live,yg,zS,go_sem,zA,↓reduceIte,reduceCtorEq]
 intro k hk
 by_cases hlt:k<n
 ·have t1:decide ((k:Int)<(n:Int))=true:=decide_eq_true (by omega)
  simp only[ycyi,ydii,ydmq,ydlt,t1,splice,clash,go_sem,zA,zB,zI,↓reduceIte,reduceCtorEq];refine⟨⟨by omega,by omega⟩,by omega,ikw (by omega) (by omega),?_⟩
  refine yw (k+1) (by omega) (by omega) ?_
  refine yj [] [] [] ?_;simp only[go_sem,allQ,live,yg,ybb,go_sem,zA,↓reduceIte,reduceCtorEq];refine⟨by omega,fun j hj=>?_⟩
  by_cases q:j=k
  ·subst q;simp only[if_pos (zAK j)];simp only[go_sem,live,yg,go_sem,↓reduceIte,reduceCtorEq]
  ·have e:(if j<k+1 then(j:Int)else 0)=if j<k then(j:Int)else 0:=by
    by_cases q1:j<k
    ·rw[if_pos q1,if_pos (by omega)]
    ·rw[if_neg q1,if_neg (by omega)]
   simp only[if_neg q,e];simp only[go_sem,live,yg,go_sem,reduceCtorEq]
 ·obtain rfl:k=n:=by omega
  have t1:decide ((k:Int)<(k:Int))=false:=decide_eq_false (by omega)
  simp only[ycyi,ydgt,t1,splice,clash,ygg,go_sem,zA,zB,↓reduceIte];refine⟨.ag [.os (6,0) 0 k true,.os (8,0) 0 k true],[(6,.one (some ⟨3,false,1,k,fun j=>[.i .i64 j]⟩)),(8,.one (some ⟨71,false,1,k,fun _=>[.a (.slice none 0 0)]⟩))],?_,?_,rfl,rfl⟩
  ·refine yj [] [] [] ?_;simp only[go_sem,allQ,live,yg,ybb,go_sem,zA,↓reduceIte,reduceCtorEq];intro j hj;rw[if_pos hj]
  ·simp only[ycf,yfd,allQ,live,go_sem,zA,↓reduceIte]
set_option maxHeartbeats 4000000 in
theorem ybde{g:Gr}(hg:ybc g){t:Nat}(ht:t<=g.ports.length) :
 Returns zT 40 [grV g,yx (rotV g.ports.length t)] (.tp [grV (rotG g t),.i .i64 0]):=by
 refine Returns.of (yddj [98] _ _ ?_);have hV:=ynp (ybmm hg);rw[(ydw g).2 hg]at hV;have h0:=hg.1;have h24:=hg.2.1;have hpl:=hg.2.2.1;have hPm:=ycdx (n:=g.ports.length) (t:=t) h0 h24 ht;have hPl:=yxt g.ports.length t;have hPa:=fun v (hv:v<g.ports.length)=>ybfc (n:=g.ports.length) (t:=t) hv;have hrl:=fun v (hv:v<g.ports.length)=>yft (n:=g.ports.length) ht hv;have hro:=fun k i w hw hne=>ybct (g:=g) ht (k:=k) (i:=i) (w:=w) hw hne
 have hra:=fun k (hk:k<g.ports.length) i=>ybvi (g:=g) ht hk i;have hrn:=fun k w=>ybdf (g:=g) (t:=t) (k:=k) (w:=w);have hre:=fun w hw=>ybmb (g:=g) ht (w:=w) hw;have hr0:=fun w=>ybfj (g:=g) (t:=t) (w:=w);have hi0:=fun w=>ybjm (g:=g) (t:=t) (w:=w);have hin:=fun k w hw hk=>ybkr (g:=g) ht (k:=k) (w:=w) hk hw;have hie:=fun w hw=>ybxj (g:=g) ht (w:=w) hw;obtain⟨R,hR⟩:∃R:Nat->Nat->Nat->List (Int×Int),(fun k i w=>rotRow g t k i w)=R:=⟨_,rfl⟩
 have hR':∀k i w,rotRow g t k i w=R k i w:=fun k i w=>by rw[<-hR]
 obtain⟨I,hI⟩:∃I:Nat->Nat->Int,(fun k w=>ywn g t k w)=I:=⟨_,rfl⟩;have hI':∀k w,ywn g t k w=I k w:=fun k w=>by rw[<-hI]
 simp only[hR']at hro hra hrn hre hr0;simp only[hI']at hi0 hin hie;obtain⟨P,hP⟩:∃P,rotV g.ports.length t=P:=⟨_,rfl⟩;rw[hP]at hPm hPl hPa ⊢;obtain⟨n,hn⟩:∃n,g.ports.length=n:=⟨_,rfl⟩;rw[hn]at hPm hPl hPa hrl h0 h24 hpl hro hra hre hin hie;simp only[grV]at hV;simp only[yx,hPl]at hPm;simp only[c40,ydnt,ydhv,grV,clash,go_sem,zA,zB,zY,zN,↓reduceIte];refine hV.use ?_;simp only[ybi,ydif,yx,hPl,hpl,clash,go_sem,zA,zB,zI,zN,↓reduceIte,reduceCtorEq]
 refine hPm.use ?_;simp only[ydfg,clash,go_sem,zA,zB,zI,↓reduceIte,reduceCtorEq];refine yem (ycek (n:=n) h24) [(6,206),(8,208)] 0 [1,2,4] [2,4] ?_ ?_
 ·simp only[go_sem,okN,ycf,yfd,ydy,ydm,allQ,live,yg,go_sem,zA,zN,↓reduceIte,reduceCtorEq]
 rintro r o' ⟨rfl,rfl⟩;simp only[ydmj,ybe,hn,clash,ymj,ykn,nuF,nu,difN,ydy,ydm,Fam.ren,OB.ren,dim,ygz,ycbc,ypi,yjb,go_sem,zA,zB,zY,zN,↓reduceIte,reduceCtorEq]
 refine ybj (σ:=Nat) (fun k=>⟨[(29,.i .i64 k),(28,.i .i64 n),(27,.sl 1 n fun v=>[ybd (g.ports.getD v [])]),(1,.sl 1 n fun k=>[.i .i64 (P.getD k 0)]),(2,.pt (2,0) 0 0),(4,.pt (4,0) 0 0),(6,.pt (6,0) 0 0)],
  [(2,.one (some ⟨27,true,2,1,fun _=>[yx g.ids,ybe g.ports]⟩)),(4,.one (some ⟨27,true,2,1,fun _=>[.a (.slice none 0 0),.a (.slice none 0 0)]⟩)),(6,.one (some ⟨27,true,2,1,fun _=>[.os (206,0) 0 n true,.os (208,0) 0 n true]⟩)),
  (206,.one (some ⟨3,false,1,n,fun w=>[.i .i64 (I k w)]⟩)),(208,.one (some ⟨71,false,1,n,fun w=>[.os (212,w) 0 (R k 0 w).length true]⟩)),(212,.many fun w=>if w<n then some (rowO (R k 0 w))else none)]⟩) (fun k=>k<=n) (fun k=>n-k) 0 (zAP _) ?_ ?_
 ·refine yj [] [212] [] ?_;simp only[yx,ybe,hn,hpl,rowO,hr0,hi0,List.length_nil,allQ,live,yg,zS,go_sem,zA,zN,↓reduceIte,reduceCtorEq];refine⟨fun i hi=>⟨(212,i),rfl,rfl,by simp[hi]⟩,fun i b hb=>?_⟩
  obtain⟨_,rfl⟩:=ycd hb;exact⟨rfl,rfl⟩
 intro k hk
 by_cases hlt:k<n
 ·have t1 : decide ((k:Int)<(n:Int))=true:=decide_eq_true (by omega)
  have hpk:=hPa k hlt;have hrk:=hrl k hlt;have hRa:=hra k hlt;have hRo:=fun i w hw hne=>hro k i w hw hne;have hRn:=hrn k;have hIn:=fun w hw=>hin k w hw hlt;have hdeg:=hg.deg_lt (v:=k);have hadj:=fun(l:Int×Int) (hl:l∈g.ports.getD k [])=>yhn hg (show k<g.ports.length by omega) hl
  obtain⟨pv,hpv⟩:∃x,rotN n t k=x:=⟨_,rfl⟩;rw[hpv]at hpk hrk;simp only[hpv]at hRa hRo hIn;obtain⟨L,hL⟩:∃L,g.ports.getD k []=L:=⟨_,rfl⟩;obtain⟨d,hd⟩:∃d,L.length=d:=⟨_,rfl⟩;simp only[hL,hd]at hRa hRn hdeg hadj;simp(maxSteps:=5000000) only [ydeg,ydnb,ydio,yciv,t1,hL,hd,ybd,hpk,ybe,yx,hn,hpl,splice,clash,go_sem,zA,zB,zI,↓reduceIte,reduceCtorEq];refine⟨⟨by omega,by omega⟩,⟨by omega,by omega⟩,⟨by omega,by omega⟩,⟨by omega,by omega⟩,hrk,?_⟩
  refine ybj (σ:=Nat) (fun i=>⟨[(48,.i .i64 i),(47,.i .i64 d),(46,.sl 2 d fun j=>[.i .i64 (L.getD j (0,0)).1,.i .i64 (L.getD j (0,0)).2]),(7,.i .i64 k),(29,.i .i64 k),(28,.i .i64 n),(27,.sl 1 n fun v=>[ybd (g.ports.getD v [])]),(1,.sl 1 n fun k=>[.i .i64 (P.getD k 0)]),(2,.pt (2,0) 0 0),(4,.pt (4,0) 0 0),(6,.pt (6,0) 0 0)],
   [(2,.one (some ⟨27,true,2,1,fun _=>[yx g.ids,ybe g.ports]⟩)),(4,.one (some ⟨27,true,2,1,fun _=>[.a (.slice none 0 0),.a (.slice none 0 0)]⟩)),(6,.one (some ⟨27,true,2,1,fun _=>[.os (206,0) 0 n true,.os (208,0) 0 n true]⟩)),
   (206,.one (some ⟨3,false,1,n,fun w=>[.i .i64 (I (k+1) w)]⟩)),(208,.one (some ⟨71,false,1,n,fun w=>[.os (212,w) 0 (R k i w).length true]⟩)),(212,.many fun w=>if w<n then some (rowO (R k i w))else none)]⟩) (fun i=>i<=d) (fun i=>d-i) 0 (zAP _) ?_ ?_
  ·refine yj [] [] [] ?_;simp only[yx,ybe,ybd,hn,hpl,allQ,live,yg,zS,go_sem,zA,↓reduceIte,reduceCtorEq];refine⟨fun _ _ _ _ e=>e,fun w hw=>?_,fun w hw=>by rw[if_pos hw],fun w b hb=>⟨b,hb,⟨rfl,rfl,rfl,rfl⟩,fun j hj=>?_⟩⟩
   ·have e:=hIn w hw
    by_cases q:w=pv
    ·rw[if_pos q]at e ⊢;simp only[e,live,yg,go_sem,reduceCtorEq]
    ·rw[if_neg q]at e ⊢;simp only[e,live,yg,go_sem,reduceCtorEq]
   ·obtain⟨_,rfl⟩:=ycd hb;simp only[rowO,live,yg,go_sem,reduceCtorEq]
  intro i hi
  by_cases hlti:i<d
  ·have t2:decide ((i:Int)<(d:Int))=true:=decide_eq_true (by omega)
   have hm:L.getD i (0,0)∈L:=by rw[getD_at (show i<L.length by omega)];exact zF _
   obtain⟨l,hl⟩:∃l,L.getD i (0,0)=l:=⟨_,rfl⟩;rw[hl]at hm;obtain⟨a1,a2,_,_⟩:=hadj l hm;have hpl2:=hPa l.1.toNat (by omega)
   simp(maxSteps:=5000000) only [ybrp,yckt,ycwm,ycha,t2,hl,hpk,hpl2,rowO,if_pos hrk,splice,clash,go_sem,zA,zB,zI,zY,↓reduceIte,reduceCtorEq];have hlen:(R k i pv).length=i:=by rw[hRa i,List.length_map,List.length_take];omega
   refine⟨⟨by omega,by omega⟩,⟨by omega,by omega⟩,⟨by omega,by omega⟩,⟨by omega,by omega⟩,hrk,⟨by omega,by omega⟩,⟨by omega,by omega⟩,by decide,⟨by omega,by omega⟩,hrk,by decide,ikw (by omega) (by omega),?_⟩
   refine yw (i+1) (by omega) (by omega) ?_
   have hnew:R k (i+1) pv=R k i pv++[rotL n t l]:=by
    rw[hRa,hRa,zQ (show i<L.length by omega),List.map_append,<-getD_at (show i<L.length by omega) (d:=(0,0)),hl]
    rfl
   have hsame:∀w,w<n->w≠pv->R k (i+1) w=R k i w:=fun w hw hne=>by rw[hRo _ _ hw hne,hRo i _ hw hne]
   have hlen1:(R k (i+1) pv).length=i+1:=by rw[hnew,List.length_append,hlen];rfl
   have ep:(if pv=pv then((75:Nat),(0:Nat))else(212,pv))=(75,0):=if_pos rfl
   have ne1:∀(c w:Nat),c≠75->c≠212->(c,0)≠(if w=pv then((75:Nat),(0:Nat))else(212,w)):=fun c w h1 h2 e=>by
    split at e<;>cases e
    ·exact h1 rfl
    ·exact h2 rfl
   refine yj [(212,fun w=>if w=pv then(75,0)else(212,w))] [] [] ?_
   simp only[yx,ybe,ybd,hn,hpl,allQ,live,yg,ybb,go_sem,zA,↓reduceIte,reduceCtorEq]
   refine⟨⟨fun w _ e=>ne1 _ _ (by decide) (by decide) e,fun w _ e=>ne1 _ _ (by decide) (by decide) e,fun w _ e=>ne1 _ _ (by decide) (by decide) e,fun w _ e=>ne1 _ _ (by decide) (by decide) e,fun w _ e=>ne1 _ _ (by decide) (by decide) e,
    fun w _ e=>ne1 _ _ (by decide) (by decide) e.symm,fun w _ e=>ne1 _ _ (by decide) (by decide) e.symm,fun w _ e=>ne1 _ _ (by decide) (by decide) e.symm,fun w _ e=>ne1 _ _ (by decide) (by decide) e.symm,fun w _ e=>ne1 _ _ (by decide) (by decide) e.symm,
    fun u _ v _ e=>?_⟩,by omega,fun w hw=>?_,fun w b hb=>?_⟩
   ·by_cases q1:u=pv
    ·by_cases q2:v=pv
     ·rw[q1,q2]
     ·rw[if_pos q1,if_neg q2]at e;cases e
    ·by_cases q2:v=pv
     ·rw[if_neg q1,if_pos q2]at e;cases e
     ·rw[if_neg q1,if_neg q2]at e;exact congrArg Prod.snd e
   ·by_cases q:w=pv
    ·rw[if_pos q,q,hlen,hlen1];simp only[if_pos hrk,live,yg,go_sem,zA,↓reduceIte,reduceCtorEq]
    ·have en:(if w=pv then((75:Nat),(0:Nat))else(212,w))=(212,w):=if_neg q
     rw[if_neg q,hsame w hw q];simp only[en,if_pos hw,live,yg,go_sem,zA,↓reduceIte,reduceCtorEq]
   ·obtain⟨hw,rfl⟩:=ycd hb
    by_cases q:w=pv
    ·rw[q];refine⟨⟨95,false,2,(R k i pv).length+1,fun j=>if j<(R k i pv).length then[SV.i .i64 ((R k i pv).getD j (0,0)).1,SV.i .i64 ((R k i pv).getD j (0,0)).2]else zBD 2 (zBE ((j-(R k i pv).length)*2) [SV.i .i64 (rotL n t l).1,SV.i .i64 (rotL n t l).2])⟩,by rw[ep];rfl,⟨rfl,rfl,rfl,by rw[hlen1];exact congrArg (· + 1) hlen⟩,fun j hj=>?_⟩
     have hj:j<(R k i pv).length+1:=by have hj:j<(R k (i+1) pv).length:=hj;omega
     have hc:=ysw (R k i pv) (rotL n t l) hj;show telL _ _ _ _ _ (if j<(R k i pv).length then[SV.i .i64 ((R k i pv).getD j (0,0)).1,SV.i .i64 ((R k i pv).getD j (0,0)).2]else zBD 2 (zBE ((j-(R k i pv).length)*2) [SV.i .i64 (rotL n t l).1,SV.i .i64 (rotL n t l).2])) [SV.i .i64 ((R k (i+1) pv).getD j (0,0)).1,SV.i .i64 ((R k (i+1) pv).getD j (0,0)).2]
     rw[hc,hnew];exact⟨.inl ⟨trivial,Sim.refl _,rfl⟩,rfl,.inl ⟨trivial,Sim.refl _,rfl⟩,rfl,trivial⟩
    ·have en:(if w=pv then((75:Nat),(0:Nat))else(212,w))=(212,w):=if_neg q
     refine⟨rowO (R k i w),by rw[en];show(if w=pv then none else if w<n then some (rowO (R k i w))else none)=some _;rw[if_neg q,if_pos hw],⟨rfl,rfl,rfl,by rw[hsame w hw q];rfl⟩,fun j hj=>?_⟩
     rw[hsame w hw q];exact⟨.inl ⟨trivial,Sim.refl _,rfl⟩,rfl,.inl ⟨trivial,Sim.refl _,rfl⟩,rfl,trivial⟩
  ·obtain rfl:i=d:=by omega
   have t2:decide ((i:Int)<(i:Int))=false:=decide_eq_false (by omega)
   simp(maxSteps:=5000000) only [ybrp,ycng,t2,clash,go_sem,zA,zB,↓reduceIte,reduceCtorEq];refine⟨ikw (by omega) (by omega),?_⟩
   refine yw (k+1) (by omega) (by omega) ?_
   refine yj [] [] [] ?_;simp only[yx,ybe,ybd,hn,hpl,hRn,allQ,live,yg,ybb,go_sem,zA,↓reduceIte,reduceCtorEq];refine⟨fun _ _ _ _ e=>e,by omega,fun w hw=>by rw[if_pos hw],fun w b hb=>⟨b,hb,⟨rfl,rfl,rfl,rfl⟩,fun j hj=>?_⟩⟩
   obtain⟨_,rfl⟩:=ycd hb;simp only[rowO,live,yg,go_sem,reduceCtorEq]
 ·obtain rfl:k=n:=by omega
  have t1:decide ((k:Int)<(k:Int))=false:=decide_eq_false (by omega)
  have g1:(rotG g t).ids.length=k:=by rw[ywo,hn]
  have g2:(rotG g t).ports.length=k:=by rw[ydr,hn]
  simp only[ydeg,ycxf,t1,g1,g2,splice,clash,go_sem,zA,zB,↓reduceIte];refine⟨fun q hq=>?_,ybuy ⟨yqy ⟨yjk fun w hw=>?_,ygn fun q hq=>?_,trivial⟩,Sim.refl _,trivial⟩⟩
  ·rw[if_pos hq];exact⟨zM _,fun j hj=>by simp only[rowO,go_sem]⟩
  ·rw[hie w hw]
  ·rw[if_pos hq];simp only[rowO,ybd,hre q hq,go_sem];exact⟨Sim.refl _,trivial⟩
end Sh
end
end Go.Proofs.YtiejahgklcjhkaaGreatDoor
