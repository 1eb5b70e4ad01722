/- Joined. -/
import Derived.Test.YthclbjjgfcgbgaaGreatDoorPkCk13
import Derived.Lib.TrailingZeros
import Derived.Test.YthclbjjgfcgbgaaGreatDoorPkCk10
set_option linter.unusedSimpArgs false
set_option linter.unusedVariables false
set_option maxRecDepth 1000000
open Nat renaming reduceEqDiff->zA,reduceAdd->zB,reduceLT->zC,reduceLeDiff->zD,reduceBEq->zF,add_comm->zI,zero_add->zK,zero_le->zQ,not_lt_zero->zS,testBit_lt_two_pow->zU,pow_le_pow_right->zW,le_refl->zZ,lt_of_lt_of_le->zAA,testBit_two_pow_mul_add->zAC,pow_lt_pow_right->zAK,reduceMul->zAL,testBit_two_pow->zAM,sub_self->zAO,testBit_succ->zAW,two_pow_pos->zAX,testBit_or->zBB,add_zero->zBF
open Bool renaming false_ne_true->zG,true_and->zV,or_eq_true->zAY
open Go.Proofs.Tryz renaming prog->zH
open Int renaming eq_ofNat_of_zero_le->zJ,natCast_zero->zO,reduceToNat->zAZ
open List renaming getElem?_eq_getElem->zL,not_mem_nil->zM,range->zN,getElem_of_mem->zX,length_append->zAB,getD_eq_getElem?_getD->zAD,getD->zAE,length_map->zAF,length_nil->zAG,length_pos_of_mem->zAH,length_singleton->zAI,mem_cons_of_mem->zAJ,mem_cons_self->zAN,filter_append->zAQ,pairwise_map->zAR,length->zAS,length_cons->zAT,getElem_mem->zAU,getElem_map->zAV,nil_append->zBA,drop_drop->zBC,take->zBD,drop->zBE
open Classical renaming byContradiction->zT
open Go.Lib renaming ctz->zY,ctzFrom->zBG
open And renaming intro->zAP
open Iff renaming rfl->zBH
open Go
namespace Go.Proofs.YthclbjjgfcgbgaaGreatDoor
section
theorem yhe{α:Type}[DecidableEq α]:∀{l1 l2:List α},l1.Nodup->(∀x∈l1,x∈l2)->l1.length<=l2.length
 |[],_,_,_=>zQ _
 | a::t,l2,hn,hs=>by
   have hn:=List.nodup_cons.1 hn;have h1:=hs a zAN;have:=yhe (l1:=t) (l2:=l2.erase a) hn.2 fun y hy=>(List.mem_erase_of_ne fun e=>hn.1 (by rw[<-e];exact hy)).2 (hs y (zAJ _ hy))
   rw[List.length_erase_of_mem h1]at this;have:=zAH h1;simp only[zAT];omega
theorem yccx{l:List Int}{k:Nat}(h:∀j:Nat,j<k->(j:Int)∈l):k<=l.length:=by
 have hn:((zN k).map fun j:Nat=>(j:Int)).Nodup:=by
  rw[List.Nodup,zAR];exact List.nodup_range.imp fun h e=>h (by omega)
 have:=yhe hn (l2:=l) fun x hx=>by
  obtain⟨j,hj,rfl⟩:=List.mem_map.1 hx;exact h j (List.mem_range.1 hj)
 simpa using this
theorem yww(l:List Int):∀(n k:Nat),(∀j:Nat,j<k->(j:Int)∈l)->∃m:Nat,yrc l n (k:Int)=m/\(∀j:Nat,j<m->(j:Int)∈l)/\((m:Int)∉l\/m=k+n)
 |0,k,h=>⟨k,rfl,h,.inr rfl⟩
 | n + 1,k,h=>by
   unfold yrc
   by_cases hk:(k:Int)∈l
   .rw[if_pos (List.elem_iff.2 hk)]
    obtain⟨m,e,h1,h2⟩:=yww l n (k+1) fun j hj=>by
     by_cases q:j=k
     .rw[q];exact hk
     .exact h j (by omega)
    refine⟨m,?_,h1,?_⟩
    .rw[<-e];congr 1
    .rcases h2 with q|q
     .exact .inl q
     .exact .inr (by omega)
   .rw[if_neg (fun q=>hk (List.elem_iff.1 q))];exact⟨k,rfl,h,.inl hk⟩
theorem ybry(l:List Int):0<=mexP l/\mexP l<=l.length/\mexP l∉l:=by
 obtain⟨m,e,h1,h2⟩:=yww l (l.length+1) 0 fun j hj=>absurd hj (zS j);have e:mexP l=m:=e;have h3:=yccx h1;rw[e];refine⟨by omega,by omega,?_⟩
 rcases h2 with q|q
 .exact q
 .omega
theorem ybag{a b d:Nat}(h:∀i,(a.testBit i).toNat+(b.testBit i).toNat<=(d.testBit i).toNat):∀n,yen a n+yen b n<=yen d n
 |0=>zZ _
 | n+1=>by
   show(yen a n+_)+(yen b n+_)<=yen d n+_;have:=ybag h n;have:=h n;omega
def kcEx:Ex:=.agg 21 (.bin 35 (eQ 0) (eVar 0))
def ybt(nm c r:ByteArray):ProgT:=⟨nm,[⟨c,1,0,0,1,0⟩],[⟨r,kcEx,[(0,.agg 27 (eQ 0))]⟩]⟩
def yho(c:Conf)(v:Nat):Int:=(c.getD v []).getD 0 0
def ynh(g:Gr)(c:Conf)(v:Nat):Prop:=∃u,adj g v u/\yho c u=yho c v
def ybfs(g:Gr)(c:Conf)(v:Nat):Int:=mexP ((g.ports.getD v []).map (endP c 0))
structure KcC(g:Gr)(c:Conf):Prop where
 len:c.length=g.ids.length
 row:∀v,v<g.ids.length->(c.getD v []).length=1/\(0<=yho c v/\yho c v<=g.ids.length)
section
variable {nm nc nr:ByteArray}{g:Gr}{c:Conf}{u v s:Nat}
theorem yzo(hc:yev (ybt nm nc nr) g c=true):KcC g c:=by
 have h:=(yfk _ _ _).1 hc;refine⟨h.1,fun v hv=>?_⟩;have hlt:v<c.length:=by rw[h.1];exact hv
 have e:c.getD v []=c[v]:=by simp[zAE,hlt]
 have h2:=h.2 v _ (zL hlt);unfold yho;rw[e];have hl:c[v].length=1:=h2.1;have a0:(ybo g v ⟨nc,1,0,0,1,0⟩).1<=c[v][0]/\c[v][0]<=(ybo g v ⟨nc,1,0,0,1,0⟩).2:=h2.2 0 _ _ rfl (zL (by omega))
 have e0:c[v].getD 0 0=c[v][0]:=by simp[zAE,hl]
 rw[e0];rw[bT1]at a0;simp only at a0;exact⟨hl,by omega,by omega⟩
theorem ybqi(hg:ybg g)(hv:v<g.ports.length):0<=ybfs g c v/\ybfs g c v<=(g.ports.getD v []).length/\∀u,adj g v u->yho c u≠ybfs g c v:=by
 obtain⟨h1,h2,h3⟩:=ybry ((g.ports.getD v []).map (endP c 0));refine⟨h1,by rw[zAF]at h2;exact h2,fun u hu e=>h3 ?_⟩
 obtain⟨l,hl,el⟩:=ybic hu;refine List.mem_map.2 ⟨l,hl,?_⟩;unfold endP;rw[el];exact e
theorem ydue(hg:ybg g)(hv:v<g.ports.length):(g.ports.getD v []).length<g.ports.length:=by
 have hn:((g.ports.getD v []).map (·.1)).Nodup:=by
  have h:=(hg.2.2.2.2.2.1 ⟨v,hv⟩).2;have e0:g.ports[v]=g.ports.getD v []:=by rw[Sh.getD_at hv]
  have h:((g.ports[v]).map (·.1)).Nodup:=h
  rwa [e0]at h
 have h2:((v:Int)::(g.ports.getD v []).map (·.1)).Nodup:=by
  refine List.nodup_cons.2 ⟨fun hm=>?_,hn⟩;obtain⟨l,hl,e⟩:=List.mem_map.1 hm;have e3:g.ports[v]?=some (g.ports.getD v []):=by simp[zAE,hv]
  exact(hg.link e3 hl).2.2.1 e
 have:=yhe h2 (l2:=(zN g.ports.length).map fun j:Nat=>(j:Int)) fun x hx=>by
  rcases List.mem_cons.1 hx with rfl|hx
  .exact List.mem_map.2 ⟨v,List.mem_range.2 hv,rfl⟩
  .obtain⟨l,hl,rfl⟩:=List.mem_map.1 hx;obtain⟨h1,h3,_⟩:=ypm hg hv hl;exact List.mem_map.2 ⟨l.1.toNat,List.mem_range.2 h3,by omega⟩
 rw[zAT,zAF,zAF,List.length_range]at this;omega
theorem ycgr(hg:ybg g)(hv:v<g.ids.length):ynv g c v ⟨nr,kcEx,[(0,.agg 27 (eQ 0))]⟩=true↔ynh g c v:=by
 have hvp:v<g.ports.length:=by have:=hg.2.2.1;omega
 show(yio 21 _ != 0)=true↔_;have e:((zN (g.ports.getD v []).length).map fun(q:Nat)=>ygr g c v (.bin 35 (eQ 0) (eVar 0)) (q:Int))=(g.ports.getD v []).map fun l=>yfo (endP c 0 l==yho c v):=ybaf g v _ _ fun q hq=>rfl;rw[e];show(yfo (decide (countP _>0))!=0)=true↔_;rw[yte,decide_eq_true_iff];unfold countP ynh;constructor
 .intro h;obtain⟨x,hx⟩:=List.exists_mem_of_length_pos (show 0<(((g.ports.getD v []).map fun l=>yfo (endP c 0 l==yho c v)).filter (· != 0)).length by omega)
  obtain⟨h1,h2⟩:=List.mem_filter.1 hx;obtain⟨l,hl,rfl⟩:=List.mem_map.1 h1;rw[yte,beq_iff_eq]at h2;exact⟨_,(ypm hg hvp hl).2.2.1,h2⟩
 .rintro⟨u,hu,q⟩;obtain⟨l,hl,el⟩:=ybic hu
  have:yfo (endP c 0 l==yho c v)∈((g.ports.getD v []).map fun l=>yfo (endP c 0 l==yho c v)).filter (· != 0):=by
   refine List.mem_filter.2 ⟨List.mem_map.2 ⟨l,hl,rfl⟩,?_⟩;rw[yte,beq_iff_eq];unfold endP;rw[el];exact q
  have:=zAH this;omega
theorem ycbt(hg:ybg g)(hv:v<g.ids.length):(ynh g c v->ydw (ybt nm nc nr) g c v=0)/\(¬ynh g c v->ydw (ybt nm nc nr) g c v = -1):=by
 have h:=ycgr (nr:=nr) (c:=c) hg hv;unfold ydw ybt;simp only[List.findIdx?_cons,List.findIdx?_nil];constructor
 .intro q;rw[h.2 q];rfl
 .intro q;rw[Bool.eq_false_iff.2 fun e=>q (h.1 e)];rfl
theorem ybfg(hg:ybg g):Sh.ybcq (ybt nm nc nr) g=true:=by
 have h1:=hg.1;have h2:=hg.2.1;have h3:=hg.2.2.1;simp[Sh.ybcq,ybt,ybo];omega
theorem ydla:(ybt nm nc nr).ok=true:=by kernel_rfl
theorem ybpx(hg:ybg g)(hv:v<g.ids.length):(ybj (ybt nm nc nr) g c).testBit v=true↔ynh g c v:=by
 obtain⟨h1,h2⟩:=ycbt (nm:=nm) (nc:=nc) (nr:=nr) (c:=c) hg hv;unfold ybj;rw[ymt,decide_eq_true hv,zV,decide_eq_true_iff]
 by_cases q:ynh g c v
 .rw[h1 q];exact⟨fun _=>q,fun _=>by omega⟩
 .rw[h2 q];exact⟨fun h=>by omega,fun h=>absurd h q⟩
theorem ybhc(h:KcC g c)(hv:v<g.ids.length)(hb:s.testBit v=false):yho (yei (ybt nm nc nr) g c s) v=yho c v:=by
 unfold yho;rw[Sh.ynq _ g c s (by rw[h.len];exact hv),hb]
 rfl
theorem ydbc(hg:ybg g)(h:KcC g c)(hv:v<g.ids.length)(hb:s.testBit v=true)(hcf:ynh g c v):(yei (ybt nm nc nr) g c s).getD v []=[ybfs g c v]:=by
 have hpl:=hg.2.2.1;rw[Sh.ynq _ g c s (by rw[h.len];exact hv),hb,if_pos rfl,(ycbt hg hv).1 hcf]
 obtain⟨x,hx⟩:∃x,c.getD v []=[x]:=by
  have:=(h.row v hv).1
  match hq:c.getD v [],this with
  |[x],_=>exact⟨x,rfl⟩
 obtain⟨b1,b2,_⟩:=ybqi (c:=c) hg (v:=v) (by omega)
 have b3:=ydue hg (v:=v) (by omega)
 unfold yiz yqw;rw[hx]
 have e:ygr g c v (.agg 27 (eQ 0)) (-1)=ybfs g c v:=by
  show yio 27 _=_;unfold yio ybfs;rw[if_neg (by decide),if_neg (by decide),if_neg (by decide),if_neg (by decide),if_neg (by decide),if_neg (by decide),if_neg (by decide),if_pos rfl]
  congr 1;exact ybaf g v _ _ fun q hq=>rfl
 show[ylf 1 (ybo g v ⟨nc,1,0,0,1,0⟩) (ygr g c v (.agg 27 (eQ 0)) (-1))]=_;rw[e];congr 1;unfold ylf;rw[bT1,if_pos (by simp only;omega)]
theorem yyv(hg:ybg g)(h:KcC g c)(hs:subB s (ybj (ybt nm nc nr) g c))(hD:ybcz g s)(hv:v<g.ids.length) :
 (s.testBit v=true->¬ynh g (yei (ybt nm nc nr) g c s) v)/\(¬ynh g c v->¬ynh g (yei (ybt nm nc nr) g c s) v):=by
 have hpl:=hg.2.2.1;have cf:∀u,u<g.ids.length->s.testBit u=true->ynh g c u:=fun u hu hb=>(ybpx hg hu).1 (hs u hb)
 have new:∀u,u<g.ids.length->s.testBit u=true->yho (yei (ybt nm nc nr) g c s) u=ybfs g c u:=fun u hu hb=>by
  show((yei _ g c s).getD u []).getD 0 0=_;rw[ydbc hg h hu hb (cf u hu hb)];rfl
 constructor
 .rintro hb ⟨u,hu,e⟩;have hun:u<g.ids.length:=by have:=(hg.adj_lt hu).2;omega
  rw[new v hv hb,ybhc h hun (hD v u hu hb)]at e;exact(ybqi hg (by omega)).2.2 u hu e
 .rintro hn ⟨u,hu,e⟩;have hun:u<g.ids.length:=by have:=(hg.adj_lt hu).2;omega
  have hbv:s.testBit v=false:=by
   cases q:s.testBit v with
   |false=>rfl
   |true=>exact absurd (cf v hv q) hn
  rw[ybhc h hv hbv]at e;cases q:s.testBit u with
  | false =>
    rw[ybhc h hun q]at e;exact hn ⟨u,hu,e⟩
  | true =>
    rw[new u hun q]at e;exact(ybqi hg (by omega)).2.2 v (hg.adj_symm hu) e.symm
def kcR(g:Gr)(r v:Nat)(c:Conf):Prop:=1<=r->¬ynh g c v
theorem ydnu(hg:ybg g):ByRoundsC (yjp (ybt nm nc nr) g) (fun c=>yev (ybt nm nc nr) g c=true) (ybcz g) (kcR g) where
 valid:=fun c s hc _ _ _=>Sh.yix hg ydla (ybfg hg) hc s
 stay:=fun c s v r r' _ _ hV hv _ hs hD _ hP hr=>(yyv hg (yzo hV) hs hD hv).2 (hP hr)
 move:=fun c s v r hV hv hb hs hD _ _=>(yyv hg (yzo hV) hs hD hv).1 hb
 rest:=fun c v r hV hv hb _ _ hq=>by
  have:=(ybpx (nm:=nm) (nc:=nc) (nr:=nr) hg hv).2 hq;have hb:(ybj (ybt nm nc nr) g c).testBit v=false:=hb;rw[hb]at this;cases this
 less:=fun r v c hP hr=>hP (by omega)
theorem ybea(hg:ybg g)(hc:KcC g c)(hs:subB s (ybj (ybt nm nc nr) g c))(hD:ybcz g s):popP (ybj (ybt nm nc nr) g (yei (ybt nm nc nr) g c s))+popP s<=popP (ybj (ybt nm nc nr) g c):=by
 refine ybag (fun i=>?_) 32;cases h1:(ybj (ybt nm nc nr) g (yei (ybt nm nc nr) g c s)).testBit i with
 | false =>
   cases h2:s.testBit i with
   |false=>simp
   |true=>rw[hs i h2];simp
 | true =>
   have hi:i<g.ids.length:=by
    refine zT fun hq=>?_;rw[zU (zAA (Sh.yoq _ g _) (zW (by omega) (by omega)))]at h1
    cases h1
   have hcf:=(ybpx hg hi).1 h1;cases h2:s.testBit i with
   |true=>exact absurd hcf ((yyv hg hc hs hD hi).1 h2)
   | false =>
     have:(ybj (ybt nm nc nr) g c).testBit i=true:=(ybpx hg hi).2 (zT fun hn=>(yyv hg hc hs hD hi).2 hn hcf);rw[this];simp
structure KcJ(nm nc nr:ByteArray)(g:Gr)(c:Conf)(k:Cnt):Prop where
 inv:RInvC (yjp (ybt nm nc nr) g) (fun c=>yev (ybt nm nc nr) g c=true) (kcR g) c k
 moves:k.moves+popP (ybj (ybt nm nc nr) g c)<=g.ids.length
theorem ybiv{a n:Nat}(h:a<2^n):∀m,yen a m<=n
 |0=>zQ _
 | m + 1=>by
   show yen a m+_<=n
   by_cases q:m<n
   .have:=yjf a m;have:(a.testBit m).toNat<=1:=by cases a.testBit m<;>decide
    omega
   .rw[zU (zAA h (zW (by omega) (by omega)))]
    have:=ybiv h m;simp;exact this
def yben(g:Gr)(c:Conf):Prop:=∀v,v<g.ids.length->¬ynh g c v
theorem ycgg(hg:ybg g):ybj (ybt nm nc nr) g c=0↔yben g c:=by
 constructor
 .intro he v hv hq;have:=(ybpx (nm:=nm) (nc:=nc) (nr:=nr) hg hv).2 hq;rw[he]at this;simp at this
 .intro h;rw[yeq];intro i
  by_cases hi:i<g.ids.length
  .cases q:(ybj (ybt nm nc nr) g c).testBit i with
   |false=>rfl
   |true=>exact absurd ((ybpx hg hi).1 q) (h i hi)
  .exact zU (zAA (Sh.yoq _ g c) (zW (by omega) (by omega)))
end
end
section
section
variable {nm nc nr:ByteArray}{g:Gr}{c:Conf}{u v s:Nat}
end
end
section
namespace Sh
open Go Ev
def ydmb:LO:=[o3 (.mv (.const (.string (ByteArray.mk #[])))) 0 0]
def ydqx:LO:=[o3 (.mv (.const (.string (ByteArray.mk #[112,114,111,103,114,97,109,32,99,111,108,111,117,114,105,110,103,59,10,118,97,114,32,99,32,58,32,48,32,46,46,32,110,59,10,114,117,108,101,32,102,105,120,58,32,115,111,109,101,40,113,46,99,32,61,61,32,99,41,32,45,62,32,99,32,58,61,32,109,101,120,40,113,46,99,41,59,10])))) 0 0]
def c23:SC:=(.seq (.reg false ydmb) (.seq (.reg false ydqx) .ret))
theorem ydsc:Fn 23 c23 [.t 0]:=fn_0 Tryz.func23 (by kernel_rfl) (by kernel_rfl)
def ydqj:LO:=[o3 (.box 27 (.tmp 0)) 1 0,o3 (.mv (.const (.bool false))) 2 0]
def ydmv:LO:=[ld' true 2 1 3 0,cl' 131 [3] 4 1,mv' 4 2 3]
def c81:SC:=(.seq (.reg false ydqj) (.seq (.reg false ydmv) .ret))
theorem ydss:Fn 81 c81 [.t 2]:=fn_0 Tryz.func81 (by kernel_rfl) (by kernel_rfl)
def yczj:LO:=[o3 (.box 27 (.tmp 0)) 2 0,o3 (.mv (.const (.bool false))) 4 0]
def ycxj:LO:=[ld' true 2 2 5 0,cl' 81 [5] 6 1,mv' 6 7 3,⟨.load true 2 (.tmp 2),some 8,some (7,true),7⟩,⟨.mv (.tmp 1),some 9,some (7,true),7⟩,⟨.faddr 0 1 (.tmp 2),some 10,some (7,true),7⟩,⟨.load false 1 (.tmp 10),some 11,some (7,true),39⟩,⟨.len (.tmp 11),some 12,some (7,true),103⟩,⟨.bslice 3 1 1 [.i .i64 0] [(0,1,(.tmp 12))],some 13,some (7,true),231⟩,⟨.call (.func 89) [(.tmp 8),(.tmp 9),(.tmp 13)],some 14,some (7,true),511⟩,o3 (.pick (.tmp 7) (.tmp 14) (.const (.bool false))) 15 1023,mv' 15 4 2047]
def c82:SC:=(.seq (.reg false yczj) (.seq (.reg false ycxj) .ret))
theorem ydpd:Fn 82 c82 [.t 4]:=fn_0 Tryz.func82 (by kernel_rfl) (by kernel_rfl)
def ydil:LO:=[o3 (.box 27 (.tmp 0)) 2 0,o3 (.box 46 (.tmp 1)) 3 0,o3 (.mv (.const (.int .u32 0))) 4 0]
def ydha:LO:=[o3 (.alloc 77 1 [.i .u32 0]) 5 0,o0 (.store 1 (.tmp 5) (.const (.int .u32 0))) 1]
def ydta:LO:=[ld' true 2 2 8 0,cl' 53 [8] 9 1]
def ycxv:LO:=[mv' 10 6 0]
def yczv:LO:=[o3 (.alloc 68 1 [.i .i64 0,.i .i64 0]) 7 0,o0 (.store 2 (.tmp 7) (.tmp 11)) 1]
def ycxw:LO:=[ld' false 1 3 12 0,mv' 6 13 0,ix' 1 12 13 14 3,ld' false 1 14 15 7,o3 (.idx 1 (.tmp 15) (ci' 0)) 16 15,ld' false 1 16 17 31,ld' false 1 3 18 0,fa' 0 1 7 19 0,ld' false 1 19 20 128,ix' 1 18 20 21 448,ld' false 1 21 22 960,o3 (.idx 1 (.tmp 22) (ci' 0)) 23 1984,ld' false 1 23 24 4032,bn' .eql 17 24 25 8191]
def ydct:LO:=[ld' false 1 5 26 0,mv' 6 27 0,o3 (.bin .shl (.const (.int .u32 1)) (.tmp 27)) 28 2,bn' .or 26 28 29 7,o0 (.store 1 (.tmp 5) (.tmp 29)) 15]
def ydsu:LO:=[ld' false 1 5 30 0,mv' 30 4 1]
def c83:SC:=(.seq (.reg false ydil) (.seq (.reg false ydha) (.seq (.seq (.reg false ydta) (.block 0 (.range (.tmp 9) [10,11] (.seq (.reg false ycxv) (.reg false yczv)) (.block 1 (.seq (.reg true ycxw) (.cond (.tmp 25) (.reg true ydct) .skip)))))) (.seq (.reg false ydsu) .ret))))
theorem ydpy:Fn 83 c83 [.t 4]:=fn_0 Tryz.func83 (by kernel_rfl) (by kernel_rfl)
def ycza:LO:=[o3 (.box 27 (.tmp 0)) 2 0,o3 (.mv (.const (.bool false))) 4 0]
def ydcx:LO:=[ld' true 2 2 5 0,mv' 1 6 0,cl' 82 [5,6] 7 3,mv' 7 8 7,⟨.load true 2 (.tmp 2),some 9,some (8,true),15⟩,⟨.mv (.tmp 1),some 10,some (8,true),15⟩,⟨.call (.func 83) [(.tmp 9),(.tmp 10)],some 11,some (8,true),63⟩,⟨.bin .eql (.tmp 11) (.const (.int .u32 0)),some 12,some (8,true),127⟩,o3 (.pick (.tmp 8) (.tmp 12) (.const (.bool false))) 13 255,mv' 13 4 511]
def c25:SC:=(.seq (.reg false ycza) (.seq (.reg false ydcx) .ret))
theorem ydhh:Fn 25 c25 [.t 4]:=fn_0 Tryz.func25 (by kernel_rfl) (by kernel_rfl)
def ydbv:LO:=[o3 (.box 27 (.tmp 0)) 1 0,o3 (.alloc 36 1 [.i .i64 0,.b false,.b false,.i .i64 0,.i .i64 0]) 2 0]
def ycwy:LO:=[ld' true 2 1 3 0,cl' 81 [3] 4 1,o3 (.un .not (.tmp 4)) 5 3]
def ydho:LO:=[o3 (.build [.i .i64 0,.b false,.b false,.i .i64 0,.i .i64 0] []) 6 0,o0 (.store 5 (.tmp 2) (.tmp 6)) 1]
def ydqh:LO:=[fa' 0 1 1 7 0,ld' false 1 7 8 1,ln' 8 9 3,o3 (.build [.i .i64 0,.b false,.b false,.i .i64 0,.i .i64 0] [(0,1,(ci' 2)),(2,1,(.const (.bool true))),(3,1,(ci' 1)),(4,1,(.tmp 9))]) 10 7,o0 (.store 5 (.tmp 2) (.tmp 10)) 15]
def c24:SC:=(.seq (.reg false ydbv) (.seq (.seq (.reg false ycwy) (.cond (.tmp 5) (.seq (.reg false ydho) .ret) .skip)) (.seq (.reg false ydqh) .ret)))
theorem ydti:Fn 24 c24 [.c 2 true 5]:=fn_0 Tryz.func24 (by kernel_rfl) (by kernel_rfl)
end Sh
end
section
def yjy(g:Gr)(c:Conf):Bool:=ygt g&&yuv g.ports.length (yee g [(g.ids.length:Int)]) c
def kcEl(c:Conf)(s:Nat)(e:Ev.El):Nat:=if yho c e.v=yho c e.a.toNat then s|||2^e.v else s
def kcTo(g:Gr)(c:Conf)(k:Nat):Nat:=((Ev.flatAt 0 g.ports).take k).foldl (kcEl c) 0
def yui(g:Gr)(c:Conf):Nat:=(Ev.flatAt 0 g.ports).foldl (kcEl c) 0
theorem ybef{g:Gr}{c:Conf}{k:Nat}(hk:k<(Ev.flatAt 0 g.ports).length):kcTo g c (k+1)=kcEl c (kcTo g c k) (Sh.yec g.ports k):=ybrv (kcEl c) 0 hk
theorem ycfd(g:Gr)(c:Conf):kcTo g c (Ev.flatAt 0 g.ports).length=yui g c:=by unfold kcTo yui;rw[List.take_length]
theorem yccd{g:Gr}(hg:ybg g)(c:Conf):∀k,k<=(Ev.flatAt 0 g.ports).length->kcTo g c k<2^24
 |0,_=>zAX 24
 | k+1,hk=>by
   rw[ybef (by omega)]
   have h:=yccd hg c k (by omega)
   have h2:=(yry hg (k:=k) (by omega)).1
   have:=hg.2.1;unfold kcEl;split
   .exact Nat.or_lt_two_pow h (zAK (by omega) (by omega))
   .exact h
theorem ybru(c:Conf):∀(l:List Ev.El) (s i:Nat),(l.foldl (kcEl c) s).testBit i=true↔s.testBit i=true\/∃e∈l,e.v=i/\yho c e.v=yho c e.a.toNat
 |[],s,i=>⟨.inl,fun h=>h.resolve_right fun⟨_,h,_⟩=>nomatch h⟩
 | x :: l,s,i=>by
   rw[List.foldl_cons,ybru c l]
   have hb:(kcEl c s x).testBit i=true↔s.testBit i=true\/(x.v=i/\yho c x.v=yho c x.a.toNat):=by
    unfold kcEl;split
    .rename_i q
     rw[zBB,zAY,zAM,decide_eq_true_iff];exact or_congr zBH ⟨fun h=>⟨h,q⟩,fun h=>h.1⟩
    .rename_i q
     exact⟨.inl,fun h=>h.resolve_right fun h=>q h.2⟩
   rw[hb];constructor
   .rintro((h|h)|⟨e,he,h⟩)
    .exact .inl h
    .exact .inr ⟨x,zAN,h⟩
    .exact .inr ⟨e,zAJ _ he,h⟩
   .rintro(h|⟨e,he,h⟩)
    .exact .inl (.inl h)
    .rcases List.mem_cons.1 he with r|r
     .rw[r]at h;exact .inl (.inr h)
     .exact .inr ⟨e,r,h⟩
theorem ycdd{ps:List (List (Int×Int))}{v:Nat}{l:Int×Int}(hv:v<ps.length)(hl:l∈ps.getD v []):(⟨v,l.1,l.2⟩:Ev.El)∈Ev.flatAt 0 ps:=by
 have key:∀(ps:List (List (Int×Int))) (b v:Nat),v<ps.length->l∈ps.getD v []->(⟨b+v,l.1,l.2⟩:Ev.El)∈Ev.flatAt b ps:=by
  intro ps
  induction ps with
  |nil=>intro b v h;simp at h
  | cons x ps ih =>
    intro b v h hl;show _∈(x.map fun y=>(⟨b,y.1,y.2⟩:Ev.El))++Ev.flatAt (b+1) ps;rw[List.mem_append];cases v with
    |zero=>exact .inl (List.mem_map.2 ⟨l,hl,rfl⟩)
    | succ v =>
      right
      have:=ih (b+1) v (by simpa using h) hl
      rwa [show b+1+v=b+(v+1)by omega]at this
 have:=key ps 0 v hv hl
 rwa [zK]at this
theorem ybdz{g:Gr}(hg:ybg g){c:Conf}{v:Nat}:(yui g c).testBit v=true↔v<g.ports.length/\ynh g c v:=by
 unfold yui;rw[ybru];constructor
 .rintro(h|⟨e,he,rfl,hq⟩)
  .simp at h
  .obtain⟨k,hk,rfl⟩:=zX he;obtain⟨h1,h2⟩:=yry hg hk;have e0:Sh.yec g.ports k=(Ev.flatAt 0 g.ports)[k]:=by unfold Sh.yec;rw[Sh.getD_at hk]
   rw[e0]at h1 h2;exact⟨h1,_,(ypm hg h1 h2).2.2.1,hq.symm⟩
 .rintro⟨hv,u,hu,e⟩;obtain⟨l,hl,rfl⟩:=ybic hu;exact .inr ⟨_,ycdd hv hl,rfl,e.symm⟩
def yfj(g:Gr)(c:Conf):Bool:=yjy g c&&decide (yui g c=0)
def ybge(g:Gr):Sh.SV:=if ygt g=true then .ag (Sh.clmV 2 false true 1 (g.ids.length:Nat))else .ag (Sh.clmV 0 false false 0 0)
theorem ybyt{g:Gr}{c:Conf}(h:yjy g c=true):ybg g/\c.length=g.ports.length/\∀v,v<c.length->(c.getD v []).length=1:=by
 unfold yjy at h;rw[Bool.and_eq_true]at h;have hck:=(yfk _ _ _).1 h.2;refine⟨(yha g).1 h.1,hck.1,fun v hv=>?_⟩;rw[Sh.getD_at hv];have:=(hck.2 v _ (zL hv)).1
 simpa[yee]using this
namespace Sh
open Ev Go.RowKit
theorem ybmc{g:Gr}(hI:GrI g):Returns zH 81 [grV g] (.b (ygt g)):=by
 refine Returns.of (ydss _ _ ?_);have hC:=yxc hI;simp only[grV]at hC;simp only[c81,ydqj,ydmv,grV,go_sem,zA,zB,zC,↓reduceIte];refine hC.use ?_;simp only[ybh,yrw,go_sem,zA,zB,↓reduceIte,reduceCtorEq]
theorem ybvw{g:Gr}(hI:GrI g){c:Conf}(hR:ybqf c):Returns zH 82 [grV g,ycm c] (.b (yjy g c)):=by
 refine Returns.of (ydpd _ _ ?_);have hF:=ybmc hI;unfold yjy;cases ht:ygt g with
 | false =>
   rw[ht]at hF;simp only[grV]at hF;simp only[c82,yczj,ycxj,grV,clash,go_sem,zA,zB,zC,↓reduceIte];refine hF.use ?_;simp only[ybh,clash,go_sem,zA,zB,↓reduceIte,reduceCtorEq];exact Sim.refl _
 | true =>
   have hg:=(yha g).1 ht;have h24:=hg.2.1;have hpl:=hg.2.2.1
   have hC:=ycho hg hR (G:=[(g.ids.length:Int)]) (fun x hx=>by
    simp at hx;subst hx;exact ygj (by omega))
   rw[ht]at hF;simp only[grV]at hF;simp only[c82,yczj,ycxj,grV,clash,go_sem,zA,zB,zC,↓reduceIte];refine hF.use ?_;simp only[ybh,ybc,splice,clash,go_sem,zA,zB,zD,zC,↓reduceIte,reduceCtorEq];have one:∀{q:Nat},q<1->q=0:=fun {q} h=>by omega
   refine .inl ⟨fun q hq=>by obtain rfl:=one hq;simp only[go_sem],hC.useS ?_ ?_⟩
   .refine⟨Sim.refl (grV g),Sim.refl _,?_,trivial⟩;refine ydo fun q hq=>?_;obtain rfl:=one hq;simp only[List.getD_cons_zero,go_sem];exact⟨Sim.refl _,trivial⟩
   simp only[go_sem];exact Sim.refl _
set_option maxHeartbeats 1000000 in
theorem ybwy{g:Gr}(hg:ybg g){c:Conf}(hl:c.length=g.ports.length)(h1:∀v,v<c.length->(c.getD v []).length=1):Returns zH 83 [grV g,ycm c] (.i .u32 (yui g c)):=by
 refine Returns.of (ydpy _ _ ?_);have hLk:=ybqp (g:=g);have h24:=hg.2.1;have hs0:kcTo g c 0=0:=rfl;simp only[grV]at hLk;simp only[c83,ydil,ydha,ydta,grV,splice,clash,go_sem,zA,zB,zC,↓reduceIte,reduceCtorEq];refine hLk.use ?_;simp only[ybh,clash,go_sem]
 refine yjb (ychp (ybxm hg)) [(2,0),(3,0),(5,0)] (fun i (_:Unit)=>⟨[(9,.fn 122 [] [.rf [ybc g.ids,yu g.ports]]),(2,.pt (2,0) 0 0),(3,.pt (3,0) 0 0),(5,.pt (5,0) 0 0)],
  [(2,.one (some ⟨27,true,2,1,fun _=>[ybc g.ids,yu g.ports]⟩)),(3,.one (some ⟨46,true,1,1,fun _=>[ycm c]⟩)),(5,.one (some ⟨77,true,1,1,fun _=>[.i .u32 (kcTo g c i:Nat)]⟩))]⟩) (fun i _=>i<=(flatAt 0 g.ports).length) () (zQ _) ⟨fun _ h=>absurd h zM,fun _ h=>absurd h zM⟩ ?_ (fun _=>rfl) ?_ ?_ ?_
 .refine yh [] [] [] ?_;simp only[hs0,allQ,live,yc,zO,go_sem,zA,zC,↓reduceIte,reduceCtorEq]
 .intro i _ hi _;refine⟨trivial,?_⟩;simp only[go_sem,allQ,go_sem,zA]
 .intro i _ hi hlti;have hlti:i<(flatAt 0 g.ports).length:=hlti;obtain⟨e1,e2⟩:=yry hg hlti;have hs:=ybef (c:=c) hlti;have hb:=yccd hg c i hi;obtain⟨E,hE⟩:∃E,yec g.ports i=E:=⟨_,rfl⟩;rw[hE]at hs e1 e2;obtain⟨a1,a2,_⟩:=ypm hg e1 e2;have a1:0<=E.a:=a1;have a2:E.a.toNat<g.ports.length:=a2;have l1:=h1 E.v (by omega)
  have l2:=h1 E.a.toNat (by omega)
  obtain⟨a,ha⟩:∃a,kcTo g c i=a:=⟨_,rfl⟩;rw[ha]at hs hb;obtain⟨cl,hcl⟩:∃m,c.length=m:=⟨_,rfl⟩;rw[hcl]at hl;refine⟨_,rfl,?_⟩;simp only[ybzn];obtain⟨x,hx⟩:∃x,(c.getD E.v []).getD 0 0=x:=⟨_,rfl⟩;obtain⟨y,hy⟩:∃y,(c.getD E.a.toNat []).getD 0 0=y:=⟨_,rfl⟩;have hxy:kcEl c a E=if x=y then a|||2^E.v else a:=by unfold kcEl yho;rw[hx,hy]
  rw[hxy]at hs
  by_cases q:x=y
  .have z1:(x==y)=true:=by rw[beq_iff_eq];exact q
   have sh:=yxh (v:=E.v) (by omega)
   have ov:=u32_or (a:=a) (b:=2^E.v) (by omega) (zAK (by omega) (by omega))
   rw[if_pos q]at hs;simp only[IntKind.bits,Int.toNat_natCast]at sh ov;simp(maxSteps:=5000000) only [ycxv,yczv,ycxw,ydct,ycm,ybc,ha,hE,hcl,l1,l2,hx,hy,z1,sh,ov,splice,clash,go_sem,zAZ,zA,zB,zD,zC,↓reduceIte,reduceCtorEq]
   repeat (first|refine⟨by omega,?_⟩|refine⟨by decide,?_⟩)
   refine ybi [] [] [] ?_;simp only[hs,allQ,live,yc,go_sem,zA,zC,↓reduceIte,reduceCtorEq]
  .have z1:(x==y)=false:=by rw[beq_eq_false_iff_ne];exact q
   rw[if_neg q]at hs;simp(maxSteps:=5000000) only [ycxv,yczv,ycxw,ydct,ycm,ybc,ha,hE,hcl,l1,l2,hx,hy,z1,splice,clash,go_sem,zAZ,zA,zB,zD,zC,↓reduceIte,reduceCtorEq]
   repeat (first|refine⟨by omega,?_⟩|refine⟨by decide,?_⟩)
   refine ybi [] [] [] ?_;simp only[hs,allQ,live,yc,go_sem,zA,zC,↓reduceIte,reduceCtorEq]
 .intro _ _;have e:=ycfd g c;simp only[ydsu,ybzn,e,clash,go_sem,zA,zB,↓reduceIte,reduceCtorEq];exact Sim.refl _
theorem ybnq{g:Gr}(hI:GrI g){c:Conf}(hR:ybqf c):Returns zH 25 [grV g,ycm c] (.b (yfj g c)):=by
 refine Returns.of (ydhh _ _ ?_);have hC:=ybvw hI hR;unfold yfj;cases hcf:yjy g c with
 | false =>
   rw[hcf]at hC;simp only[grV]at hC;simp only[c25,ycza,ydcx,grV,clash,go_sem,zA,zB,zC,↓reduceIte,reduceCtorEq];refine hC.use ?_;simp only[ybh,clash,go_sem,zA,zB,↓reduceIte,reduceCtorEq];exact Sim.refl _
 | true =>
   obtain⟨hg,hl,h1⟩:=ybyt hcf;have hK:=ybwy hg hl h1;have e:(((yui g c:Nat):Int)==0)=decide (yui g c=0):=by rw[Bool.eq_iff_iff,beq_iff_eq,decide_eq_true_iff];omega
   rw[hcf]at hC;rw[zV,<-e];simp only[grV]at hC hK;simp only[c25,ycza,ydcx,grV,clash,go_sem,zA,zB,zC,↓reduceIte,reduceCtorEq];refine hC.use ?_;simp only[ybh,clash,go_sem,zA,zB,↓reduceIte,reduceCtorEq];refine hK.use ?_;simp only[go_sem,↓reduceIte];exact Sim.refl _
theorem ybqb{g:Gr}(hI:GrI g):Returns zH 24 [grV g] (ybge g):=by
 refine Returns.of (ydti _ _ ?_);have hF:=ybmc hI;unfold ybge;cases ht:ygt g with
 | false =>
   rw[ht]at hF;simp only[grV]at hF;simp only[c24,ydbv,ycwy,ydho,grV,clmV,clash,go_sem,zA,zB,zC,↓reduceIte];refine hF.use ?_;simp only[ybh,splice,clash,go_sem,zA,zB,↓reduceIte];exact Sim.refl _
 | true =>
   rw[ht]at hF;simp only[grV]at hF;simp only[c24,ydbv,ycwy,ydqh,grV,clmV,clash,go_sem,zA,zB,zC,↓reduceIte];refine hF.use ?_;simp only[ybh,ybc,splice,clash,go_sem,zA,zB,zD,↓reduceIte,reduceCtorEq];exact Sim.refl _
end Sh
end
section
def ymm(ls:List (Int×Int))(b:Int):Bool:=ls.any fun l=>decide (l.1=b)
namespace Sh
open Ev Go.RowKit
theorem ybmq{ids:List Int}{ports:List (List (Int×Int))}{a b:Nat}(ha:a<ports.length)(hl:(ports.getD a []).length<=100000) :
 Returns zH 116 [.ag [ybc ids,yu ports],.i .i64 a,.i .i64 b] (.b (ymm (ports.getD a []) b)):=by
 refine Returns.of (ydcy _ _ ?_);obtain⟨n,hn⟩:∃n,ports.length=n:=⟨_,rfl⟩;obtain⟨L,hL⟩:∃L,ports.getD a []=L:=⟨_,rfl⟩;rw[hL]at hl ⊢;obtain⟨m,hm⟩:∃m,L.length=m:=⟨_,rfl⟩;simp only[c116,ycvw,yciz,go_sem,zB,zC,↓reduceIte];refine ybf (σ:=Nat) (fun k=>⟨[(7,.i .i64 k),(3,.pt (3,0) 0 0),(1,.i .i64 a),(2,.i .i64 b)],[(3,.one (some ⟨27,true,2,1,fun _=>[ybc ids,yu ports]⟩))]⟩) (fun k=>k<=m/\∀j,j<k->(L.getD j (0,0)).1≠b) (fun k=>m-k) 0 ⟨zQ _,fun j hj=>absurd hj (zS j)⟩ ?_ ?_
 .refine yh [] [] [] ?_;simp only[go_sem,allQ,live,yc,zO,go_sem,zA,zC,↓reduceIte,reduceCtorEq]
 .rintro k ⟨hk,hno⟩;simp only[ycwl,yctr,ycrp,ycpp,ycuw,yu,ybb,hn,hL,hm,go_sem,zA,zB,zD,↓reduceIte,reduceCtorEq];refine⟨⟨by omega,by omega⟩,fun hlt=>⟨⟨by omega,by omega⟩,⟨by omega,by omega⟩,fun he=>?_,fun hne=>⟨ikw (by omega) (by omega),?_⟩⟩,fun hge=>?_⟩
  .have hk':k<L.length:=by omega
   have:ymm L b=true:=List.any_eq_true.2 ⟨L[k],zAU _,by rw[getD_at hk']at he;exact decide_eq_true he⟩
   rw[this];exact Sim.refl _
  .refine yj (k+1) ⟨by omega,fun j hj=>?_⟩ (by omega) ?_
   .by_cases q:j=k
    .rw[q];exact hne
    .exact hno j (by omega)
   refine yh [] [] [] ?_;simp only[allQ,live,yc,yba,go_sem,zA,zC,↓reduceIte,reduceCtorEq];omega
  .have:ymm L b=false:=List.any_eq_false.2 fun l hl he=>by
    obtain⟨j,hj,rfl⟩:=zX hl;have:=hno j (by omega)
    rw[getD_at hj]at this;exact this (of_decide_eq_true he)
   rw[this];exact Sim.refl _
end Sh
end
section
namespace Sh
open Go Ev
theorem Cm.weak {P:Program}{g:FuncId}{o:Own}{args:List SV}{Q R:SV->Own->Prop}(h:Cm P g [] o args Q)
 (hq:∀r o',Q r o'->∃r2 o2,Weak [] ⟨[(0,r)],o'⟩ ⟨[(0,r2)],o2⟩/\(cln (live o2) 5 r2=true/\allQ (fun p=>ybu (live o2) p.2) o2)/\R r2 o2):Cm P g [] o args R:=by
 intro lo G ω f m us hc hargs;obtain⟨v,m1,r,o',F',ω',s0,t2,hrv,l1,l2,_,_,hQ⟩:=h lo G ω f m us hc hargs;obtain⟨r2,o2,hw,hcl,hR⟩:=hq r o' hQ
 have t3:Conc lo F' ω' ⟨[(0,r)],o'⟩ ⟨1,tOf [v]⟩ m1:=⟨t2.wf,t2.low,t2.nxt,t2.sub,t2.own,t2.dom,t2.inj,t2.apart,fun t x hx=>by
  unfold look at hx;split at hx
  .rename_i e
   cases hx
   exact⟨v,by rw[ycz];simp[<-e],hrv⟩
  .cases hx⟩
 obtain⟨ω2,F2,k1,k2,k3,_⟩:=hw lo F' ω' _ m1 t3;obtain⟨u,q1,q2⟩:=k3.fr 0 r2 rfl
 have e:u=v:=by
  rw[ycz]at q1
  simpa using q1.symm
 subst e
 exact⟨u,m1,r2,o2,F2,ω2,s0,⟨k3.wf,k3.low,k3.nxt,k3.sub,k3.own,k3.dom,k3.inj,k3.apart,fun t x hx=>(by cases hx)⟩,q2,fun x b hx=>k1 x b (l1 x b hx),fun x b hx=>by
  rcases k2 x b hx with z|z
  .exact l2 x b z
  .exact .inr z,fun β hβ=>absurd hβ zM,⟨hcl.1,hcl.2,trivial⟩,hR⟩
end Sh
end
section
structure NetR where
 n:Int
 links:List Int
 weights:List Int
 ids:List Int
 apart:Bool
 back:Bool
def NetR.ok(x:NetR):Prop:=Sh.inK .i64 x.n/\(∀k,Sh.inK .i64 (x.links.getD k 0))/\(∀k,Sh.inK .i64 (x.weights.getD k 0))/\(∀k,Sh.inK .i64 (x.ids.getD k 0))
theorem ybfd(a r:Nat)(hr:r<=256):((zN r).map fun i=>(((a+i)%256:Nat):Int)).Nodup:=by
 unfold List.Nodup;rw[zAR];refine List.Pairwise.imp_of_mem (R:=(· < ·)) (fun {i j} hi hj h=>?_) List.pairwise_lt_range;have hi:=List.mem_range.1 hi;have hj:=List.mem_range.1 hj;intro e;omega
theorem ybll{a r:Nat}{l:List Int}(hr:r<=256)(h:∀i,i<r->(((a+i)%256:Nat):Int)∈l):r<=l.length:=by
 have:=List.Nodup.length_le_of_subset (ybfd a r hr) (l₂:=l) fun x hx=>by
  obtain⟨i,hi,rfl⟩:=List.mem_map.1 hx;exact h i (List.mem_range.1 hi)
 simpa using this
namespace Sh
open Ev Go.RowKit
def netC(x:NetR):List SV:=[.i .i64 x.n,ybc x.links,ybc x.weights,ybc x.ids,.b x.apart,.b x.back]
theorem wrap64_in(z:Int):inK .i64 (IntKind.wrap .i64 z):=by
 unfold inK;have e1:IntKind.i64.min = -9223372036854775808:=rfl;have e2:IntKind.i64.max=9223372036854775807:=rfl;have h1:=Int.emod_nonneg z (show(18446744073709551616:Int)≠0 by decide)
 have h2:=Int.emod_lt_of_pos z (show(0:Int)<18446744073709551616 by decide)
 rw[e1,e2]
 have e:IntKind.wrap .i64 z=if z%18446744073709551616>=9223372036854775808 then z%18446744073709551616-18446744073709551616 else z%18446744073709551616:=by
  show(if (true&&decide (z%18446744073709551616>=9223372036854775808))=true then z%18446744073709551616-18446744073709551616 else z%18446744073709551616)=_
  simp only[zV,decide_eq_true_eq]
 rw[e];split<;>omega
theorem ybvv{x:NetR}(hx:x.ok){most:Nat}(hm:1<=most/\most<=24) :
 Cm zH 47 [] [] [.ag (netC x),.i .i64 most] fun r o=>∃ids:List Int,(1<=ids.length/\ids.length<=most/\(ids.length:Int)=1+ydi (IntKind.wrap .i64 (x.n-1)) most)/\(∀y∈ids,0<=y/\y<=255)/\ids.Nodup/\r = .ag [.os (148,0) 0 ids.length true,.os (17,0) 0 ids.length true] /\
  o=[(17,.one (some ⟨135,false,1,ids.length,fun _=>[.a (.slice none 0 0)]⟩)),(148,.one (some ⟨3,false,1,ids.length,fun k=>[.i .i64 (ids.getD k 0)]⟩))]:=by
 refine ycyw [] [] _ _ _ ?_;obtain⟨hx1,hx2,hx3,hx4⟩:=hx;have hin:=yfx (v:=IntKind.wrap .i64 (x.n-1)) (m:=(most:Int)) (by omega)
 obtain⟨k,hk⟩:∃k:Nat,ydi (IntKind.wrap .i64 (x.n-1)) most=k:=zJ hin.1;have hW:=yfw (IntKind.wrap .i64 (x.n-1)) most (by omega) (wrap64_in _)
 rw[hk]at hW hin;obtain⟨n,hn⟩:∃n:Nat,(1:Int)+(k:Int)=(n:Int):=⟨1+k,by omega⟩
 have hn1:1<=n/\n<=most/\(n:Int)=1+ydi (IntKind.wrap .i64 (x.n-1)) most:=by omega
 simp only[c47,ydje,ydju,netC,go_sem,zA,zB,zD,zC,↓reduceIte,reduceCtorEq];refine hW.use ?_;simp only[ybh,ydie,ydjl,hn,clash,go_sem,zA,zB,zC,↓reduceIte,reduceCtorEq];refine⟨ikw (by omega) (by omega),⟨by omega,by omega,by omega⟩,?_⟩
 refine ybf (σ:=List Int) (fun l=>⟨[(7,.i .i64 l.length),(5,.i .i64 n),(2,.pt (2,0) 0 0),(6,.pt (6,0) 0 0),(4,.pt (4,0) 0 0)],
  [(2,.one (some ⟨24,true,6,1,fun _=>netC x⟩)),(4,.one (some ⟨27,true,2,1,fun _=>[.a (.slice none 0 0),.a (.slice none 0 0)]⟩)),
   (6,.one (some ⟨27,true,2,1,fun _=>[.os (148,0) 0 l.length true,.os (17,0) 0 n true]⟩)),(17,.one (some ⟨135,false,1,n,fun _=>[.a (.slice none 0 0)]⟩)),
   (148,.one (some ⟨3,false,1,l.length,fun k=>[.i .i64 (l.getD k 0)]⟩))]⟩)
  (fun l=>l.length<=n/\(∀y∈l,0<=y/\y<=255)/\l.Nodup) (fun l=>n-l.length) [] ⟨zQ _,fun y hy=>(zM hy).elim,List.nodup_nil⟩ ?_ ?_
 .refine yh [] [148] [] ?_;simp only[netC,allQ,live,yc,zO,go_sem,zA,zC,zF,↓reduceIte,reduceCtorEq];exact fun i _=>⟨(148,0),rfl,rfl,rfl⟩
 .rintro l ⟨hl,hl2,hl3⟩;obtain⟨v,hv⟩:∃v,l.length=v:=⟨_,rfl⟩;rw[hv]at hl;have hA:=at_ret x.ids v;have hi2:=yfx (v:=atP x.ids v) (m:=256) (by omega)
  obtain⟨a,ha⟩:∃a:Nat,ydi (atP x.ids v) 256=a:=zJ hi2.1;have hW2:=yfw (atP x.ids v) 256 (by omega) (hx4 v)
  rw[ha]at hW2 hi2;simp only[ydgx,ydnf,ydlq,ycng,netC,hv,splice,clash,go_sem,zA,zB,zD,↓reduceIte,reduceCtorEq];refine⟨fun hlt=>?_,fun hge=>?_⟩
  .refine hA.use ?_;simp only[ybh,clash,go_sem,zA,zB,↓reduceIte,reduceCtorEq];refine hW2.use ?_
   refine ybf (σ:=Nat×Nat) (fun q=>⟨[(9,.i .i64 q.2),(8,.i .i64 ((a+q.1)%256:Nat)),(7,.i .i64 v),(5,.i .i64 n),(2,.pt (2,0) 0 0),(6,.pt (6,0) 0 0),(4,.pt (4,0) 0 0)],
    [(2,.one (some ⟨24,true,6,1,fun _=>netC x⟩)),(4,.one (some ⟨27,true,2,1,fun _=>[.a (.slice none 0 0),.a (.slice none 0 0)]⟩)),
     (6,.one (some ⟨27,true,2,1,fun _=>[.os (148,0) 0 v true,.os (17,0) 0 n true]⟩)),(17,.one (some ⟨135,false,1,n,fun _=>[.a (.slice none 0 0)]⟩)),
     (148,.one (some ⟨3,false,1,v,fun k=>[.i .i64 (l.getD k 0)]⟩))]⟩)
    (fun q=>q.2<=v/\(∀i,i<q.1->(((a+i)%256:Nat):Int)∈l)/\q.1<=256/\∀j,j<q.2->l.getD j 0≠(((a+q.1)%256:Nat):Int)) (fun q=>(v-q.1)*(v+2)+(v-q.2)) (0,0) ⟨zQ _,fun i hi=>absurd hi (zS i),by omega,fun j hj=>absurd hj (zS j)⟩ ?_ ?_
   .refine yh [] [] [] ?_;simp only[netC,allQ,live,yc,yba,zO,go_sem,zA,zC,↓reduceIte,reduceCtorEq];rw[Nat.mod_eq_of_lt (by omega)]
   .rintro⟨r,u⟩ ⟨hu,hr,hr256,hno⟩;obtain⟨b,hb⟩:∃b,(a+r)%256=b:=⟨_,rfl⟩;have hb256:b<256:=by omega
    simp only[ydgr,ydtf,ycsb,ycsv,ycon,ydlp,netC,hb,splice,clash,go_sem,zA,zB,zD,zC,↓reduceIte,reduceCtorEq];have hu:u<=v:=hu;have hr:∀i,i<r->(((a+i)%256:Nat):Int)∈l:=hr;have hr256:r<=256:=hr256;have hno:∀j,j<u->l.getD j 0≠(b:Int):=fun j hj=>by rw[<-hb];exact hno j hj
    have hrv:r<=v:=by rw[<-hv];exact ybll hr256 hr
    refine⟨fun hlt2=>⟨⟨by omega,by omega⟩,by omega,fun he=>⟨ikw (by omega) (by omega),by decide,ikw (by omega) (by omega),?_⟩,fun hne=>⟨ikw (by omega) (by omega),?_⟩⟩,fun hge2=>?_⟩
    .have hmem:(b:Int)∈l:=by
      rw[<-he,getD_at (show u<l.length by omega)]
      exact zAU _
     have hr':∀i,i<r+1->(((a+i)%256:Nat):Int)∈l:=fun i hi=>by
      by_cases q:i=r
      .rw[q,hb];exact hmem
      .exact hr i (by omega)
     have hrv':r+1<=v:=by rw[<-hv];exact ybll (by omega) hr'
     refine yj (r+1,0) ⟨zQ _,hr',by show r+1<=256;omega,fun j hj=>absurd hj (zS j)⟩ ?_ ?_
     .show(v-(r+1))*(v+2)+(v-0)<(v-r)*(v+2)+(v-u);obtain⟨m,hm⟩:∃m,v-r=m+1:=⟨v-r-1,by omega⟩
      rw[show v-(r+1)=m by omega,hm,Nat.succ_mul]
      generalize m*(v+2)=z
      omega
     .refine yh [] [] [] ?_;simp only[allQ,live,yc,yba,zO,go_sem,zA,zC,↓reduceIte,reduceCtorEq];refine⟨by omega,?_⟩
      rw[Int.tmod_eq_emod_of_nonneg (by omega)]
      omega
    .refine yj (r,u+1) ⟨by show u+1<=v;omega,hr,hr256,fun j hj=>?_⟩ ?_ ?_
     .show l.getD j 0≠(((a+r)%256:Nat):Int);rw[hb]
      by_cases q:j=u
      .rw[q];exact hne
      .exact hno j (by have:j<u+1:=hj;omega)
     .show(v-r)*(v+2)+(v-(u+1))<(v-r)*(v+2)+(v-u)
      generalize (v-r)*(v+2)=z
      omega
     .refine yh [] [] [] ?_;simp only[hb,allQ,live,yc,yba,go_sem,zA,zC,↓reduceIte,reduceCtorEq];omega
    .obtain rfl:u=v:=by omega
     refine⟨⟨by omega,by omega⟩,ikw (by omega) (by omega),?_⟩
     have hno':(b:Int)∉l:=fun hm=>by
      obtain⟨j,hj,e⟩:=zX hm;exact hno j (by omega) (by rw[getD_at hj,e])
     refine yj (l++[(b:Int)]) ⟨by rw[zAB,zAI];omega,fun y hy=>?_,?_⟩ (by rw[zAB,zAI];omega) ?_
     .rcases List.mem_append.1 hy with hy|hy
      .exact hl2 y hy
      .rw[List.mem_singleton.1 hy];omega
     .rw[List.nodup_append];exact⟨hl3,by simp,fun y hy z hz=>by rw[List.mem_singleton.1 hz];exact fun e=>hno' (e▸hy)⟩
     refine yh [(148,fun i=>(48,i))] [] [] ?_;simp only[zAB,hv,allQ,live,yc,yba,go_sem,zA,zC,↓reduceIte,reduceCtorEq];refine⟨by omega,fun i hi=>?_⟩
     rw[ydji,hv]
     by_cases q:i<u
     .simp only[if_pos q];simp only[live,yc,go_sem,reduceCtorEq]
     .obtain rfl:i=u:=by omega
      simp only[if_neg q,zAO];simp only[live,yc,go_sem,↓reduceIte,reduceCtorEq]
  .obtain rfl:v=n:=by omega
   simp only[yfu,go_sem];refine⟨.ag [.os (148,0) 0 v true,.os (17,0) 0 v true],[(17,.one (some ⟨135,false,1,v,fun _=>[.a (.slice none 0 0)]⟩)),(148,.one (some ⟨3,false,1,v,fun k=>[.i .i64 (l.getD k 0)]⟩))],?_,?_,l,by rw[hv];exact hn1,hl2,hl3,by rw[hv],by rw[hv]⟩
   .refine yh [] [] [] ?_;simp only[allQ,live,yc,go_sem,zA,zC,↓reduceIte,reduceCtorEq]
   .simp only[ybu,ydj,allQ,live,go_sem,zA,↓reduceIte]
theorem ybjc{x:NetR}(hx:x.ok){most:Nat}(hm:1<=most/\most<=24) :
 Cm zH 47 [] [] [.ag (netC x),.i .i64 most] fun r o=>∃ids:List Int,(1<=ids.length/\ids.length<=most/\(ids.length:Int)=1+ydi (IntKind.wrap .i64 (x.n-1)) most)/\(∀y∈ids,0<=y/\y<=255)/\ids.Nodup/\r = .ag [ybc ids,.os (17,0) 0 ids.length true] /\
  o=[(17,.one (some ⟨135,false,1,ids.length,fun _=>[.a (.slice none 0 0)]⟩))] :=
 (ybvv hx hm).weak fun r o' ⟨ids,h1,h2,h3,e1,e2⟩=>by
   subst e1 e2;obtain⟨v,hv⟩:∃v,ids.length=v:=⟨_,rfl⟩;refine⟨.ag [ybc ids,.os (17,0) 0 ids.length true],[(17,.one (some ⟨135,false,1,ids.length,fun _=>[.a (.slice none 0 0)]⟩))],?_,?_,ids,h1,h2,h3,rfl,rfl⟩
   .refine yh [] [] [(148,0)] ?_;simp only[ybc,hv,allQ,live,yc,go_sem,zA,zC,↓reduceIte,reduceCtorEq]
   .simp only[ybu,ydj,allQ,live,go_sem,↓reduceIte]
end Sh
end
section
def yie(back:Bool)(g:Gr)(a b:Nat)(w:Int):Gr:=if a=b\/ymm (g.ports.getD a []) b=true then g else ycs back g a b w
namespace Sh
open Ev Go.RowKit
def rowO(l:List (Int×Int)):OB:=⟨68,false,2,l.length,fun k=>[.i .i64 (l.getD k (0,0)).1,.i .i64 (l.getD k (0,0)).2]⟩
def ycq(ports:List (List (Int×Int))):Own:=[(211,.one (some ⟨135,false,1,ports.length,fun v=>[.os (212,v) 0 (ports.getD v []).length true]⟩)),
 (212,.many fun v=>if v<ports.length then some (rowO (ports.getD v []))else none)]
def yfl(g:Gr):SV:=.ag [ybc g.ids,.os (211,0) 0 g.ports.length true]
theorem yct{i n:Nat}{x b:OB}(h:(if i<n then some x else none)=some b):i<n/\b=x:=by
 split at h
 .cases h;exact⟨by assumption,rfl⟩
 .cases h
theorem ybz(back:Bool)(L:List (Int×Int))(x:Int×Int):(addL back L x).length=L.length+1:=by
 unfold addL;cases back<;>simp
theorem ybbi(L:List (Int×Int))(x:Int×Int){k:Nat}(hk:k<L.length+1):(if k<L.length then[SV.i .i64 (L.getD k (0,0)).1,SV.i .i64 (L.getD k (0,0)).2]else zBD 2 (zBE ((k-L.length)*2) [SV.i .i64 x.1,SV.i .i64 x.2]))=[SV.i .i64 ((addL false L x).getD k (0,0)).1,SV.i .i64 ((addL false L x).getD k (0,0)).2]:=by
 show _=[SV.i .i64 ((L++[x]).getD k (0,0)).1,SV.i .i64 ((L++[x]).getD k (0,0)).2];rw[ydji]
 by_cases h:k<L.length
 .rw[if_pos h,if_pos h]
 .obtain rfl:k=L.length:=by omega
  rw[if_neg h,if_neg h,if_pos rfl,zAO];rfl
theorem yng(L:List (Int×Int))(x:Int×Int)(k:Nat):(if k<1 then zBD 2 (zBE (k*2) [SV.i .i64 x.1,SV.i .i64 x.2])else[SV.i .i64 (L.getD (k-1) (0,0)).1,SV.i .i64 (L.getD (k-1) (0,0)).2])=[SV.i .i64 ((addL true L x).getD k (0,0)).1,SV.i .i64 ((addL true L x).getD k (0,0)).2]:=by
 show _=[SV.i .i64 ((x::L).getD k (0,0)).1,SV.i .i64 ((x::L).getD k (0,0)).2];cases k with
 |zero=>rfl
 |succ k=>rw[if_neg (by omega)];rfl
theorem cells_one(L:List (Int×Int))(h:L.length=0)(x:Int×Int){k:Nat}(hk:k<1):zBD 2 (zBE (k*2) [SV.i .i64 x.1,SV.i .i64 x.2])=[SV.i .i64 ((addL true L x).getD k (0,0)).1,SV.i .i64 ((addL true L x).getD k (0,0)).2]:=by
 obtain rfl:k=0:=by omega
 rfl
theorem yjn {n:Nat}{o:Own}{P':List (List (Int×Int))}(hl:P'.length=n) (A:Nat->Nm) {R:Nat->List SV}(h11:lookO o (211,0)=some ⟨135,false,1,n,R⟩) (hR:∀v,v<n->R v=[.os (A v) 0 (P'.getD v []).length true])
 (hA:∀v,v<n->∃q,lookO o (A v)=some ⟨68,false,2,(P'.getD v []).length,q⟩/\∀k,k<(P'.getD v []).length->q k=[.i .i64 ((P'.getD v []).getD k (0,0)).1,.i .i64 ((P'.getD v []).getD k (0,0)).2])
 (hi:∀u v,u<n->v<n->A u=A v->u=v) (h0:∀v,v<n->A v≠(211,0)) :
 ∃r o',Weak [(211,0)] ⟨[(0,.tp [])],o⟩ ⟨[(0,r)],o'⟩/\(cln (live o') 5 r=true/\allQ (fun p=>ybu (live o') p.2) o'/\allQ (fun β=>live o' β=true) [(211,0)])/\r = .tp []/\o'=ycq P':=by
 subst hl
 have hsome:∀i,(if i<P'.length then some (rowO (P'.getD i []))else none).isSome=true->i<P'.length:=fun i h=>by
  by_cases q:i<P'.length
  .exact q
  .rw[if_neg q]at h;cases h
 have hlive:∀i,i<P'.length->live (ycq P') (212,i)=true:=fun i hi=>by
  show(if i<P'.length then some (rowO (P'.getD i []))else none).isSome=true
  rw[if_pos hi];rfl
 refine⟨.tp [],ycq P',ybfu [(212,A)] [] [] trivial ⟨.inr ⟨.inr fun e=>⟨rfl,rfl⟩,.inr fun j hj e=>?_,trivial⟩,.inr ⟨.inr fun i hi' e=>?_,.inr fun i hi' j hj e=>⟨rfl,?_⟩,trivial⟩,trivial⟩ ⟨?_,trivial⟩ ⟨?_,fun i b hb=>?_,trivial⟩ ⟨⟨rfl,rfl,rfl⟩,trivial⟩,⟨rfl,⟨?_,?_,trivial⟩,rfl,trivial⟩,rfl,rfl⟩
 .exact absurd e.symm (h0 j (hsome j hj))
 .exact absurd e (h0 i (hsome i hi'))
 .exact hi i j (hsome i hi') (hsome j hj) e
 .exact⟨_,rfl,.inl ⟨trivial,Sim.refl _,rfl⟩⟩
 .refine⟨_,h11,⟨rfl,rfl,rfl,rfl,rfl⟩,fun e=>absurd (show false=true from e) zG,fun i hi'=>?_⟩
  have hi':i<P'.length:=hi';show telL _ _ _ _ _ (R i) _;rw[hR i hi'];refine⟨.inl ⟨by simp only[go_sem],Sim.refl _,?_⟩,rfl,trivial⟩
  show(live (ycq P') (212,i) && !(List.elem 212 []))=true;rw[hlive i hi'];rfl
 .obtain⟨hi',rfl⟩:=yct hb;obtain⟨q,q1,q2⟩:=hA i hi';refine⟨_,q1,⟨rfl,rfl,rfl,rfl,rfl⟩,fun e=>absurd (show false=true from e) zG,fun k hk=>?_⟩
  show telL _ _ _ _ _ (q k) _;rw[q2 k hk];exact⟨.inl ⟨trivial,Sim.refl _,rfl⟩,rfl,.inl ⟨trivial,Sim.refl _,rfl⟩,rfl,trivial⟩
 .intro k hk;have:live (ycq P') (212,k)=true:=hlive k hk;simp only[ycq,List.all_cons,List.all_nil,Bool.and_true]at this ⊢;exact this
 .intro i b hb k hk;obtain⟨hi',rfl⟩:=yct hb;rfl
section
variable {x:NetR}{g:Gr}{a b:Nat}{w:Int}
theorem ybzx (ha:a<g.ports.length)(hb:b<g.ports.length)(hn:g.ports.length<=24)(hd:∀v,(g.ports.getD v []).length<=1000) :
 Cm zH 48 [(211,0)] (ycq g.ports) [.ag (netC x),yfl g,.i .i64 a,.i .i64 b,.i .i64 w] fun r o=>r = .tp []/\o=ycq (yie x.back g a b w).ports:=by
 refine ydav [(211,0)] [] _ _ _ ?_;obtain⟨O2,hO2⟩:∃O,ycq (yie x.back g a b w).ports=O:=⟨_,rfl⟩;rw[hO2]
 by_cases hab:a=b
 .subst hab;have hP:yie x.back g a a w=g:=if_pos (.inl rfl);rw[hP]at hO2;simp only[c48,ydbx,yczf,netC,yfl,ycq,yfu,go_sem,zA,zB,zC,↓reduceIte,reduceCtorEq];subst hO2;exact yjn rfl (fun v=>(212,v)) rfl (fun v hv=>rfl) (fun v hv=>⟨_,if_pos hv,fun k hk=>rfl⟩) (fun u v _ _ e=>congrArg Prod.snd e) (fun v _ e=>by cases e)
 .have hne:((a:Int)==(b:Int))=false:=by rw[beq_eq_false_iff_ne];omega
  have hL:=ybmq (ids:=g.ids) (ports:=g.ports) (b:=b) ha (by have:=hd a;omega)
  simp only[c48,ydbx,yczf,netC,yfl,ycq,hne,clash,go_sem,zA,zB,zC,↓reduceIte,reduceCtorEq];refine .inl ⟨fun q hq=>by rw[if_pos hq];exact⟨zZ _,fun k hk=>by simp only[rowO,go_sem]⟩,hL.useS ?_ ?_⟩
  .refine⟨ybao ⟨Sim.refl _,?_,trivial⟩,Sim.refl _,Sim.refl _,trivial⟩;refine ydo fun q hq=>?_;rw[if_pos hq];simp only[rowO,ybb,go_sem];exact⟨Sim.refl _,trivial⟩
  cases hlk:ymm (g.ports.getD a []) b with
  | true =>
    have hP:yie x.back g a b w=g:=if_pos (.inr hlk);rw[hP]at hO2;simp only[ybh,clash,yfu,go_sem,zA,zB,↓reduceIte];subst hO2;exact yjn rfl (fun v=>(212,v)) rfl (fun v hv=>rfl) (fun v hv=>⟨_,if_pos hv,fun k hk=>rfl⟩) (fun u v _ _ e=>congrArg Prod.snd e) (fun v _ e=>by cases e)
  | false =>
    have hP:yie x.back g a b w=ycs x.back g a b w:=if_neg (fun q=>by rcases q with q|q;exact hab q;rw[hlk]at q;cases q)
    rw[hP]at hO2;subst hO2;have hba:¬b=a:=fun e=>hab e.symm;have hlen:(ycs x.back g a b w).ports.length=g.ports.length:=by simp[ycs]
    have hat:=yea x.back g w ha hb;obtain⟨G',hG'⟩:∃G,(ycs x.back g a b w).ports=G:=⟨_,rfl⟩;rw[hG']at hlen ⊢;have hat:∀v,G'.getD v []=if v=b then addL x.back (g.ports.getD b []) (a,w)else if v=a then addL x.back (g.ports.getD a []) (b,w)else g.ports.getD v []:=fun v=>by rw[<-hG'];exact hat v
    clear hG' hP
    obtain⟨x1,x2,x3,x4,x5,back⟩:=x;have hda:=hd a;have hdb:=hd b;cases back with
    | false =>
      simp only[ybh,clash,ybqa,ybnx,ydgw,rowO,if_pos ha,if_pos hb,hab,hba,yfu,and_false,go_sem,zA,zB,zD,zC,↓reduceIte,reduceCtorEq];refine⟨⟨by omega,by omega⟩,by omega,⟨by omega,by omega⟩,by decide,⟨by omega,by omega⟩,by omega,⟨by omega,by omega⟩,by decide,⟨by omega,by omega⟩,by omega,by decide,⟨by omega,by omega⟩,by omega,by decide,?_⟩
      refine yjn hlen (fun v=>if v=b then(74,0)else if v=a then(66,0)else(212,v)) rfl (fun v hv=>?_) (fun v hv=>?_) (fun u v _ _ e=>?_) (fun v _ e=>?_)
      .rw[hat v]
       by_cases q:v=b
       .simp only[if_pos q,ybz]
       .by_cases q2:v=a
        .simp only[if_neg q,if_pos q2,ybz]
        .simp only[if_neg q,if_neg q2]
      .rw[hat v]
       by_cases q:v=b
       .simp only[if_pos q,ybz];exact⟨_,rfl,fun k hk=>ybbi _ (_,_) hk⟩
       .by_cases q2:v=a
        .simp only[if_neg q,if_pos q2,ybz];exact⟨_,rfl,fun k hk=>ybbi _ (_,_) hk⟩
        .simp only[if_neg q,if_neg q2];refine⟨fun k=>[.i .i64 ((g.ports.getD v []).getD k (0,0)).1,.i .i64 ((g.ports.getD v []).getD k (0,0)).2],?_,fun k hk=>rfl⟩;show(if v=b then none else if v=a then none else if v<g.ports.length then some _ else none)=some _
         rw[if_neg q,if_neg q2,if_pos hv]
      .by_cases q:u=b<;>by_cases q2:u=a<;>by_cases q3:v=b<;>by_cases q4:v=a<;>simp[q,q2,q3,q4,hab]at e ⊢<;>omega
      .by_cases q:v=b<;>by_cases q2:v=a<;>simp[q,q2,hab]at e
    | true =>
      by_cases hza:(g.ports.getD a []).length=0
      .by_cases hzb:(g.ports.getD b []).length=0
       .simp only[ybh,clash,ybqa,ybnx,ybrx,ybtu,rowO,if_pos ha,if_pos hb,hba,yfu,and_false,hza,hzb,go_sem,zA,zB,zD,zC,zAL,↓reduceIte,reduceCtorEq]
        repeat' apply zAP
        all_goals first|omega|decide|skip
        refine yjn hlen (fun v=>if v=b then(45,0)else if v=a then(33,0)else(212,v)) rfl (fun v hv=>?_) (fun v hv=>?_) (fun u v _ _ e=>?_) (fun v _ e=>?_)
        .rw[hat v]
         by_cases q:v=b
         .simp only[if_pos q,ybz,hzb,zK]
         .by_cases q2:v=a
          .simp only[if_neg q,if_pos q2,ybz,hza,zK]
          .simp only[if_neg q,if_neg q2]
        .rw[hat v]
         by_cases q:v=b
         .simp only[if_pos q,ybz,hzb,zK];exact⟨_,rfl,fun k hk=>cells_one _ hzb (_,_) hk⟩
         .by_cases q2:v=a
          .simp only[if_neg q,if_pos q2,ybz,hza,zK];exact⟨_,rfl,fun k hk=>cells_one _ hza (_,_) hk⟩
          .simp only[if_neg q,if_neg q2];refine⟨fun k=>[.i .i64 ((g.ports.getD v []).getD k (0,0)).1,.i .i64 ((g.ports.getD v []).getD k (0,0)).2],?_,fun k hk=>rfl⟩;show(if v<g.ports.length then some _ else none)=some _
           rw[if_pos hv]
        .by_cases q:u=b<;>by_cases q2:u=a<;>by_cases q3:v=b<;>by_cases q4:v=a<;>simp[q,q2,q3,q4,hab]at e ⊢<;>omega
        .by_cases q:v=b<;>by_cases q2:v=a<;>simp[q,q2,hab]at e
       .simp only[ybh,clash,ybqa,ybnx,ybrx,ybtu,rowO,if_pos ha,if_pos hb,hba,yfu,and_false,hza,hzb,go_sem,zA,zB,zD,zC,zAL,↓reduceIte,reduceCtorEq]
        repeat' apply zAP
        all_goals first|omega|decide|skip
        refine yjn hlen (fun v=>if v=b then(51,0)else if v=a then(33,0)else(212,v)) rfl (fun v hv=>?_) (fun v hv=>?_) (fun u v _ _ e=>?_) (fun v _ e=>?_)
        .rw[hat v]
         by_cases q:v=b
         .simp only[if_pos q,ybz,zI]
         .by_cases q2:v=a
          .simp only[if_neg q,if_pos q2,ybz,hza,zK,zI]
          .simp only[if_neg q,if_neg q2]
        .rw[hat v]
         by_cases q:v=b
         .simp only[if_pos q,ybz];exact⟨_,congrArg some (congrArg (fun n=>OB.mk _ _ _ n _) (zI _ _)),fun k hk=>yng _ (_,_) k⟩
         .by_cases q2:v=a
          .simp only[if_neg q,if_pos q2,ybz,hza,zK];exact⟨_,rfl,fun k hk=>cells_one _ hza (_,_) hk⟩
          .simp only[if_neg q,if_neg q2];refine⟨fun k=>[.i .i64 ((g.ports.getD v []).getD k (0,0)).1,.i .i64 ((g.ports.getD v []).getD k (0,0)).2],?_,fun k hk=>rfl⟩;show(if v<g.ports.length then some _ else none)=some _
           rw[if_pos hv]
        .by_cases q:u=b<;>by_cases q2:u=a<;>by_cases q3:v=b<;>by_cases q4:v=a<;>simp[q,q2,q3,q4,hab]at e ⊢<;>omega
        .by_cases q:v=b<;>by_cases q2:v=a<;>simp[q,q2,hab]at e
      .by_cases hzb:(g.ports.getD b []).length=0
       .simp only[ybh,clash,ybqa,ybnx,ybrx,ybtu,rowO,if_pos ha,if_pos hb,hba,yfu,and_false,hza,hzb,go_sem,zA,zB,zD,zC,zAL,↓reduceIte,reduceCtorEq]
        repeat' apply zAP
        all_goals first|omega|decide|skip
        refine yjn hlen (fun v=>if v=b then(45,0)else if v=a then(39,0)else(212,v)) rfl (fun v hv=>?_) (fun v hv=>?_) (fun u v _ _ e=>?_) (fun v _ e=>?_)
        .rw[hat v]
         by_cases q:v=b
         .simp only[if_pos q,ybz,hzb,zK,zI]
         .by_cases q2:v=a
          .simp only[if_neg q,if_pos q2,ybz,zI]
          .simp only[if_neg q,if_neg q2]
        .rw[hat v]
         by_cases q:v=b
         .simp only[if_pos q,ybz,hzb,zK];exact⟨_,rfl,fun k hk=>cells_one _ hzb (_,_) hk⟩
         .by_cases q2:v=a
          .simp only[if_neg q,if_pos q2,ybz];exact⟨_,congrArg some (congrArg (fun n=>OB.mk _ _ _ n _) (zI _ _)),fun k hk=>yng _ (_,_) k⟩
          .simp only[if_neg q,if_neg q2];refine⟨fun k=>[.i .i64 ((g.ports.getD v []).getD k (0,0)).1,.i .i64 ((g.ports.getD v []).getD k (0,0)).2],?_,fun k hk=>rfl⟩;show(if v<g.ports.length then some _ else none)=some _
           rw[if_pos hv]
        .by_cases q:u=b<;>by_cases q2:u=a<;>by_cases q3:v=b<;>by_cases q4:v=a<;>simp[q,q2,q3,q4,hab]at e ⊢<;>omega
        .by_cases q:v=b<;>by_cases q2:v=a<;>simp[q,q2,hab]at e
       .simp only[ybh,clash,ybqa,ybnx,ybrx,ybtu,rowO,if_pos ha,if_pos hb,hba,yfu,and_false,hza,hzb,go_sem,zA,zB,zD,zC,↓reduceIte,reduceCtorEq]
        repeat' apply zAP
        all_goals first|omega|decide|skip
        refine yjn hlen (fun v=>if v=b then(51,0)else if v=a then(39,0)else(212,v)) rfl (fun v hv=>?_) (fun v hv=>?_) (fun u v _ _ e=>?_) (fun v _ e=>?_)
        .rw[hat v]
         by_cases q:v=b
         .simp only[if_pos q,ybz,zI]
         .by_cases q2:v=a
          .simp only[if_neg q,if_pos q2,ybz,zI]
          .simp only[if_neg q,if_neg q2]
        .rw[hat v]
         by_cases q:v=b
         .simp only[if_pos q,ybz];exact⟨_,congrArg some (congrArg (fun n=>OB.mk _ _ _ n _) (zI _ _)),fun k hk=>yng _ (_,_) k⟩
         .by_cases q2:v=a
          .simp only[if_neg q,if_pos q2,ybz];exact⟨_,congrArg some (congrArg (fun n=>OB.mk _ _ _ n _) (zI _ _)),fun k hk=>yng _ (_,_) k⟩
          .simp only[if_neg q,if_neg q2];refine⟨fun k=>[.i .i64 ((g.ports.getD v []).getD k (0,0)).1,.i .i64 ((g.ports.getD v []).getD k (0,0)).2],?_,fun k hk=>rfl⟩;show(if v<g.ports.length then some _ else none)=some _
           rw[if_pos hv]
        .by_cases q:u=b<;>by_cases q2:u=a<;>by_cases q3:v=b<;>by_cases q4:v=a<;>simp[q,q2,q3,q4,hab]at e ⊢<;>omega
        .by_cases q:v=b<;>by_cases q2:v=a<;>simp[q,q2,hab]at e
end
end Sh
end
section
theorem ywg{back:Bool}{g:Gr}{a b:Nat}{w:Int}(hg:ybg g)(ha:a<g.ports.length)(hb:b<g.ports.length)(hw:1<=w/\w<=15):ybg (yie back g a b w)/\(yie back g a b w).ids=g.ids/\(yie back g a b w).ports.length=g.ports.length:=by
 unfold yie
 by_cases h:a=b\/ymm (g.ports.getD a []) b=true
 .rw[if_pos h];exact⟨hg,rfl,rfl⟩
 .rw[if_neg h];refine⟨ybdf hg ha hb (fun e=>h (.inl e)) hw fun l hl e=>h (.inr (List.any_eq_true.2 ⟨l,hl,decide_eq_true e⟩)),rfl,by simp[ycs]⟩
theorem ybde{back:Bool}{g:Gr}{a b:Nat}{w:Int}(ha:a<g.ports.length)(hb:b<g.ports.length){m:Nat}(h:Tre g m):Tre (yie back g a b w) m:=by
 unfold yie;split
 .exact h
 .exact h.add ha hb
theorem ybvn{back:Bool}{g:Gr}{a b:Nat}{w:Int}(ha:a<g.ports.length)(hb:b<g.ports.length)(hab:a≠b):adj (yie back g a b w) a b:=by
 unfold yie;split
 .rename_i h
  rcases h with h|h
  .exact absurd h hab
  .obtain⟨l,hl,e⟩:=List.any_eq_true.1 h;exact ylp.2 ⟨l,hl,of_decide_eq_true e⟩
 .exact ybhs ha hb hab
theorem ybep:∀(l:List Nat) (i x:Nat) (h:i<l.length),(l.set i x).sum+l[i]=l.sum+x
 |a::l,0,x,_=>by simp;omega
 | a::l,i+1,x,h=>by
   have:=ybep l i x (by simpa using h)
   simp only[List.set_cons_succ,List.sum_cons,List.getElem_cons_succ];omega
theorem yboe{back:Bool}{g:Gr}{a b:Nat}{w:Int}(ha:a<g.ports.length)(hb:b<g.ports.length)(hab:a≠b):yud (ycs back g a b w)=yud g+2:=by
 unfold yud ycs;simp only[List.map_set,Sh.ybz];have h1:=ybep (g.ports.map zAS) a ((g.ports.getD a []).length+1) (by simpa using ha)
 have h2:=ybep ((g.ports.map zAS).set a ((g.ports.getD a []).length+1)) b ((g.ports.getD b []).length+1) (by simpa using hb)
 rw[List.getElem_set_ne hab,zAV,<-Sh.getD_at hb (d:=[])]at h2;rw[zAV,<-Sh.getD_at ha (d:=[])]at h1;omega
def WtF(x:NetR)(g:Gr):Prop:=∀v l,l∈g.ports.getD v []->∃i,l.2=1+ydi (atP x.weights i) 15
theorem ybkk{x:NetR}{back:Bool}{g:Gr}{a b:Nat}{w:Int}(ha:a<g.ports.length)(hb:b<g.ports.length)(hw:∃i,w=1+ydi (atP x.weights i) 15)(h:WtF x g):WtF x (yie back g a b w):=by
 unfold yie;split
 .exact h
 .intro v l hl;rw[yea back g w ha hb]at hl;split at hl
  .rcases yeo.1 hl with rfl|hl
   .exact hw
   .exact h _ _ hl
  .split at hl
   .rcases yeo.1 hl with rfl|hl
    .exact hw
    .exact h _ _ hl
   .exact h _ _ hl
structure TreeTo(x:NetR)(v:Nat)(g:Gr):Prop where
 tre:Tre g v
 wt:WtF x g
 none_:∀u,v<=u->g.ports.getD u []=[]
 count:yud g+2=2*v
theorem yki(ids:List Int)(v:Nat):(bare ids).ports.getD v []=[]:=by
 unfold bare;rw[zAD,List.getElem?_replicate];split<;>rfl
theorem TreeTo.zero(x:NetR)(ids:List Int):TreeTo x 1 (bare ids):=by
 refine⟨fun v h0 h1=>by omega,fun v l hl=>?_,fun u _=>yki ids u,?_⟩
 .rw[yki]at hl;exact absurd hl zM
 .have:yud (bare ids)=0:=by
   unfold yud bare;simp
  omega
theorem TreeTo.succ{x:NetR}{v:Nat}{g:Gr}(hg:ybg g)(h:TreeTo x v g)(hv:v<g.ports.length)(h1:1<=v){a:Nat}(ha:a<v){w:Int}(hw:∃i,w=1+ydi (atP x.weights i) 15):TreeTo x (v+1) (yie x.back g a v w):=by
 have hadj:=ybvn (back:=x.back) (g:=g) (a:=a) (b:=v) (w:=w) (by omega) (by omega) (by omega)
 have hno:¬(a=v\/ymm (g.ports.getD a []) v=true):=by
  rintro(e|e)
  .omega
  .obtain⟨l,hl,e⟩:=List.any_eq_true.1 e;have e:=of_decide_eq_true e;have:adj g v a:=hg.adj_symm (ylp.2 ⟨l,hl,e⟩);obtain⟨l',hl',_⟩:=ylp.1 this;rw[h.none_ v (zZ _)]at hl';exact absurd hl' zM
 have e:yie x.back g a v w=ycs x.back g a v w:=by unfold yie;rw[if_neg hno]
 refine⟨fun u h0 hu=>?_,ybkk (by omega) hv hw h.wt,fun u hu=>?_,?_⟩
 .by_cases q:u=v
  .subst q;exact⟨a,ha,hadj⟩
  .exact ybde (by omega) hv h.tre u h0 (by omega)
 .rw[e,yea x.back g w (by omega) hv,if_neg (by omega),if_neg (by omega)]
  exact h.none_ u (by omega)
 .rw[e,yboe (by omega) hv (by omega)]
  have:=h.count;omega
namespace Sh
open Ev Go.RowKit
theorem yrt{n:Nat}{P:List (List (Int×Int))}{f:SV->SV}(hf:∀k z,f (.i k z) = .i k z){i:Nat}(hi:i<n):(match (if i<n then some (rowO (P.getD i []))else none)with|some b=>some (⟨b.e,b.bx,b.z,b.n,fun k=>(b.g k).map f⟩:OB)|none=>none)=some (rowO (P.getD i [])):=by
 rw[if_pos hi];simp[rowO,hf]
theorem ydce{x:NetR}(hx:x.ok){most:Nat}(hm:1<=most/\most<=24) :
 Cm zH 10 [] [] [.ag (netC x),.i .i64 most] fun r o=>∃g,ybg g/\TreeTo x g.ports.length g/\(g.ports.length<=most/\(g.ports.length:Int)=1+ydi (IntKind.wrap .i64 (x.n-1)) most)/\r=yfl g/\o=ycq g.ports:=by
 refine ydfl [] [47,48] _ _ _ ?_;have hN:=ybjc hx hm;obtain⟨hx1,hx2,hx3,hx4⟩:=hx;simp only[netC]at hN;simp only[c10,ydrp,ydow,netC,go_sem,zA,zB,zC,↓reduceIte,reduceCtorEq];refine yck hN [(17,117)] 0 [2,4] [2,4] ?_ ?_
 .simp only[okN,ybu,ydj,ycp,ycj,allQ,live,yc,go_sem,zA,zB,zF,↓reduceIte,reduceCtorEq]
 rintro r o' ⟨ids,h1,h2,h3,rfl,rfl⟩;obtain⟨n,hn⟩:∃n,ids.length=n:=⟨_,rfl⟩;rw[hn]at h1;simp only[hn,yif,yhh,nuF,nu,difN,ycp,ycj,Fam.ren,OB.ren,dim,ydpl,ywr,yfq,go_sem,zA,zB,zC,zF,↓reduceIte];simp only[ydmw,go_sem]
 refine ybf (σ:=Nat×Gr) (fun q=>⟨[(6,.i .i64 q.1),(5,.pt (5,0) 0 0),(2,.pt (2,0) 0 0),(4,.pt (4,0) 0 0)],
  (5,.one (some ⟨27,true,2,1,fun _=>[ybc q.2.ids,.os (211,0) 0 n true]⟩))::(2,.one (some ⟨24,true,6,1,fun _=>netC x⟩))::(4,.one (some ⟨27,true,2,1,fun _=>[.a (.slice none 0 0),.a (.slice none 0 0)]⟩))::ycq q.2.ports⟩)
  (fun q=>ybg q.2/\q.2.ports.length=n/\TreeTo x q.1 q.2/\1<=q.1/\q.1<=n) (fun q=>n-q.1) (1,bare ids) ⟨ybdh (by omega) (by omega) h2 h3,by simp[bare,hn],TreeTo.zero x ids,by omega,by omega⟩ ?_ ?_
 .refine yh [(211,fun i=>(117,i))] [212] [] ?_;have b1:(bare ids).ids=ids:=rfl;have b2:(bare ids).ports.length=n:=by simp[bare,hn]
  have b3:∀v,(bare ids).ports.getD v []=[]:=yki ids;simp only[netC,ycq,rowO,b1,b2,b3,zAG,allQ,live,yc,yba,go_sem,zA,zC,zF,↓reduceIte,reduceCtorEq];refine⟨rfl,fun i hi=>⟨(212,i),rfl,rfl,by simp[hi]⟩,fun i b hb=>?_⟩
  obtain⟨_,rfl⟩:=yct hb;exact⟨rfl,rfl⟩
 .rintro⟨v,g⟩ ⟨hg,hgn,htr,hv1,hvn⟩;have hg:ybg g:=hg;have hgn:g.ports.length=n:=hgn;have htr:TreeTo x v g:=htr;have hv1:1<=v:=hv1;have hvn:v<=n:=hvn
  by_cases hlt:v<n
  .have ht:decide ((v:Int)<(n:Int))=true:=decide_eq_true (by omega)
   have hv2:(v:Int)-1=((v-1:Nat):Int):=by omega
   have hA1:=at_ret x.links (v-1);have hA2:=at_ret x.weights (v-1);have hi1:=yfx (v:=atP x.links (v-1)) (m:=(v:Int)) (by omega)
   have hi2:=yfx (v:=atP x.weights (v-1)) (m:=15) (by omega)
   have hW1:=yfw (atP x.links (v-1)) v (by omega) (hx2 _)
   have hW2:=yfw (atP x.weights (v-1)) 15 (by omega) (hx3 _)
   obtain⟨a,ha⟩:∃a:Nat,ydi (atP x.links (v-1)) v=a:=zJ hi1.1;obtain⟨w,hw⟩:∃w:Int,ydi (atP x.weights (v-1)) 15=w:=⟨_,rfl⟩;rw[ha]at hW1 hi1;rw[hw]at hW2 hi2;have hL:=ybzx (x:=x) (g:=g) (a:=a) (b:=v) (w:=1+w) (by omega) (by omega) (by omega) (fun u=>by have:=hg.deg_lt (v:=u);omega)
   simp only[ycyp,ydny,ydsz,netC,ycq,ht,hv2,clash,go_sem,zA,zB,zD,zF,↓reduceIte,reduceCtorEq];refine⟨ikw (by omega) (by omega),hA1.use ?_⟩
   simp only[ybh,clash,go_sem,zA,zB,zD,zF,↓reduceIte,reduceCtorEq];refine hW1.use ?_;simp only[hv2,go_sem];refine⟨ikw (by omega) (by omega),hA2.use ?_⟩
   simp only[go_sem,↓reduceIte];refine hW2.use ?_;simp only[go_sem,zA,zF,↓reduceIte];refine⟨ikw (by omega) (by omega),yck hL [(211,211),(212,212)] 0 [2,4,5,6] [2,4,5] ?_ ?_⟩
   .simp only[netC,yfl,ycq,hgn,to1,okN,ybu,ydj,ycp,ycj,allQ,live,yc,go_sem,zA,zB,zC,zF,↓reduceIte,reduceCtorEq];refine⟨⟨fun i _ j _ e=>e,fun i hi=>by rw[if_pos hi],fun i b hb=>?_⟩,by decide⟩
    obtain⟨hi,rfl⟩:=yct hb;exact⟨_,if_pos hi,⟨rfl,rfl,rfl,rfl⟩,fun e=>absurd (show false=true from e) zG,fun k hk=>by simp only[rowO,live,yc,go_sem,reduceCtorEq]⟩
   .rintro r o' ⟨rfl,rfl⟩;simp only[ycq,yif,yhh,nuF,nu,difN,ycp,ycj,Fam.ren,OB.ren,dim,yll,yfq,go_sem,zA,zB,zF,↓reduceIte,reduceCtorEq];obtain⟨gg1,gg2,gg3⟩:=ywg (back:=x.back) (a:=a) (b:=v) (w:=1+w) hg (by omega) (by omega) (by omega)
    have gg4:=htr.succ hg (by omega) hv1 (a:=a) (by omega) (w:=1+w) ⟨v-1,by rw[hw]⟩
    obtain⟨G,hG⟩:∃G,yie x.back g a v (1+w)=G:=⟨_,rfl⟩;rw[hG]at gg1 gg2 gg3 gg4 ⊢;rw[hgn]at gg3;refine⟨ikw (by omega) (by omega),yj (v+1,G) ⟨gg1,gg3,gg4,by omega,by omega⟩ (by show n-(v+1)<n-v;omega) ?_⟩
    .refine yh [] [] [] ?_;simp only[gg3,gg2,allQ,live,yc,yba,go_sem,zA,zC,↓reduceIte,reduceCtorEq];refine⟨fun i _ j _ e=>e,by omega,fun i hi=>by rw[if_pos hi],fun i b hb=>?_⟩
     obtain⟨hi,rfl⟩:=yct hb;refine⟨_,yrt (f:=ren (nu [(211,211),(212,212)] 0) 5) (fun _ _=>rfl) hi,⟨rfl,rfl,rfl,rfl⟩,fun e=>absurd (show false=true from e) zG,fun k hk=>?_⟩
     simp only[rowO,live,yc,go_sem,reduceCtorEq]
  .obtain rfl:v=n:=by omega
   have ht:decide ((v:Int)<(v:Int))=false:=decide_eq_false (by omega)
   simp only[ycyp,ydiy,netC,ycq,ht,clash,splice,yfu,go_sem,zA,zB,↓reduceIte,reduceCtorEq];refine⟨yfl g,ycq g.ports,?_,?_,g,hg,by rw[hgn];exact htr,by omega,rfl,rfl⟩
   .refine yh [] [] [] ?_;simp only[ycq,yfl,hgn,allQ,live,yc,go_sem,zA,zC,↓reduceIte,reduceCtorEq];refine⟨fun i _ j _ e=>e,fun i hi=>by rw[if_pos hi],fun i b hb=>?_⟩
    obtain⟨hi,rfl⟩:=yct hb;exact⟨_,if_pos hi,⟨rfl,rfl,rfl,rfl⟩,fun e=>absurd (show false=true from e) zG,fun k hk=>by simp only[rowO,live,yc,go_sem,reduceCtorEq]⟩
   .simp only[ycq,yfl,ybu,ydj,allQ,live,go_sem,zA,↓reduceIte];refine⟨fun i hi=>by rw[if_pos hi],fun i b hb k hk=>?_⟩
    obtain⟨hi,rfl⟩:=yct hb;simp only[rowO,go_sem]
end Sh
end
section
namespace Sh
open Ev Go.RowKit
theorem ybva{x:NetR}(hx:x.ok){g:Gr}(hg:ybg g){Q:Gr->Prop}(ht:Q g)(hQ:∀G a b w,ybg G->G.ports.length=g.ports.length->a<G.ports.length->b<G.ports.length->(∃i,w=1+ydi (atP x.weights i) 15)->Q G->Q (yie x.back G a b w)) :
 Cm zH 80 [] (ycq g.ports) [.ag (netC x),yfl g] fun r o=>∃g',ybg g'/\Q g'/\g'.ports.length=g.ports.length/\r=yfl g'/\o=ycq g'.ports:=by
 refine ydcq [] [48] _ _ _ ?_;obtain⟨hx1,hx2,hx3,hx4⟩:=hx;have h1:=hg.1;have h24:=hg.2.1;obtain⟨n,hn⟩:∃n,g.ports.length=n:=⟨_,rfl⟩;rw[hn]at h1 h24 hQ;obtain⟨L,hL⟩:∃L,x.links.length=L:=⟨_,rfl⟩;simp only[c80,ydoh,ydre,ydkw,netC,yfl,ycq,hn,clash,go_sem,zA,zB,zC,↓reduceIte,reduceCtorEq]
 refine ybf (σ:=Nat×Gr) (fun q=>⟨[(6,.i .i64 q.1),(5,.i .i64 n),(3,.pt (3,0) 0 0),(2,.pt (2,0) 0 0),(4,.pt (4,0) 0 0)],
  (3,.one (some ⟨27,true,2,1,fun _=>[ybc q.2.ids,.os (211,0) 0 n true]⟩))::(2,.one (some ⟨24,true,6,1,fun _=>netC x⟩))::(4,.one (some ⟨27,true,2,1,fun _=>[.a (.slice none 0 0),.a (.slice none 0 0)]⟩))::ycq q.2.ports⟩)
  (fun q=>ybg q.2/\q.2.ports.length=n/\Q q.2/\q.1<=61) (fun q=>62-q.1) (n,g) ⟨hg,hn,ht,by show n<=61;omega⟩ ?_ ?_
 .refine yh [] [] [] ?_;simp only[netC,ycq,hn,allQ,live,yc,go_sem,zA,zC,↓reduceIte,reduceCtorEq];refine⟨fun i _ j _ e=>e,fun i hi=>by rw[if_pos hi],fun i b hb=>?_⟩
  obtain⟨hi,rfl⟩:=yct hb;exact⟨_,if_pos hi,⟨rfl,rfl,rfl,rfl⟩,fun e=>absurd (show false=true from e) zG,fun k hk=>by simp only[rowO,live,yc,go_sem,reduceCtorEq]⟩
 .rintro⟨i,G⟩ ⟨gg,ggn,gtr,hi61⟩;have gg:ybg G:=gg;have ggn:G.ports.length=n:=ggn;have gtr:Q G:=gtr;have hi61:i<=61:=hi61;have hi1:(i:Int)+1=((i+1:Nat):Int):=by omega
  by_cases hlt:i+1<L
  .by_cases h60:i<60
   .have ht1:decide (((i+1:Nat):Int)<(L:Int))=true:=decide_eq_true (by omega)
    have ht2:decide ((i:Int)<60)=true:=decide_eq_true (by omega)
    have hA2:=at_ret x.weights i;have hi2:=yfx (v:=atP x.weights i) (m:=15) (by omega)
    have hw1:=yfx (v:=x.links.getD i 0) (m:=(n:Int)) (by omega)
    have hw2:=yfx (v:=x.links.getD (i+1) 0) (m:=(n:Int)) (by omega)
    have hW1:=yfw (x.links.getD i 0) n (by omega) (hx2 i)
    have hW2:=yfw (x.links.getD (i+1) 0) n (by omega) (hx2 (i+1))
    have hW3:=yfw (atP x.weights i) 15 (by omega) (hx3 _)
    obtain⟨a,ha⟩:∃a:Nat,ydi (x.links.getD i 0) n=a:=zJ hw1.1;obtain⟨b,hb⟩:∃b:Nat,ydi (x.links.getD (i+1) 0) n=b:=zJ hw2.1;obtain⟨w,hw⟩:∃w:Int,ydi (atP x.weights i) 15=w:=⟨_,rfl⟩;rw[ha]at hW1 hw1;rw[hb]at hW2 hw2;rw[hw]at hW3 hi2;have hK:=ybzx (x:=x) (g:=G) (a:=a) (b:=b) (w:=1+w) (by omega) (by omega) (by omega) (fun u=>by have:=gg.deg_lt (v:=u);omega)
    simp only[ycdt,ydgb,ydmm,netC,ycq,ybc,hL,hi1,ht1,ht2,clash,go_sem,zA,zB,zD,zF,↓reduceIte,reduceCtorEq];refine⟨ikw (by omega) (by omega),⟨by omega,by omega⟩,hW1.use ?_⟩
    simp only[ybh,clash,hi1,go_sem,zA,zB,zD,zF,↓reduceIte,reduceCtorEq];refine⟨ikw (by omega) (by omega),⟨by omega,by omega⟩,hW2.use ?_⟩
    simp only[go_sem];simp only[ybc]at hA2;refine hA2.use ?_;simp only[go_sem,↓reduceIte];refine hW3.use ?_;simp only[go_sem,zA,↓reduceIte];refine⟨ikw (by omega) (by omega),yck hK [(211,211),(212,212)] 0 [2,3,4,5,6] [2,3,4] ?_ ?_⟩
    .simp only[netC,yfl,ycq,ggn,ybc,hL,to1,okN,ybu,ydj,ycp,ycj,allQ,live,yc,go_sem,zA,zB,zC,zF,↓reduceIte,reduceCtorEq];refine⟨⟨fun i _ j _ e=>e,fun i hi=>by rw[if_pos hi],fun i b hb=>?_⟩,by decide⟩
     obtain⟨hi,rfl⟩:=yct hb;exact⟨_,if_pos hi,⟨rfl,rfl,rfl,rfl⟩,fun e=>absurd (show false=true from e) zG,fun k hk=>by simp only[rowO,live,yc,go_sem,reduceCtorEq]⟩
    .rintro r o' ⟨rfl,rfl⟩;simp only[ycq,yif,yhh,nuF,nu,difN,ycp,ycj,Fam.ren,OB.ren,dim,yll,yfq,go_sem,zA,zB,zF,↓reduceIte,reduceCtorEq];obtain⟨gg1,gg2,gg3⟩:=ywg (back:=x.back) (a:=a) (b:=b) (w:=1+w) gg (by omega) (by omega) (by omega)
     have gg4:=hQ G a b (1+w) gg ggn (by omega) (by omega) ⟨i,by rw[hw]⟩ gtr
     obtain⟨H,hH⟩:∃H,yie x.back G a b (1+w)=H:=⟨_,rfl⟩;rw[hH]at gg1 gg2 gg3 gg4 ⊢;rw[ggn]at gg3;refine⟨ikw (by omega) (by omega),yj (i+2,H) ⟨gg1,gg3,gg4,by show i+2<=61;omega⟩ (by show 62-(i+2)<62-i;omega) ?_⟩
     refine yh [] [] [] ?_;simp only[gg3,gg2,allQ,live,yc,yba,go_sem,zA,zC,↓reduceIte,reduceCtorEq];refine⟨fun i _ j _ e=>e,by omega,fun i hi=>by rw[if_pos hi],fun i b hb=>?_⟩
     obtain⟨hi,rfl⟩:=yct hb;refine⟨_,yrt (f:=ren (nu [(211,211),(212,212)] 0) 5) (fun _ _=>rfl) hi,⟨rfl,rfl,rfl,rfl⟩,fun e=>absurd (show false=true from e) zG,fun k hk=>?_⟩
     simp only[rowO,live,yc,go_sem,reduceCtorEq]
   .have ht1:decide (((i+1:Nat):Int)<(L:Int))=true:=decide_eq_true (by omega)
    have ht2:decide ((i:Int)<60)=false:=decide_eq_false (by omega)
    simp only[ycdt,ycyy,netC,ycq,ybc,hL,hi1,ht1,ht2,clash,splice,yfu,go_sem,zA,zB,zD,↓reduceIte,reduceCtorEq];refine⟨ikw (by omega) (by omega),?_⟩
    refine⟨yfl G,ycq G.ports,?_,?_,G,gg,gtr,ggn,rfl,rfl⟩
    .refine yh [] [] [] ?_;simp only[ycq,yfl,ggn,ybc,allQ,live,yc,go_sem,zA,zC,↓reduceIte,reduceCtorEq];refine⟨fun i _ j _ e=>e,fun i hi=>by rw[if_pos hi],fun i b hb=>?_⟩
     obtain⟨hi,rfl⟩:=yct hb;exact⟨_,if_pos hi,⟨rfl,rfl,rfl,rfl⟩,fun e=>absurd (show false=true from e) zG,fun k hk=>by simp only[rowO,live,yc,go_sem,reduceCtorEq]⟩
    .simp only[ycq,yfl,ybu,ydj,allQ,live,go_sem,zA,↓reduceIte];refine⟨fun i hi=>by rw[if_pos hi],fun i b hb k hk=>?_⟩
     obtain⟨hi,rfl⟩:=yct hb;simp only[rowO,go_sem]
  .have ht1:decide (((i+1:Nat):Int)<(L:Int))=false:=decide_eq_false (by omega)
   simp only[ycdt,ycyy,netC,ycq,ybc,hL,hi1,ht1,clash,splice,yfu,go_sem,zA,zB,zD,↓reduceIte,reduceCtorEq];refine⟨ikw (by omega) (by omega),?_⟩
   refine⟨yfl G,ycq G.ports,?_,?_,G,gg,gtr,ggn,rfl,rfl⟩
   .refine yh [] [] [] ?_;simp only[ycq,yfl,ggn,ybc,allQ,live,yc,go_sem,zA,zC,↓reduceIte,reduceCtorEq];refine⟨fun i _ j _ e=>e,fun i hi=>by rw[if_pos hi],fun i b hb=>?_⟩
    obtain⟨hi,rfl⟩:=yct hb;exact⟨_,if_pos hi,⟨rfl,rfl,rfl,rfl⟩,fun e=>absurd (show false=true from e) zG,fun k hk=>by simp only[rowO,live,yc,go_sem,reduceCtorEq]⟩
   .simp only[ycq,yfl,ybu,ydj,allQ,live,go_sem,zA,↓reduceIte];refine⟨fun i hi=>by rw[if_pos hi],fun i b hb k hk=>?_⟩
    obtain⟨hi,rfl⟩:=yct hb;simp only[rowO,go_sem]
theorem yun{x:NetR}(hx:x.ok){most:Nat}(hm:1<=most/\most<=24) :
 Ct zH 79 [.ag (netC x),.i .i64 most] fun r=>∃g,ybg g/\ybwk g=true/\(g.ports.length<=most/\WtF x g)/\Sim r (grV g):=by
 refine yczr [10,80] _ _ ?_;have hT:=ydce hx hm;simp only[netC]at hT;simp only[c79,ydjn,ydiw,netC,clash,go_sem,zA,zB,zC,↓reduceIte,reduceCtorEq];refine yck hT [(211,211),(212,212)] 0 [2,4,5] [2,4] ?_ ?_
 .simp only[okN,ybu,ydj,ycp,ycj,allQ,live,yc,go_sem,zA,zB,zF,↓reduceIte,reduceCtorEq]
 rintro r o' ⟨g,hg,ht,⟨hn,-⟩,rfl,rfl⟩;have hM:=ybva (Q:=fun G=>Tre G g.ports.length/\WtF x G) hx hg ⟨ht.tre,ht.wt⟩ (fun G a b w gG gl ga gb gw gQ=>⟨ybde ga gb gQ.1,ybkk ga gb gw gQ.2⟩);simp only[netC]at hM;simp only[ycq,yfl,yif,yhh,nuF,nu,difN,ycp,ycj,Fam.ren,OB.ren,dim,ywr,yfq,go_sem,zA,zB,zF,↓reduceIte];refine yck hM [(211,211),(212,212)] 0 [4] [4] ?_ ?_
 .simp only[yfl,ycq,to1,okN,ybu,ydj,ycp,ycj,allQ,live,yc,go_sem,zA,zB,zC,zF,↓reduceIte,reduceCtorEq];refine⟨⟨fun i _ j _ e=>e,fun i hi=>by rw[if_pos hi],fun i b hb=>?_⟩,by decide⟩
  obtain⟨hi,rfl⟩:=yct hb;refine⟨_,yrt (f:=ren (nu [(211,211),(212,212)] 0) 5) (fun _ _=>rfl) hi,⟨rfl,rfl,rfl,rfl⟩,fun e=>absurd (show false=true from e) zG,fun k hk=>?_⟩
  simp only[rowO,live,yc,go_sem,reduceCtorEq]
 rintro r o' ⟨G,gg,⟨gt,gw⟩,gn,rfl,rfl⟩;simp only[ycq,yfl,clash,splice,yif,yhh,nuF,nu,difN,ycp,ycj,Fam.ren,OB.ren,dim,ywr,yfq,go_sem,zA,zB,zF,↓reduceIte];refine⟨by decide,fun q hq=>?_,G,gg,Tre.conn gg (by rw[gn];exact gt),⟨by omega,gw⟩,?_⟩
 .simp only[if_pos hq];exact⟨zZ _,fun k hk=>by simp only[rowO,go_sem]⟩
 .refine ybao ⟨Sim.refl _,?_,trivial⟩;refine ydo fun q hq=>?_;simp only[if_pos hq];simp only[rowO,ybb,ygh,go_sem];exact⟨Sim.refl _,trivial⟩
theorem yyn{x:NetR}(hx:x.ok){most:Nat}(hm:1<=most/\most<=24) :
 Ct zH 79 [.ag (netC x),.i .i64 most] fun r=>∃g,ybg g/\ybwk g=true/\g.ports.length<=most/\Sim r (grV g) :=
 (yun hx hm).mono fun _ ⟨g,h1,h2,h3,h4⟩=>⟨g,h1,h2,h3.1,h4⟩
end Sh
end
section
namespace Sh
open Ev Go.RowKit
theorem ycge(l:List Nat):one1 (usV l)=true:=rfl
theorem ycag{n:Nat}(l:List Nat):owned (n+1) (usV l)=false:=rfl
theorem ybpa{n:Nat}(l:List Nat):scalar (n+1) (usV l)=false:=rfl
theorem ycdv{n:Nat}(o:Own)(l:List Nat):view o (n+1) (usV l)=usV l:=rfl
theorem ydab{n:Nat}(o:Own)(l:List Nat):vok o (n+1) (usV l)=True:=rfl
theorem ycyz{n:Nat}(h:Nm->Nm)(l:List Nat):ren h (n+1) (usV l)=usV l:=rfl
theorem ycxd{n:Nat}(D:Nm->Bool)(l:List Nat):cln D (n+1) (usV l)=true:=rfl
theorem ybtc{n:Nat}(fr:List Nm)(o:Own)(l:List Nat):ydn fr o (n+1) (usV l)=usV l:=rfl
theorem ydar{n:Nat}(fr:List Nm)(o:Own)(l:List Nat):pok fr o (n+1) (usV l)=True:=rfl
theorem ybzi(l:List Nat):SV.cells (usV l)=[usV l]:=rfl
theorem ybes(l:List Conf):one1 (yhx l)=true:=rfl
theorem ybdq{n:Nat}(l:List Conf):owned (n+1) (yhx l)=false:=rfl
theorem yyg{n:Nat}(l:List Conf):scalar (n+1) (yhx l)=false:=rfl
theorem ybgk{n:Nat}(o:Own)(l:List Conf):view o (n+1) (yhx l)=yhx l:=rfl
theorem ybpg{n:Nat}(o:Own)(l:List Conf):vok o (n+1) (yhx l)=True:=rfl
theorem yboc{n:Nat}(h:Nm->Nm)(l:List Conf):ren h (n+1) (yhx l)=yhx l:=rfl
theorem yboi{n:Nat}(D:Nm->Bool)(l:List Conf):cln D (n+1) (yhx l)=true:=rfl
theorem ybcs{n:Nat}(fr:List Nm)(o:Own)(l:List Conf):ydn fr o (n+1) (yhx l)=yhx l:=rfl
theorem ybns{n:Nat}(fr:List Nm)(o:Own)(l:List Conf):pok fr o (n+1) (yhx l)=True:=rfl
theorem ybam(l:List Conf):SV.cells (yhx l)=[yhx l]:=rfl
theorem ybpd(l:List Cnt):one1 (ynk l)=true:=rfl
theorem ybfc{n:Nat}(l:List Cnt):owned (n+1) (ynk l)=false:=rfl
theorem ybcg{n:Nat}(l:List Cnt):scalar (n+1) (ynk l)=false:=rfl
theorem ybqe{n:Nat}(o:Own)(l:List Cnt):view o (n+1) (ynk l)=ynk l:=rfl
theorem ycbo{n:Nat}(o:Own)(l:List Cnt):vok o (n+1) (ynk l)=True:=rfl
theorem ybsm{n:Nat}(h:Nm->Nm)(l:List Cnt):ren h (n+1) (ynk l)=ynk l:=rfl
theorem ybux{n:Nat}(D:Nm->Bool)(l:List Cnt):cln D (n+1) (ynk l)=true:=rfl
theorem ybhg{n:Nat}(fr:List Nm)(o:Own)(l:List Cnt):ydn fr o (n+1) (ynk l)=ynk l:=rfl
theorem ybwi{n:Nat}(fr:List Nm)(o:Own)(l:List Cnt):pok fr o (n+1) (ynk l)=True:=rfl
theorem ybgi(l:List Cnt):SV.cells (ynk l)=[ynk l]:=rfl
theorem ychc(l:List Bool):one1 (blV l)=true:=rfl
theorem ybsx{n:Nat}(l:List Bool):owned (n+1) (blV l)=false:=rfl
theorem ybpn{n:Nat}(l:List Bool):scalar (n+1) (blV l)=false:=rfl
theorem ycdb{n:Nat}(o:Own)(l:List Bool):view o (n+1) (blV l)=blV l:=rfl
theorem ycyh{n:Nat}(o:Own)(l:List Bool):vok o (n+1) (blV l)=True:=rfl
theorem ydba{n:Nat}(h:Nm->Nm)(l:List Bool):ren h (n+1) (blV l)=blV l:=rfl
theorem ydbf{n:Nat}(D:Nm->Bool)(l:List Bool):cln D (n+1) (blV l)=true:=rfl
theorem ybra{n:Nat}(fr:List Nm)(o:Own)(l:List Bool):ydn fr o (n+1) (blV l)=blV l:=rfl
theorem ycyu{n:Nat}(fr:List Nm)(o:Own)(l:List Bool):pok fr o (n+1) (blV l)=True:=rfl
theorem ybum(l:List Bool):SV.cells (blV l)=[blV l]:=rfl
attribute [go_sem] ycge ycag ybpa ycdv ydab ycyz ycxd ybtc ydar ybzi ybes ybdq yyg ybgk ybpg yboc yboi ybcs ybns ybam ybpd ybfc ybcg ybqe ycbo ybsm ybux ybhg ybwi ybgi ychc ybsx ybpn ycdb ycyh ydba ydbf ybra ycyu ybum
theorem Ct.found{P:Program}{g:FuncId}{args:List SV}{α:Type}{R:SV->α->Prop}{V:α->SV}{Q:SV->Prop}(h:Ct P g args fun r=>∃x,R r x)(hs:∀r x,R r x->Sim r (V x))(hq:∀r x,R r x->Q (V x)):Ct P g args Q:=fun G m us h1 h2 h3=>by
 obtain⟨v,m',r,a,b,c,⟨x,hx⟩,e⟩:=h G m us h1 h2 h3;exact⟨v,m',V x,a,b,c,hq r x hx,hs r x hx _ _ _ e⟩
structure RunD(S:Sys)(res:Nat->Nat->Nat)(ws:List Nat)(c:Conf)(n:Nat)(Cs:List Conf)(Ks:List Cnt):Prop where
 cs:(S.runs res ws c).map (·.1)=Cs
 ks:(S.runs res ws c).map (·.2)=Ks
 len:(S.runs res ws c).length=n
 pos:0<n
 le:n<=ws.length+1
end Sh
end
section
def ybs(s:Nat):List Nat:=(zN 32).filter s.testBit
theorem ybbp{p q:Nat->Bool}{n t:Nat}(ht:t<n)(h1:p t=true)(h2:∀i,i<t->p i=false)(h3:∀i,q i=(p i && !decide (i=t))):(zN n).filter p=t::(zN n).filter q:=by
 obtain⟨d,rfl⟩:∃d,n=t+(d+1):=⟨n-t-1,by omega⟩
 rw[List.range_add,zAQ,zAQ,List.range_succ_eq_map];have a1:(zN t).filter p=[]:=List.filter_eq_nil_iff.2 fun x hx=>by rw[h2 x (List.mem_range.1 hx)];simp
 have a2:(zN t).filter q=[]:=List.filter_eq_nil_iff.2 fun x hx=>by rw[h3,h2 x (List.mem_range.1 hx)];simp
 rw[a1,a2,List.map_cons,zBA,zBA,zBF,List.filter_cons_of_pos h1,List.filter_cons_of_neg (by rw[h3];simp)]
 congr 1;refine List.filter_congr fun x hx=>?_;obtain⟨y,hy,rfl⟩:=List.mem_map.1 hx;obtain⟨z,_,rfl⟩:=List.mem_map.1 hy;rw[h3];have:decide (t+z.succ=t)=false:=decide_eq_false (by omega)
 rw[this];simp
theorem ycie{x:Nat}(h0:x≠0)(h:x<2^32):zY 32 x<32/\x.testBit (zY 32 x)=true/\(∀i,i<zY 32 x->x.testBit i=false)/\∀i,(x&&&(x-1)).testBit i=(x.testBit i && !decide (i=zY 32 x)):=by
 obtain⟨m,hm,hk⟩:=Lib.ctzFrom_spec 32 x (by omega) h
 have e:zY 32 x=zBG 32 x:=by simp[zY,h0]
 rw[e];obtain⟨k,hkk⟩:∃k,zBG 32 x=k:=⟨_,rfl⟩;rw[hkk]at hm hk ⊢;have hp:0<2^k:=zAX k
 have b1:∀j,x.testBit j=if j<k then false else(2*m+1).testBit (j-k):=fun j=>by
  have:=zAC (2*m+1) hp j;rw[zBF,<-hm]at this;rw[this];simp
 have e2:x-1=2^k*(2*m)+(2^k-1):=by
  have:2^k*(2*m+1)=2^k*(2*m)+2^k:=by rw[Nat.mul_add,Nat.mul_one]
  omega
 have b2:∀j,(x-1).testBit j=if j<k then(2^k-1).testBit j else(2*m).testBit (j-k):=fun j=>by
  rw[e2];exact zAC (2*m) (show 2^k-1<2^k by omega) j
 refine⟨hk,by rw[b1,if_neg (by omega),zAO];simp,fun i hi=>by rw[b1,if_pos hi],fun i=>?_⟩
 rw[Nat.testBit_and,b1,b2]
 by_cases q:i<k
 .rw[if_pos q];simp
 .rw[if_neg q,if_neg q]
  by_cases q2:i=k
  .subst q2;simp
  .obtain⟨j,hj⟩:∃j,i-k=j+1:=⟨i-k-1,by omega⟩
   rw[hj,zAW,zAW,show(2*m+1)/2=m by omega,show 2*m/2=m by omega]
   simp[q2]
theorem ypn:ybs 0=[]:=List.filter_eq_nil_iff.2 fun x _=>by simp
theorem yoy{x:Nat}(h0:x≠0)(h:x<2^32):ybs x=zY 32 x::ybs (x&&&(x-1)):=by
 obtain⟨h1,h2,h3,h4⟩:=ycie h0 h;exact ybbp h1 h2 h3 h4
def ydm(s:Nat):Nat->Nat
 |0=>s
 |k+1=>ydm s k&&&(ydm s k-1)
theorem yoc{s:Nat}(h:s<2^32):∀k,ydm s k<2^32
 |0=>h
 |k+1=>Nat.lt_of_le_of_lt Nat.and_le_left (yoc h k)
theorem ypt{s:Nat}(h:s<2^32):∀k,ybs (ydm s k)=(ybs s).drop k
 |0=>by simp[ydm]
 | k + 1=>by
   have ih:=ypt h k;show ybs (ydm s k&&&(ydm s k-1))=_
   by_cases h0:ydm s k=0
   .rw[h0,ypn]at ih;rw[h0,Nat.zero_and,ypn,<-zBC,<-ih];rfl
   .rw[yoy h0 (yoc h k)]at ih;rw[<-zBC,<-ih];rfl
theorem rest_end{s k:Nat}(h:s<2^32)(hk:k<=(ybs s).length):ydm s k=0↔k=(ybs s).length:=by
 have hd:=ypt h k;constructor
 .intro e;rw[e,ypn]at hd;have:=congrArg zAS hd;rw[List.length_drop,zAG]at this;omega
 .intro e;rw[e,List.drop_length]at hd;refine zT fun q=>?_;rw[<-e]at hd;rw[yoy q (yoc h k)]at hd;cases hd
theorem yddb{s k:Nat}(h:s<2^32)(hk:k<(ybs s).length):ydm s k≠0/\zY 32 (ydm s k)=(ybs s).getD k 0:=by
 have h0:ydm s k≠0:=fun e=>by have:=(rest_end h (Nat.le_of_lt hk)).1 e;omega
 refine⟨h0,?_⟩;have hd:=ypt h k;rw[yoy h0 (yoc h k),List.drop_eq_getElem_cons hk]at hd;have:=(List.cons.inj hd).1;rw[this,zAD,zL hk];rfl
theorem ytw{s v:Nat}:v∈ybs s↔v<32/\s.testBit v=true:=by
 unfold ybs;rw[List.mem_filter,List.mem_range]
end
section
theorem ydmy{t v i:Nat}:(t|||2^v).testBit i=true↔t.testBit i=true\/i=v:=by
 rw[zBB,zAY,zAM,decide_eq_true_iff];exact or_congr zBH eq_comm
end
section
section
variable {nm nc nr:ByteArray}{g:Gr}
theorem ydrl(hg:ybg g){c:Conf}(hv:yev (ybt nm nc nr) g c=true):yjy g c=true:=by
 have hC:=yzo hv;have hpl:=hg.2.2.1;unfold yjy;rw[(yha g).2 hg,zV,yfk];refine⟨by rw[hC.len,hpl],fun v s hs=>?_⟩
 obtain⟨hvl,e⟩:=List.getElem?_eq_some_iff.1 hs;have e:c.getD v []=s:=by simp[zAE,hs]
 obtain⟨h1,h2,h3⟩:=hC.row v (by rw[<-hC.len];exact hvl)
 unfold yho at h2 h3;rw[e]at h1 h2 h3
 have eb:yee g [(g.ids.length:Int)] v=[(0,(g.ids.length:Int))]:=by
  have:¬(g.ids.length:Int) = -1:=by omega
  simp[yee,this]
 rw[eb];refine⟨h1,fun i b x hb hx=>?_⟩;have hi:=(List.getElem?_eq_some_iff.1 hb).1;have hi:i<1:=by simpa using hi
 obtain rfl:i=0:=by omega
 have hb:some (0,(g.ids.length:Int))=some b:=hb;cases hb
 have e2:s.getD 0 0=x:=by simp[zAE,hx]
 rw[e2]at h2 h3;exact⟨h2,h3⟩
theorem ybpi(hg:ybg g){c:Conf}:yui g c=0↔yben g c:=by
 have hpl:=hg.2.2.1;rw[yeq];constructor
 .intro h v hv q;have:=(ybdz hg (c:=c) (v:=v)).2 ⟨by omega,q⟩
  rw[h v]at this;cases this
 .intro h i;cases q:(yui g c).testBit i with
  |false=>rfl
  | true =>
    obtain⟨h1,h2⟩:=(ybdz hg).1 q;exact absurd h2 (h i (by omega))
theorem ybmb(hg:ybg g){c:Conf}(hv:yev (ybt nm nc nr) g c=true):yfj g c=true↔yben g c:=by
 unfold yfj;rw[ydrl hg hv,zV,decide_eq_true_iff];exact ybpi hg
theorem yuj(hg:ybg g){c:Conf}(hv:yev (ybt nm nc nr) g c=true):ybj (ybt nm nc nr) g c=0↔yfj g c=true:=(ycgg hg).trans (ybmb hg hv).symm
end
end
section
structure TreeM(g:Gr):Prop where
 up:∀a v u,a<g.ports.length->adj g v u->(yqu g a).getD u 0=(yqu g a).getD v 0-1\/(yqu g a).getD u 0=(yqu g a).getD v 0+1
 one:∀a v u w,a<g.ports.length->adj g v u->adj g v w->(yqu g a).getD u 0=(yqu g a).getD v 0-1->(yqu g a).getD w 0=(yqu g a).getD v 0-1->u=w
end
section
structure Tr(g:Gr):Prop where
 good:ybg g
 conn:ybwk g=true
 m:TreeM g
section
variable {g:Gr}{a b u v w x:Nat}
end
end
section
namespace Sh
open Go Ev
def ycnq:LO:=[o3 (.box 77 (.tmp 0)) 1 0,o3 (.mv (.const (.nilFunc))) 2 0]
def ycww:LO:=[o3 (.mkfn 172 [] [(.tmp 1)]) 3 0,mv' 3 2 1]
def c129:SC:=(.seq (.reg false ycnq) (.seq (.reg false ycww) .ret))
theorem ycfp:FnM 129 c129 [.t 2]:=fn_m Tryz.func129 (by kernel_rfl) (by kernel_rfl)
def ycjy:LO:=[o3 (.box 83 (.tmp 0)) 2 0,o3 (.box 77 (.tmp 1)) 3 0,o3 (.alloc 4 1 [.b false]) 4 0]
def yckj:LO:=[ld' false 1 3 6 0,cl' 129 [6] 7 1]
def ybuz:LO:=[mv' 8 5 0]
def ybtl:LO:=[ld' false 1 2 9 0,mv' 5 10 0,ix' 1 9 10 11 3,ld' false 1 11 12 7,ld' false 1 3 13 0,bn' .and 12 13 14 31,o3 (.bin .neq (.tmp 14) (.const (.int .u32 0))) 15 63]
def ycov:LO:=[o0 (.store 1 (.tmp 4) (.const (.bool false))) 0]
def ycob:LO:=[o0 (.store 1 (.tmp 4) (.const (.bool true))) 0]
def c206:SC:=(.seq (.reg false ycjy) (.seq (.seq (.reg false yckj) (.block 0 (.range (.tmp 7) [8] (.reg false ybuz) (.block 1 (.seq (.reg true ybtl) (.cond (.tmp 15) (.seq (.reg false ycov) .ret) .skip)))))) (.seq (.reg false ycob) .ret)))
theorem ycin:FnU 206 c206 [.c 4 false 1]:=fn_u Tryz.func206 (by kernel_rfl) (by kernel_rfl)
def ydey:LO:=[o3 (.box 24 (.tmp 0)) 2 0,o3 (.alloc 27 1 [.a (.slice none 0 0),.a (.slice none 0 0)]) 4 0]
def ydbp:LO:=[fa' 4 1 2 5 0,ld' false 1 5 6 1,o3 (.un .not (.tmp 6)) 7 3]
def ydlo:LO:=[ld' true 6 2 8 0,mv' 1 9 0,cl' 79 [8,9] 10 3,o0 (.store 2 (.tmp 4) (.tmp 10)) 7]
def ydlw:LO:=[ld' true 6 2 11 0,ld' true 6 2 12 0,mv' 1 13 0,cl' 47 [12,13] 14 6,cl' 80 [11,14] 15 15,o0 (.store 2 (.tmp 4) (.tmp 15)) 31]
def c22:SC:=(.seq (.reg false ydey) (.seq (.seq (.reg false ydbp) (.cond (.tmp 7) (.seq (.reg false ydlo) .ret) .skip)) (.seq (.reg true ydlw) .ret)))
theorem ycxy:FnU 22 c22 [.c 4 true 2]:=fn_u Tryz.func22 (by kernel_rfl) (by kernel_rfl)
end Sh
end
section
namespace Sh
open Ev Go.RowKit
theorem ybxo{x:NetR}(hx:x.ok){most:Nat}(hm:1<=most/\most<=24) :
 Cm zH 47 [] [] [.ag (netC x),.i .i64 most] fun r o=>∃g,ybg g/\g.ports.length<=most/\r=yfl g/\o=ycq g.ports :=
 (ybjc hx hm).weak fun r o' ⟨ids,h1,h2,h3,e1,e2⟩=>by
   subst e1 e2;obtain⟨n,hn⟩:∃n,ids.length=n:=⟨_,rfl⟩;have b1:(bare ids).ids=ids:=rfl;have b2:(bare ids).ports.length=n:=by simp[bare,hn]
   have b3:∀v,(bare ids).ports.getD v []=[]:=yki ids;refine⟨yfl (bare ids),ycq (bare ids).ports,?_,?_,bare ids,ybdh (by omega) (by omega) h2 h3,by rw[b2];omega,rfl,rfl⟩
   .refine yh [(211,fun i=>(17,i))] [212] [] ?_;simp only[yfl,ycq,rowO,b1,b2,b3,hn,zAG,allQ,live,yc,go_sem,zA,zC,zF,↓reduceIte,reduceCtorEq];refine⟨fun i hi=>⟨(212,i),rfl,rfl,by simp[hi]⟩,fun i b hb=>?_⟩
    obtain⟨_,rfl⟩:=yct hb;exact⟨rfl,rfl⟩
   .simp only[ycq,yfl,ybu,ydj,allQ,live,go_sem,zA,↓reduceIte];refine⟨fun i hi=>by rw[if_pos hi],fun i b hb k hk=>?_⟩
    obtain⟨hi,rfl⟩:=yct hb;simp only[rowO,go_sem]
theorem ydbm{x:NetR}(hx:x.ok){most:Nat}(hm:1<=most/\most<=24) :
 Ct zH 22 [.ag (netC x),.i .i64 most] fun r=>∃g,ybg g/\g.ports.length<=most/\Sim r (grV g):=by
 refine ycxy [47,80] _ _ ?_;have hC:=yyn hx hm;have hN:=ybxo hx hm;simp only[netC]at hC hN;cases hap:x.apart with
 | false =>
   rw[hap]at hC;simp only[c22,ydey,ydbp,ydlo,netC,hap,clash,go_sem,zA,zB,zD,zC,zF,↓reduceIte,reduceCtorEq];refine hC.found (V:=grV) (fun r g h=>h.2.2.2) fun r g h=>?_;simp only[ybh,grV,splice,clash,go_sem,zA,zB,↓reduceIte];exact⟨g,h.1,h.2.2.1,Sim.refl _⟩
 | true =>
   rw[hap]at hN;simp only[c22,ydey,ydbp,ydlw,netC,hap,clash,go_sem,zA,zB,zD,zC,↓reduceIte,reduceCtorEq];refine yck hN [(211,211),(212,212)] 0 [2,4,11] [2,4] ?_ ?_
   .simp only[okN,ybu,ydj,ycp,ycj,allQ,live,yc,go_sem,zA,zB,zF,↓reduceIte,reduceCtorEq]
   rintro r o' ⟨g,hg,hn,rfl,rfl⟩;have hM:=ybva (Q:=fun _=>True) hx hg trivial (fun G a b w gG gl ga gb gw gQ=>trivial);simp only[netC,hap]at hM;simp only[ycq,yfl,yif,yhh,nuF,nu,difN,ycp,ycj,Fam.ren,OB.ren,dim,ywr,yfq,go_sem,zA,zB,zF,↓reduceIte];refine yck hM [(211,211),(212,212)] 0 [4] [4] ?_ ?_
   .simp only[yfl,ycq,to1,okN,ybu,ydj,ycp,ycj,allQ,live,yc,go_sem,zA,zB,zC,zF,↓reduceIte,reduceCtorEq];refine⟨⟨fun i _ j _ e=>e,fun i hi=>by rw[if_pos hi],fun i b hb=>?_⟩,by decide⟩
    obtain⟨hi,rfl⟩:=yct hb;refine⟨_,yrt (f:=ren (nu [(211,211),(212,212)] 0) 5) (fun _ _=>rfl) hi,⟨rfl,rfl,rfl,rfl⟩,fun e=>absurd (show false=true from e) zG,fun k hk=>?_⟩
    simp only[rowO,live,yc,go_sem,reduceCtorEq]
   rintro r o' ⟨G,gg,-,gn,rfl,rfl⟩;simp only[ycq,yfl,clash,splice,yif,yhh,nuF,nu,difN,ycp,ycj,Fam.ren,OB.ren,dim,ywr,yfq,go_sem,zA,zB,zF,↓reduceIte];refine⟨by decide,fun q hq=>?_,G,gg,by omega,?_⟩
   .simp only[if_pos hq];exact⟨zZ _,fun k hk=>by simp only[rowO,go_sem]⟩
   .refine ybao ⟨Sim.refl _,?_,trivial⟩;refine ydo fun q hq=>?_;simp only[if_pos hq];simp only[rowO,ybb,ygh,go_sem];exact⟨Sim.refl _,trivial⟩
end Sh
end
section
namespace Ev
def Kyb0:BlkL:=⟨7,135,1,[.slice (some ⟨31,0,none⟩) 2 CU,.slice (some ⟨43,0,none⟩) 2 CU,.slice (some ⟨45,0,none⟩) 2 CU]⟩
def Kyb1:BlkL:=⟨14,3,1,[.int .i64 0,.int .i64 1,.int .i64 2]⟩
def Kyb2:BlkL:=⟨31,68,2,[.int .i64 1,.int .i64 1,.int .i64 2,.int .i64 1]⟩
def Kyb3:BlkL:=⟨43,68,2,[.int .i64 0,.int .i64 1,.int .i64 2,.int .i64 1]⟩
def Kyb4:BlkL:=⟨45,68,2,[.int .i64 0,.int .i64 1,.int .i64 1,.int .i64 1]⟩
def Kyb5:BlkL:=⟨321,251,2,[.int .i64 21,.int .i64 0,.int .i64 35,.int .i64 0,.int .i64 12,.int .i64 0,.int .i64 5,.int .i64 0]⟩
def Kyb6:BlkL:=⟨357,251,2,[.int .i64 27,.int .i64 0,.int .i64 12,.int .i64 0]⟩
def Kyb7:BlkL:=⟨364,203,2,[.int .i64 0,.slice (some ⟨357,0,none⟩) 2 CU]⟩
def Kyb8:BlkL:=⟨490,22,1,[.slice (some ⟨487,0,none⟩) 1 1,.slice (some ⟨488,0,none⟩) 1 1,.slice (some ⟨489,0,none⟩) 1 1]⟩
def Kyb9:BlkL:=⟨758,22,1,[.slice (some ⟨775,0,none⟩) 1 CU,.slice (some ⟨760,0,none⟩) 1 CU,.slice (some ⟨761,0,none⟩) 1 CU]⟩
end Ev
end
end Go.Proofs.YthclbjjgfcgbgaaGreatDoor
